import Derived.Test.YtdmjhgogljhfkaaGreatDoorPFnPartsx0
import Derived.Test.YtdmjhgogljhfkaaGreatDoorPFnPartsx8
namespace Go.Proofs.YtdmjhgogljhfkaaGreatDoor.PFnParts
open Go.RowKit Go.Proofs.YtdmjhgogljhfkaaGreatDoorW.PrintWords Go.Proofs.YtdmjhgogljhfkaaGreatDoorW.PrintLast Go.Proofs.YtdmjhgogljhfkaaGreatDoorW.PrintMore
attribute [local go_sem] max2_int min2_int max_two min_two max_three min_three max_four min_four
attribute [local go_sem] cell_in frozen_in cell_g cell_p cell_r cell_q
set_option synthInstance.maxSize 1000000
set_option synthInstance.maxHeartbeats 2000000
set_option linter.unusedVariables false
set_option linter.unusedSimpArgs false
set_option maxHeartbeats 8000000
set_option maxRecDepth 100000
def impl_TxsOf.l0 : Nat → List (S156) → List ByteArray → Int → Int → Option ((List (S156)) × Bool)
 | 0, _, _, _, _ => none
 | k + 1, x4, x12, x13, x14 => if x14 < x13 then (if 0 ≤ x14 then (if x14 < (x12.length : Int) then ((impl_TxOf.f k (rdOf ByteArray.empty x12 x14)).bind fun bt422 => (if bt422.2.2.2.2 = true then (if x4.length < 4398046511104 then (impl_TxsOf.l0 k (x4 ++ [(⟨bt422.1, bt422.2.1, bt422.2.2.1, bt422.2.2.2.1⟩ : S156)]) x12 x13 (wrap64 (x14 + 1))) else (none)) else (some (([] : List (S156)), false)))) else (none)) else (none)) else (some (x4, true))
def impl_TxsOf.f (k : Nat) (a0 : ByteArray) : Option ((List (S156)) × Bool) := if a0.toList = ([] : List UInt8) then (some (([] : List (S156)), true)) else ((impl_Split.f a0 44).bind fun t418 => (impl_TxsOf.l0 k ([] : List (S156)) t418 (t418.length : Int) 0))
theorem impl_TxsOf.mono_l : ∀ k, (∀ y0 y1 y2 y3, LeO (impl_TxsOf.l0 k y0 y1 y2 y3) (impl_TxsOf.l0 (k + 1) y0 y1 y2 y3))
 | 0 => fun _ _ _ _ r h => by simp [impl_TxsOf.l0] at h
 | k + 1 => by
  have ih0 := impl_TxsOf.mono_l k
  intro y0 y1 y2 y3
  unfold impl_TxsOf.l0
  repeat' first | (with_reducible exact ih0 _ _ _ _) | (with_reducible exact impl_TxOf.mono _ _) | (with_reducible exact LeO.refl _) | (with_reducible exact LeO.none _) | (with_reducible refine LeO.ite ?_ ?_) | (with_reducible refine LeO.bind ?_ (fun _ => ?_))
theorem impl_TxsOf.mono : ∀ a0 k, LeO (impl_TxsOf.f k a0) (impl_TxsOf.f (k + 1) a0) := by
 intro a0 k
 have ih0 := impl_TxsOf.mono_l k
 unfold impl_TxsOf.f
 repeat' first | (with_reducible exact ih0 _ _ _ _) | (with_reducible exact impl_TxOf.mono _ _) | (with_reducible exact LeO.refl _) | (with_reducible exact LeO.none _) | (with_reducible refine LeO.ite ?_ ?_) | (with_reducible refine LeO.bind ?_ (fun _ => ?_))
theorem impl_TxsOf.calls (k : Nat) (a0 : ByteArray) (r1 : List (S156)) (r2 : Bool) (w : World) (h : impl_TxsOf.f k a0 = some (r1, r2)) (hG : Glob w := by exact gG HG HB) :
  Calls Tryz.prog 177 #[.string a0] w fun e w' => ∃ v0_ : Value, e = .returned (.tuple #[v0_, .bool r2]) ∧ Kd.R k156 156 w' w.heap.size (fun _ => True) v0_ r1 ∧ Below w.heap.size w w' := by
 have HG := Aside0.mk hG; clear hG; have hu156 := Tryz.underlying156; have HB := Aside0.mk (Below.refl w.heap.size w)
 have H := h; unfold impl_TxsOf.f at H
 clear h
 go_enter Tryz.func177, Tryz.ntmps177
 have H' := Aside0.mk H; clear H
 go_upto_if 10 with fail
 have H := H'.out; clear H'
 by_cases c2 : a0.toList = ([] : List UInt8)
 ·
  rw [if_pos c2] at H
  have c2b0 : (a0.toList == ([] : List UInt8)) = true := beq_iff_eq.mpr c2; have c2b1 : (a0.toList != ([] : List UInt8)) = false := bne_eq_false_iff_eq.mpr c2; clear c2
  (first | rw [c2b0] | (simp only [i64_w, i32_w]; rw [c2b0]) | rw [show List.isEmpty (a0.toList) = true from by simpa using c2b0] | skip)
  simp only [Option.some.injEq, Prod.mk.injEq] at H
  obtain ⟨rfl, rfl⟩ := H
  go_wp2
  go_ret2
  exact ⟨_, y0_17, Kd.R_nil _ _ _ _ _, UpW.out⟩
 rw [if_neg c2] at H
 have c2b0 : (a0.toList == ([] : List UInt8)) = false := beq_eq_false_iff_ne.mpr c2; have c2b1 : (a0.toList != ([] : List UInt8)) = true := bne_iff_ne.mpr c2
 (first | rw [c2b0] | (simp only [i64_w, i32_w]; rw [c2b0]) | rw [show List.isEmpty (a0.toList) = false from by simpa using c2b0] | skip)
 obtain ⟨t418, A3, H⟩ := oB H; (try dsimp only at H); have H' := Aside0.mk H; clear H
 go_wp2_with (first | ((with_reducible refine gate_callee (f := 174) rfl ?_); refine gC1 (some 12) Tryz.func174 (impl_Split.calls (w := _) (h := A3.out)) ?_; intro Ao419 co419 w4 _ HO420))
 refine wC ?_; intro w5 _
 go_loopg [4, 14] k (fun kq v4 v14 w' => ∃ (x4_1 : List (S156)) (x14_1 : Int) (Ao4_1 : Option Addr) (co4_1 : Nat), v4 = .slice Ao4_1 x4_1.length co4_1 ∧ v14 = .int .i64 x14_1 ∧ Aside0 (impl_TxsOf.l0 kq x4_1 t418 (t418.length : Int) x14_1 = some (r1, r2)) ∧ Aside0 (kq ≤ k) ∧ Aside0 (Kd.R k156 156 w' w5.heap.size (iv w5 w') (.slice Ao4_1 x4_1.length co4_1) x4_1) ∧ KT w5 [] w5 _ k156 156 w' ∧ LB w w')
 case atStart => exact ⟨(([] : List (S156))), (0), (none), (0), y0_17, y0_17, H', ⟨Nat.le_refl _⟩, ⟨Kd.R_nil _ _ _ _ _⟩, ⟨UpT.out⟩, ⟨UpW.out⟩⟩
 case round =>
  clear H'; obtain ⟨x4_1, x14_1, Ao4_1, co4_1, rfl, rfl, HA, HK1, HO_4, _, _⟩ := hrel; have HO_12 := HO420; cases gk with
  | zero => exact absurd HA.out (by simp [impl_TxsOf.l0])
  | succ k1 =>
   have H := HA.out; clear HA
   simp only [impl_TxsOf.l0] at H
   by_cases c6 : x14_1 < (t418.length : Int)
   ·
    rw [if_pos c6] at H
    have c6b0 : decide (x14_1 < (t418.length : Int)) = true := decide_eq_true c6; clear c6
    by_cases c7 : 0 ≤ x14_1
    rotate_left
    ·
     rw [if_neg c7] at H
     exact absurd H (by simp)
    rw [if_pos c7] at H
    have c7b0 : decide (0 ≤ x14_1) = true := decide_eq_true c7; clear c7
    by_cases c8 : x14_1 < (t418.length : Int)
    rotate_left
    ·
     rw [if_neg c8] at H
     exact absurd H (by simp)
    rw [if_pos c8] at H
    have c8b0 : decide (x14_1 < (t418.length : Int)) = true := decide_eq_true c8; clear c8; obtain ⟨⟨t422, t423, t424, t425, t426⟩, A9, H⟩ := oB H; (try dsimp only at H); have H' := Aside0.mk H; clear H; have p421 : 0 ≤ (x14_1 : Int) := of_decide_eq_true y0_16; have q421 : x14_1 < (t418.length : Int) := of_decide_eq_true y0_16; obtain ⟨ad421, e421, hx421_0⟩ := Kd.at_string (rC (W := w4) HO_12) x14_1 p421 q421; cases e421; clear hx421_0
    have hx421_0 : ∀ W_, UpR Kd.string 9 w4 W_ → W_.cell? (ad421.add (x14_1 : Int).toNat) = some (.string (rdOf ByteArray.empty t418 x14_1)) := fun W_ u_ => (by obtain ⟨ad_, e_, h0_⟩ := Kd.at_string (rC (W := W_) HO_12) x14_1 p421 q421; cases e_; exact h0_)
    have i421_0_ := RdR.mk hx421_0; clear hx421_0; replace p421 := eq_true p421; replace q421 := eq_true q421
    go_upto_if 24 with (first | ((with_reducible refine gate_callee (f := 198) rfl ?_); refine gC (some 20) Tryz.func198 (impl_TxOf.calls (w := _) (h := A9.out)) ?_; intro w10 _) | ((with_reducible refine gd 7 ?_); refine bL 7 #[.int .i64 0, .int .i64 0, .int .i64 0, .int .i64 0] 156 ?_; intro gb427 w11 _ _ _))
    have H := H'.out; clear H'
    by_cases c12 : t426 = true
    ·
     subst c12
     rw [if_pos rfl] at H
     by_cases c13 : x4_1.length < 4398046511104
     rotate_left
     ·
      rw [if_neg c13] at H
      exact absurd H (by simp)
     rw [if_pos c13] at H
     have LMc13 := Aside0.mk c13; clear c13; obtain ⟨y428, hy428⟩ : ∃ y_ : List (S156), y_ = (x4_1 ++ [(⟨t422, t423, t424, t425⟩ : S156)]) := ⟨_, rfl⟩
     replace H : (impl_TxsOf.l0 k1 y428 t418 (t418.length : Int) (wrap64 (x14_1 + 1))) = some (r1, r2) := by first | (rw [hy428]; with_reducible exact H) | (rw [hy428]; with_reducible exact (Option.bind_some _ _).symm.trans H) | (rw [hy428]; exact H) | exact H
     have Ny428 := Aside0.mk hy428; clear hy428; have H' := Aside0.mk H; clear H
     go_wp2_with (first | ((with_reducible refine gate_builtin (b := .append) (xs := #[.tmp 25, .tmp 27]) rfl ?_); at_builtin; refine gA k156 (.tmp 25) (.tmp 27) 154 156 (.agg #[(.int .i64 0), (.int .i64 0), (.int .i64 0), (.int .i64 0)]) 32 (⟨t422, t423, t424, t425⟩ : S156) [.int .i64 t422, .int .i64 t423, .int .i64 t424, .int .i64 t425] w5 Ny428 HO_4 (k156_mkM _ _ _ (⟨t422, t423, t424, t425⟩ : S156)) (by have := LMc13.out; omega) ?_ (ht := Tryz.underlying154) (hinfo := info156); intro Ao429 co429 w14 _ _ HO430))
     go_roundg k1
     case measure => have := HK1.out; omega
     case rel => exact ⟨(y428), (wrap64 (x14_1 + 1)), (Ao429), (co429), y0_17, y0_17, H', ⟨y0_20⟩, ⟨rJ HO430⟩, ⟨UpT.out⟩, ⟨UpW.out⟩⟩
    replace c12 := Bool.eq_false_iff.mpr c12; subst c12
    rw [if_neg Bool.false_ne_true] at H
    simp only [Option.some.injEq, Prod.mk.injEq] at H
    obtain ⟨rfl, rfl⟩ := H
    go_wp2
    go_ret2
    exact ⟨_, y0_17, Kd.R_nil _ _ _ _ _, UpW.out⟩
   rw [if_neg c6] at H
   have c6b0 : decide (x14_1 < (t418.length : Int)) = false := decide_eq_false c6; clear c6
   simp only [Option.some.injEq, Prod.mk.injEq] at H
   obtain ⟨rfl, rfl⟩ := H
   go_wp2
   go_ret2
   exact ⟨_, y0_17, rR HO_4, UpW.out⟩
mutual
def impl_Steps.j0 : Nat → List ByteArray → Bool → Option ((List (S163)) × Bool)
 | 0, _, _ => none
 | k + 1, x4, x29 => if x29 = true then (some (([] : List (S163)), false)) else (if 1 ≤ (x4.length : Int) then ((some (x4.drop 1 : List ByteArray)).bind fun y435 => (impl_Steps.l0 k ([] : List (S163)) 0 y435 (y435.length : Int) 0)) else (none))
def impl_Steps.l0 : Nat → List (S163) → Int → List ByteArray → Int → Int → Option ((List (S163)) × Bool)
 | 0, _, _, _, _, _ => none
 | k + 1, x5, x6, x31, x32, x33 => if x33 < x32 then (if 0 ≤ x33 then (if x33 < (x31.length : Int) then ((strings_Cut.f (rdOf ByteArray.empty x31 x33) (⟨#[124]⟩ : ByteArray)).bind fun bt440 => ((impl_Number.f k bt440.1).bind fun bt443 => ((impl_TxsOf.f k bt440.2.1).bind fun bt445 => (if bt440.2.2 = true then (if bt443.2 = true then (if bt445.2 = true then ((impl_within.f bt443.1 (wrap64 (x6 + 1)) 60).bind fun t449 => (if t449 = true then (if (bt445.1.length : Int) > 2 then (some (([] : List (S163)), false)) else (if x5.length < 4398046511104 then (impl_Steps.l0 k (x5 ++ [(⟨bt443.1, bt445.1⟩ : S163)]) bt443.1 x31 x32 (wrap64 (x33 + 1))) else (none))) else (some (([] : List (S163)), false)))) else (some (([] : List (S163)), false))) else (some (([] : List (S163)), false))) else (some (([] : List (S163)), false)))))) else (none)) else (none)) else (some (x5, true))
end
def impl_Steps.f (k : Nat) (a0 : ByteArray) : Option ((List (S163)) × Bool) := if a0.toList = ([] : List UInt8) then (some (([] : List (S163)), true)) else ((impl_Split.f a0 47).bind fun t431 => (if 0 < (t431.length : Int) then (if (rdOf ByteArray.empty t431 0).toList = ([] : List UInt8) then (impl_Steps.j0 k t431 (decide ((wrap64 ((t431.length : Int) - 1)) > 30))) else (impl_Steps.j0 k t431 true)) else (none)))
theorem impl_Steps.mono_l : ∀ k, (∀ y0 y1, LeO (impl_Steps.j0 k y0 y1) (impl_Steps.j0 (k + 1) y0 y1)) ∧ (∀ y0 y1 y2 y3 y4, LeO (impl_Steps.l0 k y0 y1 y2 y3 y4) (impl_Steps.l0 (k + 1) y0 y1 y2 y3 y4))
 | 0 => ⟨fun _ _ r h => by simp [impl_Steps.j0] at h, fun _ _ _ _ _ r h => by simp [impl_Steps.l0] at h⟩
 | k + 1 => by
  obtain ⟨ih0, ih1⟩ := impl_Steps.mono_l k
  refine ⟨?_, ?_⟩
  ·
   intro y0 y1
   unfold impl_Steps.j0
   repeat' first | (with_reducible exact ih0 _ _) | (with_reducible exact ih1 _ _ _ _ _) | (with_reducible exact impl_Number.mono _ _) | (with_reducible exact impl_TxsOf.mono _ _) | (with_reducible exact LeO.refl _) | (with_reducible exact LeO.none _) | (with_reducible refine LeO.ite ?_ ?_) | (with_reducible refine LeO.bind ?_ (fun _ => ?_))
  intro y0 y1 y2 y3 y4
  unfold impl_Steps.l0
  repeat' first | (with_reducible exact ih0 _ _) | (with_reducible exact ih1 _ _ _ _ _) | (with_reducible exact impl_Number.mono _ _) | (with_reducible exact impl_TxsOf.mono _ _) | (with_reducible exact LeO.refl _) | (with_reducible exact LeO.none _) | (with_reducible refine LeO.ite ?_ ?_) | (with_reducible refine LeO.bind ?_ (fun _ => ?_))
theorem impl_Steps.mono : ∀ a0 k, LeO (impl_Steps.f k a0) (impl_Steps.f (k + 1) a0) := by
 intro a0 k
 obtain ⟨ih0, ih1⟩ := impl_Steps.mono_l k
 unfold impl_Steps.f
 repeat' first | (with_reducible exact ih0 _ _) | (with_reducible exact ih1 _ _ _ _ _) | (with_reducible exact impl_Number.mono _ _) | (with_reducible exact impl_TxsOf.mono _ _) | (with_reducible exact LeO.refl _) | (with_reducible exact LeO.none _) | (with_reducible refine LeO.ite ?_ ?_) | (with_reducible refine LeO.bind ?_ (fun _ => ?_))
theorem impl_Steps.calls (k : Nat) (a0 : ByteArray) (r1 : List (S163)) (r2 : Bool) (w : World) (h : impl_Steps.f k a0 = some (r1, r2)) (hG : Glob w := by exact gG HG HB) :
  Calls Tryz.prog 151 #[.string a0] w fun e w' => ∃ v0_ : Value, e = .returned (.tuple #[v0_, .bool r2]) ∧ Kd.S k163 163 w' w.heap.size (fun _ => True) v0_ r1 ∧ Below w.heap.size w w' := by
 have HG := Aside0.mk hG; clear hG; have hu163 := Tryz.underlying163; have HB := Aside0.mk (Below.refl w.heap.size w)
 have H := h; unfold impl_Steps.f at H
 clear h
 by_cases c2 : a0.toList = ([] : List UInt8)
 ·
  rw [if_pos c2] at H
  have c2b0 : (a0.toList == ([] : List UInt8)) = true := beq_iff_eq.mpr c2; have c2b1 : (a0.toList != ([] : List UInt8)) = false := bne_eq_false_iff_eq.mpr c2; clear c2
  simp only [Option.some.injEq, Prod.mk.injEq] at H
  obtain ⟨rfl, rfl⟩ := H
  go_enter Tryz.func151, Tryz.ntmps151
  go_wp2
  go_ret2
  exact ⟨_, y0_12, y0_10, bI HB.out⟩
 rw [if_neg c2] at H
 have c2b0 : (a0.toList == ([] : List UInt8)) = false := beq_eq_false_iff_ne.mpr c2; have c2b1 : (a0.toList != ([] : List UInt8)) = true := bne_iff_ne.mpr c2; obtain ⟨t431, A3, H⟩ := oB H; (try dsimp only at H); have HC4 := Aside0.mk H; clear H
 go_enter Tryz.func151, Tryz.ntmps151
 go_upto_region 4 with (first | ((with_reducible refine gate_callee (f := 174) rfl ?_); refine gB (some 19) Tryz.func174 #[.string a0, .int .u8 47] ?_; (with_reducible refine (impl_Split.calls a0 47 t431 _ A3.out).mono ?_); rintro e w5 ⟨v432, rfl, ho0, hb⟩; refine ⟨_, rfl, ?_⟩; have HO433 := Aside0.mk (Kd.R_lower ho0 (below_size (bI HB.out))); replace HB := bs HB hb; (try clear hb); (try clear ho0)))
 (try simp only [Act.put, List.setIfInBounds_toArray, List.set_cons_zero, List.set_cons_succ])
 go_cut [29] (fun v29 wc => ∃ (kq : Nat) (x29_3 : Bool), v29 = .bool x29_3 ∧ Aside0 (impl_Steps.j0 kq t431 x29_3 = some (r1, r2)) ∧ Aside0 (kq ≤ k) ∧ Aside0 (Kd.R Kd.string 9 wc w.heap.size (fun _ => True) v432 t431) ∧ Aside0 (Below w.heap.size w wc))
 case first =>
  have H := HC4.out; clear HC4
  by_cases c6 : 0 < (t431.length : Int)
  rotate_left
  ·
   rw [if_neg c6] at H
   exact absurd H (by simp)
  rw [if_pos c6] at H
  have c6b0 : decide (0 < (t431.length : Int)) = true := decide_eq_true c6
  have c6b1 : decide (0 < t431.length) = true := decide_eq_true (by omega)
  clear c6
  (first | rw [c6b0] | (simp only [i64_w, i32_w]; rw [c6b0]) | skip)
  by_cases c7 : (rdOf ByteArray.empty t431 0).toList = ([] : List UInt8)
  ·
   rw [if_pos c7] at H
   have c7b0 : ((rdOf ByteArray.empty t431 0).toList == ([] : List UInt8)) = true := beq_iff_eq.mpr c7; have c7b1 : ((rdOf ByteArray.empty t431 0).toList != ([] : List UInt8)) = false := bne_eq_false_iff_eq.mpr c7; clear c7; have H' := Aside0.mk H; clear H; obtain ⟨Ao8, co8, eo8⟩ := Kd.R_slice HO433.out; subst eo8
   have p434 : 0 ≤ (0 : Int) := (by omega)
   have q434 : 0 < (t431.length : Int) := of_decide_eq_true y0_16; obtain ⟨ad434, e434, hx434_0⟩ := Kd.at_string (Kd.R_reads' HO433.out).2.2 0 p434 q434; cases e434
   have qi434 : (0 < t431.length) = True := eq_true (by omega)
   (try rw [show ((0 : Int)).toNat = 0 from rfl] at hx434_0)
   (try rw [Addr.add_zero'] at hx434_0)
   replace p434 := eq_true p434; replace q434 := eq_true q434
   go_wp2
   go_meet
   case rel => exact ⟨_, (decide ((wrap64 ((t431.length : Int) - 1)) > 30)), y0_17, H', ⟨y0_18⟩, ⟨by (with_reducible repeat (first | apply Kd.R_alloc | apply Kd.R_drewN | apply Kd.R_drew)); exact HO433.out⟩, ⟨bI HB.out⟩⟩
  rw [if_neg c7] at H
  have c7b0 : ((rdOf ByteArray.empty t431 0).toList == ([] : List UInt8)) = false := beq_eq_false_iff_ne.mpr c7; have c7b1 : ((rdOf ByteArray.empty t431 0).toList != ([] : List UInt8)) = true := bne_iff_ne.mpr c7; have H' := Aside0.mk H; clear H; obtain ⟨Ao9, co9, eo9⟩ := Kd.R_slice HO433.out; subst eo9
  have p434 : 0 ≤ (0 : Int) := (by omega)
  have q434 : 0 < (t431.length : Int) := of_decide_eq_true y0_16; obtain ⟨ad434, e434, hx434_0⟩ := Kd.at_string (Kd.R_reads' HO433.out).2.2 0 p434 q434; cases e434
  have qi434 : (0 < t431.length) = True := eq_true (by omega)
  (try rw [show ((0 : Int)).toNat = 0 from rfl] at hx434_0)
  (try rw [Addr.add_zero'] at hx434_0)
  replace p434 := eq_true p434; replace q434 := eq_true q434
  go_wp2
  go_meet
  case rel => exact ⟨_, (true), y0_17, H', ⟨y0_18⟩, ⟨by (with_reducible repeat (first | apply Kd.R_alloc | apply Kd.R_drewN | apply Kd.R_drew)); exact HO433.out⟩, ⟨bI HB.out⟩⟩
 case rest =>
  clear HC4
  try clear c1
  try clear c2
  try clear c2b0
  try clear c2b1
  try clear p2
  try clear p4
  try clear q4
  try clear hx4
  try clear qi4
  try clear c6
  try clear c6b0
  try clear c6b1
  try clear p6
  try clear c7
  try clear c7b0
  try clear c7b1
  try clear hx434_0
  try clear p434
  try clear q434
  obtain ⟨kq, x29_3, rfl, HA, HJ3, HO_4, HB⟩ := hcut; cases kq with
  | zero => exact absurd HA.out (by simp [impl_Steps.j0])
  | succ kj3 =>
   have H := HA.out; clear HA
   simp only [impl_Steps.j0] at H
   by_cases c10 : x29_3 = true
   ·
    subst c10
    rw [if_pos rfl] at H
    simp only [Option.some.injEq, Prod.mk.injEq] at H
    obtain ⟨rfl, rfl⟩ := H
    go_wp2
    go_ret2
    exact ⟨_, y0_12, y0_10, bI HB.out⟩
   replace c10 := Bool.eq_false_iff.mpr c10; subst c10
   rw [if_neg Bool.false_ne_true] at H
   by_cases c11 : 1 ≤ (t431.length : Int)
   ·
    rw [if_pos c11] at H
    have c11b0 := eq_true c11; have c11b1 : decide (1 ≤ (t431.length : Int)) = true := decide_eq_true c11; clear c11; obtain ⟨y435, hy435⟩ : ∃ y_ : List ByteArray, y_ = (t431.drop 1) := ⟨_, rfl⟩
    replace H : (impl_Steps.l0 kj3 ([] : List (S163)) 0 y435 (y435.length : Int) 0) = some (r1, r2) := by first | (rw [hy435]; with_reducible exact H) | (rw [hy435]; with_reducible exact (Option.bind_some _ _).symm.trans H) | (rw [hy435]; exact H) | exact H
    have Ny435 := Aside0.mk hy435; clear hy435; have H' := Aside0.mk H; clear H; obtain ⟨Ao13, co13, eo13⟩ := Kd.R_slice HO_4.out; subst eo13; have q12 : (1 : Int) ≤ ((t431.length : Int) : Int) := of_decide_eq_true y0_16; obtain ⟨i012, hi012, _, hsz12, _⟩ := info_parts info9; have hroom12 : t431.length ≤ co13 := (Kd.R_reads' HO_4.out).2.1; have hC12 : Kd.C Kd.string _ Ao13 t431.length t431 := (Kd.R_reads' HO_4.out).2.2
    have hcut12 := cut_from (P := Tryz.prog) 178 9 .i64 Tryz.underlying178 hi012 1 hsz12 Ao13 t431.length co13 1 (by omega) q12
    have hr12 := Kd.C_drop (m := (1 : Int).toNat) (c := co13) hC12 (by omega) hroom12
    obtain ⟨A12, hA12⟩ : ∃ A1, A1 = (if co13 = (1 : Int).toNat then Ao13 else (Ao13 : Option Addr).map (·.add ((1 : Int).toNat * 1))) := ⟨_, rfl⟩
    obtain ⟨c12, hc12⟩ : ∃ c1, c1 = co13 - (1 : Int).toNat := ⟨_, rfl⟩
    have hy12 : y435.length = t431.length - (1 : Int).toNat := (by rw [Ny435.out, List.length_drop] <;> omega)
    rw [show (t431).drop (1 : Int).toNat = y435 from Ny435.out.symm] at hr12
    replace hr12 : Kd.C Kd.string _ A12 y435.length y435 := (by rw [hA12]; exact hr12)
    rw [← hy12, ← hA12, ← hc12] at hcut12
    have HR438 := Aside0.mk hr12
    have HC438 := Aside0.mk (show y435.length ≤ c12 from by rw [hy12, hc12]; exact Nat.sub_le_sub_right hroom12 _)
    clear hr12 hC12 hroom12 hi012 hsz12 hc12; have KY12 := Aside0.mk hy12; have KA12 := Aside0.mk hA12; clear hy12 hA12
    have KL12 := Aside0.mk (show 1 ≤ t431.length from by omega)
    replace q12 := eq_true q12
    go_wp2
    have HB0 := HB; replace HG := Aside0.mk (HG.out.below HB.out); replace HB := Aside0.mk (Below.refl wc.heap.size wc)
    go_loopg [5, 6, 33] kj3 (fun kq v5 v6 v33 w' => ∃ (x5_2 : List (S163)) (x6_2 : Int) (x33_2 : Int), v6 = .int .i64 x6_2 ∧ v33 = .int .i64 x33_2 ∧ Aside0 (impl_Steps.l0 kq x5_2 x6_2 y435 (y435.length : Int) x33_2 = some (r1, r2)) ∧ Aside0 (kq ≤ kj3) ∧ Aside0 (Kd.S k163 163 w' wc.heap.size (fun _ => True) v5 x5_2) ∧ Aside0 (Below wc.heap.size wc w'))
    case atStart => exact ⟨(([] : List (S163))), (0), (0), y0_17, y0_17, H', ⟨Nat.le_refl _⟩, ⟨y0_10⟩, ⟨bI HB.out⟩⟩
    case round =>
     clear H'
     try clear c1
     try clear q1
     try clear c2
     try clear c2b0
     try clear c2b1
     try clear p2
     try clear p4
     try clear q4
     try clear hx4
     try clear qi4
     try clear c6
     try clear c6b0
     try clear c6b1
     try clear p6
     try clear c7
     try clear c7b0
     try clear c7b1
     try clear c10
     try clear c11
     try clear c11b0
     try clear c11b1
     try clear c12
     try clear q12
     try clear hx434_0
     try clear p2
     try clear p4
     try clear p434
     try clear p6
     try clear q12
     try clear q4
     try clear q434
     obtain ⟨x5_2, x6_2, x33_2, rfl, rfl, HA, HK2, HO_5, HB⟩ := hrel; cases gk with
     | zero => exact absurd HA.out (by simp [impl_Steps.l0])
     | succ k2 =>
      have H := HA.out; clear HA
      simp only [impl_Steps.l0] at H
      by_cases c14 : x33_2 < (y435.length : Int)
      ·
       rw [if_pos c14] at H
       have c14b0 : decide (x33_2 < (y435.length : Int)) = true := decide_eq_true c14; clear c14
       by_cases c15 : 0 ≤ x33_2
       rotate_left
       ·
        rw [if_neg c15] at H
        exact absurd H (by simp)
       rw [if_pos c15] at H
       have c15b0 : decide (0 ≤ x33_2) = true := decide_eq_true c15; clear c15
       by_cases c16 : x33_2 < (y435.length : Int)
       rotate_left
       ·
        rw [if_neg c16] at H
        exact absurd H (by simp)
       rw [if_pos c16] at H
       have c16b0 : decide (x33_2 < (y435.length : Int)) = true := decide_eq_true c16; clear c16; obtain ⟨⟨t440, t441, t442⟩, A17, H⟩ := oB H; (try dsimp only at H); obtain ⟨⟨t443, t444⟩, A18, H⟩ := oB H; (try dsimp only at H); obtain ⟨⟨t445, t446⟩, A19, H⟩ := oB H; (try dsimp only at H)
       by_cases c20 : t442 = true
       ·
        subst c20
        rw [if_pos rfl] at H
        by_cases c21 : t444 = true
        ·
         subst c21
         rw [if_pos rfl] at H
         by_cases c22 : t446 = true
         ·
          subst c22
          rw [if_pos rfl] at H
          obtain ⟨t449, A23, H⟩ := oB H; (try dsimp only at H)
          by_cases c24 : t449 = true
          ·
           subst c24
           rw [if_pos rfl] at H
           by_cases c25 : (t445.length : Int) > 2
           ·
            rw [if_pos c25] at H
            have c25b0 : decide (2 < (t445.length : Int)) = true := decide_eq_true c25
            have c25b1 : decide (2 < t445.length) = true := decide_eq_true (by omega)
            clear c25
            simp only [Option.some.injEq, Prod.mk.injEq] at H
            obtain ⟨rfl, rfl⟩ := H; have p439 : 0 ≤ (x33_2 : Int) := of_decide_eq_true y0_16; have q439 : x33_2 < (y435.length : Int) := of_decide_eq_true y0_16; obtain ⟨ad439, e439, hx439_0⟩ := Kd.at_string HR438.out x33_2 p439 q439; cases e439; replace hx439_0 := bx HB hx439_0; replace p439 := eq_true p439; replace q439 := eq_true q439
            go_wp2_with (first | ((with_reducible refine gate_callee (f := 175) rfl ?_); refine gB (some 39) Tryz.func175 #[.string (rdOf ByteArray.empty y435 x33_2), .string (⟨#[124]⟩ : ByteArray)] ?_; (with_reducible refine (strings_Cut.calls (rdOf ByteArray.empty y435 x33_2) (⟨#[124]⟩ : ByteArray) t440 t441 true _ A17.out).mono ?_); rintro e w26 ⟨rfl, hb⟩; refine ⟨_, rfl, ?_⟩; replace HO_5 := sb HO_5 hb; replace HB := bs HB hb; (try clear hb); (try clear hb2); (try clear hk); (try clear hi)) | ((with_reducible refine gate_callee (f := 176) rfl ?_); refine gB (some 45) Tryz.func176 #[.string t440] ?_; (with_reducible refine (impl_Number.calls k2 t440 t443 true _ A18.out).mono ?_); rintro e w27 ⟨rfl, hb⟩; refine ⟨_, rfl, ?_⟩; replace HO_5 := sb HO_5 hb; replace HB := bs HB hb; (try clear hb); (try clear hb2); (try clear hk); (try clear hi)) | ((with_reducible refine gate_callee (f := 177) rfl ?_); refine gB (some 50) Tryz.func177 #[.string t441] ?_; (with_reducible refine (impl_TxsOf.calls k2 t441 t445 true _ A19.out).mono ?_); rintro e w28 ⟨v447, rfl, ho0, hb⟩; refine ⟨_, rfl, ?_⟩; replace HO_5 := Aside0.mk (Kd.S_elder' (sI HO_5.out) (Kd.R_base ho0) hb); have HO448 := Aside0.mk (Kd.R_lower ho0 (below_size (bI HB.out))); replace HB := bs HB hb; (try clear hb)) | (go_at_call 106; (with_reducible refine (impl_within.calls t443 (wrap64 (x6_2 + 1)) 60 true _ A23.out).mono ?_); rintro e w' ⟨rfl, ⟨nd, rfl⟩⟩; obtain ⟨Ao29, co29, eo29⟩ := Kd.R_slice HO448.out; subst eo29))
            go_ret2
            exact ⟨_, y0_12, Kd.S_lower (base := wc.heap.size) y0_10 (below_size HB0.out), below_step HB0.out (bI HB.out)⟩
           rw [if_neg c25] at H
           have c25b0 : decide (2 < (t445.length : Int)) = false := decide_eq_false c25
           have c25b1 : decide (2 < t445.length) = false := decide_eq_false (by omega)
           clear c25
           by_cases c30 : x5_2.length < 4398046511104
           rotate_left
           ·
            rw [if_neg c30] at H
            exact absurd H (by simp)
           rw [if_pos c30] at H
           have LMc30 := Aside0.mk c30; clear c30; obtain ⟨y450, hy450⟩ : ∃ y_ : List (S163), y_ = (x5_2 ++ [(⟨t443, t445⟩ : S163)]) := ⟨_, rfl⟩
           replace H : (impl_Steps.l0 k2 y450 t443 y435 (y435.length : Int) (wrap64 (x33_2 + 1))) = some (r1, r2) := by first | (rw [hy450]; with_reducible exact H) | (rw [hy450]; with_reducible exact (Option.bind_some _ _).symm.trans H) | (rw [hy450]; exact H) | exact H
           have Ny450 := Aside0.mk hy450; clear hy450; have H' := Aside0.mk H; clear H; have p439 : 0 ≤ (x33_2 : Int) := of_decide_eq_true y0_16; have q439 : x33_2 < (y435.length : Int) := of_decide_eq_true y0_16; obtain ⟨ad439, e439, hx439_0⟩ := Kd.at_string HR438.out x33_2 p439 q439; cases e439; replace hx439_0 := bx HB hx439_0; replace p439 := eq_true p439; replace q439 := eq_true q439
           go_wp2_with (first | ((with_reducible refine gate_callee (f := 175) rfl ?_); refine gB (some 39) Tryz.func175 #[.string (rdOf ByteArray.empty y435 x33_2), .string (⟨#[124]⟩ : ByteArray)] ?_; (with_reducible refine (strings_Cut.calls (rdOf ByteArray.empty y435 x33_2) (⟨#[124]⟩ : ByteArray) t440 t441 true _ A17.out).mono ?_); rintro e w31 ⟨rfl, hb⟩; refine ⟨_, rfl, ?_⟩; replace HO_5 := sb HO_5 hb; replace HB := bs HB hb; (try clear hb); (try clear hb2); (try clear hk); (try clear hi)) | ((with_reducible refine gate_callee (f := 176) rfl ?_); refine gB (some 45) Tryz.func176 #[.string t440] ?_; (with_reducible refine (impl_Number.calls k2 t440 t443 true _ A18.out).mono ?_); rintro e w32 ⟨rfl, hb⟩; refine ⟨_, rfl, ?_⟩; replace HO_5 := sb HO_5 hb; replace HB := bs HB hb; (try clear hb); (try clear hb2); (try clear hk); (try clear hi)) | ((with_reducible refine gate_callee (f := 177) rfl ?_); refine gB (some 50) Tryz.func177 #[.string t441] ?_; (with_reducible refine (impl_TxsOf.calls k2 t441 t445 true _ A19.out).mono ?_); rintro e w33 ⟨v447, rfl, ho0, hb⟩; refine ⟨_, rfl, ?_⟩; replace HO_5 := Aside0.mk (Kd.S_elder' (sI HO_5.out) (Kd.R_base ho0) hb); have HO448 := Aside0.mk (Kd.R_lower ho0 (below_size (bI HB.out))); replace HB := bs HB hb; (try clear hb)) | (go_at_call 106; (with_reducible refine (impl_within.calls t443 (wrap64 (x6_2 + 1)) 60 true _ A23.out).mono ?_); rintro e w' ⟨rfl, ⟨nd, rfl⟩⟩; obtain ⟨Ao34, co34, eo34⟩ := Kd.R_slice HO448.out; subst eo34) | ((with_reducible refine gate_builtin (b := .append) (xs := #[.tmp 75, .tmp 79]) rfl ?_); (try (refine gate_guard (by rfl) ?_; dsimp only)); at_builtin; refine Kd.S_append k163 (w0 := wc) wc.heap.size rfl (.tmp 75) (.tmp 79) 159 163 (.agg #[(.int .i64 0), (.slice none 0 0)]) 32 rfl Tryz.underlying159 info163 rfl (by decide) (by omega) u5 x5_2 (⟨t443, t445⟩ : S163) [.int .i64 t443, .slice Ao34 t445.length co34] (fun _ => True) (fun k_ => some k_ = (.slice Ao34 t445.length co34 : Value).ownBlock) rfl rfl ?aP (fun k_ hk_ => ((Kd.R_mono (ok' := fun k_ => ((fun _ => True)) k_ ∧ some k_ ≠ (u5 : Value).ownBlock) (Kd.R_apart' (HO448.out) (Kd.S_typed HO_5.out) (by decide)) (fun k_ hk => ⟨trivial, hk.2⟩))).1 k_ hk_.symm) ?aF ?aO ?aB ?aS ?aL ?_; (case aP => exact k163_mkM _ _ _ (⟨t443, t445⟩ : S163) (Kd.R_mono (Kd.R_tight rfl (Kd.R_mono (ok' := fun k_ => ((fun _ => True)) k_ ∧ some k_ ≠ (u5 : Value).ownBlock) (Kd.R_apart' (HO448.out) (Kd.S_typed HO_5.out) (by decide)) (fun k_ hk => ⟨trivial, hk.2⟩))) (fun _ h_ => h_))); (case aB => exact (bI HB.out)); (case aF => exact (fun _ _ => trivial)); (case aO => exact (sI (Kd.S_mono HO_5.out (fun k_ hk => ⟨trivial, fun e_ => hk.2 e_⟩)))); (case aS => exact (below_size (bI HB.out))); (case aL => have := LMc30.out; omega); intro v451 w35 ho hb hg hat; rw [← Ny450.out] at ho; have n0_ := Aside0.mk (hb); have n1_ := Aside0.mk (ho); clear HB; clear HO_5; clear HO448; have HB := n0_; have HO452 := n1_; clear n0_ n1_; clear ho hb hg hat))
           go_roundg k2
           case measure => have := HJ3.out; have := HK2.out; omega
           case rel => exact ⟨(y450), (t443), (wrap64 (x33_2 + 1)), y0_17, y0_17, H', ⟨by have := HJ3.out; have := HK2.out; omega⟩, ⟨by (with_reducible repeat (first | apply Kd.S_alloc | apply Kd.S_drewN | apply Kd.S_drew)); exact HO452.out⟩, ⟨bI HB.out⟩⟩
          replace c24 := Bool.eq_false_iff.mpr c24; subst c24
          rw [if_neg Bool.false_ne_true] at H
          simp only [Option.some.injEq, Prod.mk.injEq] at H
          obtain ⟨rfl, rfl⟩ := H; have p439 : 0 ≤ (x33_2 : Int) := of_decide_eq_true y0_16; have q439 : x33_2 < (y435.length : Int) := of_decide_eq_true y0_16; obtain ⟨ad439, e439, hx439_0⟩ := Kd.at_string HR438.out x33_2 p439 q439; cases e439; replace hx439_0 := bx HB hx439_0; replace p439 := eq_true p439; replace q439 := eq_true q439
          go_wp2_with (first | ((with_reducible refine gate_callee (f := 175) rfl ?_); refine gB (some 39) Tryz.func175 #[.string (rdOf ByteArray.empty y435 x33_2), .string (⟨#[124]⟩ : ByteArray)] ?_; (with_reducible refine (strings_Cut.calls (rdOf ByteArray.empty y435 x33_2) (⟨#[124]⟩ : ByteArray) t440 t441 true _ A17.out).mono ?_); rintro e w36 ⟨rfl, hb⟩; refine ⟨_, rfl, ?_⟩; replace HO_5 := sb HO_5 hb; replace HB := bs HB hb; (try clear hb); (try clear hb2); (try clear hk); (try clear hi)) | ((with_reducible refine gate_callee (f := 176) rfl ?_); refine gB (some 45) Tryz.func176 #[.string t440] ?_; (with_reducible refine (impl_Number.calls k2 t440 t443 true _ A18.out).mono ?_); rintro e w37 ⟨rfl, hb⟩; refine ⟨_, rfl, ?_⟩; replace HO_5 := sb HO_5 hb; replace HB := bs HB hb; (try clear hb); (try clear hb2); (try clear hk); (try clear hi)) | ((with_reducible refine gate_callee (f := 177) rfl ?_); refine gB (some 50) Tryz.func177 #[.string t441] ?_; (with_reducible refine (impl_TxsOf.calls k2 t441 t445 true _ A19.out).mono ?_); rintro e w38 ⟨v447, rfl, ho0, hb⟩; refine ⟨_, rfl, ?_⟩; replace HO_5 := Aside0.mk (Kd.S_elder' (sI HO_5.out) (Kd.R_base ho0) hb); have HO448 := Aside0.mk (Kd.R_lower ho0 (below_size (bI HB.out))); replace HB := bs HB hb; (try clear hb)) | (go_at_call 106; (with_reducible refine (impl_within.calls t443 (wrap64 (x6_2 + 1)) 60 false _ A23.out).mono ?_); rintro e w' ⟨rfl, ⟨nd, rfl⟩⟩))
          go_ret2
          exact ⟨_, y0_12, Kd.S_lower (base := wc.heap.size) y0_10 (below_size HB0.out), below_step HB0.out (bI HB.out)⟩
         replace c22 := Bool.eq_false_iff.mpr c22; subst c22
         rw [if_neg Bool.false_ne_true] at H
         simp only [Option.some.injEq, Prod.mk.injEq] at H
         obtain ⟨rfl, rfl⟩ := H; have p439 : 0 ≤ (x33_2 : Int) := of_decide_eq_true y0_16; have q439 : x33_2 < (y435.length : Int) := of_decide_eq_true y0_16; obtain ⟨ad439, e439, hx439_0⟩ := Kd.at_string HR438.out x33_2 p439 q439; cases e439; replace hx439_0 := bx HB hx439_0; replace p439 := eq_true p439; replace q439 := eq_true q439
         go_wp2_with (first | ((with_reducible refine gate_callee (f := 175) rfl ?_); refine gB (some 39) Tryz.func175 #[.string (rdOf ByteArray.empty y435 x33_2), .string (⟨#[124]⟩ : ByteArray)] ?_; (with_reducible refine (strings_Cut.calls (rdOf ByteArray.empty y435 x33_2) (⟨#[124]⟩ : ByteArray) t440 t441 true _ A17.out).mono ?_); rintro e w39 ⟨rfl, hb⟩; refine ⟨_, rfl, ?_⟩; replace HO_5 := sb HO_5 hb; replace HB := bs HB hb; (try clear hb); (try clear hb2); (try clear hk); (try clear hi)) | ((with_reducible refine gate_callee (f := 176) rfl ?_); refine gB (some 45) Tryz.func176 #[.string t440] ?_; (with_reducible refine (impl_Number.calls k2 t440 t443 true _ A18.out).mono ?_); rintro e w40 ⟨rfl, hb⟩; refine ⟨_, rfl, ?_⟩; replace HO_5 := sb HO_5 hb; replace HB := bs HB hb; (try clear hb); (try clear hb2); (try clear hk); (try clear hi)) | ((with_reducible refine gate_callee (f := 177) rfl ?_); refine gB (some 50) Tryz.func177 #[.string t441] ?_; (with_reducible refine (impl_TxsOf.calls k2 t441 t445 false _ A19.out).mono ?_); rintro e w41 ⟨v447, rfl, ho0, hb⟩; refine ⟨_, rfl, ?_⟩; replace HO_5 := Aside0.mk (Kd.S_elder' (sI HO_5.out) (Kd.R_base ho0) hb); have HO448 := Aside0.mk (Kd.R_lower ho0 (below_size (bI HB.out))); replace HB := bs HB hb; (try clear hb)))
         go_ret2
         exact ⟨_, y0_12, Kd.S_lower (base := wc.heap.size) y0_10 (below_size HB0.out), below_step HB0.out (bI HB.out)⟩
        replace c21 := Bool.eq_false_iff.mpr c21; subst c21
        rw [if_neg Bool.false_ne_true] at H
        simp only [Option.some.injEq, Prod.mk.injEq] at H
        obtain ⟨rfl, rfl⟩ := H; have p439 : 0 ≤ (x33_2 : Int) := of_decide_eq_true y0_16; have q439 : x33_2 < (y435.length : Int) := of_decide_eq_true y0_16; obtain ⟨ad439, e439, hx439_0⟩ := Kd.at_string HR438.out x33_2 p439 q439; cases e439; replace hx439_0 := bx HB hx439_0; replace p439 := eq_true p439; replace q439 := eq_true q439
        go_wp2_with (first | ((with_reducible refine gate_callee (f := 175) rfl ?_); refine gB (some 39) Tryz.func175 #[.string (rdOf ByteArray.empty y435 x33_2), .string (⟨#[124]⟩ : ByteArray)] ?_; (with_reducible refine (strings_Cut.calls (rdOf ByteArray.empty y435 x33_2) (⟨#[124]⟩ : ByteArray) t440 t441 true _ A17.out).mono ?_); rintro e w42 ⟨rfl, hb⟩; refine ⟨_, rfl, ?_⟩; replace HO_5 := sb HO_5 hb; replace HB := bs HB hb; (try clear hb); (try clear hb2); (try clear hk); (try clear hi)) | ((with_reducible refine gate_callee (f := 176) rfl ?_); refine gB (some 45) Tryz.func176 #[.string t440] ?_; (with_reducible refine (impl_Number.calls k2 t440 t443 false _ A18.out).mono ?_); rintro e w43 ⟨rfl, hb⟩; refine ⟨_, rfl, ?_⟩; replace HO_5 := sb HO_5 hb; replace HB := bs HB hb; (try clear hb); (try clear hb2); (try clear hk); (try clear hi)) | ((with_reducible refine gate_callee (f := 177) rfl ?_); refine gB (some 50) Tryz.func177 #[.string t441] ?_; (with_reducible refine (impl_TxsOf.calls k2 t441 t445 t446 _ A19.out).mono ?_); rintro e w44 ⟨v447, rfl, ho0, hb⟩; refine ⟨_, rfl, ?_⟩; replace HO_5 := Aside0.mk (Kd.S_elder' (sI HO_5.out) (Kd.R_base ho0) hb); have HO448 := Aside0.mk (Kd.R_lower ho0 (below_size (bI HB.out))); replace HB := bs HB hb; (try clear hb)))
        go_ret2
        exact ⟨_, y0_12, Kd.S_lower (base := wc.heap.size) y0_10 (below_size HB0.out), below_step HB0.out (bI HB.out)⟩
       replace c20 := Bool.eq_false_iff.mpr c20; subst c20
       rw [if_neg Bool.false_ne_true] at H
       simp only [Option.some.injEq, Prod.mk.injEq] at H
       obtain ⟨rfl, rfl⟩ := H; have p439 : 0 ≤ (x33_2 : Int) := of_decide_eq_true y0_16; have q439 : x33_2 < (y435.length : Int) := of_decide_eq_true y0_16; obtain ⟨ad439, e439, hx439_0⟩ := Kd.at_string HR438.out x33_2 p439 q439; cases e439; replace hx439_0 := bx HB hx439_0; replace p439 := eq_true p439; replace q439 := eq_true q439
       go_wp2_with (first | ((with_reducible refine gate_callee (f := 175) rfl ?_); refine gB (some 39) Tryz.func175 #[.string (rdOf ByteArray.empty y435 x33_2), .string (⟨#[124]⟩ : ByteArray)] ?_; (with_reducible refine (strings_Cut.calls (rdOf ByteArray.empty y435 x33_2) (⟨#[124]⟩ : ByteArray) t440 t441 false _ A17.out).mono ?_); rintro e w45 ⟨rfl, hb⟩; refine ⟨_, rfl, ?_⟩; replace HO_5 := sb HO_5 hb; replace HB := bs HB hb; (try clear hb); (try clear hb2); (try clear hk); (try clear hi)) | ((with_reducible refine gate_callee (f := 176) rfl ?_); refine gB (some 45) Tryz.func176 #[.string t440] ?_; (with_reducible refine (impl_Number.calls k2 t440 t443 t444 _ A18.out).mono ?_); rintro e w46 ⟨rfl, hb⟩; refine ⟨_, rfl, ?_⟩; replace HO_5 := sb HO_5 hb; replace HB := bs HB hb; (try clear hb); (try clear hb2); (try clear hk); (try clear hi)) | ((with_reducible refine gate_callee (f := 177) rfl ?_); refine gB (some 50) Tryz.func177 #[.string t441] ?_; (with_reducible refine (impl_TxsOf.calls k2 t441 t445 t446 _ A19.out).mono ?_); rintro e w47 ⟨v447, rfl, ho0, hb⟩; refine ⟨_, rfl, ?_⟩; replace HO_5 := Aside0.mk (Kd.S_elder' (sI HO_5.out) (Kd.R_base ho0) hb); have HO448 := Aside0.mk (Kd.R_lower ho0 (below_size (bI HB.out))); replace HB := bs HB hb; (try clear hb)))
       go_ret2
       exact ⟨_, y0_12, Kd.S_lower (base := wc.heap.size) y0_10 (below_size HB0.out), below_step HB0.out (bI HB.out)⟩
      rw [if_neg c14] at H
      have c14b0 : decide (x33_2 < (y435.length : Int)) = false := decide_eq_false c14; clear c14
      simp only [Option.some.injEq, Prod.mk.injEq] at H
      obtain ⟨rfl, rfl⟩ := H
      go_wp2
      go_ret2
      exact ⟨_, y0_12, Kd.S_lower (base := wc.heap.size) (by (with_reducible repeat (first | apply Kd.S_alloc | apply Kd.S_drewN | apply Kd.S_drew)); exact HO_5.out) (below_size HB0.out), below_step HB0.out (bI HB.out)⟩
   rw [if_neg c11] at H
   exact absurd H (by simp)
def impl_NameOk.f (k : Nat) (a0 : ByteArray) : Option (Bool) := (impl_Steps.f k a0).bind fun bt453 => (some bt453.2)
theorem impl_NameOk.mono : ∀ a0 k, LeO (impl_NameOk.f k a0) (impl_NameOk.f (k + 1) a0) := by
 intro a0 k
 unfold impl_NameOk.f
 repeat' first | (with_reducible exact impl_Steps.mono _ _) | (with_reducible exact LeO.refl _) | (with_reducible exact LeO.none _) | (with_reducible refine LeO.ite ?_ ?_) | (with_reducible refine LeO.bind ?_ (fun _ => ?_))
theorem impl_NameOk.calls (k : Nat) (a0 : ByteArray) (r : Bool) (w : World) (h : impl_NameOk.f k a0 = some r) (hG : Glob w := by exact gG HG HB) :
  Calls Tryz.prog 107 #[.string a0] w fun e w' => e = .returned (.bool r) ∧ Below w.heap.size w w' := by
 have HG := Aside0.mk hG; clear hG; have HB := Aside0.mk (Below.refl w.heap.size w)
 have H := h; unfold impl_NameOk.f at H
 clear h; obtain ⟨⟨t453, t454⟩, A2, H⟩ := oB H; (try dsimp only at H); obtain rfl := Option.some.inj H
 go_enter Tryz.func107, Tryz.ntmps107
 go_wp2_with (first | ((with_reducible refine gate_callee (f := 151) rfl ?_); refine gS1 (some 7) Tryz.func151 (impl_Steps.calls (w := _) (h := A2.out)) ?_; intro Ao455 co455 w3 _ HO456))
 go_ret
 exact ⟨y0_17, UpW.out⟩
def impl_ViewOf.f (k : Nat) (a0 : ByteArray) : Option (Int) := (impl_Steps.f k a0).bind fun bt457 => (if (bt457.1.length : Int) = 0 then (some 0) else (if 0 ≤ (wrap64 ((bt457.1.length : Int) - 1)) then (if (wrap64 ((bt457.1.length : Int) - 1)) < (bt457.1.length : Int) then (some ((rd_T163 bt457.1 (wrap64 ((bt457.1.length : Int) - 1))).f0)) else (none)) else (none)))
theorem impl_ViewOf.mono : ∀ a0 k, LeO (impl_ViewOf.f k a0) (impl_ViewOf.f (k + 1) a0) := by
 intro a0 k
 unfold impl_ViewOf.f
 repeat' first | (with_reducible exact impl_Steps.mono _ _) | (with_reducible exact LeO.refl _) | (with_reducible exact LeO.none _) | (with_reducible refine LeO.ite ?_ ?_) | (with_reducible refine LeO.bind ?_ (fun _ => ?_))
theorem impl_ViewOf.calls (k : Nat) (a0 : ByteArray) (r : Int) (w : World) (h : impl_ViewOf.f k a0 = some r) (hG : Glob w := by exact gG HG HB) :
  Calls Tryz.prog 108 #[.string a0] w fun e w' => e = .returned (.int .i64 r) ∧ Below w.heap.size w w' := by
 have HG := Aside0.mk hG; clear hG; have HB := Aside0.mk (Below.refl w.heap.size w)
 have H := h; unfold impl_ViewOf.f at H
 clear h; obtain ⟨⟨t457, t458⟩, A2, H⟩ := oB H; (try dsimp only at H)
 go_enter Tryz.func108, Tryz.ntmps108
 have H' := Aside0.mk H; clear H
 go_upto_if 12 with (first | ((with_reducible refine gate_callee (f := 151) rfl ?_); refine gS1 (some 7) Tryz.func151 (impl_Steps.calls (w := _) (h := A2.out)) ?_; intro Ao459 co459 w3 _ HO460))
 have H := H'.out; clear H'
 by_cases c4 : (t457.length : Int) = 0
 ·
  rw [if_pos c4] at H
  have c4b0 : ((t457.length : Int) == 0) = true := beq_iff_eq.mpr c4; have c4b1 : ((t457.length : Int) != 0) = false := bne_eq_false_iff_eq.mpr c4; clear c4
  (first | rw [c4b0] | (simp only [i64_w, i32_w]; rw [c4b0]) | skip)
  obtain rfl := Option.some.inj H
  go_wp2
  go_ret
  exact ⟨y0_17, UpW.out⟩
 rw [if_neg c4] at H
 have c4b0 : ((t457.length : Int) == 0) = false := beq_eq_false_iff_ne.mpr c4; have c4b1 : ((t457.length : Int) != 0) = true := bne_iff_ne.mpr c4
 have c4b2 : ¬ (t457 = []) := fun h_ => c4 (by rw [h_]; rfl)
 (first | rw [c4b0] | (simp only [i64_w, i32_w]; rw [c4b0]) | skip)
 obtain ⟨ji5, hji5⟩ : ∃ j_ : Int, (wrap64 ((t457.length : Int) - 1)) = j_ := ⟨_, rfl⟩
 replace H : (if 0 ≤ (ji5) then (if (ji5) < (t457.length : Int) then (some ((rd_T163 t457 (ji5)).f0)) else (none)) else (none)) = some r := by first | (rw [hji5] at H; exact H) | (simp only [hji5] at H ⊢; exact H)
 have hji5w : (IntKind.i64.wrap ((t457.length : Int) - 1)) = ji5 := (i64_w _).trans hji5
 by_cases c6 : 0 ≤ (ji5)
 ·
  rw [if_pos c6] at H
  have c6b0 : decide (0 ≤ (ji5)) = true := decide_eq_true c6; clear c6
  by_cases c7 : (ji5) < (t457.length : Int)
  rotate_left
  ·
   rw [if_neg c7] at H
   exact absurd H (by simp)
  rw [if_pos c7] at H
  have c7b0 : decide ((ji5) < (t457.length : Int)) = true := decide_eq_true c7; clear c7; obtain rfl := Option.some.inj H; have p461 : 0 ≤ ((ji5) : Int) := of_decide_eq_true y0_16; have q461 : (ji5) < (t457.length : Int) := of_decide_eq_true y0_16
  obtain ⟨go461, cc461, eo461, hb461, _, hg461⟩ := Kd.S_form HO460.out (by omega)
  have bo461 : BornI go461 _ := ⟨hb461⟩
  injection eo461 with ea_ en_ ec_
  subst ea_; subst ec_; clear en_; have sb461 : StB go461 w3 163 := ⟨hg461⟩; obtain ⟨ok461, ce461, _, hM461, hcc461, _, _, _⟩ := Kd.S_elem HO460.out z163 (ji5) p461 q461; obtain ⟨ve461_1, rfl, ge461_1⟩ := k163_openM hM461; obtain ⟨A461_1, c461_1, ev461_1⟩ := Kd.R_slice ge461_1; subst ev461_1; have i461_0_ : RdG go461 (((ji5) : Int).toNat * 2) w3 (.int .i64 ((rd_T163 t457 (ji5)).f0)) := RdG.of hg461 (hcc461 0 _ rfl); have i461_1_ : RdG go461 (((ji5) : Int).toNat * 2 + 1) w3 (.slice A461_1 ((rd_T163 t457 (ji5)).f1).length c461_1) := RdG.of hg461 (hcc461 1 _ rfl)
  have HR461_1 := Aside0.mk (show Kd.R k156 156 w3 _ ok461 (.slice A461_1 ((rd_T163 t457 (ji5)).f1).length c461_1) ((rd_T163 t457 (ji5)).f1) from ge461_1)
  replace p461 := eq_true p461; replace q461 := eq_true q461
  go_wp2
  go_ret
  exact ⟨by first | rfl | (simp; done) | (simp only [← hji5] <;> (first | rfl | simp)) | (simp [*]; done), UpW.out⟩
 rw [if_neg c6] at H
 exact absurd H (by simp)
def impl_PartOk.f (k : Nat) (a0_0 : Int) (a0_1 : Int) (a1_0 : Int) (a1_1 : ByteArray) (l1_2 : List Int) : Option (Bool) := (impl_ConfOk.f a0_0 a0_1).bind fun t464 => (if t464 = true then ((impl_within.f a1_0 1 60).bind fun t465 => (if t465 = true then (if a1_1.toList = ([] : List UInt8) then ((impl_SetOk.f k a0_0 l1_2).bind fun t466 => (if t466 = true then (some (decide ((l1_2.length : Int) > 0))) else (some false))) else ((impl_NameOk.f k a1_1).bind fun t467 => (if t467 = true then ((impl_ViewOf.f k a1_1).bind fun t468 => (if t468 = a1_0 then ((impl_SetOk.f k a0_0 l1_2).bind fun t469 => (if t469 = true then (some (decide ((l1_2.length : Int) > 0))) else (some false))) else (some false))) else (some false)))) else (some false))) else (some false))
theorem impl_PartOk.mono : ∀ a0 a1 a2 a3 a4 k, LeO (impl_PartOk.f k a0 a1 a2 a3 a4) (impl_PartOk.f (k + 1) a0 a1 a2 a3 a4) := by
 intro a0 a1 a2 a3 a4 k
 unfold impl_PartOk.f
 repeat' first | (with_reducible exact impl_NameOk.mono _ _) | (with_reducible exact impl_SetOk.mono _ _ _) | (with_reducible exact impl_ViewOf.mono _ _) | (with_reducible exact LeO.refl _) | (with_reducible exact LeO.none _) | (with_reducible refine LeO.ite ?_ ?_) | (with_reducible refine LeO.bind ?_ (fun _ => ?_))
def impl_PartOk.T1 : Bool × List (List Nat × List Nat) := (true, [([], []), ([0], [0]), ([1, 1], [1]), ([2], [2]), ([3, 2], [2, 3]), ([4, 2, 2], [2, 4]), ([2, 5], [2, 5]), ([6, 5], [6]), ([7], [7]), ([8, 7], [7, 8]), ([9, 7], [7, 9]), ([10, 7, 7], [7, 10]), ([11], [11]), ([12, 11], [11, 12]), ([13, 11, 11], [11, 13]), ([14, 14, 11], [11, 14]), ([15], [15]), ([16, 15], [15, 16]), ([17, 15, 15], [15, 17]), ([15], [15]), ([19, 15], [15, 19]), ([18, 20, 15], [15, 18, 20]), ([15, 21, 11], [11, 15, 21]), ([11, 22, 7], [7, 11, 22]), ([7, 23], [7, 23]), ([24, 18], [24]), ([25], [25]), ([26, 25], [25, 26]), ([25], [25]), ([28, 25], [25, 28]), ([27, 29, 25, 25], [25, 27, 29]), ([25, 30], [25, 30]), ([31, 30], [31]), ([32], [32]), ([33, 32], [32, 33]), ([34, 32], [32, 34]), ([35, 32], [32, 35]), ([32, 36], [32, 36]), ([37, 32, 0, 1, 2, 3, 4, 5, 6, 7, 8, 9, 10, 11, 12, 13, 14, 15, 16, 17, 18, 19, 20, 21, 22, 23, 24, 25, 26, 27, 28, 29, 30, 31, 32, 33, 34, 35, 36, 37], [37])])
def impl_PartOk.B1 : List Nat := [0, 1, 3, 7, 15, 31, 63, 127, 255, 511, 1023, 2047, 4095, 8191, 16383, 32767, 65535, 131071, 262143, 65535, 589823, 2097151, 4194303, 8388607, 16777215, 33554431, 67108863, 134217727, 67108863, 335544319, 1073741823, 2147483647, 4294967295, 8589934591, 17179869183, 34359738367, 68719476735, 137438953471, 274877906943]
theorem impl_PartOk.tab1 : rtab .any (opsOf Tryz.f48 1) = impl_PartOk.T1 := by kernel_rfl
theorem impl_PartOk.bits1 : waitsOk impl_PartOk.T1.2 impl_PartOk.B1 = true := by kernel_rfl
theorem impl_PartOk.calls (k : Nat) (a0_0 : Int) (a0_1 : Int) (a1_0 : Int) (a1_1 : ByteArray) (A1_2 : Option Addr) (c1_2 : Nat) (l1_2 : List Int) (r : Bool) (w : World) (hr1_2 : Kd.C (Kd.int .i64) w A1_2 l1_2.length l1_2) (hc1_2 : l1_2.length ≤ c1_2) (h : impl_PartOk.f k a0_0 a0_1 a1_0 a1_1 l1_2 = some r) (hG : Glob w := by exact gG HG HB) :
  Calls Tryz.prog 48 #[.agg #[.int .i64 a0_0, .int .i64 a0_1], .agg #[.int .i64 a1_0, .string a1_1, .slice A1_2 l1_2.length c1_2]] w fun e w' => e = .returned (.bool r) ∧ Below w.heap.size w w' := by
 have HG := Aside0.mk hG; clear hG; have hu32 := Tryz.underlying32; have hu48 := Tryz.underlying48; have HR1_2 := Aside0.mk hr1_2; have HC1_2 := Aside0.mk hc1_2; clear hr1_2 hc1_2; have HB := Aside0.mk (Below.refl w.heap.size w)
 have H := h; unfold impl_PartOk.f at H
 clear h
 go_enter Tryz.func48, Tryz.ntmps48
 have H' := Aside0.mk H; clear H
 go_upto_region 1 with (first | ((with_reducible refine gd 2 ?_); refine bL 2 #[.int .i64 a0_0, .int .i64 a0_1] 32 ?_; intro gb462 w3 _ _ _) | ((with_reducible refine gd 3 ?_); refine bL 3 #[.int .i64 a1_0, .string a1_1, .slice A1_2 l1_2.length c1_2] 48 ?_; intro gb463 w4 _ _ _))
 have H := H'.out; clear H'; obtain ⟨t464, A5, H⟩ := oB H; (try dsimp only at H)
 by_cases c6 : t464 = true
 ·
  subst c6
  rw [if_pos rfl] at H
  obtain ⟨t465, A7, H⟩ := oB H; (try dsimp only at H)
  by_cases c8 : t465 = true
  ·
   subst c8
   rw [if_pos rfl] at H
   by_cases c9 : a1_1.toList = ([] : List UInt8)
   ·
    rw [if_pos c9] at H
    have c9b0 : (a1_1.toList == ([] : List UInt8)) = true := beq_iff_eq.mpr c9; have c9b1 : (a1_1.toList != ([] : List UInt8)) = false := bne_eq_false_iff_eq.mpr c9; clear c9
    (first | rw [c9b0] | (simp only [i64_w, i32_w]; rw [c9b0]) | rw [show List.isEmpty (a1_1.toList) = true from by simpa using c9b0] | skip)
    obtain ⟨t466, A10, H⟩ := oB H; (try dsimp only at H)
    by_cases c11 : t466 = true
    ·
     subst c11
     rw [if_pos rfl] at H
     obtain rfl := Option.some.inj H
     try go_wp2
     refine sB [] impl_PartOk.tab1 impl_PartOk.bits1 ?_; intro w12 _ HT_ HW_
     refine tB 0 (some 5) (bz 39 1) HT_ HW_ ?_
     refine o1 1 (some 6) (bz 39 3) HT_ rfl (kC Tryz.func105 (impl_ConfOk.calls (w := _) (h := A5.out)) ?_); intro w13 _
     refine nA (some 6) ?_
     refine pA 2 (some 7) (bz 39 7) HT_ ?_
     refine pA 3 (some 8) (bz 39 15) HT_ ?_
     refine tB 4 (some 9) (bz 39 31) HT_ HW_ ?_
     refine o1 5 (some 10) (bz 39 63) HT_ rfl (kD Tryz.func106 (impl_within.calls (w := _) (h := A7.out)) ?_); intro w14 _
     refine nA (some 10) ?_
     refine pA 6 (some 11) (bz 39 127) HT_ ?_
     refine pA 7 (some 12) (bz 39 255) HT_ ?_
     refine pA 8 (some 13) (bz 39 511) HT_ ?_
     refine tB 9 (some 14) (bz 39 1023) HT_ HW_ ?_
     refine pA 10 (some 15) (bz 39 2047) HT_ ?_
     refine pA 11 (some 16) (bz 39 4095) HT_ ?_
     refine pU 12 (some 17) (bz 39 0x1fff) HT_ ?_
     refine pU 13 (some 18) (bz 39 0x3fff) HT_ ?_
     refine pU 14 (some 19) (bz 39 0x7fff) HT_ ?_
     refine pU 15 (some 20) (bz 39 0xffff) HT_ ?_
     refine pU 16 (some 21) (bz 39 0x1ffff) HT_ ?_
     refine pU 17 (some 22) (bz 39 0x3ffff) HT_ ?_
     refine pU 18 (some 23) (bz 39 0x7ffff) HT_ ?_
     refine pU 19 (some 24) (bz 39 0xfffff) HT_ ?_
     refine pU 20 (some 25) (bz 39 0x1fffff) HT_ ?_
     refine pU 21 (some 26) (bz 39 0x3fffff) HT_ ?_
     refine pU 22 (some 27) (bz 39 0x7fffff) HT_ ?_
     refine pA 23 (some 28) (bz 39 0xffffff) HT_ ?_
     refine pA 24 (some 29) (bz 39 0x1ffffff) HT_ ?_
     refine pA 25 (some 30) (bz 39 0x3ffffff) HT_ ?_
     refine pA 26 (some 31) (bz 39 0x7ffffff) HT_ ?_
     refine tB 27 (some 32) (bz 39 0xfffffff) HT_ HW_ ?_
     refine pA 28 (some 33) (bz 39 0x1fffffff) HT_ ?_
     refine tB 29 (some 34) (bz 39 0x3fffffff) HT_ HW_ ?_
     refine o1 30 (some 35) (bz 39 0x7fffffff) HT_ rfl (kD Tryz.func51 (impl_SetOk.calls (hr1 := pC HR1_2) (hc1 := HC1_2.out) (w := _) (h := A10.out)) ?_); intro w15 _
     refine nA (some 35) ?_
     refine pA 31 (some 36) (bz 39 0xffffffff) HT_ ?_
     refine pA 32 (some 37) (bz 39 0x1ffffffff) HT_ ?_
     refine pA 33 (some 38) (bz 39 0x3ffffffff) HT_ ?_
     refine tB 34 (some 39) (bz 39 0x7ffffffff) HT_ HW_ ?_
     refine pA 35 (some 40) (bz 39 0xfffffffff) HT_ ?_
     refine pA 36 (some 41) (bz 39 0x1fffffffff) HT_ ?_
     refine pA 37 (some 42) (bz 39 0x3fffffffff) HT_ ?_
     refine pA 38 (some 4) (bz 39 0x7fffffffff) HT_ ?_
     refine done_ (done_of HT_.out (by kernel_rfl)) ?_
     try go_wp2
     go_ret
     exact ⟨y0_17, UpW.out⟩
    replace c11 := Bool.eq_false_iff.mpr c11; subst c11
    rw [if_neg Bool.false_ne_true] at H
    obtain rfl := Option.some.inj H
    try go_wp2
    refine sB [] impl_PartOk.tab1 impl_PartOk.bits1 ?_; intro w16 _ HT_ HW_
    refine tB 0 (some 5) (bz 39 1) HT_ HW_ ?_
    refine o1 1 (some 6) (bz 39 3) HT_ rfl (kC Tryz.func105 (impl_ConfOk.calls (w := _) (h := A5.out)) ?_); intro w17 _
    refine nA (some 6) ?_
    refine pA 2 (some 7) (bz 39 7) HT_ ?_
    refine pA 3 (some 8) (bz 39 15) HT_ ?_
    refine tB 4 (some 9) (bz 39 31) HT_ HW_ ?_
    refine o1 5 (some 10) (bz 39 63) HT_ rfl (kD Tryz.func106 (impl_within.calls (w := _) (h := A7.out)) ?_); intro w18 _
    refine nA (some 10) ?_
    refine pA 6 (some 11) (bz 39 127) HT_ ?_
    refine pA 7 (some 12) (bz 39 255) HT_ ?_
    refine pA 8 (some 13) (bz 39 511) HT_ ?_
    refine tB 9 (some 14) (bz 39 1023) HT_ HW_ ?_
    refine pA 10 (some 15) (bz 39 2047) HT_ ?_
    refine pA 11 (some 16) (bz 39 4095) HT_ ?_
    refine pU 12 (some 17) (bz 39 0x1fff) HT_ ?_
    refine pU 13 (some 18) (bz 39 0x3fff) HT_ ?_
    refine pU 14 (some 19) (bz 39 0x7fff) HT_ ?_
    refine pU 15 (some 20) (bz 39 0xffff) HT_ ?_
    refine pU 16 (some 21) (bz 39 0x1ffff) HT_ ?_
    refine pU 17 (some 22) (bz 39 0x3ffff) HT_ ?_
    refine pU 18 (some 23) (bz 39 0x7ffff) HT_ ?_
    refine pU 19 (some 24) (bz 39 0xfffff) HT_ ?_
    refine pU 20 (some 25) (bz 39 0x1fffff) HT_ ?_
    refine pU 21 (some 26) (bz 39 0x3fffff) HT_ ?_
    refine pU 22 (some 27) (bz 39 0x7fffff) HT_ ?_
    refine pA 23 (some 28) (bz 39 0xffffff) HT_ ?_
    refine pA 24 (some 29) (bz 39 0x1ffffff) HT_ ?_
    refine pA 25 (some 30) (bz 39 0x3ffffff) HT_ ?_
    refine pA 26 (some 31) (bz 39 0x7ffffff) HT_ ?_
    refine tB 27 (some 32) (bz 39 0xfffffff) HT_ HW_ ?_
    refine pA 28 (some 33) (bz 39 0x1fffffff) HT_ ?_
    refine tB 29 (some 34) (bz 39 0x3fffffff) HT_ HW_ ?_
    refine o1 30 (some 35) (bz 39 0x7fffffff) HT_ rfl (kD Tryz.func51 (impl_SetOk.calls (hr1 := pC HR1_2) (hc1 := HC1_2.out) (w := _) (h := A10.out)) ?_); intro w19 _
    refine nA (some 35) ?_
    refine pA 31 (some 36) (bz 39 0xffffffff) HT_ ?_
    refine pA 32 (some 37) (bz 39 0x1ffffffff) HT_ ?_
    refine pU 33 (some 38) (bz 39 0x3ffffffff) HT_ ?_
    refine pU 34 (some 39) (bz 39 0x7ffffffff) HT_ ?_
    refine pU 35 (some 40) (bz 39 0xfffffffff) HT_ ?_
    refine pU 36 (some 41) (bz 39 0x1fffffffff) HT_ ?_
    refine pA 37 (some 42) (bz 39 0x3fffffffff) HT_ ?_
    refine pA 38 (some 4) (bz 39 0x7fffffffff) HT_ ?_
    refine done_ (done_of HT_.out (by kernel_rfl)) ?_
    try go_wp2
    go_ret
    exact ⟨y0_17, UpW.out⟩
   rw [if_neg c9] at H
   have c9b0 : (a1_1.toList == ([] : List UInt8)) = false := beq_eq_false_iff_ne.mpr c9; have c9b1 : (a1_1.toList != ([] : List UInt8)) = true := bne_iff_ne.mpr c9
   (first | rw [c9b0] | (simp only [i64_w, i32_w]; rw [c9b0]) | rw [show List.isEmpty (a1_1.toList) = false from by simpa using c9b0] | skip)
   obtain ⟨t467, A20, H⟩ := oB H; (try dsimp only at H)
   by_cases c21 : t467 = true
   ·
    subst c21
    rw [if_pos rfl] at H
    obtain ⟨t468, A22, H⟩ := oB H; (try dsimp only at H)
    by_cases c23 : t468 = a1_0
    ·
     rw [if_pos c23] at H
     have c23b0 : (t468 == a1_0) = true := beq_iff_eq.mpr c23; have c23b1 : (t468 != a1_0) = false := bne_eq_false_iff_eq.mpr c23; clear c23; obtain ⟨t469, A24, H⟩ := oB H; (try dsimp only at H)
     by_cases c25 : t469 = true
     ·
      subst c25
      rw [if_pos rfl] at H
      obtain rfl := Option.some.inj H
      try go_wp2
      refine sB [] impl_PartOk.tab1 impl_PartOk.bits1 ?_; intro w26 _ HT_ HW_
      refine tB 0 (some 5) (bz 39 1) HT_ HW_ ?_
      refine o1 1 (some 6) (bz 39 3) HT_ rfl (kC Tryz.func105 (impl_ConfOk.calls (w := _) (h := A5.out)) ?_); intro w27 _
      refine nA (some 6) ?_
      refine pA 2 (some 7) (bz 39 7) HT_ ?_
      refine pA 3 (some 8) (bz 39 15) HT_ ?_
      refine tB 4 (some 9) (bz 39 31) HT_ HW_ ?_
      refine o1 5 (some 10) (bz 39 63) HT_ rfl (kD Tryz.func106 (impl_within.calls (w := _) (h := A7.out)) ?_); intro w28 _
      refine nA (some 10) ?_
      refine pA 6 (some 11) (bz 39 127) HT_ ?_
      refine pA 7 (some 12) (bz 39 255) HT_ ?_
      refine pA 8 (some 13) (bz 39 511) HT_ ?_
      refine tB 9 (some 14) (bz 39 1023) HT_ HW_ ?_
      refine pA 10 (some 15) (bz 39 2047) HT_ ?_
      refine pA 11 (some 16) (bz 39 4095) HT_ ?_
      refine pA 12 (some 17) (bz 39 0x1fff) HT_ ?_
      refine tB 13 (some 18) (bz 39 0x3fff) HT_ HW_ ?_
      refine o1 14 (some 19) (bz 39 0x7fff) HT_ rfl (kC Tryz.func107 (impl_NameOk.calls (w := _) (h := A20.out)) ?_); intro w29 _
      refine nA (some 19) ?_
      refine pA 15 (some 20) (bz 39 0xffff) HT_ ?_
      refine pA 16 (some 21) (bz 39 0x1ffff) HT_ ?_
      refine tB 17 (some 22) (bz 39 0x3ffff) HT_ HW_ ?_
      refine pA 19 (some 24) (bz 39 0xbffff) HT_ ?_
      refine tB 20 (some 25) (bz 39 0x1bffff) HT_ HW_ ?_
      refine o1 18 (some 23) (bz 39 0x1fffff) HT_ rfl (kC Tryz.func108 (impl_ViewOf.calls (w := _) (h := A22.out)) ?_); intro w30 _
      refine nA (some 23) ?_
      refine pA 21 (some 26) (bz 39 0x3fffff) HT_ ?_
      refine pA 22 (some 27) (bz 39 0x7fffff) HT_ ?_
      refine pA 23 (some 28) (bz 39 0xffffff) HT_ ?_
      refine pA 24 (some 29) (bz 39 0x1ffffff) HT_ ?_
      refine pA 25 (some 30) (bz 39 0x3ffffff) HT_ ?_
      refine pA 26 (some 31) (bz 39 0x7ffffff) HT_ ?_
      refine tB 27 (some 32) (bz 39 0xfffffff) HT_ HW_ ?_
      refine pA 28 (some 33) (bz 39 0x1fffffff) HT_ ?_
      refine tB 29 (some 34) (bz 39 0x3fffffff) HT_ HW_ ?_
      refine o1 30 (some 35) (bz 39 0x7fffffff) HT_ rfl (kD Tryz.func51 (impl_SetOk.calls (hr1 := pC HR1_2) (hc1 := HC1_2.out) (w := _) (h := A24.out)) ?_); intro w31 _
      refine nA (some 35) ?_
      refine pA 31 (some 36) (bz 39 0xffffffff) HT_ ?_
      refine pA 32 (some 37) (bz 39 0x1ffffffff) HT_ ?_
      refine pA 33 (some 38) (bz 39 0x3ffffffff) HT_ ?_
      refine tB 34 (some 39) (bz 39 0x7ffffffff) HT_ HW_ ?_
      refine pA 35 (some 40) (bz 39 0xfffffffff) HT_ ?_
      refine pA 36 (some 41) (bz 39 0x1fffffffff) HT_ ?_
      refine pA 37 (some 42) (bz 39 0x3fffffffff) HT_ ?_
      refine pA 38 (some 4) (bz 39 0x7fffffffff) HT_ ?_
      refine done_ (done_of HT_.out (by kernel_rfl)) ?_
      try go_wp2
      go_ret
      exact ⟨y0_17, UpW.out⟩
     replace c25 := Bool.eq_false_iff.mpr c25; subst c25
     rw [if_neg Bool.false_ne_true] at H
     obtain rfl := Option.some.inj H
     try go_wp2
     refine sB [] impl_PartOk.tab1 impl_PartOk.bits1 ?_; intro w32 _ HT_ HW_
     refine tB 0 (some 5) (bz 39 1) HT_ HW_ ?_
     refine o1 1 (some 6) (bz 39 3) HT_ rfl (kC Tryz.func105 (impl_ConfOk.calls (w := _) (h := A5.out)) ?_); intro w33 _
     refine nA (some 6) ?_
     refine pA 2 (some 7) (bz 39 7) HT_ ?_
     refine pA 3 (some 8) (bz 39 15) HT_ ?_
     refine tB 4 (some 9) (bz 39 31) HT_ HW_ ?_
     refine o1 5 (some 10) (bz 39 63) HT_ rfl (kD Tryz.func106 (impl_within.calls (w := _) (h := A7.out)) ?_); intro w34 _
     refine nA (some 10) ?_
     refine pA 6 (some 11) (bz 39 127) HT_ ?_
     refine pA 7 (some 12) (bz 39 255) HT_ ?_
     refine pA 8 (some 13) (bz 39 511) HT_ ?_
     refine tB 9 (some 14) (bz 39 1023) HT_ HW_ ?_
     refine pA 10 (some 15) (bz 39 2047) HT_ ?_
     refine pA 11 (some 16) (bz 39 4095) HT_ ?_
     refine pA 12 (some 17) (bz 39 0x1fff) HT_ ?_
     refine tB 13 (some 18) (bz 39 0x3fff) HT_ HW_ ?_
     refine o1 14 (some 19) (bz 39 0x7fff) HT_ rfl (kC Tryz.func107 (impl_NameOk.calls (w := _) (h := A20.out)) ?_); intro w35 _
     refine nA (some 19) ?_
     refine pA 15 (some 20) (bz 39 0xffff) HT_ ?_
     refine pA 16 (some 21) (bz 39 0x1ffff) HT_ ?_
     refine tB 17 (some 22) (bz 39 0x3ffff) HT_ HW_ ?_
     refine pA 19 (some 24) (bz 39 0xbffff) HT_ ?_
     refine tB 20 (some 25) (bz 39 0x1bffff) HT_ HW_ ?_
     refine o1 18 (some 23) (bz 39 0x1fffff) HT_ rfl (kC Tryz.func108 (impl_ViewOf.calls (w := _) (h := A22.out)) ?_); intro w36 _
     refine nA (some 23) ?_
     refine pA 21 (some 26) (bz 39 0x3fffff) HT_ ?_
     refine pA 22 (some 27) (bz 39 0x7fffff) HT_ ?_
     refine pA 23 (some 28) (bz 39 0xffffff) HT_ ?_
     refine pA 24 (some 29) (bz 39 0x1ffffff) HT_ ?_
     refine pA 25 (some 30) (bz 39 0x3ffffff) HT_ ?_
     refine pA 26 (some 31) (bz 39 0x7ffffff) HT_ ?_
     refine tB 27 (some 32) (bz 39 0xfffffff) HT_ HW_ ?_
     refine pA 28 (some 33) (bz 39 0x1fffffff) HT_ ?_
     refine tB 29 (some 34) (bz 39 0x3fffffff) HT_ HW_ ?_
     refine o1 30 (some 35) (bz 39 0x7fffffff) HT_ rfl (kD Tryz.func51 (impl_SetOk.calls (hr1 := pC HR1_2) (hc1 := HC1_2.out) (w := _) (h := A24.out)) ?_); intro w37 _
     refine nA (some 35) ?_
     refine pA 31 (some 36) (bz 39 0xffffffff) HT_ ?_
     refine pA 32 (some 37) (bz 39 0x1ffffffff) HT_ ?_
     refine pU 33 (some 38) (bz 39 0x3ffffffff) HT_ ?_
     refine pU 34 (some 39) (bz 39 0x7ffffffff) HT_ ?_
     refine pU 35 (some 40) (bz 39 0xfffffffff) HT_ ?_
     refine pU 36 (some 41) (bz 39 0x1fffffffff) HT_ ?_
     refine pA 37 (some 42) (bz 39 0x3fffffffff) HT_ ?_
     refine pA 38 (some 4) (bz 39 0x7fffffffff) HT_ ?_
     refine done_ (done_of HT_.out (by kernel_rfl)) ?_
     try go_wp2
     go_ret
     exact ⟨y0_17, UpW.out⟩
    rw [if_neg c23] at H
    have c23b0 : (t468 == a1_0) = false := beq_eq_false_iff_ne.mpr c23; have c23b1 : (t468 != a1_0) = true := bne_iff_ne.mpr c23; obtain rfl := Option.some.inj H
    try go_wp2
    refine sB [] impl_PartOk.tab1 impl_PartOk.bits1 ?_; intro w38 _ HT_ HW_
    refine tB 0 (some 5) (bz 39 1) HT_ HW_ ?_
    refine o1 1 (some 6) (bz 39 3) HT_ rfl (kC Tryz.func105 (impl_ConfOk.calls (w := _) (h := A5.out)) ?_); intro w39 _
    refine nA (some 6) ?_
    refine pA 2 (some 7) (bz 39 7) HT_ ?_
    refine pA 3 (some 8) (bz 39 15) HT_ ?_
    refine tB 4 (some 9) (bz 39 31) HT_ HW_ ?_
    refine o1 5 (some 10) (bz 39 63) HT_ rfl (kD Tryz.func106 (impl_within.calls (w := _) (h := A7.out)) ?_); intro w40 _
    refine nA (some 10) ?_
    refine pA 6 (some 11) (bz 39 127) HT_ ?_
    refine pA 7 (some 12) (bz 39 255) HT_ ?_
    refine pA 8 (some 13) (bz 39 511) HT_ ?_
    refine tB 9 (some 14) (bz 39 1023) HT_ HW_ ?_
    refine pA 10 (some 15) (bz 39 2047) HT_ ?_
    refine pA 11 (some 16) (bz 39 4095) HT_ ?_
    refine pA 12 (some 17) (bz 39 0x1fff) HT_ ?_
    refine tB 13 (some 18) (bz 39 0x3fff) HT_ HW_ ?_
    refine o1 14 (some 19) (bz 39 0x7fff) HT_ rfl (kC Tryz.func107 (impl_NameOk.calls (w := _) (h := A20.out)) ?_); intro w41 _
    refine nA (some 19) ?_
    refine pA 15 (some 20) (bz 39 0xffff) HT_ ?_
    refine pA 16 (some 21) (bz 39 0x1ffff) HT_ ?_
    refine tB 17 (some 22) (bz 39 0x3ffff) HT_ HW_ ?_
    refine pA 19 (some 24) (bz 39 0xbffff) HT_ ?_
    refine tB 20 (some 25) (bz 39 0x1bffff) HT_ HW_ ?_
    refine o1 18 (some 23) (bz 39 0x1fffff) HT_ rfl (kC Tryz.func108 (impl_ViewOf.calls (w := _) (h := A22.out)) ?_); intro w42 _
    refine nA (some 23) ?_
    refine pA 21 (some 26) (bz 39 0x3fffff) HT_ ?_
    refine pA 22 (some 27) (bz 39 0x7fffff) HT_ ?_
    refine pA 23 (some 28) (bz 39 0xffffff) HT_ ?_
    refine pA 24 (some 29) (bz 39 0x1ffffff) HT_ ?_
    refine pA 25 (some 30) (bz 39 0x3ffffff) HT_ ?_
    refine pU 26 (some 31) (bz 39 0x7ffffff) HT_ ?_
    refine pU 27 (some 32) (bz 39 0xfffffff) HT_ ?_
    refine pU 28 (some 33) (bz 39 0x1fffffff) HT_ ?_
    refine pU 29 (some 34) (bz 39 0x3fffffff) HT_ ?_
    refine pU 30 (some 35) (bz 39 0x7fffffff) HT_ ?_
    refine pA 31 (some 36) (bz 39 0xffffffff) HT_ ?_
    refine pA 32 (some 37) (bz 39 0x1ffffffff) HT_ ?_
    refine pU 33 (some 38) (bz 39 0x3ffffffff) HT_ ?_
    refine pU 34 (some 39) (bz 39 0x7ffffffff) HT_ ?_
    refine pU 35 (some 40) (bz 39 0xfffffffff) HT_ ?_
    refine pU 36 (some 41) (bz 39 0x1fffffffff) HT_ ?_
    refine pA 37 (some 42) (bz 39 0x3fffffffff) HT_ ?_
    refine pA 38 (some 4) (bz 39 0x7fffffffff) HT_ ?_
    refine done_ (done_of HT_.out (by kernel_rfl)) ?_
    try go_wp2
    go_ret
    exact ⟨y0_17, UpW.out⟩
   replace c21 := Bool.eq_false_iff.mpr c21; subst c21
   rw [if_neg Bool.false_ne_true] at H
   obtain rfl := Option.some.inj H
   try go_wp2
   refine sB [] impl_PartOk.tab1 impl_PartOk.bits1 ?_; intro w43 _ HT_ HW_
   refine tB 0 (some 5) (bz 39 1) HT_ HW_ ?_
   refine o1 1 (some 6) (bz 39 3) HT_ rfl (kC Tryz.func105 (impl_ConfOk.calls (w := _) (h := A5.out)) ?_); intro w44 _
   refine nA (some 6) ?_
   refine pA 2 (some 7) (bz 39 7) HT_ ?_
   refine pA 3 (some 8) (bz 39 15) HT_ ?_
   refine tB 4 (some 9) (bz 39 31) HT_ HW_ ?_
   refine o1 5 (some 10) (bz 39 63) HT_ rfl (kD Tryz.func106 (impl_within.calls (w := _) (h := A7.out)) ?_); intro w45 _
   refine nA (some 10) ?_
   refine pA 6 (some 11) (bz 39 127) HT_ ?_
   refine pA 7 (some 12) (bz 39 255) HT_ ?_
   refine pA 8 (some 13) (bz 39 511) HT_ ?_
   refine tB 9 (some 14) (bz 39 1023) HT_ HW_ ?_
   refine pA 10 (some 15) (bz 39 2047) HT_ ?_
   refine pA 11 (some 16) (bz 39 4095) HT_ ?_
   refine pA 12 (some 17) (bz 39 0x1fff) HT_ ?_
   refine tB 13 (some 18) (bz 39 0x3fff) HT_ HW_ ?_
   refine o1 14 (some 19) (bz 39 0x7fff) HT_ rfl (kC Tryz.func107 (impl_NameOk.calls (w := _) (h := A20.out)) ?_); intro w46 _
   refine nA (some 19) ?_
   refine pA 15 (some 20) (bz 39 0xffff) HT_ ?_
   refine pU 16 (some 21) (bz 39 0x1ffff) HT_ ?_
   refine pU 17 (some 22) (bz 39 0x3ffff) HT_ ?_
   refine pU 18 (some 23) (bz 39 0x7ffff) HT_ ?_
   refine pU 19 (some 24) (bz 39 0xfffff) HT_ ?_
   refine pU 20 (some 25) (bz 39 0x1fffff) HT_ ?_
   refine pU 21 (some 26) (bz 39 0x3fffff) HT_ ?_
   refine pA 22 (some 27) (bz 39 0x7fffff) HT_ ?_
   refine pA 23 (some 28) (bz 39 0xffffff) HT_ ?_
   refine pA 24 (some 29) (bz 39 0x1ffffff) HT_ ?_
   refine pA 25 (some 30) (bz 39 0x3ffffff) HT_ ?_
   refine pU 26 (some 31) (bz 39 0x7ffffff) HT_ ?_
   refine pU 27 (some 32) (bz 39 0xfffffff) HT_ ?_
   refine pU 28 (some 33) (bz 39 0x1fffffff) HT_ ?_
   refine pU 29 (some 34) (bz 39 0x3fffffff) HT_ ?_
   refine pU 30 (some 35) (bz 39 0x7fffffff) HT_ ?_
   refine pA 31 (some 36) (bz 39 0xffffffff) HT_ ?_
   refine pA 32 (some 37) (bz 39 0x1ffffffff) HT_ ?_
   refine pU 33 (some 38) (bz 39 0x3ffffffff) HT_ ?_
   refine pU 34 (some 39) (bz 39 0x7ffffffff) HT_ ?_
   refine pU 35 (some 40) (bz 39 0xfffffffff) HT_ ?_
   refine pU 36 (some 41) (bz 39 0x1fffffffff) HT_ ?_
   refine pA 37 (some 42) (bz 39 0x3fffffffff) HT_ ?_
   refine pA 38 (some 4) (bz 39 0x7fffffffff) HT_ ?_
   refine done_ (done_of HT_.out (by kernel_rfl)) ?_
   try go_wp2
   go_ret
   exact ⟨y0_17, UpW.out⟩
  replace c8 := Bool.eq_false_iff.mpr c8; subst c8
  rw [if_neg Bool.false_ne_true] at H
  obtain rfl := Option.some.inj H
  try go_wp2
  refine sB [] impl_PartOk.tab1 impl_PartOk.bits1 ?_; intro w47 _ HT_ HW_
  refine tB 0 (some 5) (bz 39 1) HT_ HW_ ?_
  refine o1 1 (some 6) (bz 39 3) HT_ rfl (kC Tryz.func105 (impl_ConfOk.calls (w := _) (h := A5.out)) ?_); intro w48 _
  refine nA (some 6) ?_
  refine pA 2 (some 7) (bz 39 7) HT_ ?_
  refine pA 3 (some 8) (bz 39 15) HT_ ?_
  refine tB 4 (some 9) (bz 39 31) HT_ HW_ ?_
  refine o1 5 (some 10) (bz 39 63) HT_ rfl (kD Tryz.func106 (impl_within.calls (w := _) (h := A7.out)) ?_); intro w49 _
  refine nA (some 10) ?_
  refine pA 6 (some 11) (bz 39 127) HT_ ?_
  refine pA 7 (some 12) (bz 39 255) HT_ ?_
  refine pU 8 (some 13) (bz 39 511) HT_ ?_
  refine pU 9 (some 14) (bz 39 1023) HT_ ?_
  refine pU 10 (some 15) (bz 39 2047) HT_ ?_
  refine pU 11 (some 16) (bz 39 4095) HT_ ?_
  refine pU 12 (some 17) (bz 39 0x1fff) HT_ ?_
  refine pU 13 (some 18) (bz 39 0x3fff) HT_ ?_
  refine pU 14 (some 19) (bz 39 0x7fff) HT_ ?_
  refine pU 15 (some 20) (bz 39 0xffff) HT_ ?_
  refine pU 16 (some 21) (bz 39 0x1ffff) HT_ ?_
  refine pU 17 (some 22) (bz 39 0x3ffff) HT_ ?_
  refine pU 18 (some 23) (bz 39 0x7ffff) HT_ ?_
  refine pU 19 (some 24) (bz 39 0xfffff) HT_ ?_
  refine pU 20 (some 25) (bz 39 0x1fffff) HT_ ?_
  refine pU 21 (some 26) (bz 39 0x3fffff) HT_ ?_
  refine pU 22 (some 27) (bz 39 0x7fffff) HT_ ?_
  refine pU 23 (some 28) (bz 39 0xffffff) HT_ ?_
  refine pA 24 (some 29) (bz 39 0x1ffffff) HT_ ?_
  refine pA 25 (some 30) (bz 39 0x3ffffff) HT_ ?_
  refine pU 26 (some 31) (bz 39 0x7ffffff) HT_ ?_
  refine pU 27 (some 32) (bz 39 0xfffffff) HT_ ?_
  refine pU 28 (some 33) (bz 39 0x1fffffff) HT_ ?_
  refine pU 29 (some 34) (bz 39 0x3fffffff) HT_ ?_
  refine pU 30 (some 35) (bz 39 0x7fffffff) HT_ ?_
  refine pA 31 (some 36) (bz 39 0xffffffff) HT_ ?_
  refine pA 32 (some 37) (bz 39 0x1ffffffff) HT_ ?_
  refine pU 33 (some 38) (bz 39 0x3ffffffff) HT_ ?_
  refine pU 34 (some 39) (bz 39 0x7ffffffff) HT_ ?_
  refine pU 35 (some 40) (bz 39 0xfffffffff) HT_ ?_
  refine pU 36 (some 41) (bz 39 0x1fffffffff) HT_ ?_
  refine pA 37 (some 42) (bz 39 0x3fffffffff) HT_ ?_
  refine pA 38 (some 4) (bz 39 0x7fffffffff) HT_ ?_
  refine done_ (done_of HT_.out (by kernel_rfl)) ?_
  try go_wp2
  go_ret
  exact ⟨y0_17, UpW.out⟩
 replace c6 := Bool.eq_false_iff.mpr c6; subst c6
 rw [if_neg Bool.false_ne_true] at H
 obtain rfl := Option.some.inj H
 try go_wp2
 refine sB [] impl_PartOk.tab1 impl_PartOk.bits1 ?_; intro w50 _ HT_ HW_
 refine tB 0 (some 5) (bz 39 1) HT_ HW_ ?_
 refine o1 1 (some 6) (bz 39 3) HT_ rfl (kC Tryz.func105 (impl_ConfOk.calls (w := _) (h := A5.out)) ?_); intro w51 _
 refine nA (some 6) ?_
 refine pA 2 (some 7) (bz 39 7) HT_ ?_
 refine pU 3 (some 8) (bz 39 15) HT_ ?_
 refine pU 4 (some 9) (bz 39 31) HT_ ?_
 refine pU 5 (some 10) (bz 39 63) HT_ ?_
 refine pA 6 (some 11) (bz 39 127) HT_ ?_
 refine pA 7 (some 12) (bz 39 255) HT_ ?_
 refine pU 8 (some 13) (bz 39 511) HT_ ?_
 refine pU 9 (some 14) (bz 39 1023) HT_ ?_
 refine pU 10 (some 15) (bz 39 2047) HT_ ?_
 refine pU 11 (some 16) (bz 39 4095) HT_ ?_
 refine pU 12 (some 17) (bz 39 0x1fff) HT_ ?_
 refine pU 13 (some 18) (bz 39 0x3fff) HT_ ?_
 refine pU 14 (some 19) (bz 39 0x7fff) HT_ ?_
 refine pU 15 (some 20) (bz 39 0xffff) HT_ ?_
 refine pU 16 (some 21) (bz 39 0x1ffff) HT_ ?_
 refine pU 17 (some 22) (bz 39 0x3ffff) HT_ ?_
 refine pU 18 (some 23) (bz 39 0x7ffff) HT_ ?_
 refine pU 19 (some 24) (bz 39 0xfffff) HT_ ?_
 refine pU 20 (some 25) (bz 39 0x1fffff) HT_ ?_
 refine pU 21 (some 26) (bz 39 0x3fffff) HT_ ?_
 refine pU 22 (some 27) (bz 39 0x7fffff) HT_ ?_
 refine pU 23 (some 28) (bz 39 0xffffff) HT_ ?_
 refine pA 24 (some 29) (bz 39 0x1ffffff) HT_ ?_
 refine pA 25 (some 30) (bz 39 0x3ffffff) HT_ ?_
 refine pU 26 (some 31) (bz 39 0x7ffffff) HT_ ?_
 refine pU 27 (some 32) (bz 39 0xfffffff) HT_ ?_
 refine pU 28 (some 33) (bz 39 0x1fffffff) HT_ ?_
 refine pU 29 (some 34) (bz 39 0x3fffffff) HT_ ?_
 refine pU 30 (some 35) (bz 39 0x7fffffff) HT_ ?_
 refine pA 31 (some 36) (bz 39 0xffffffff) HT_ ?_
 refine pA 32 (some 37) (bz 39 0x1ffffffff) HT_ ?_
 refine pU 33 (some 38) (bz 39 0x3ffffffff) HT_ ?_
 refine pU 34 (some 39) (bz 39 0x7ffffffff) HT_ ?_
 refine pU 35 (some 40) (bz 39 0xfffffffff) HT_ ?_
 refine pU 36 (some 41) (bz 39 0x1fffffffff) HT_ ?_
 refine pA 37 (some 42) (bz 39 0x3fffffffff) HT_ ?_
 refine pA 38 (some 4) (bz 39 0x7fffffffff) HT_ ?_
 refine done_ (done_of HT_.out (by kernel_rfl)) ?_
 try go_wp2
 go_ret
 exact ⟨y0_17, UpW.out⟩
def cmp_isNaN_int.f (a0 : Int) : Option (Bool) := some (a0 != a0)
theorem cmp_isNaN_int.calls (a0 : Int) (r : Bool) (w : World) (h : cmp_isNaN_int.f a0 = some r) :
  Calls Tryz.prog 162 #[.int .i64 a0] w fun e w' => e = .returned (.bool r) ∧ Drawn0 w w' := by
 have H := h; unfold cmp_isNaN_int.f at H; clear h; obtain rfl := Option.some.inj H
 go_enter Tryz.func162, Tryz.ntmps162
 go_wp2
 go_ret
 exact ⟨y0_17, y0_15⟩
def cmp_Compare_int.f (a0 : Int) (a1 : Int) : Option (Int) := (cmp_isNaN_int.f a0).bind fun t470 => ((cmp_isNaN_int.f a1).bind fun t471 => (if t470 = true then (if t471 = true then (some 0) else (some (-1))) else (if t471 = true then (some 1) else (if a0 < a1 then (some (-1)) else (if a0 > a1 then (some 1) else (some 0))))))
theorem cmp_Compare_int.calls (a0 : Int) (a1 : Int) (r : Int) (w : World) (h : cmp_Compare_int.f a0 a1 = some r) :
  Calls Tryz.prog 136 #[.int .i64 a0, .int .i64 a1] w fun e w' => e = .returned (.int .i64 r) ∧ Drawn0 w w' := by
 have H := h; unfold cmp_Compare_int.f at H
 clear h; obtain ⟨t470, A3, H⟩ := oB H; (try dsimp only at H); obtain ⟨t471, A4, H⟩ := oB H; (try dsimp only at H)
 by_cases c5 : t470 = true
 ·
  subst c5
  rw [if_pos rfl] at H
  by_cases c6 : t471 = true
  ·
   subst c6
   rw [if_pos rfl] at H
   obtain rfl := Option.some.inj H
   go_enter Tryz.func136, Tryz.ntmps136
   go_wp2_with (first | ((with_reducible refine gate_callee (f := 162) rfl ?_); refine gB (some 8) Tryz.func162 #[.int .i64 a0] ?_; (with_reducible refine (cmp_isNaN_int.calls a0 true _ A3.out).mono ?_); rintro e w' ⟨rfl, ⟨nd, rfl⟩⟩; refine ⟨_, rfl, ?_⟩) | ((with_reducible refine gate_callee (f := 162) rfl ?_); refine gB (some 10) Tryz.func162 #[.int .i64 a1] ?_; (with_reducible refine (cmp_isNaN_int.calls a1 true _ A4.out).mono ?_); rintro e w' ⟨rfl, ⟨nd, rfl⟩⟩; refine ⟨_, rfl, ?_⟩))
   go_ret
   exact ⟨y0_17, y0_15⟩
  replace c6 := Bool.eq_false_iff.mpr c6; subst c6
  rw [if_neg Bool.false_ne_true] at H
  obtain rfl := Option.some.inj H
  go_enter Tryz.func136, Tryz.ntmps136
  go_wp2_with (first | ((with_reducible refine gate_callee (f := 162) rfl ?_); refine gB (some 8) Tryz.func162 #[.int .i64 a0] ?_; (with_reducible refine (cmp_isNaN_int.calls a0 true _ A3.out).mono ?_); rintro e w' ⟨rfl, ⟨nd, rfl⟩⟩; refine ⟨_, rfl, ?_⟩) | ((with_reducible refine gate_callee (f := 162) rfl ?_); refine gB (some 10) Tryz.func162 #[.int .i64 a1] ?_; (with_reducible refine (cmp_isNaN_int.calls a1 false _ A4.out).mono ?_); rintro e w' ⟨rfl, ⟨nd, rfl⟩⟩; refine ⟨_, rfl, ?_⟩))
  go_ret
  exact ⟨y0_17, y0_15⟩
 replace c5 := Bool.eq_false_iff.mpr c5; subst c5
 rw [if_neg Bool.false_ne_true] at H
 by_cases c7 : t471 = true
 ·
  subst c7
  rw [if_pos rfl] at H
  obtain rfl := Option.some.inj H
  go_enter Tryz.func136, Tryz.ntmps136
  go_wp2_with (first | ((with_reducible refine gate_callee (f := 162) rfl ?_); refine gB (some 8) Tryz.func162 #[.int .i64 a0] ?_; (with_reducible refine (cmp_isNaN_int.calls a0 false _ A3.out).mono ?_); rintro e w' ⟨rfl, ⟨nd, rfl⟩⟩; refine ⟨_, rfl, ?_⟩) | ((with_reducible refine gate_callee (f := 162) rfl ?_); refine gB (some 10) Tryz.func162 #[.int .i64 a1] ?_; (with_reducible refine (cmp_isNaN_int.calls a1 true _ A4.out).mono ?_); rintro e w' ⟨rfl, ⟨nd, rfl⟩⟩; refine ⟨_, rfl, ?_⟩))
  go_ret
  exact ⟨y0_17, y0_15⟩
 replace c7 := Bool.eq_false_iff.mpr c7; subst c7
 rw [if_neg Bool.false_ne_true] at H
 by_cases c8 : a0 < a1
 ·
  rw [if_pos c8] at H
  have c8b0 : decide (a0 < a1) = true := decide_eq_true c8; clear c8; obtain rfl := Option.some.inj H
  go_enter Tryz.func136, Tryz.ntmps136
  go_wp2_with (first | ((with_reducible refine gate_callee (f := 162) rfl ?_); refine gB (some 8) Tryz.func162 #[.int .i64 a0] ?_; (with_reducible refine (cmp_isNaN_int.calls a0 false _ A3.out).mono ?_); rintro e w' ⟨rfl, ⟨nd, rfl⟩⟩; refine ⟨_, rfl, ?_⟩) | ((with_reducible refine gate_callee (f := 162) rfl ?_); refine gB (some 10) Tryz.func162 #[.int .i64 a1] ?_; (with_reducible refine (cmp_isNaN_int.calls a1 false _ A4.out).mono ?_); rintro e w' ⟨rfl, ⟨nd, rfl⟩⟩; refine ⟨_, rfl, ?_⟩))
  go_ret
  exact ⟨y0_17, y0_15⟩
 rw [if_neg c8] at H
 have c8b0 : decide (a0 < a1) = false := decide_eq_false c8; clear c8
 by_cases c9 : a0 > a1
 ·
  rw [if_pos c9] at H
  have c9b0 : decide (a1 < a0) = true := decide_eq_true c9; clear c9; obtain rfl := Option.some.inj H
  go_enter Tryz.func136, Tryz.ntmps136
  go_wp2_with (first | ((with_reducible refine gate_callee (f := 162) rfl ?_); refine gB (some 8) Tryz.func162 #[.int .i64 a0] ?_; (with_reducible refine (cmp_isNaN_int.calls a0 false _ A3.out).mono ?_); rintro e w' ⟨rfl, ⟨nd, rfl⟩⟩; refine ⟨_, rfl, ?_⟩) | ((with_reducible refine gate_callee (f := 162) rfl ?_); refine gB (some 10) Tryz.func162 #[.int .i64 a1] ?_; (with_reducible refine (cmp_isNaN_int.calls a1 false _ A4.out).mono ?_); rintro e w' ⟨rfl, ⟨nd, rfl⟩⟩; refine ⟨_, rfl, ?_⟩))
  go_ret
  exact ⟨y0_17, y0_15⟩
 rw [if_neg c9] at H
 have c9b0 : decide (a1 < a0) = false := decide_eq_false c9; clear c9; obtain rfl := Option.some.inj H
 go_enter Tryz.func136, Tryz.ntmps136
 go_wp2_with (first | ((with_reducible refine gate_callee (f := 162) rfl ?_); refine gB (some 8) Tryz.func162 #[.int .i64 a0] ?_; (with_reducible refine (cmp_isNaN_int.calls a0 false _ A3.out).mono ?_); rintro e w' ⟨rfl, ⟨nd, rfl⟩⟩; refine ⟨_, rfl, ?_⟩) | ((with_reducible refine gate_callee (f := 162) rfl ?_); refine gB (some 10) Tryz.func162 #[.int .i64 a1] ?_; (with_reducible refine (cmp_isNaN_int.calls a1 false _ A4.out).mono ?_); rintro e w' ⟨rfl, ⟨nd, rfl⟩⟩; refine ⟨_, rfl, ?_⟩))
 go_ret
 exact ⟨y0_17, y0_15⟩
def cmp_isNaN_string.f (a0 : ByteArray) : Option (Bool) := some (a0.toList != a0.toList)
theorem cmp_isNaN_string.calls (a0 : ByteArray) (r : Bool) (w : World) (h : cmp_isNaN_string.f a0 = some r) :
  Calls Tryz.prog 163 #[.string a0] w fun e w' => e = .returned (.bool r) ∧ Drawn0 w w' := by
 have H := h; unfold cmp_isNaN_string.f at H; clear h; obtain rfl := Option.some.inj H
 go_enter Tryz.func163, Tryz.ntmps163
 go_wp2
 go_ret
 exact ⟨y0_17, y0_15⟩
theorem lessGt : ∀ x y : List UInt8, (!(Op.bytesLess x y || x == y)) = Op.bytesLess y x
 | [], [] => by simp [Op.bytesLess]
 | [], b :: y => by simp [Op.bytesLess]
 | a :: x, [] => by simp [Op.bytesLess]
 | a :: x, b :: y => by
  have ih := lessGt x y
  simp only [Op.bytesLess]
  by_cases h1 : a < b
  ·
   have h2 : ¬ b < a := by rw [UInt8.lt_iff_toNat_lt] at h1 ⊢; omega
   have h3 : b ≠ a := by rintro rfl; exact h2 h1
   simp [h1, h2, h3]
  by_cases h2 : a = b
  ·
   subst h2
   simp only [List.cons_beq_cons, beq_self_eq_true, Bool.true_and, h1, decide_false, Bool.false_or]
   exact ih
  have h3 : b < a := by
   rw [UInt8.lt_iff_toNat_lt] at h1 ⊢
   have : a.toNat ≠ b.toNat := fun e => h2 (UInt8.toNat_inj.1 e)
   omega
  have h4 : b ≠ a := fun e => h2 e.symm
  simp [h1, h2, h3]
theorem gtr_str (t : TypeId) (a b : ByteArray) : binOp .gtr t (.string a) (.string b) = pure (.bool (Op.bytesLess b.toList a.toList)) := by
 rw [← lessGt]
 simp [binOp, Op.stringOp]
def cmp_Compare_string.f (a0 : ByteArray) (a1 : ByteArray) : Option (Int) := (cmp_isNaN_string.f a0).bind fun t472 => ((cmp_isNaN_string.f a1).bind fun t473 => (if t472 = true then (if t473 = true then (some 0) else (some (-1))) else (if t473 = true then (some 1) else (if (Op.bytesLess a0.toList a1.toList) = true then (some (-1)) else (if (Op.bytesLess a1.toList a0.toList) = true then (some 1) else (some 0))))))
theorem cmp_Compare_string.calls (a0 : ByteArray) (a1 : ByteArray) (r : Int) (w : World) (h : cmp_Compare_string.f a0 a1 = some r) :
  Calls Tryz.prog 137 #[.string a0, .string a1] w fun e w' => e = .returned (.int .i64 r) ∧ Drawn0 w w' := by
 have hgs := gtr_str
 have H := h; unfold cmp_Compare_string.f at H
 clear h; obtain ⟨t472, A3, H⟩ := oB H; (try dsimp only at H); obtain ⟨t473, A4, H⟩ := oB H; (try dsimp only at H)
 by_cases c5 : t472 = true
 ·
  subst c5
  rw [if_pos rfl] at H
  by_cases c6 : t473 = true
  ·
   subst c6
   rw [if_pos rfl] at H
   obtain rfl := Option.some.inj H
   go_enter Tryz.func137, Tryz.ntmps137
   go_wp2_with (first | ((with_reducible refine gate_callee (f := 163) rfl ?_); refine gB (some 8) Tryz.func163 #[.string a0] ?_; (with_reducible refine (cmp_isNaN_string.calls a0 true _ A3.out).mono ?_); rintro e w' ⟨rfl, ⟨nd, rfl⟩⟩; refine ⟨_, rfl, ?_⟩) | ((with_reducible refine gate_callee (f := 163) rfl ?_); refine gB (some 10) Tryz.func163 #[.string a1] ?_; (with_reducible refine (cmp_isNaN_string.calls a1 true _ A4.out).mono ?_); rintro e w' ⟨rfl, ⟨nd, rfl⟩⟩; refine ⟨_, rfl, ?_⟩))
   go_ret
   exact ⟨y0_17, y0_15⟩
  replace c6 := Bool.eq_false_iff.mpr c6; subst c6
  rw [if_neg Bool.false_ne_true] at H
  obtain rfl := Option.some.inj H
  go_enter Tryz.func137, Tryz.ntmps137
  go_wp2_with (first | ((with_reducible refine gate_callee (f := 163) rfl ?_); refine gB (some 8) Tryz.func163 #[.string a0] ?_; (with_reducible refine (cmp_isNaN_string.calls a0 true _ A3.out).mono ?_); rintro e w' ⟨rfl, ⟨nd, rfl⟩⟩; refine ⟨_, rfl, ?_⟩) | ((with_reducible refine gate_callee (f := 163) rfl ?_); refine gB (some 10) Tryz.func163 #[.string a1] ?_; (with_reducible refine (cmp_isNaN_string.calls a1 false _ A4.out).mono ?_); rintro e w' ⟨rfl, ⟨nd, rfl⟩⟩; refine ⟨_, rfl, ?_⟩))
  go_ret
  exact ⟨y0_17, y0_15⟩
 replace c5 := Bool.eq_false_iff.mpr c5; subst c5
 rw [if_neg Bool.false_ne_true] at H
 by_cases c7 : t473 = true
 ·
  subst c7
  rw [if_pos rfl] at H
  obtain rfl := Option.some.inj H
  go_enter Tryz.func137, Tryz.ntmps137
  go_wp2_with (first | ((with_reducible refine gate_callee (f := 163) rfl ?_); refine gB (some 8) Tryz.func163 #[.string a0] ?_; (with_reducible refine (cmp_isNaN_string.calls a0 false _ A3.out).mono ?_); rintro e w' ⟨rfl, ⟨nd, rfl⟩⟩; refine ⟨_, rfl, ?_⟩) | ((with_reducible refine gate_callee (f := 163) rfl ?_); refine gB (some 10) Tryz.func163 #[.string a1] ?_; (with_reducible refine (cmp_isNaN_string.calls a1 true _ A4.out).mono ?_); rintro e w' ⟨rfl, ⟨nd, rfl⟩⟩; refine ⟨_, rfl, ?_⟩))
  go_ret
  exact ⟨y0_17, y0_15⟩
 replace c7 := Bool.eq_false_iff.mpr c7; subst c7
 rw [if_neg Bool.false_ne_true] at H
 by_cases c8 : (Op.bytesLess a0.toList a1.toList) = true
 ·
  rw [if_pos c8] at H
  have c8b0 : (Op.bytesLess a0.toList a1.toList) = true := c8; clear c8; obtain rfl := Option.some.inj H
  go_enter Tryz.func137, Tryz.ntmps137
  go_wp2_with (first | ((with_reducible refine gate_callee (f := 163) rfl ?_); refine gB (some 8) Tryz.func163 #[.string a0] ?_; (with_reducible refine (cmp_isNaN_string.calls a0 false _ A3.out).mono ?_); rintro e w' ⟨rfl, ⟨nd, rfl⟩⟩; refine ⟨_, rfl, ?_⟩) | ((with_reducible refine gate_callee (f := 163) rfl ?_); refine gB (some 10) Tryz.func163 #[.string a1] ?_; (with_reducible refine (cmp_isNaN_string.calls a1 false _ A4.out).mono ?_); rintro e w' ⟨rfl, ⟨nd, rfl⟩⟩; refine ⟨_, rfl, ?_⟩))
  go_ret
  exact ⟨y0_17, y0_15⟩
 rw [if_neg c8] at H
 have c8b0 : (Op.bytesLess a0.toList a1.toList) = false := by simpa using c8
 clear c8
 by_cases c9 : (Op.bytesLess a1.toList a0.toList) = true
 ·
  rw [if_pos c9] at H
  have c9b0 : (Op.bytesLess a1.toList a0.toList) = true := c9; clear c9; obtain rfl := Option.some.inj H
  go_enter Tryz.func137, Tryz.ntmps137
  go_wp2_with (first | ((with_reducible refine gate_callee (f := 163) rfl ?_); refine gB (some 8) Tryz.func163 #[.string a0] ?_; (with_reducible refine (cmp_isNaN_string.calls a0 false _ A3.out).mono ?_); rintro e w' ⟨rfl, ⟨nd, rfl⟩⟩; refine ⟨_, rfl, ?_⟩) | ((with_reducible refine gate_callee (f := 163) rfl ?_); refine gB (some 10) Tryz.func163 #[.string a1] ?_; (with_reducible refine (cmp_isNaN_string.calls a1 false _ A4.out).mono ?_); rintro e w' ⟨rfl, ⟨nd, rfl⟩⟩; refine ⟨_, rfl, ?_⟩))
  go_ret
  exact ⟨y0_17, y0_15⟩
 rw [if_neg c9] at H
 have c9b0 : (Op.bytesLess a1.toList a0.toList) = false := by simpa using c9
 clear c9; obtain rfl := Option.some.inj H
 go_enter Tryz.func137, Tryz.ntmps137
 go_wp2_with (first | ((with_reducible refine gate_callee (f := 163) rfl ?_); refine gB (some 8) Tryz.func163 #[.string a0] ?_; (with_reducible refine (cmp_isNaN_string.calls a0 false _ A3.out).mono ?_); rintro e w' ⟨rfl, ⟨nd, rfl⟩⟩; refine ⟨_, rfl, ?_⟩) | ((with_reducible refine gate_callee (f := 163) rfl ?_); refine gB (some 10) Tryz.func163 #[.string a1] ?_; (with_reducible refine (cmp_isNaN_string.calls a1 false _ A4.out).mono ?_); rintro e w' ⟨rfl, ⟨nd, rfl⟩⟩; refine ⟨_, rfl, ?_⟩))
 go_ret
 exact ⟨y0_17, y0_15⟩
def impl_comparePlace.f (a0_0 : Int) (a0_1 : ByteArray) (l0_2 : List Int) (a1_0 : Int) (a1_1 : ByteArray) (l1_2 : List Int) : Option (Int) := (cmp_Compare_int.f a0_0 a1_0).bind fun t476 => (if t476 = 0 then ((cmp_Compare_string.f a0_1 a1_1).bind fun t477 => (some t477)) else (some t476))
theorem impl_comparePlace.calls (a0_0 : Int) (a0_1 : ByteArray) (A0_2 : Option Addr) (c0_2 : Nat) (l0_2 : List Int) (a1_0 : Int) (a1_1 : ByteArray) (A1_2 : Option Addr) (c1_2 : Nat) (l1_2 : List Int) (r : Int) (w : World) (hr0_2 : Kd.C (Kd.int .i64) w A0_2 l0_2.length l0_2) (hc0_2 : l0_2.length ≤ c0_2) (hr1_2 : Kd.C (Kd.int .i64) w A1_2 l1_2.length l1_2) (hc1_2 : l1_2.length ≤ c1_2) (h : impl_comparePlace.f a0_0 a0_1 l0_2 a1_0 a1_1 l1_2 = some r) :
  Calls Tryz.prog 83 #[.agg #[.int .i64 a0_0, .string a0_1, .slice A0_2 l0_2.length c0_2], .agg #[.int .i64 a1_0, .string a1_1, .slice A1_2 l1_2.length c1_2]] w fun e w' => e = .returned (.int .i64 r) ∧ Below w.heap.size w w' := by
 have hu48 := Tryz.underlying48; have HR0_2 := Aside0.mk hr0_2; have HC0_2 := Aside0.mk hc0_2; clear hr0_2 hc0_2; have HR1_2 := Aside0.mk hr1_2; have HC1_2 := Aside0.mk hc1_2; clear hr1_2 hc1_2; have HB := Aside0.mk (Below.refl w.heap.size w)
 have H := h; unfold impl_comparePlace.f at H
 clear h; obtain ⟨t476, A3, H⟩ := oB H; (try dsimp only at H)
 go_enter Tryz.func83, Tryz.ntmps83
 have H' := Aside0.mk H; clear H
 go_upto_if 12 with (first | ((with_reducible refine gd 2 ?_); refine bL 2 #[.int .i64 a0_0, .string a0_1, .slice A0_2 l0_2.length c0_2] 48 ?_; intro gb474 w4 _ _ _) | ((with_reducible refine gd 3 ?_); refine bL 3 #[.int .i64 a1_0, .string a1_1, .slice A1_2 l1_2.length c1_2] 48 ?_; intro gb475 w5 _ _ _) | ((with_reducible refine gate_callee (f := 136) rfl ?_); refine gD (some 10) Tryz.func136 (cmp_Compare_int.calls (w := _) (h := A3.out)) ?_; intro w6 _))
 have H := H'.out; clear H'
 by_cases c7 : t476 = 0
 ·
  rw [if_pos c7] at H
  have c7b0 : (t476 == 0) = true := beq_iff_eq.mpr c7; have c7b1 : (t476 != 0) = false := bne_eq_false_iff_eq.mpr c7; clear c7
  (first | rw [c7b0] | (simp only [i64_w, i32_w]; rw [c7b0]) | skip)
  obtain ⟨t477, A8, H⟩ := oB H; (try dsimp only at H); obtain rfl := Option.some.inj H
  go_wp2_with (first | ((with_reducible refine gate_callee (f := 137) rfl ?_); refine gD (some 18) Tryz.func137 (cmp_Compare_string.calls (w := _) (h := A8.out)) ?_; intro w9 _))
  go_ret
  exact ⟨y0_17, UpW.out⟩
 rw [if_neg c7] at H
 have c7b0 : (t476 == 0) = false := beq_eq_false_iff_ne.mpr c7; have c7b1 : (t476 != 0) = true := bne_iff_ne.mpr c7
 (first | rw [c7b0] | (simp only [i64_w, i32_w]; rw [c7b0]) | skip)
 obtain rfl := Option.some.inj H
 go_wp2
 go_ret
 exact ⟨y0_17, UpW.out⟩
end Go.Proofs.YtdmjhgogljhfkaaGreatDoor.PFnParts
