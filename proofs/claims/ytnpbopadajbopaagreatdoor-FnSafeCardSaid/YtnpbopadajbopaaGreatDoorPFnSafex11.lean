-- By a program of this session, out of the translation (the print of the kit, with turns of its own). Lean checks it.
import Derived.Test.YtnpbopadajbopaaGreatDoorPFnSafex0
import Derived.Test.YtnpbopadajbopaaGreatDoorPFnSafex10
namespace Go.Proofs.YtnpbopadajbopaaGreatDoor.PFnSafe
open Go.RowKit Go.Proofs.YtnpbopadajbopaaGreatDoorW.PrintWords Go.Proofs.YtnpbopadajbopaaGreatDoorW.PrintLast Go.Proofs.YtnpbopadajbopaaGreatDoorW.PrintMore
attribute [local go_sem] max2_int min2_int max_two min_two max_three min_three max_four min_four   -- for this text's walks alone
attribute [local go_sem] cell_in frozen_in
set_option synthInstance.maxSize 1000000
set_option synthInstance.maxHeartbeats 2000000
set_option linter.unusedVariables false
set_option linter.unusedSimpArgs false

/-! ### impl_TxsOf: function 196 -/
def impl_TxsOf.l0 : Nat → List (S204) → List ByteArray → Int → Int → Option ((List (S204)) × Bool)
 | 0, _, _, _, _ => none
 | k + 1, x4, x12, x13, x14 => if x14 < x13 then (if 0 ≤ x14 then (if x14 < (x12.length : Int) then ((impl_TxOf.f k (rdOf ByteArray.empty x12 x14)).bind fun bt728 => (if bt728.2.2.2.2 = true then (if x4.length < 4398046511104 then (impl_TxsOf.l0 k (x4 ++ [(⟨bt728.1, bt728.2.1, bt728.2.2.1, bt728.2.2.2.1⟩ : S204)]) x12 x13 (wrap64 (x14 + 1))) else (none)) else (some (([] : List (S204)), false)))) else (none)) else (none)) else (some (x4, true))
def impl_TxsOf.f (k : Nat) (a0 : ByteArray) : Option ((List (S204)) × Bool) := if a0.toList = ([] : List UInt8) then (some (([] : List (S204)), true)) else ((impl_Split.f a0 44).bind fun t724 => (impl_TxsOf.l0 k ([] : List (S204)) t724 (t724.length : Int) 0))
theorem impl_TxsOf.mono_l : ∀ k, (∀ y0 y1 y2 y3, LeO (impl_TxsOf.l0 k y0 y1 y2 y3) (impl_TxsOf.l0 (k + 1) y0 y1 y2 y3))
 | 0 => fun _ _ _ _ r h => by simp [impl_TxsOf.l0] at h
 | k + 1 => by
  have ih0 := impl_TxsOf.mono_l k
  intro y0 y1 y2 y3
  unfold impl_TxsOf.l0
  repeat' first | (with_reducible exact ih0 _ _ _ _) | (with_reducible exact impl_TxOf.mono _ _) | (with_reducible exact LeO.refl _) | (with_reducible exact LeO.none _) | (with_reducible refine LeO.ite ?_ ?_) | (with_reducible refine LeO.bind ?_ (fun _ => ?_))
theorem impl_TxsOf.mono : ∀ a0 k, LeO (impl_TxsOf.f k a0) (impl_TxsOf.f (k + 1) a0) := by
 intro a0 k
 have ih0 := impl_TxsOf.mono_l k
 unfold impl_TxsOf.f
 repeat' first | (with_reducible exact ih0 _ _ _ _) | (with_reducible exact impl_TxOf.mono _ _) | (with_reducible exact LeO.refl _) | (with_reducible exact LeO.none _) | (with_reducible refine LeO.ite ?_ ?_) | (with_reducible refine LeO.bind ?_ (fun _ => ?_))
set_option maxHeartbeats 8000000 in
set_option maxRecDepth 100000 in
theorem impl_TxsOf.calls (k : Nat) (a0 : ByteArray) (r1 : List (S204)) (r2 : Bool) (w : World) (h : impl_TxsOf.f k a0 = some (r1, r2)) (hG : Glob w := by exact gG HG HB) :
  Calls Tryz.prog 196 #[.string a0] w fun e w' => ∃ v0_ : Value, e = .returned (.tuple #[v0_, .bool r2]) ∧ Kd.R k204 204 w' w.heap.size (fun _ => True) v0_ r1 ∧ Below w.heap.size w w' := by
 have HG := Aside0.mk hG; clear hG; have hu204 := Tryz.underlying204; have HB := Aside0.mk (Below.refl w.heap.size w)
 have H := h; unfold impl_TxsOf.f at H
 clear h
 by_cases c2 : a0.toList = ([] : List UInt8)
 ·
  rw [if_pos c2] at H
  have c2b0 : (a0.toList == ([] : List UInt8)) = true := beq_iff_eq.mpr c2; have c2b1 : (a0.toList != ([] : List UInt8)) = false := bne_eq_false_iff_eq.mpr c2; clear c2
  simp only [Option.some.injEq, Prod.mk.injEq] at H
  obtain ⟨rfl, rfl⟩ := H
  go_enter Tryz.func196, Tryz.ntmps196
  go_wp2
  go_ret2
  exact ⟨_, y0_11, y0_7, bI HB.out⟩
 rw [if_neg c2] at H
 have c2b0 : (a0.toList == ([] : List UInt8)) = false := beq_eq_false_iff_ne.mpr c2; have c2b1 : (a0.toList != ([] : List UInt8)) = true := bne_iff_ne.mpr c2; obtain ⟨t724, A3, H⟩ := oB H; (try dsimp only at H); have H' := Aside0.mk H; clear H
 go_enter Tryz.func196, Tryz.ntmps196
 go_wp2_with (first | ((with_reducible refine gate_callee (f := 193) rfl ?_); refine gB (some 12) Tryz.func193 #[.string a0, .int .u8 44] ?_; (with_reducible refine (impl_Split.calls a0 44 t724 _ A3.out).mono ?_); rintro e w4 ⟨v725, rfl, ho0, hb⟩; refine ⟨_, rfl, ?_⟩; have HO726 := Aside0.mk (Kd.R_lower ho0 (below_size (bI HB.out))); replace HB := bs HB hb; (try clear hb); (try clear ho0); obtain ⟨Ao5, co5, eo5⟩ := Kd.R_slice HO726.out; subst eo5))
 go_loopg [4, 14] k (fun kq v4 v14 w' => ∃ (x4_1 : List (S204)) (x14_1 : Int), v14 = .int .i64 x14_1 ∧ Aside0 (impl_TxsOf.l0 kq x4_1 t724 (t724.length : Int) x14_1 = some (r1, r2)) ∧ Aside0 (kq ≤ k) ∧ Aside0 (Kd.R k204 204 w' w.heap.size (fun _ => True) v4 x4_1) ∧ Aside0 (Kd.R Kd.string 9 w' w.heap.size (fun _ => True) (.slice Ao5 t724.length co5) t724) ∧ Aside0 (Below w.heap.size w w'))
 case atStart => exact ⟨(([] : List (S204))), (0), y0_16, H', ⟨Nat.le_refl _⟩, ⟨y0_7⟩, ⟨by (with_reducible repeat (first | apply Kd.R_alloc | apply Kd.R_drewN | apply Kd.R_drew)); exact HO726.out⟩, ⟨bI HB.out⟩⟩
 case round =>
  clear H'
  try clear c1
  try clear c2
  try clear c2b0
  try clear c2b1
  try clear p2
  obtain ⟨x4_1, x14_1, rfl, HA, HK1, HO_4, HO_12, HB⟩ := hrel; cases gk with
  | zero => exact absurd HA.out (by simp [impl_TxsOf.l0])
  | succ k1 =>
   have H := HA.out; clear HA
   simp only [impl_TxsOf.l0] at H
   by_cases c6 : x14_1 < (t724.length : Int)
   ·
    rw [if_pos c6] at H
    have c6b0 : decide (x14_1 < (t724.length : Int)) = true := decide_eq_true c6; clear c6
    by_cases c7 : 0 ≤ x14_1
    rotate_left
    ·
     rw [if_neg c7] at H
     exact absurd H (by simp)
    rw [if_pos c7] at H
    have c7b0 : decide (0 ≤ x14_1) = true := decide_eq_true c7; clear c7
    by_cases c8 : x14_1 < (t724.length : Int)
    rotate_left
    ·
     rw [if_neg c8] at H
     exact absurd H (by simp)
    rw [if_pos c8] at H
    have c8b0 : decide (x14_1 < (t724.length : Int)) = true := decide_eq_true c8; clear c8; obtain ⟨⟨t728, t729, t730, t731, t732⟩, A9, H⟩ := oB H; (try dsimp only at H)
    by_cases c10 : t732 = true
    ·
     subst c10
     rw [if_pos rfl] at H
     by_cases c11 : x4_1.length < 4398046511104
     rotate_left
     ·
      rw [if_neg c11] at H
      exact absurd H (by simp)
     rw [if_pos c11] at H
     have LMc11 := Aside0.mk c11; clear c11; obtain ⟨y734, hy734⟩ : ∃ y_ : List (S204), y_ = (x4_1 ++ [(⟨t728, t729, t730, t731⟩ : S204)]) := ⟨_, rfl⟩
     replace H : (impl_TxsOf.l0 k1 y734 t724 (t724.length : Int) (wrap64 (x14_1 + 1))) = some (r1, r2) := by first | (rw [hy734]; with_reducible exact H) | (have H2_ := (Option.bind_some _ _).symm.trans H; rw [hy734]; with_reducible exact H2_) | (have H2_ := (Option.bind_some _ _).symm.trans H; with_reducible exact H2_) | with_reducible exact H | (rw [hy734]; exact H) | exact H
     have Ny734 := Aside0.mk hy734; clear hy734; have H' := Aside0.mk H; clear H; have p727 : 0 ≤ (x14_1 : Int) := of_decide_eq_true y0_15; have q727 : x14_1 < (t724.length : Int) := of_decide_eq_true y0_15; obtain ⟨ad727, e727, hx727_0⟩ := Kd.at_string (Kd.R_reads' HO_12.out).2.2 x14_1 p727 q727; cases e727; replace p727 := eq_true p727; replace q727 := eq_true q727
     go_wp2_with (first | ((with_reducible refine gate_callee (f := 228) rfl ?_); refine gB (some 20) Tryz.func228 #[.string (rdOf ByteArray.empty t724 x14_1)] ?_; (with_reducible refine (impl_TxOf.calls k1 (rdOf ByteArray.empty t724 x14_1) t728 t729 t730 t731 true _ A9.out).mono ?_); rintro e w12 ⟨rfl, hb⟩; refine ⟨_, rfl, ?_⟩; replace HO_4 := rb HO_4 hb; replace HO_12 := rb HO_12 hb; replace HB := bs HB hb; (try clear hb); (try clear hb2); (try clear hk); (try clear hi)) | ((with_reducible refine gd 7 ?_); refine bA 7 #[.int .i64 0, .int .i64 0, .int .i64 0, .int .i64 0] 204 ?_; intro gb733 hg w13 hbox hb; replace HO_4 := Aside0.mk (Kd.R_below (Kd.R_elderB (rI HO_4.out) gb733 (Nat.le_of_eq hg.symm)) hb); replace HO_12 := rb HO_12 hb; have BK733 := Aside0.mk (hbox); have GW733 := bg hg HB; have GJ733 := gi GW733; have GE733 := GW733; replace HB := bs HB hb; clear hb hbox hg; obtain ⟨hcz14_0, hcz14_1, hcz14_2, hcz14_3, hfz14_0, hfz14_1, hfz14_2, hfz14_3⟩ := cs4 BK733) | ((with_reducible refine gate_builtin (b := .append) (xs := #[.tmp 25, .tmp 27]) rfl ?_); at_builtin; refine Kd.R_append k204 (w0 := w) w.heap.size rfl (.tmp 25) (.tmp 27) 101 204 (.agg #[(.int .i64 0), (.int .i64 0), (.int .i64 0), (.int .i64 0)]) 32 rfl Tryz.underlying101 info204 rfl (by decide) (by omega) u4 x4_1 (⟨t728, t729, t730, t731⟩ : S204) [.int .i64 t728, .int .i64 t729, .int .i64 t730, .int .i64 t731] (fun k_ => k_ ≠ gb733) (fun _ => False) rfl (by first | (go_simp; done) | (go_simp; rfl)) ?aP (fun _ hk => hk.elim) ?aF ?aO ?aB ?aS ?aL ?_; (case aP => exact k204_mkM _ _ _ (⟨t728, t729, t730, t731⟩ : S204)); (case aB => exact (bI HB.out)); (case aF => exact (fun k_ hk => Kd.freshB (g := gb733) (o := .cells #[.int .i64 t728, .int .i64 t729, .int .i64 t730, .int .i64 t731] 204 (0, 0)) (pI BK733) k_ hk)); (case aO => exact (rI (Kd.R_mono (Kd.R_far (p := ⟨gb733, 3, none⟩) (Kd.R_far (p := ⟨gb733, 2, none⟩) (Kd.R_far (p := ⟨gb733, 1, none⟩) (Kd.R_far (p := ⟨gb733, 0, none⟩) (Kd.R_mono HO_4.out (fun k_ hk => (⟨hk, hk.2⟩ : _ ∧ k_ ≠ gb733))) (fun _ hk => hk.2) (.int .i64 t728)) (fun _ hk => hk.2) (.int .i64 t729)) (fun _ hk => hk.2) (.int .i64 t730)) (fun _ hk => hk.2) (.int .i64 t731)) (fun _ hk => hk.1.2)))); (case aS => exact (below_size (bI HB.out))); (case aL => have := LMc11.out; omega); intro v735 w15 ho hb hg hat; rw [← Ny734.out] at ho; have n0_ := Aside0.mk (Kd.R_over' (rI (Kd.R_mono (Kd.R_far (p := ⟨gb733, 3, none⟩) (Kd.R_far (p := ⟨gb733, 2, none⟩) (Kd.R_far (p := ⟨gb733, 1, none⟩) (Kd.R_far (p := ⟨gb733, 0, none⟩) (Kd.R_types HO_12.out BK733.out (by decide)) (fun _ hk => hk.2) (.int .i64 t728)) (fun _ hk => hk.2) (.int .i64 t729)) (fun _ hk => hk.2) (.int .i64 t730)) (fun _ hk => hk.2) (.int .i64 t731)) (fun _ h_ => h_.1))) (Kd.R_typed (rI (Kd.R_mono (Kd.R_far (p := ⟨gb733, 3, none⟩) (Kd.R_far (p := ⟨gb733, 2, none⟩) (Kd.R_far (p := ⟨gb733, 1, none⟩) (Kd.R_far (p := ⟨gb733, 0, none⟩) (Kd.R_mono HO_4.out (fun k_ hk => (⟨hk, hk.2⟩ : _ ∧ k_ ≠ gb733))) (fun _ hk => hk.2) (.int .i64 t728)) (fun _ hk => hk.2) (.int .i64 t729)) (fun _ hk => hk.2) (.int .i64 t730)) (fun _ hk => hk.2) (.int .i64 t731)) (fun _ h_ => h_.1)))) (by decide) hg); have n1_ := Aside0.mk (blk_grown (g := gb733) (o := .cells #[.int .i64 t728, .int .i64 t729, .int .i64 t730, .int .i64 t731] 204 (0, 0)) (pI BK733) hg (Kd.R_away HO_4.out (fun _ hk => hk.2))); have n2_ := Aside0.mk (hb); have n3_ := Aside0.mk (ho); clear HO_12; clear BK733; clear HB; clear HO_4; have HO_12 := n0_; have BK733 := n1_; have HB := n2_; have HO736 := n3_; clear n0_ n1_ n2_ n3_; clear ho hb hg hat))
     go_roundg k1
     case measure => have := HK1.out; omega
     case rel => exact ⟨(y734), (wrap64 (x14_1 + 1)), y0_16, H', ⟨y0_18⟩, ⟨by (with_reducible repeat (first | apply Kd.R_alloc | apply Kd.R_drewN | apply Kd.R_drew)); exact Kd.R_mono HO736.out (fun _ hk => trivial)⟩, ⟨by (with_reducible repeat (first | apply Kd.R_alloc | apply Kd.R_drewN | apply Kd.R_drew)); exact HO_12.out⟩, ⟨bI HB.out⟩⟩
    replace c10 := Bool.eq_false_iff.mpr c10; subst c10
    rw [if_neg (show ¬ (false = true) by decide)] at H
    simp only [Option.some.injEq, Prod.mk.injEq] at H
    obtain ⟨rfl, rfl⟩ := H; have p727 : 0 ≤ (x14_1 : Int) := of_decide_eq_true y0_15; have q727 : x14_1 < (t724.length : Int) := of_decide_eq_true y0_15; obtain ⟨ad727, e727, hx727_0⟩ := Kd.at_string (Kd.R_reads' HO_12.out).2.2 x14_1 p727 q727; cases e727; replace p727 := eq_true p727; replace q727 := eq_true q727
    go_wp2_with (first | ((with_reducible refine gate_callee (f := 228) rfl ?_); refine gB (some 20) Tryz.func228 #[.string (rdOf ByteArray.empty t724 x14_1)] ?_; (with_reducible refine (impl_TxOf.calls k1 (rdOf ByteArray.empty t724 x14_1) t728 t729 t730 t731 false _ A9.out).mono ?_); rintro e w16 ⟨rfl, hb⟩; refine ⟨_, rfl, ?_⟩; replace HO_4 := rb HO_4 hb; replace HO_12 := rb HO_12 hb; replace HB := bs HB hb; (try clear hb); (try clear hb2); (try clear hk); (try clear hi)) | ((with_reducible refine gd 7 ?_); refine bA 7 #[.int .i64 0, .int .i64 0, .int .i64 0, .int .i64 0] 204 ?_; intro gb733 hg w17 hbox hb; replace HO_4 := Aside0.mk (Kd.R_below (Kd.R_elderB (rI HO_4.out) gb733 (Nat.le_of_eq hg.symm)) hb); replace HO_12 := rb HO_12 hb; have BK733 := Aside0.mk (hbox); have GW733 := bg hg HB; have GJ733 := gi GW733; have GE733 := GW733; replace HB := bs HB hb; clear hb hbox hg; obtain ⟨hcz18_0, hcz18_1, hcz18_2, hcz18_3, hfz18_0, hfz18_1, hfz18_2, hfz18_3⟩ := cs4 BK733))
    go_ret2
    exact ⟨_, y0_11, y0_7, bI HB.out⟩
   rw [if_neg c6] at H
   have c6b0 : decide (x14_1 < (t724.length : Int)) = false := decide_eq_false c6; clear c6
   simp only [Option.some.injEq, Prod.mk.injEq] at H
   obtain ⟨rfl, rfl⟩ := H
   go_wp2
   go_ret2
   exact ⟨_, y0_11, by (with_reducible repeat (first | apply Kd.R_alloc | apply Kd.R_drewN | apply Kd.R_drew)); exact HO_4.out, bI HB.out⟩

/-! ### impl_Steps: function 130 -/
mutual
def impl_Steps.j0 : Nat → List ByteArray → Bool → Option ((List (S150)) × Bool)
 | 0, _, _ => none
 | k + 1, x4, x29 => if x29 = true then (some (([] : List (S150)), false)) else (if 1 ≤ (x4.length : Int) then ((some (x4.drop 1 : List ByteArray)).bind fun y741 => (impl_Steps.l0 k ([] : List (S150)) 0 y741 (y741.length : Int) 0)) else (none))
def impl_Steps.l0 : Nat → List (S150) → Int → List ByteArray → Int → Int → Option ((List (S150)) × Bool)
 | 0, _, _, _, _, _ => none
 | k + 1, x5, x6, x31, x32, x33 => if x33 < x32 then (if 0 ≤ x33 then (if x33 < (x31.length : Int) then ((strings_Cut.f (rdOf ByteArray.empty x31 x33) (⟨#[124]⟩ : ByteArray)).bind fun bt746 => ((impl_Number.f k bt746.1).bind fun bt749 => ((impl_TxsOf.f k bt746.2.1).bind fun bt751 => (if bt746.2.2 = true then (if bt749.2 = true then (if bt751.2 = true then ((impl_within.f bt749.1 (wrap64 (x6 + 1)) 60).bind fun t755 => (if t755 = true then (if (bt751.1.length : Int) > 2 then (some (([] : List (S150)), false)) else (if x5.length < 4398046511104 then (impl_Steps.l0 k (x5 ++ [(⟨bt749.1, bt751.1⟩ : S150)]) bt749.1 x31 x32 (wrap64 (x33 + 1))) else (none))) else (some (([] : List (S150)), false)))) else (some (([] : List (S150)), false))) else (some (([] : List (S150)), false))) else (some (([] : List (S150)), false)))))) else (none)) else (none)) else (some (x5, true))
end
def impl_Steps.f (k : Nat) (a0 : ByteArray) : Option ((List (S150)) × Bool) := if a0.toList = ([] : List UInt8) then (some (([] : List (S150)), true)) else ((impl_Split.f a0 47).bind fun t737 => (if 0 < (t737.length : Int) then (if (rdOf ByteArray.empty t737 0).toList = ([] : List UInt8) then (impl_Steps.j0 k t737 (decide ((wrap64 ((t737.length : Int) - 1)) > 30))) else (impl_Steps.j0 k t737 true)) else (none)))
theorem impl_Steps.mono_l : ∀ k, (∀ y0 y1, LeO (impl_Steps.j0 k y0 y1) (impl_Steps.j0 (k + 1) y0 y1)) ∧ (∀ y0 y1 y2 y3 y4, LeO (impl_Steps.l0 k y0 y1 y2 y3 y4) (impl_Steps.l0 (k + 1) y0 y1 y2 y3 y4))
 | 0 => ⟨fun _ _ r h => by simp [impl_Steps.j0] at h, fun _ _ _ _ _ r h => by simp [impl_Steps.l0] at h⟩
 | k + 1 => by
  obtain ⟨ih0, ih1⟩ := impl_Steps.mono_l k
  refine ⟨?_, ?_⟩
  ·
   intro y0 y1
   unfold impl_Steps.j0
   repeat' first | (with_reducible exact ih0 _ _) | (with_reducible exact ih1 _ _ _ _ _) | (with_reducible exact impl_Number.mono _ _) | (with_reducible exact impl_TxsOf.mono _ _) | (with_reducible exact LeO.refl _) | (with_reducible exact LeO.none _) | (with_reducible refine LeO.ite ?_ ?_) | (with_reducible refine LeO.bind ?_ (fun _ => ?_))
  intro y0 y1 y2 y3 y4
  unfold impl_Steps.l0
  repeat' first | (with_reducible exact ih0 _ _) | (with_reducible exact ih1 _ _ _ _ _) | (with_reducible exact impl_Number.mono _ _) | (with_reducible exact impl_TxsOf.mono _ _) | (with_reducible exact LeO.refl _) | (with_reducible exact LeO.none _) | (with_reducible refine LeO.ite ?_ ?_) | (with_reducible refine LeO.bind ?_ (fun _ => ?_))
theorem impl_Steps.mono : ∀ a0 k, LeO (impl_Steps.f k a0) (impl_Steps.f (k + 1) a0) := by
 intro a0 k
 obtain ⟨ih0, ih1⟩ := impl_Steps.mono_l k
 unfold impl_Steps.f
 repeat' first | (with_reducible exact ih0 _ _) | (with_reducible exact ih1 _ _ _ _ _) | (with_reducible exact impl_Number.mono _ _) | (with_reducible exact impl_TxsOf.mono _ _) | (with_reducible exact LeO.refl _) | (with_reducible exact LeO.none _) | (with_reducible refine LeO.ite ?_ ?_) | (with_reducible refine LeO.bind ?_ (fun _ => ?_))
set_option maxHeartbeats 8000000 in
set_option maxRecDepth 100000 in
theorem impl_Steps.calls (k : Nat) (a0 : ByteArray) (r1 : List (S150)) (r2 : Bool) (w : World) (h : impl_Steps.f k a0 = some (r1, r2)) (hG : Glob w := by exact gG HG HB) :
  Calls Tryz.prog 130 #[.string a0] w fun e w' => ∃ v0_ : Value, e = .returned (.tuple #[v0_, .bool r2]) ∧ Kd.S k150 150 w' w.heap.size (fun _ => True) v0_ r1 ∧ Below w.heap.size w w' := by
 have HG := Aside0.mk hG; clear hG; have hu150 := Tryz.underlying150; have HB := Aside0.mk (Below.refl w.heap.size w)
 have H := h; unfold impl_Steps.f at H
 clear h
 by_cases c2 : a0.toList = ([] : List UInt8)
 ·
  rw [if_pos c2] at H
  have c2b0 : (a0.toList == ([] : List UInt8)) = true := beq_iff_eq.mpr c2; have c2b1 : (a0.toList != ([] : List UInt8)) = false := bne_eq_false_iff_eq.mpr c2; clear c2
  simp only [Option.some.injEq, Prod.mk.injEq] at H
  obtain ⟨rfl, rfl⟩ := H
  go_enter Tryz.func130, Tryz.ntmps130
  go_wp2
  go_ret2
  exact ⟨_, y0_11, y0_8, bI HB.out⟩
 rw [if_neg c2] at H
 have c2b0 : (a0.toList == ([] : List UInt8)) = false := beq_eq_false_iff_ne.mpr c2; have c2b1 : (a0.toList != ([] : List UInt8)) = true := bne_iff_ne.mpr c2; obtain ⟨t737, A3, H⟩ := oB H; (try dsimp only at H); have HC4 := Aside0.mk H; clear H
 go_enter Tryz.func130, Tryz.ntmps130
 go_upto_region 4 with (first | ((with_reducible refine gate_callee (f := 193) rfl ?_); refine gB (some 19) Tryz.func193 #[.string a0, .int .u8 47] ?_; (with_reducible refine (impl_Split.calls a0 47 t737 _ A3.out).mono ?_); rintro e w5 ⟨v738, rfl, ho0, hb⟩; refine ⟨_, rfl, ?_⟩; have HO739 := Aside0.mk (Kd.R_lower ho0 (below_size (bI HB.out))); replace HB := bs HB hb; (try clear hb); (try clear ho0)))
 (try simp only [Act.put, List.setIfInBounds_toArray, List.set_cons_zero, List.set_cons_succ])
 go_cut [29] (fun v29 wc => ∃ (kq : Nat) (x29_3 : Bool), v29 = .bool x29_3 ∧ Aside0 (impl_Steps.j0 kq t737 x29_3 = some (r1, r2)) ∧ Aside0 (kq ≤ k) ∧ Aside0 (Kd.R Kd.string 9 wc w.heap.size (fun _ => True) v738 t737) ∧ Aside0 (Below w.heap.size w wc))
 case first =>
  have H := HC4.out; clear HC4
  by_cases c6 : 0 < (t737.length : Int)
  rotate_left
  ·
   rw [if_neg c6] at H
   exact absurd H (by simp)
  rw [if_pos c6] at H
  have c6b0 : decide (0 < (t737.length : Int)) = true := decide_eq_true c6
  have c6b1 : decide (0 < t737.length) = true := decide_eq_true (by omega)
  clear c6
  (first | rw [c6b0] | (simp only [i64_w, i32_w]; rw [c6b0]) | skip)
  by_cases c7 : (rdOf ByteArray.empty t737 0).toList = ([] : List UInt8)
  ·
   rw [if_pos c7] at H
   have c7b0 : ((rdOf ByteArray.empty t737 0).toList == ([] : List UInt8)) = true := beq_iff_eq.mpr c7; have c7b1 : ((rdOf ByteArray.empty t737 0).toList != ([] : List UInt8)) = false := bne_eq_false_iff_eq.mpr c7; clear c7; have H' := Aside0.mk H; clear H; obtain ⟨Ao8, co8, eo8⟩ := Kd.R_slice HO739.out; subst eo8
   have p740 : 0 ≤ (0 : Int) := (by omega)
   have q740 : 0 < (t737.length : Int) := of_decide_eq_true y0_15; obtain ⟨ad740, e740, hx740_0⟩ := Kd.at_string (Kd.R_reads' HO739.out).2.2 0 p740 q740; cases e740
   have qi740 : (0 < t737.length) = True := eq_true (by omega)
   (try rw [show ((0 : Int)).toNat = 0 from rfl] at hx740_0)
   (try rw [Addr.add_zero'] at hx740_0)
   replace p740 := eq_true p740; replace q740 := eq_true q740
   go_wp2
   go_meet
   case rel => exact ⟨_, (decide ((wrap64 ((t737.length : Int) - 1)) > 30)), y0_16, H', ⟨y0_17⟩, ⟨by (with_reducible repeat (first | apply Kd.R_alloc | apply Kd.R_drewN | apply Kd.R_drew)); exact HO739.out⟩, ⟨bI HB.out⟩⟩
  rw [if_neg c7] at H
  have c7b0 : ((rdOf ByteArray.empty t737 0).toList == ([] : List UInt8)) = false := beq_eq_false_iff_ne.mpr c7; have c7b1 : ((rdOf ByteArray.empty t737 0).toList != ([] : List UInt8)) = true := bne_iff_ne.mpr c7; have H' := Aside0.mk H; clear H; obtain ⟨Ao9, co9, eo9⟩ := Kd.R_slice HO739.out; subst eo9
  have p740 : 0 ≤ (0 : Int) := (by omega)
  have q740 : 0 < (t737.length : Int) := of_decide_eq_true y0_15; obtain ⟨ad740, e740, hx740_0⟩ := Kd.at_string (Kd.R_reads' HO739.out).2.2 0 p740 q740; cases e740
  have qi740 : (0 < t737.length) = True := eq_true (by omega)
  (try rw [show ((0 : Int)).toNat = 0 from rfl] at hx740_0)
  (try rw [Addr.add_zero'] at hx740_0)
  replace p740 := eq_true p740; replace q740 := eq_true q740
  go_wp2
  go_meet
  case rel => exact ⟨_, (true), y0_16, H', ⟨y0_17⟩, ⟨by (with_reducible repeat (first | apply Kd.R_alloc | apply Kd.R_drewN | apply Kd.R_drew)); exact HO739.out⟩, ⟨bI HB.out⟩⟩
 case rest =>
  clear HC4
  try clear c1
  try clear c2
  try clear c2b0
  try clear c2b1
  try clear p2
  try clear c6
  try clear c6b0
  try clear c6b1
  try clear p6
  try clear c7
  try clear c7b0
  try clear c7b1
  try clear p7
  try clear q7
  try clear hx7
  try clear qi7
  try clear hx740_0
  try clear p740
  try clear q740
  obtain ⟨kq, x29_3, rfl, HA, HJ3, HO_4, HB⟩ := hcut; cases kq with
  | zero => exact absurd HA.out (by simp [impl_Steps.j0])
  | succ kj3 =>
   have H := HA.out; clear HA
   simp only [impl_Steps.j0] at H
   by_cases c10 : x29_3 = true
   ·
    subst c10
    rw [if_pos rfl] at H
    simp only [Option.some.injEq, Prod.mk.injEq] at H
    obtain ⟨rfl, rfl⟩ := H
    go_wp2
    go_ret2
    exact ⟨_, y0_11, y0_8, bI HB.out⟩
   replace c10 := Bool.eq_false_iff.mpr c10; subst c10
   rw [if_neg (show ¬ (false = true) by decide)] at H
   by_cases c11 : 1 ≤ (t737.length : Int)
   ·
    rw [if_pos c11] at H
    have c11b0 := eq_true c11; have c11b1 : decide (1 ≤ (t737.length : Int)) = true := decide_eq_true c11; clear c11; obtain ⟨y741, hy741⟩ : ∃ y_ : List ByteArray, y_ = (t737.drop 1) := ⟨_, rfl⟩
    replace H : (impl_Steps.l0 kj3 ([] : List (S150)) 0 y741 (y741.length : Int) 0) = some (r1, r2) := by first | (rw [hy741]; with_reducible exact H) | (have H2_ := (Option.bind_some _ _).symm.trans H; rw [hy741]; with_reducible exact H2_) | (have H2_ := (Option.bind_some _ _).symm.trans H; with_reducible exact H2_) | with_reducible exact H | (rw [hy741]; exact H) | exact H
    have Ny741 := Aside0.mk hy741; clear hy741; have H' := Aside0.mk H; clear H; obtain ⟨Ao13, co13, eo13⟩ := Kd.R_slice HO_4.out; subst eo13; have q12 : (1 : Int) ≤ ((t737.length : Int) : Int) := of_decide_eq_true y0_15; obtain ⟨i012, hi012, _, hsz12, _⟩ := info_parts info9; have hroom12 : t737.length ≤ co13 := (Kd.R_reads' HO_4.out).2.1; have hC12 : Kd.C Kd.string _ Ao13 t737.length t737 := (Kd.R_reads' HO_4.out).2.2
    have hcut12 := cut_from (P := Tryz.prog) 192 9 .i64 Tryz.underlying192 hi012 1 hsz12 Ao13 t737.length co13 1 (by omega) q12
    have hr12 := Kd.C_drop (m := (1 : Int).toNat) (c := co13) hC12 (by omega) hroom12
    obtain ⟨A12, hA12⟩ : ∃ A1, A1 = (if co13 = (1 : Int).toNat then Ao13 else (Ao13 : Option Addr).map (·.add ((1 : Int).toNat * 1))) := ⟨_, rfl⟩
    obtain ⟨c12, hc12⟩ : ∃ c1, c1 = co13 - (1 : Int).toNat := ⟨_, rfl⟩
    have hy12 : y741.length = t737.length - (1 : Int).toNat := (by rw [Ny741.out, List.length_drop] <;> omega)
    rw [show (t737).drop (1 : Int).toNat = y741 from Ny741.out.symm] at hr12
    replace hr12 : Kd.C Kd.string _ A12 y741.length y741 := (by rw [hA12]; exact hr12)
    rw [← hy12, ← hA12, ← hc12] at hcut12
    have HR744 := Aside0.mk hr12
    have HC744 := Aside0.mk (show y741.length ≤ c12 from by rw [hy12, hc12]; exact Nat.sub_le_sub_right hroom12 _)
    clear hr12 hC12 hroom12 hi012 hsz12 hc12; have KY12 := Aside0.mk hy12; have KA12 := Aside0.mk hA12; clear hy12 hA12
    have KL12 := Aside0.mk (show 1 ≤ t737.length from by omega)
    replace q12 := eq_true q12
    go_wp2
    have HB0 := HB; replace HG := Aside0.mk (HG.out.below HB.out); replace HB := Aside0.mk (Below.refl wc.heap.size wc)
    go_loopg [5, 6, 33] kj3 (fun kq v5 v6 v33 w' => ∃ (x5_2 : List (S150)) (x6_2 : Int) (x33_2 : Int), v6 = .int .i64 x6_2 ∧ v33 = .int .i64 x33_2 ∧ Aside0 (impl_Steps.l0 kq x5_2 x6_2 y741 (y741.length : Int) x33_2 = some (r1, r2)) ∧ Aside0 (kq ≤ kj3) ∧ Aside0 (Kd.S k150 150 w' wc.heap.size (fun _ => True) v5 x5_2) ∧ Aside0 (Below wc.heap.size wc w'))
    case atStart => exact ⟨(([] : List (S150))), (0), (0), y0_16, y0_16, H', ⟨Nat.le_refl _⟩, ⟨y0_8⟩, ⟨bI HB.out⟩⟩
    case round =>
     clear H'
     try clear c1
     try clear q1
     try clear c2
     try clear c2b0
     try clear c2b1
     try clear p2
     try clear c6
     try clear c6b0
     try clear c6b1
     try clear p6
     try clear c7
     try clear c7b0
     try clear c7b1
     try clear p7
     try clear q7
     try clear hx7
     try clear qi7
     try clear c10
     try clear c11
     try clear c11b0
     try clear c11b1
     try clear c12
     try clear q12
     try clear c13
     try clear hx740_0
     try clear p2
     try clear p6
     try clear p7
     try clear p740
     try clear q12
     try clear q7
     try clear q740
     obtain ⟨x5_2, x6_2, x33_2, rfl, rfl, HA, HK2, HO_5, HB⟩ := hrel; cases gk with
     | zero => exact absurd HA.out (by simp [impl_Steps.l0])
     | succ k2 =>
      have H := HA.out; clear HA
      simp only [impl_Steps.l0] at H
      by_cases c14 : x33_2 < (y741.length : Int)
      ·
       rw [if_pos c14] at H
       have c14b0 : decide (x33_2 < (y741.length : Int)) = true := decide_eq_true c14; clear c14
       by_cases c15 : 0 ≤ x33_2
       rotate_left
       ·
        rw [if_neg c15] at H
        exact absurd H (by simp)
       rw [if_pos c15] at H
       have c15b0 : decide (0 ≤ x33_2) = true := decide_eq_true c15; clear c15
       by_cases c16 : x33_2 < (y741.length : Int)
       rotate_left
       ·
        rw [if_neg c16] at H
        exact absurd H (by simp)
       rw [if_pos c16] at H
       have c16b0 : decide (x33_2 < (y741.length : Int)) = true := decide_eq_true c16; clear c16; obtain ⟨⟨t746, t747, t748⟩, A17, H⟩ := oB H; (try dsimp only at H); obtain ⟨⟨t749, t750⟩, A18, H⟩ := oB H; (try dsimp only at H); obtain ⟨⟨t751, t752⟩, A19, H⟩ := oB H; (try dsimp only at H)
       by_cases c20 : t748 = true
       ·
        subst c20
        rw [if_pos rfl] at H
        by_cases c21 : t750 = true
        ·
         subst c21
         rw [if_pos rfl] at H
         by_cases c22 : t752 = true
         ·
          subst c22
          rw [if_pos rfl] at H
          obtain ⟨t755, A23, H⟩ := oB H; (try dsimp only at H)
          by_cases c24 : t755 = true
          ·
           subst c24
           rw [if_pos rfl] at H
           by_cases c25 : (t751.length : Int) > 2
           ·
            rw [if_pos c25] at H
            have c25b0 : decide (2 < (t751.length : Int)) = true := decide_eq_true c25
            have c25b1 : decide (2 < t751.length) = true := decide_eq_true (by omega)
            clear c25
            simp only [Option.some.injEq, Prod.mk.injEq] at H
            obtain ⟨rfl, rfl⟩ := H; have p745 : 0 ≤ (x33_2 : Int) := of_decide_eq_true y0_15; have q745 : x33_2 < (y741.length : Int) := of_decide_eq_true y0_15; obtain ⟨ad745, e745, hx745_0⟩ := Kd.at_string HR744.out x33_2 p745 q745; cases e745; replace hx745_0 := bx HB hx745_0; replace p745 := eq_true p745; replace q745 := eq_true q745
            go_wp2_with (first | ((with_reducible refine gate_callee (f := 194) rfl ?_); refine gB (some 39) Tryz.func194 #[.string (rdOf ByteArray.empty y741 x33_2), .string (⟨#[124]⟩ : ByteArray)] ?_; (with_reducible refine (strings_Cut.calls (rdOf ByteArray.empty y741 x33_2) (⟨#[124]⟩ : ByteArray) t746 t747 true _ A17.out).mono ?_); rintro e w26 ⟨rfl, hb⟩; refine ⟨_, rfl, ?_⟩; replace HO_5 := sb HO_5 hb; replace HB := bs HB hb; (try clear hb); (try clear hb2); (try clear hk); (try clear hi)) | ((with_reducible refine gate_callee (f := 195) rfl ?_); refine gB (some 45) Tryz.func195 #[.string t746] ?_; (with_reducible refine (impl_Number.calls k2 t746 t749 true _ A18.out).mono ?_); rintro e w27 ⟨rfl, hb⟩; refine ⟨_, rfl, ?_⟩; replace HO_5 := sb HO_5 hb; replace HB := bs HB hb; (try clear hb); (try clear hb2); (try clear hk); (try clear hi)) | ((with_reducible refine gate_callee (f := 196) rfl ?_); refine gB (some 50) Tryz.func196 #[.string t747] ?_; (with_reducible refine (impl_TxsOf.calls k2 t747 t751 true _ A19.out).mono ?_); rintro e w28 ⟨v753, rfl, ho0, hb⟩; refine ⟨_, rfl, ?_⟩; replace HO_5 := Aside0.mk (Kd.S_elder' (sI HO_5.out) (Kd.R_base ho0) hb); have HO754 := Aside0.mk (Kd.R_lower ho0 (below_size (bI HB.out))); replace HB := bs HB hb; (try clear hb)) | (go_at_call 138; (with_reducible refine (impl_within.calls t749 (wrap64 (x6_2 + 1)) 60 true _ A23.out).mono ?_); rintro e w' ⟨rfl, ⟨nd, rfl⟩⟩; obtain ⟨Ao29, co29, eo29⟩ := Kd.R_slice HO754.out; subst eo29))
            go_ret2
            exact ⟨_, y0_11, Kd.S_lower (base := wc.heap.size) y0_8 (below_size HB0.out), below_step HB0.out (bI HB.out)⟩
           rw [if_neg c25] at H
           have c25b0 : decide (2 < (t751.length : Int)) = false := decide_eq_false c25
           have c25b1 : decide (2 < t751.length) = false := decide_eq_false (by omega)
           clear c25
           by_cases c30 : x5_2.length < 4398046511104
           rotate_left
           ·
            rw [if_neg c30] at H
            exact absurd H (by simp)
           rw [if_pos c30] at H
           have LMc30 := Aside0.mk c30; clear c30; obtain ⟨y756, hy756⟩ : ∃ y_ : List (S150), y_ = (x5_2 ++ [(⟨t749, t751⟩ : S150)]) := ⟨_, rfl⟩
           replace H : (impl_Steps.l0 k2 y756 t749 y741 (y741.length : Int) (wrap64 (x33_2 + 1))) = some (r1, r2) := by first | (rw [hy756]; with_reducible exact H) | (have H2_ := (Option.bind_some _ _).symm.trans H; rw [hy756]; with_reducible exact H2_) | (have H2_ := (Option.bind_some _ _).symm.trans H; with_reducible exact H2_) | with_reducible exact H | (rw [hy756]; exact H) | exact H
           have Ny756 := Aside0.mk hy756; clear hy756; have H' := Aside0.mk H; clear H; have p745 : 0 ≤ (x33_2 : Int) := of_decide_eq_true y0_15; have q745 : x33_2 < (y741.length : Int) := of_decide_eq_true y0_15; obtain ⟨ad745, e745, hx745_0⟩ := Kd.at_string HR744.out x33_2 p745 q745; cases e745; replace hx745_0 := bx HB hx745_0; replace p745 := eq_true p745; replace q745 := eq_true q745
           go_wp2_with (first | ((with_reducible refine gate_callee (f := 194) rfl ?_); refine gB (some 39) Tryz.func194 #[.string (rdOf ByteArray.empty y741 x33_2), .string (⟨#[124]⟩ : ByteArray)] ?_; (with_reducible refine (strings_Cut.calls (rdOf ByteArray.empty y741 x33_2) (⟨#[124]⟩ : ByteArray) t746 t747 true _ A17.out).mono ?_); rintro e w31 ⟨rfl, hb⟩; refine ⟨_, rfl, ?_⟩; replace HO_5 := sb HO_5 hb; replace HB := bs HB hb; (try clear hb); (try clear hb2); (try clear hk); (try clear hi)) | ((with_reducible refine gate_callee (f := 195) rfl ?_); refine gB (some 45) Tryz.func195 #[.string t746] ?_; (with_reducible refine (impl_Number.calls k2 t746 t749 true _ A18.out).mono ?_); rintro e w32 ⟨rfl, hb⟩; refine ⟨_, rfl, ?_⟩; replace HO_5 := sb HO_5 hb; replace HB := bs HB hb; (try clear hb); (try clear hb2); (try clear hk); (try clear hi)) | ((with_reducible refine gate_callee (f := 196) rfl ?_); refine gB (some 50) Tryz.func196 #[.string t747] ?_; (with_reducible refine (impl_TxsOf.calls k2 t747 t751 true _ A19.out).mono ?_); rintro e w33 ⟨v753, rfl, ho0, hb⟩; refine ⟨_, rfl, ?_⟩; replace HO_5 := Aside0.mk (Kd.S_elder' (sI HO_5.out) (Kd.R_base ho0) hb); have HO754 := Aside0.mk (Kd.R_lower ho0 (below_size (bI HB.out))); replace HB := bs HB hb; (try clear hb)) | (go_at_call 138; (with_reducible refine (impl_within.calls t749 (wrap64 (x6_2 + 1)) 60 true _ A23.out).mono ?_); rintro e w' ⟨rfl, ⟨nd, rfl⟩⟩; obtain ⟨Ao34, co34, eo34⟩ := Kd.R_slice HO754.out; subst eo34) | ((with_reducible refine gate_builtin (b := .append) (xs := #[.tmp 75, .tmp 79]) rfl ?_); (try (refine gate_guard (by rfl) ?_; dsimp only)); at_builtin; refine Kd.S_append k150 (w0 := wc) wc.heap.size rfl (.tmp 75) (.tmp 79) 146 150 (.agg #[(.int .i64 0), (.slice none 0 0)]) 32 rfl Tryz.underlying146 info150 rfl (by decide) (by omega) u5 x5_2 (⟨t749, t751⟩ : S150) [.int .i64 t749, .slice Ao34 t751.length co34] (fun _ => True) (fun k_ => some k_ = (.slice Ao34 t751.length co34 : Value).ownBlock) rfl rfl ?aP (fun k_ hk_ => ((Kd.R_mono (ok' := fun k_ => ((fun _ => True)) k_ ∧ some k_ ≠ (u5 : Value).ownBlock) (Kd.R_apart' (HO754.out) (Kd.S_typed HO_5.out) (by decide)) (fun k_ hk => ⟨trivial, hk.2⟩))).1 k_ hk_.symm) ?aF ?aO ?aB ?aS ?aL ?_; (case aP => exact k150_mkM _ _ _ (⟨t749, t751⟩ : S150) (Kd.R_mono (Kd.R_tight rfl (Kd.R_mono (ok' := fun k_ => ((fun _ => True)) k_ ∧ some k_ ≠ (u5 : Value).ownBlock) (Kd.R_apart' (HO754.out) (Kd.S_typed HO_5.out) (by decide)) (fun k_ hk => ⟨trivial, hk.2⟩))) (fun _ h_ => h_))); (case aB => exact (bI HB.out)); (case aF => exact (fun _ _ => trivial)); (case aO => exact (sI (Kd.S_mono HO_5.out (fun k_ hk => ⟨trivial, fun e_ => hk.2 e_⟩)))); (case aS => exact (below_size (bI HB.out))); (case aL => have := LMc30.out; omega); intro v757 w35 ho hb hg hat; rw [← Ny756.out] at ho; have n0_ := Aside0.mk (hb); have n1_ := Aside0.mk (ho); clear HB; clear HO_5; clear HO754; have HB := n0_; have HO758 := n1_; clear n0_ n1_; clear ho hb hg hat))
           go_roundg k2
           case measure => have := HJ3.out; have := HK2.out; omega
           case rel => exact ⟨(y756), (t749), (wrap64 (x33_2 + 1)), y0_16, y0_16, H', ⟨by have := HJ3.out; have := HK2.out; omega⟩, ⟨by (with_reducible repeat (first | apply Kd.S_alloc | apply Kd.S_drewN | apply Kd.S_drew)); exact HO758.out⟩, ⟨bI HB.out⟩⟩
          replace c24 := Bool.eq_false_iff.mpr c24; subst c24
          rw [if_neg (show ¬ (false = true) by decide)] at H
          simp only [Option.some.injEq, Prod.mk.injEq] at H
          obtain ⟨rfl, rfl⟩ := H; have p745 : 0 ≤ (x33_2 : Int) := of_decide_eq_true y0_15; have q745 : x33_2 < (y741.length : Int) := of_decide_eq_true y0_15; obtain ⟨ad745, e745, hx745_0⟩ := Kd.at_string HR744.out x33_2 p745 q745; cases e745; replace hx745_0 := bx HB hx745_0; replace p745 := eq_true p745; replace q745 := eq_true q745
          go_wp2_with (first | ((with_reducible refine gate_callee (f := 194) rfl ?_); refine gB (some 39) Tryz.func194 #[.string (rdOf ByteArray.empty y741 x33_2), .string (⟨#[124]⟩ : ByteArray)] ?_; (with_reducible refine (strings_Cut.calls (rdOf ByteArray.empty y741 x33_2) (⟨#[124]⟩ : ByteArray) t746 t747 true _ A17.out).mono ?_); rintro e w36 ⟨rfl, hb⟩; refine ⟨_, rfl, ?_⟩; replace HO_5 := sb HO_5 hb; replace HB := bs HB hb; (try clear hb); (try clear hb2); (try clear hk); (try clear hi)) | ((with_reducible refine gate_callee (f := 195) rfl ?_); refine gB (some 45) Tryz.func195 #[.string t746] ?_; (with_reducible refine (impl_Number.calls k2 t746 t749 true _ A18.out).mono ?_); rintro e w37 ⟨rfl, hb⟩; refine ⟨_, rfl, ?_⟩; replace HO_5 := sb HO_5 hb; replace HB := bs HB hb; (try clear hb); (try clear hb2); (try clear hk); (try clear hi)) | ((with_reducible refine gate_callee (f := 196) rfl ?_); refine gB (some 50) Tryz.func196 #[.string t747] ?_; (with_reducible refine (impl_TxsOf.calls k2 t747 t751 true _ A19.out).mono ?_); rintro e w38 ⟨v753, rfl, ho0, hb⟩; refine ⟨_, rfl, ?_⟩; replace HO_5 := Aside0.mk (Kd.S_elder' (sI HO_5.out) (Kd.R_base ho0) hb); have HO754 := Aside0.mk (Kd.R_lower ho0 (below_size (bI HB.out))); replace HB := bs HB hb; (try clear hb)) | (go_at_call 138; (with_reducible refine (impl_within.calls t749 (wrap64 (x6_2 + 1)) 60 false _ A23.out).mono ?_); rintro e w' ⟨rfl, ⟨nd, rfl⟩⟩))
          go_ret2
          exact ⟨_, y0_11, Kd.S_lower (base := wc.heap.size) y0_8 (below_size HB0.out), below_step HB0.out (bI HB.out)⟩
         replace c22 := Bool.eq_false_iff.mpr c22; subst c22
         rw [if_neg (show ¬ (false = true) by decide)] at H
         simp only [Option.some.injEq, Prod.mk.injEq] at H
         obtain ⟨rfl, rfl⟩ := H; have p745 : 0 ≤ (x33_2 : Int) := of_decide_eq_true y0_15; have q745 : x33_2 < (y741.length : Int) := of_decide_eq_true y0_15; obtain ⟨ad745, e745, hx745_0⟩ := Kd.at_string HR744.out x33_2 p745 q745; cases e745; replace hx745_0 := bx HB hx745_0; replace p745 := eq_true p745; replace q745 := eq_true q745
         go_wp2_with (first | ((with_reducible refine gate_callee (f := 194) rfl ?_); refine gB (some 39) Tryz.func194 #[.string (rdOf ByteArray.empty y741 x33_2), .string (⟨#[124]⟩ : ByteArray)] ?_; (with_reducible refine (strings_Cut.calls (rdOf ByteArray.empty y741 x33_2) (⟨#[124]⟩ : ByteArray) t746 t747 true _ A17.out).mono ?_); rintro e w39 ⟨rfl, hb⟩; refine ⟨_, rfl, ?_⟩; replace HO_5 := sb HO_5 hb; replace HB := bs HB hb; (try clear hb); (try clear hb2); (try clear hk); (try clear hi)) | ((with_reducible refine gate_callee (f := 195) rfl ?_); refine gB (some 45) Tryz.func195 #[.string t746] ?_; (with_reducible refine (impl_Number.calls k2 t746 t749 true _ A18.out).mono ?_); rintro e w40 ⟨rfl, hb⟩; refine ⟨_, rfl, ?_⟩; replace HO_5 := sb HO_5 hb; replace HB := bs HB hb; (try clear hb); (try clear hb2); (try clear hk); (try clear hi)) | ((with_reducible refine gate_callee (f := 196) rfl ?_); refine gB (some 50) Tryz.func196 #[.string t747] ?_; (with_reducible refine (impl_TxsOf.calls k2 t747 t751 false _ A19.out).mono ?_); rintro e w41 ⟨v753, rfl, ho0, hb⟩; refine ⟨_, rfl, ?_⟩; replace HO_5 := Aside0.mk (Kd.S_elder' (sI HO_5.out) (Kd.R_base ho0) hb); have HO754 := Aside0.mk (Kd.R_lower ho0 (below_size (bI HB.out))); replace HB := bs HB hb; (try clear hb)))
         go_ret2
         exact ⟨_, y0_11, Kd.S_lower (base := wc.heap.size) y0_8 (below_size HB0.out), below_step HB0.out (bI HB.out)⟩
        replace c21 := Bool.eq_false_iff.mpr c21; subst c21
        rw [if_neg (show ¬ (false = true) by decide)] at H
        simp only [Option.some.injEq, Prod.mk.injEq] at H
        obtain ⟨rfl, rfl⟩ := H; have p745 : 0 ≤ (x33_2 : Int) := of_decide_eq_true y0_15; have q745 : x33_2 < (y741.length : Int) := of_decide_eq_true y0_15; obtain ⟨ad745, e745, hx745_0⟩ := Kd.at_string HR744.out x33_2 p745 q745; cases e745; replace hx745_0 := bx HB hx745_0; replace p745 := eq_true p745; replace q745 := eq_true q745
        go_wp2_with (first | ((with_reducible refine gate_callee (f := 194) rfl ?_); refine gB (some 39) Tryz.func194 #[.string (rdOf ByteArray.empty y741 x33_2), .string (⟨#[124]⟩ : ByteArray)] ?_; (with_reducible refine (strings_Cut.calls (rdOf ByteArray.empty y741 x33_2) (⟨#[124]⟩ : ByteArray) t746 t747 true _ A17.out).mono ?_); rintro e w42 ⟨rfl, hb⟩; refine ⟨_, rfl, ?_⟩; replace HO_5 := sb HO_5 hb; replace HB := bs HB hb; (try clear hb); (try clear hb2); (try clear hk); (try clear hi)) | ((with_reducible refine gate_callee (f := 195) rfl ?_); refine gB (some 45) Tryz.func195 #[.string t746] ?_; (with_reducible refine (impl_Number.calls k2 t746 t749 false _ A18.out).mono ?_); rintro e w43 ⟨rfl, hb⟩; refine ⟨_, rfl, ?_⟩; replace HO_5 := sb HO_5 hb; replace HB := bs HB hb; (try clear hb); (try clear hb2); (try clear hk); (try clear hi)) | ((with_reducible refine gate_callee (f := 196) rfl ?_); refine gB (some 50) Tryz.func196 #[.string t747] ?_; (with_reducible refine (impl_TxsOf.calls k2 t747 t751 t752 _ A19.out).mono ?_); rintro e w44 ⟨v753, rfl, ho0, hb⟩; refine ⟨_, rfl, ?_⟩; replace HO_5 := Aside0.mk (Kd.S_elder' (sI HO_5.out) (Kd.R_base ho0) hb); have HO754 := Aside0.mk (Kd.R_lower ho0 (below_size (bI HB.out))); replace HB := bs HB hb; (try clear hb)))
        go_ret2
        exact ⟨_, y0_11, Kd.S_lower (base := wc.heap.size) y0_8 (below_size HB0.out), below_step HB0.out (bI HB.out)⟩
       replace c20 := Bool.eq_false_iff.mpr c20; subst c20
       rw [if_neg (show ¬ (false = true) by decide)] at H
       simp only [Option.some.injEq, Prod.mk.injEq] at H
       obtain ⟨rfl, rfl⟩ := H; have p745 : 0 ≤ (x33_2 : Int) := of_decide_eq_true y0_15; have q745 : x33_2 < (y741.length : Int) := of_decide_eq_true y0_15; obtain ⟨ad745, e745, hx745_0⟩ := Kd.at_string HR744.out x33_2 p745 q745; cases e745; replace hx745_0 := bx HB hx745_0; replace p745 := eq_true p745; replace q745 := eq_true q745
       go_wp2_with (first | ((with_reducible refine gate_callee (f := 194) rfl ?_); refine gB (some 39) Tryz.func194 #[.string (rdOf ByteArray.empty y741 x33_2), .string (⟨#[124]⟩ : ByteArray)] ?_; (with_reducible refine (strings_Cut.calls (rdOf ByteArray.empty y741 x33_2) (⟨#[124]⟩ : ByteArray) t746 t747 false _ A17.out).mono ?_); rintro e w45 ⟨rfl, hb⟩; refine ⟨_, rfl, ?_⟩; replace HO_5 := sb HO_5 hb; replace HB := bs HB hb; (try clear hb); (try clear hb2); (try clear hk); (try clear hi)) | ((with_reducible refine gate_callee (f := 195) rfl ?_); refine gB (some 45) Tryz.func195 #[.string t746] ?_; (with_reducible refine (impl_Number.calls k2 t746 t749 t750 _ A18.out).mono ?_); rintro e w46 ⟨rfl, hb⟩; refine ⟨_, rfl, ?_⟩; replace HO_5 := sb HO_5 hb; replace HB := bs HB hb; (try clear hb); (try clear hb2); (try clear hk); (try clear hi)) | ((with_reducible refine gate_callee (f := 196) rfl ?_); refine gB (some 50) Tryz.func196 #[.string t747] ?_; (with_reducible refine (impl_TxsOf.calls k2 t747 t751 t752 _ A19.out).mono ?_); rintro e w47 ⟨v753, rfl, ho0, hb⟩; refine ⟨_, rfl, ?_⟩; replace HO_5 := Aside0.mk (Kd.S_elder' (sI HO_5.out) (Kd.R_base ho0) hb); have HO754 := Aside0.mk (Kd.R_lower ho0 (below_size (bI HB.out))); replace HB := bs HB hb; (try clear hb)))
       go_ret2
       exact ⟨_, y0_11, Kd.S_lower (base := wc.heap.size) y0_8 (below_size HB0.out), below_step HB0.out (bI HB.out)⟩
      rw [if_neg c14] at H
      have c14b0 : decide (x33_2 < (y741.length : Int)) = false := decide_eq_false c14; clear c14
      simp only [Option.some.injEq, Prod.mk.injEq] at H
      obtain ⟨rfl, rfl⟩ := H
      go_wp2
      go_ret2
      exact ⟨_, y0_11, Kd.S_lower (base := wc.heap.size) (by (with_reducible repeat (first | apply Kd.S_alloc | apply Kd.S_drewN | apply Kd.S_drew)); exact HO_5.out) (below_size HB0.out), below_step HB0.out (bI HB.out)⟩
   rw [if_neg c11] at H
   exact absurd H (by simp)

/-! ### impl_NameOk: function 139 -/
def impl_NameOk.f (k : Nat) (a0 : ByteArray) : Option (Bool) := (impl_Steps.f k a0).bind fun bt759 => (some bt759.2)
theorem impl_NameOk.mono : ∀ a0 k, LeO (impl_NameOk.f k a0) (impl_NameOk.f (k + 1) a0) := by
 intro a0 k
 unfold impl_NameOk.f
 repeat' first | (with_reducible exact impl_Steps.mono _ _) | (with_reducible exact LeO.refl _) | (with_reducible exact LeO.none _) | (with_reducible refine LeO.ite ?_ ?_) | (with_reducible refine LeO.bind ?_ (fun _ => ?_))
set_option maxHeartbeats 8000000 in
set_option maxRecDepth 100000 in
theorem impl_NameOk.calls (k : Nat) (a0 : ByteArray) (r : Bool) (w : World) (h : impl_NameOk.f k a0 = some r) (hG : Glob w := by exact gG HG HB) :
  Calls Tryz.prog 139 #[.string a0] w fun e w' => e = .returned (.bool r) ∧ Below w.heap.size w w' := by
 have HG := Aside0.mk hG; clear hG; have HB := Aside0.mk (Below.refl w.heap.size w)
 have H := h; unfold impl_NameOk.f at H
 clear h; obtain ⟨⟨t759, t760⟩, A2, H⟩ := oB H; (try dsimp only at H); obtain rfl := Option.some.inj H
 go_enter Tryz.func139, Tryz.ntmps139
 go_wp2_with (first | ((with_reducible refine gate_callee (f := 130) rfl ?_); refine gS1 (some 7) Tryz.func130 (impl_Steps.calls (w := _) (h := A2.out)) ?_; intro Ao761 co761 w3 _ HO762))
 go_ret
 exact ⟨y0_16, UpW.out⟩

/-! ### bytealg_LastIndexByteString: function 218 -/
def bytealg_LastIndexByteString.l0 : Nat → ByteArray → Int → Int → Option (Int)
 | 0, _, _, _ => none
 | k + 1, x0, x1, x5 => if x5 ≥ 0 then (if 0 ≤ x5 then (if x5 < (x0.size : Int) then (if (bt x0 x5) = x1 then (some x5) else (bytealg_LastIndexByteString.l0 k x0 x1 (wrap64 (x5 - 1)))) else (none)) else (none)) else (some (-1))
def bytealg_LastIndexByteString.f (k : Nat) (a0 : ByteArray) (a1 : Int) : Option (Int) := bytealg_LastIndexByteString.l0 k a0 a1 (wrap64 ((a0.size : Int) - 1))
theorem bytealg_LastIndexByteString.mono_l : ∀ k, (∀ y0 y1 y2, LeO (bytealg_LastIndexByteString.l0 k y0 y1 y2) (bytealg_LastIndexByteString.l0 (k + 1) y0 y1 y2))
 | 0 => fun _ _ _ r h => by simp [bytealg_LastIndexByteString.l0] at h
 | k + 1 => by
  have ih0 := bytealg_LastIndexByteString.mono_l k
  intro y0 y1 y2
  unfold bytealg_LastIndexByteString.l0
  repeat' first | (with_reducible exact ih0 _ _ _) | (with_reducible exact LeO.refl _) | (with_reducible exact LeO.none _) | (with_reducible refine LeO.ite ?_ ?_) | (with_reducible refine LeO.bind ?_ (fun _ => ?_))
theorem bytealg_LastIndexByteString.mono : ∀ a0 a1 k, LeO (bytealg_LastIndexByteString.f k a0 a1) (bytealg_LastIndexByteString.f (k + 1) a0 a1) := by
 intro a0 a1 k
 have ih0 := bytealg_LastIndexByteString.mono_l k
 unfold bytealg_LastIndexByteString.f
 repeat' first | (with_reducible exact ih0 _ _ _) | (with_reducible exact LeO.refl _) | (with_reducible exact LeO.none _) | (with_reducible refine LeO.ite ?_ ?_) | (with_reducible refine LeO.bind ?_ (fun _ => ?_))
set_option maxHeartbeats 8000000 in
set_option maxRecDepth 100000 in
theorem bytealg_LastIndexByteString.calls (k : Nat) (a0 : ByteArray) (a1 : Int) (r : Int) (w : World) (h : bytealg_LastIndexByteString.f k a0 a1 = some r) :
  Calls Tryz.prog 218 #[.string a0, .int .u8 a1] w fun e w' => e = .returned (.int .i64 r) ∧ Drawn0 w w' := by
 have H := h; unfold bytealg_LastIndexByteString.f at H; clear h; have H' := Aside0.mk H; clear H
 go_enter Tryz.func218, Tryz.ntmps218
 go_wp2
 go_loopg [5] k (fun kq v5 w' => ∃ (x5_1 : Int), v5 = .int .i64 x5_1 ∧ Aside0 (bytealg_LastIndexByteString.l0 kq a0 a1 x5_1 = some r) ∧ Aside0 (kq ≤ k) ∧ Drawn0 w w')
 case atStart => exact ⟨(wrap64 ((a0.size : Int) - 1)), y0_16, H', ⟨Nat.le_refl _⟩, y0_14⟩
 case round =>
  clear H'
  try clear c2
  try clear p2
  obtain ⟨x5_1, rfl, HA, HK1, ⟨m1, rfl⟩⟩ := hrel; cases gk with
  | zero => exact absurd HA.out (by simp [bytealg_LastIndexByteString.l0])
  | succ k1 =>
   have H := HA.out; clear HA
   simp only [bytealg_LastIndexByteString.l0] at H
   by_cases c3 : x5_1 ≥ 0
   ·
    rw [if_pos c3] at H
    have c3b0 : decide (0 ≤ x5_1) = true := decide_eq_true c3; clear c3
    by_cases c4 : 0 ≤ x5_1
    rotate_left
    ·
     rw [if_neg c4] at H
     exact absurd H (by simp)
    rw [if_pos c4] at H
    have c4b0 : decide (0 ≤ x5_1) = true := decide_eq_true c4; clear c4
    by_cases c5 : x5_1 < (a0.size : Int)
    rotate_left
    ·
     rw [if_neg c5] at H
     exact absurd H (by simp)
    rw [if_pos c5] at H
    have c5b0 : decide (x5_1 < (a0.size : Int)) = true := decide_eq_true c5; clear c5
    by_cases c7 : (bt a0 x5_1) = a1
    ·
     rw [if_pos c7] at H
     have c7b0 : ((bt a0 x5_1) == a1) = true := beq_iff_eq.mpr c7; have c7b1 : ((bt a0 x5_1) != a1) = false := bne_eq_false_iff_eq.mpr c7; clear c7; obtain rfl := Option.some.inj H; have p6 : 0 ≤ (x5_1 : Int) := of_decide_eq_true y0_15; have q6 : x5_1 < (a0.size : Int) := of_decide_eq_true y0_15; have hx6 := bt_at a0 x5_1; replace p6 := eq_true p6; replace q6 := eq_true q6
     go_wp2
     go_ret
     exact ⟨y0_16, y0_14⟩
    rw [if_neg c7] at H
    have c7b0 : ((bt a0 x5_1) == a1) = false := beq_eq_false_iff_ne.mpr c7; have c7b1 : ((bt a0 x5_1) != a1) = true := bne_iff_ne.mpr c7; have H' := Aside0.mk H; clear H; have p6 : 0 ≤ (x5_1 : Int) := of_decide_eq_true y0_15; have q6 : x5_1 < (a0.size : Int) := of_decide_eq_true y0_15; have hx6 := bt_at a0 x5_1; replace p6 := eq_true p6; replace q6 := eq_true q6
    go_wp2
    go_roundg k1
    case measure => have := HK1.out; omega
    case rel => exact ⟨(wrap64 (x5_1 - 1)), y0_16, H', ⟨y0_18⟩, y0_14⟩
   rw [if_neg c3] at H
   have c3b0 : decide (0 ≤ x5_1) = false := decide_eq_false c3; clear c3; obtain rfl := Option.some.inj H
   go_wp2
   go_ret
   exact ⟨y0_16, y0_14⟩

/-! ### strings_LastIndexByte: function 166 -/
def strings_LastIndexByte.f (k : Nat) (a0 : ByteArray) (a1 : Int) : Option (Int) := (bytealg_LastIndexByteString.f k a0 a1).bind fun t763 => (some t763)
theorem strings_LastIndexByte.mono : ∀ a0 a1 k, LeO (strings_LastIndexByte.f k a0 a1) (strings_LastIndexByte.f (k + 1) a0 a1) := by
 intro a0 a1 k
 unfold strings_LastIndexByte.f
 repeat' first | (with_reducible exact bytealg_LastIndexByteString.mono _ _ _) | (with_reducible exact LeO.refl _) | (with_reducible exact LeO.none _) | (with_reducible refine LeO.ite ?_ ?_) | (with_reducible refine LeO.bind ?_ (fun _ => ?_))
set_option maxHeartbeats 8000000 in
set_option maxRecDepth 100000 in
theorem strings_LastIndexByte.calls (k : Nat) (a0 : ByteArray) (a1 : Int) (r : Int) (w : World) (h : strings_LastIndexByte.f k a0 a1 = some r) :
  Calls Tryz.prog 166 #[.string a0, .int .u8 a1] w fun e w' => e = .returned (.int .i64 r) ∧ Drawn0 w w' := by
 have H := h; unfold strings_LastIndexByte.f at H
 clear h; obtain ⟨t763, A3, H⟩ := oB H; (try dsimp only at H); obtain rfl := Option.some.inj H
 go_enter Tryz.func166, Tryz.ntmps166
 go_wp2_with (first | ((with_reducible refine gate_callee (f := 218) rfl ?_); refine gB (some 7) Tryz.func218 #[.string a0, .int .u8 a1] ?_; (with_reducible refine (bytealg_LastIndexByteString.calls k a0 a1 t763 _ A3.out).mono ?_); rintro e w' ⟨rfl, ⟨nd, rfl⟩⟩; refine ⟨_, rfl, ?_⟩))
 go_ret
 exact ⟨y0_16, y0_14⟩

/-! ### impl_UpOf: function 84 -/
def impl_UpOf.f (k : Nat) (a0 : ByteArray) : Option (ByteArray) := (impl_NameOk.f k a0).bind fun t764 => (if t764 = true then (if a0.toList = ([] : List UInt8) then (some (⟨#[]⟩ : ByteArray)) else ((strings_LastIndexByte.f k a0 47).bind fun t765 => (if 0 ≤ t765 then (if t765 ≤ (a0.size : Int) then (some (a0.extract 0 (t765 : Int).toNat)) else (none)) else (none)))) else (some (⟨#[]⟩ : ByteArray)))
theorem impl_UpOf.mono : ∀ a0 k, LeO (impl_UpOf.f k a0) (impl_UpOf.f (k + 1) a0) := by
 intro a0 k
 unfold impl_UpOf.f
 repeat' first | (with_reducible exact impl_NameOk.mono _ _) | (with_reducible exact strings_LastIndexByte.mono _ _ _) | (with_reducible exact LeO.refl _) | (with_reducible exact LeO.none _) | (with_reducible refine LeO.ite ?_ ?_) | (with_reducible refine LeO.bind ?_ (fun _ => ?_))
set_option maxHeartbeats 8000000 in
set_option maxRecDepth 100000 in
theorem impl_UpOf.calls (k : Nat) (a0 : ByteArray) (r : ByteArray) (w : World) (h : impl_UpOf.f k a0 = some r) (hG : Glob w := by exact gG HG HB) :
  Calls Tryz.prog 84 #[.string a0] w fun e w' => e = .returned (.string r) ∧ Below w.heap.size w w' := by
 have HG := Aside0.mk hG; clear hG; have HB := Aside0.mk (Below.refl w.heap.size w)
 have H := h; unfold impl_UpOf.f at H
 clear h
 go_enter Tryz.func84, Tryz.ntmps84
 have H' := Aside0.mk H; clear H
 go_upto_region 1 with fail
 have H := H'.out; clear H'; obtain ⟨t764, A2, H⟩ := oB H; (try dsimp only at H)
 by_cases c3 : t764 = true
 ·
  subst c3
  rw [if_pos rfl] at H
  have H' := Aside0.mk H; clear H
  go_upto_if 9 with (first | ((with_reducible refine gate_callee (f := 139) rfl ?_); refine gC (some 4) Tryz.func139 (impl_NameOk.calls (w := _) (h := A2.out)) ?_; intro w4 _))
  have H := H'.out; clear H'
  by_cases c5 : a0.toList = ([] : List UInt8)
  ·
   rw [if_pos c5] at H
   have c5b0 : (a0.toList == ([] : List UInt8)) = true := beq_iff_eq.mpr c5; have c5b1 : (a0.toList != ([] : List UInt8)) = false := bne_eq_false_iff_eq.mpr c5; clear c5
   (first | rw [c5b0] | (simp only [i64_w, i32_w]; rw [c5b0]) | rw [show List.isEmpty (a0.toList) = true from by simpa using c5b0] | skip)
   obtain rfl := Option.some.inj H
   go_wp2
   go_ret
   exact ⟨y0_16, UpW.out⟩
  rw [if_neg c5] at H
  have c5b0 : (a0.toList == ([] : List UInt8)) = false := beq_eq_false_iff_ne.mpr c5; have c5b1 : (a0.toList != ([] : List UInt8)) = true := bne_iff_ne.mpr c5
  (first | rw [c5b0] | (simp only [i64_w, i32_w]; rw [c5b0]) | rw [show List.isEmpty (a0.toList) = false from by simpa using c5b0] | skip)
  obtain ⟨t765, A6, H⟩ := oB H; (try dsimp only at H)
  by_cases c7 : 0 ≤ t765
  rotate_left
  ·
   rw [if_neg c7] at H
   exact absurd H (by simp)
  rw [if_pos c7] at H
  have c7b0 := eq_true c7; have c7b1 : decide (0 ≤ t765) = true := decide_eq_true c7; clear c7
  by_cases c8 : t765 ≤ (a0.size : Int)
  rotate_left
  ·
   rw [if_neg c8] at H
   exact absurd H (by simp)
  rw [if_pos c8] at H
  have c8b0 := eq_true c8; have c8b1 : decide (t765 ≤ (a0.size : Int)) = true := decide_eq_true c8; clear c8; obtain rfl := Option.some.inj H
  go_wp2_with (first | ((with_reducible refine gate_callee (f := 166) rfl ?_); refine gD (some 12) Tryz.func166 (strings_LastIndexByte.calls (w := _) (h := A6.out)) ?_; intro w9 _))
  go_ret
  exact ⟨y0_16, UpW.out⟩
 replace c3 := Bool.eq_false_iff.mpr c3; subst c3
 rw [if_neg (show ¬ (false = true) by decide)] at H
 have H' := Aside0.mk H; clear H
 go_upto_if 9 with (first | ((with_reducible refine gate_callee (f := 139) rfl ?_); refine gC (some 4) Tryz.func139 (impl_NameOk.calls (w := _) (h := A2.out)) ?_; intro w10 _))
 have H := H'.out; clear H'; obtain rfl := Option.some.inj H
 go_wp2
 go_ret
 exact ⟨y0_16, UpW.out⟩

end Go.Proofs.YtnpbopadajbopaaGreatDoor.PFnSafe
