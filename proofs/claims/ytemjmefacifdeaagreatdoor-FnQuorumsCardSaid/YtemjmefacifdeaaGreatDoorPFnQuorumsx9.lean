-- By a program of this session, out of the translation (the print of the kit, with turns of its own). Lean checks it.
import Derived.Test.YtemjmefacifdeaaGreatDoorPFnQuorumsx0
import Derived.Test.YtemjmefacifdeaaGreatDoorPFnQuorumsx8
namespace Go.Proofs.YtemjmefacifdeaaGreatDoor.PFnQuorums
open Go.RowKit Go.Proofs.YtemjmefacifdeaaGreatDoorW.PrintWords Go.Proofs.YtemjmefacifdeaaGreatDoorW.PrintLast Go.Proofs.YtemjmefacifdeaaGreatDoorW.PrintMore
attribute [local go_sem] max2_int min2_int max_two min_two max_three min_three max_four min_four   -- for this text's walks alone
attribute [local go_sem] cell_in frozen_in
set_option synthInstance.maxSize 1000000
set_option synthInstance.maxHeartbeats 2000000
set_option linter.unusedVariables false
set_option linter.unusedSimpArgs false

/-! ### impl_TxsOf: function 122 -/
def impl_TxsOf.l0 : Nat → List (S99) → List ByteArray → Int → Int → Option ((List (S99)) × Bool)
 | 0, _, _, _, _ => none
 | k + 1, x4, x12, x13, x14 => if x14 < x13 then (if 0 ≤ x14 then (if x14 < (x12.length : Int) then ((impl_TxOf.f k (rdOf ByteArray.empty x12 x14)).bind fun bt552 => (if bt552.2.2.2.2 = true then (if x4.length < 4398046511104 then (impl_TxsOf.l0 k (x4 ++ [(⟨bt552.1, bt552.2.1, bt552.2.2.1, bt552.2.2.2.1⟩ : S99)]) x12 x13 (wrap64 (x14 + 1))) else (none)) else (some (([] : List (S99)), false)))) else (none)) else (none)) else (some (x4, true))
def impl_TxsOf.f (k : Nat) (a0 : ByteArray) : Option ((List (S99)) × Bool) := if a0.toList = ([] : List UInt8) then (some (([] : List (S99)), true)) else ((impl_Split.f a0 44).bind fun t548 => (impl_TxsOf.l0 k ([] : List (S99)) t548 (t548.length : Int) 0))
theorem impl_TxsOf.mono_l : ∀ k, (∀ y0 y1 y2 y3, LeO (impl_TxsOf.l0 k y0 y1 y2 y3) (impl_TxsOf.l0 (k + 1) y0 y1 y2 y3))
 | 0 => fun _ _ _ _ r h => by simp [impl_TxsOf.l0] at h
 | k + 1 => by
  have ih0 := impl_TxsOf.mono_l k
  intro y0 y1 y2 y3
  unfold impl_TxsOf.l0
  repeat' first | (with_reducible exact ih0 _ _ _ _) | (with_reducible exact impl_TxOf.mono _ _) | (with_reducible exact LeO.refl _) | (with_reducible exact LeO.none _) | (with_reducible refine LeO.ite ?_ ?_) | (with_reducible refine LeO.bind ?_ (fun _ => ?_))
theorem impl_TxsOf.mono : ∀ a0 k, LeO (impl_TxsOf.f k a0) (impl_TxsOf.f (k + 1) a0) := by
 intro a0 k
 have ih0 := impl_TxsOf.mono_l k
 unfold impl_TxsOf.f
 repeat' first | (with_reducible exact ih0 _ _ _ _) | (with_reducible exact impl_TxOf.mono _ _) | (with_reducible exact LeO.refl _) | (with_reducible exact LeO.none _) | (with_reducible refine LeO.ite ?_ ?_) | (with_reducible refine LeO.bind ?_ (fun _ => ?_))
set_option maxHeartbeats 8000000 in
set_option maxRecDepth 100000 in
theorem impl_TxsOf.calls (k : Nat) (a0 : ByteArray) (r1 : List (S99)) (r2 : Bool) (w : World) (h : impl_TxsOf.f k a0 = some (r1, r2)) (hG : Glob w := by exact gG HG HB) :
  Calls Tryz.prog 122 #[.string a0] w fun e w' => ∃ v0_ : Value, e = .returned (.tuple #[v0_, .bool r2]) ∧ Kd.R k99 99 w' w.heap.size (fun _ => True) v0_ r1 ∧ Below w.heap.size w w' := by
 have HG := Aside0.mk hG; clear hG; have hu99 := Tryz.underlying99; have HB := Aside0.mk (Below.refl w.heap.size w)
 have H := h; unfold impl_TxsOf.f at H
 clear h
 by_cases c2 : a0.toList = ([] : List UInt8)
 ·
  rw [if_pos c2] at H
  have c2b0 : (a0.toList == ([] : List UInt8)) = true := beq_iff_eq.mpr c2; have c2b1 : (a0.toList != ([] : List UInt8)) = false := bne_eq_false_iff_eq.mpr c2; clear c2
  simp only [Option.some.injEq, Prod.mk.injEq] at H
  obtain ⟨rfl, rfl⟩ := H
  go_enter Tryz.func122, Tryz.ntmps122
  go_wp2
  go_ret2
  exact ⟨_, y0_11, y0_7, bI HB.out⟩
 rw [if_neg c2] at H
 have c2b0 : (a0.toList == ([] : List UInt8)) = false := beq_eq_false_iff_ne.mpr c2; have c2b1 : (a0.toList != ([] : List UInt8)) = true := bne_iff_ne.mpr c2; obtain ⟨t548, A3, H⟩ := oB H; (try dsimp only at H); have H' := Aside0.mk H; clear H
 go_enter Tryz.func122, Tryz.ntmps122
 go_wp2_with (first | ((with_reducible refine gate_callee (f := 119) rfl ?_); refine gB (some 12) Tryz.func119 #[.string a0, .int .u8 44] ?_; (with_reducible refine (impl_Split.calls a0 44 t548 _ A3.out).mono ?_); rintro e w4 ⟨v549, rfl, ho0, hb⟩; refine ⟨_, rfl, ?_⟩; have HO550 := Aside0.mk (Kd.R_lower ho0 (below_size (bI HB.out))); replace HB := bs HB hb; (try clear hb); (try clear ho0); obtain ⟨Ao5, co5, eo5⟩ := Kd.R_slice HO550.out; subst eo5))
 go_loopg [4, 14] k (fun kq v4 v14 w' => ∃ (x4_1 : List (S99)) (x14_1 : Int), v14 = .int .i64 x14_1 ∧ Aside0 (impl_TxsOf.l0 kq x4_1 t548 (t548.length : Int) x14_1 = some (r1, r2)) ∧ Aside0 (kq ≤ k) ∧ Aside0 (Kd.R k99 99 w' w.heap.size (fun _ => True) v4 x4_1) ∧ Aside0 (Kd.R Kd.string 9 w' w.heap.size (fun _ => True) (.slice Ao5 t548.length co5) t548) ∧ Aside0 (Below w.heap.size w w'))
 case atStart => exact ⟨(([] : List (S99))), (0), y0_15, H', ⟨Nat.le_refl _⟩, ⟨y0_7⟩, ⟨by (with_reducible repeat (first | apply Kd.R_alloc | apply Kd.R_drewN | apply Kd.R_drew)); exact HO550.out⟩, ⟨bI HB.out⟩⟩
 case round =>
  clear H'
  try clear c1
  try clear c2
  try clear c2b0
  try clear c2b1
  try clear p2
  obtain ⟨x4_1, x14_1, rfl, HA, HK1, HO_4, HO_12, HB⟩ := hrel; cases gk with
  | zero => exact absurd HA.out (by simp [impl_TxsOf.l0])
  | succ k1 =>
   have H := HA.out; clear HA
   simp only [impl_TxsOf.l0] at H
   by_cases c6 : x14_1 < (t548.length : Int)
   ·
    rw [if_pos c6] at H
    have c6b0 : decide (x14_1 < (t548.length : Int)) = true := decide_eq_true c6; clear c6
    by_cases c7 : 0 ≤ x14_1
    rotate_left
    ·
     rw [if_neg c7] at H
     exact absurd H (by simp)
    rw [if_pos c7] at H
    have c7b0 : decide (0 ≤ x14_1) = true := decide_eq_true c7; clear c7
    by_cases c8 : x14_1 < (t548.length : Int)
    rotate_left
    ·
     rw [if_neg c8] at H
     exact absurd H (by simp)
    rw [if_pos c8] at H
    have c8b0 : decide (x14_1 < (t548.length : Int)) = true := decide_eq_true c8; clear c8; obtain ⟨⟨t552, t553, t554, t555, t556⟩, A9, H⟩ := oB H; (try dsimp only at H)
    by_cases c10 : t556 = true
    ·
     subst c10
     rw [if_pos rfl] at H
     by_cases c11 : x4_1.length < 4398046511104
     rotate_left
     ·
      rw [if_neg c11] at H
      exact absurd H (by simp)
     rw [if_pos c11] at H
     have LMc11 := Aside0.mk c11; clear c11; obtain ⟨y558, hy558⟩ : ∃ y_ : List (S99), y_ = (x4_1 ++ [(⟨t552, t553, t554, t555⟩ : S99)]) := ⟨_, rfl⟩
     replace H : (impl_TxsOf.l0 k1 y558 t548 (t548.length : Int) (wrap64 (x14_1 + 1))) = some (r1, r2) := by first | (rw [hy558]; with_reducible exact H) | (have H2_ := (Option.bind_some _ _).symm.trans H; rw [hy558]; with_reducible exact H2_) | (have H2_ := (Option.bind_some _ _).symm.trans H; with_reducible exact H2_) | with_reducible exact H | (rw [hy558]; exact H) | exact H
     have Ny558 := Aside0.mk hy558; clear hy558; have H' := Aside0.mk H; clear H; have p551 : 0 ≤ (x14_1 : Int) := of_decide_eq_true y0_14; have q551 : x14_1 < (t548.length : Int) := of_decide_eq_true y0_14; obtain ⟨ad551, e551, hx551_0⟩ := Kd.at_string (Kd.R_reads' HO_12.out).2.2 x14_1 p551 q551; cases e551; replace p551 := eq_true p551; replace q551 := eq_true q551
     go_wp2_with (first | ((with_reducible refine gate_callee (f := 143) rfl ?_); refine gB (some 20) Tryz.func143 #[.string (rdOf ByteArray.empty t548 x14_1)] ?_; (with_reducible refine (impl_TxOf.calls k1 (rdOf ByteArray.empty t548 x14_1) t552 t553 t554 t555 true _ A9.out).mono ?_); rintro e w12 ⟨rfl, hb⟩; refine ⟨_, rfl, ?_⟩; replace HO_4 := rb HO_4 hb; replace HO_12 := rb HO_12 hb; replace HB := bs HB hb; (try clear hb); (try clear hb2); (try clear hk); (try clear hi)) | ((with_reducible refine gd 7 ?_); refine bA 7 #[.int .i64 0, .int .i64 0, .int .i64 0, .int .i64 0] 99 ?_; intro gb557 hg w13 hbox hb; replace HO_4 := Aside0.mk (Kd.R_below (Kd.R_elderB (rI HO_4.out) gb557 (Nat.le_of_eq hg.symm)) hb); replace HO_12 := rb HO_12 hb; have BK557 := Aside0.mk (hbox); have GW557 := bg hg HB; have GJ557 := gi GW557; have GE557 := GW557; replace HB := bs HB hb; clear hb hbox hg; obtain ⟨hcz14_0, hcz14_1, hcz14_2, hcz14_3, hfz14_0, hfz14_1, hfz14_2, hfz14_3⟩ := cs4 BK557) | ((with_reducible refine gate_builtin (b := .append) (xs := #[.tmp 25, .tmp 27]) rfl ?_); at_builtin; refine Kd.R_append k99 (w0 := w) w.heap.size rfl (.tmp 25) (.tmp 27) 59 99 (.agg #[(.int .i64 0), (.int .i64 0), (.int .i64 0), (.int .i64 0)]) 32 rfl Tryz.underlying59 info99 rfl (by decide) (by omega) u4 x4_1 (⟨t552, t553, t554, t555⟩ : S99) [.int .i64 t552, .int .i64 t553, .int .i64 t554, .int .i64 t555] (fun k_ => k_ ≠ gb557) (fun _ => False) rfl (by first | (go_simp; done) | (go_simp; rfl)) ?aP (fun _ hk => hk.elim) ?aF ?aO ?aB ?aS ?aL ?_; (case aP => exact k99_mkM _ _ _ (⟨t552, t553, t554, t555⟩ : S99)); (case aB => exact (bI HB.out)); (case aF => exact (fun k_ hk => Kd.freshB (g := gb557) (o := .cells #[.int .i64 t552, .int .i64 t553, .int .i64 t554, .int .i64 t555] 99 (0, 0)) (pI BK557) k_ hk)); (case aO => exact (rI (Kd.R_mono (Kd.R_far (p := ⟨gb557, 3, none⟩) (Kd.R_far (p := ⟨gb557, 2, none⟩) (Kd.R_far (p := ⟨gb557, 1, none⟩) (Kd.R_far (p := ⟨gb557, 0, none⟩) (Kd.R_mono HO_4.out (fun k_ hk => (⟨hk, hk.2⟩ : _ ∧ k_ ≠ gb557))) (fun _ hk => hk.2) (.int .i64 t552)) (fun _ hk => hk.2) (.int .i64 t553)) (fun _ hk => hk.2) (.int .i64 t554)) (fun _ hk => hk.2) (.int .i64 t555)) (fun _ hk => hk.1.2)))); (case aS => exact (below_size (bI HB.out))); (case aL => have := LMc11.out; omega); intro v559 w15 ho hb hg hat; rw [← Ny558.out] at ho; have n0_ := Aside0.mk (Kd.R_over' (rI (Kd.R_mono (Kd.R_far (p := ⟨gb557, 3, none⟩) (Kd.R_far (p := ⟨gb557, 2, none⟩) (Kd.R_far (p := ⟨gb557, 1, none⟩) (Kd.R_far (p := ⟨gb557, 0, none⟩) (Kd.R_types HO_12.out BK557.out (by decide)) (fun _ hk => hk.2) (.int .i64 t552)) (fun _ hk => hk.2) (.int .i64 t553)) (fun _ hk => hk.2) (.int .i64 t554)) (fun _ hk => hk.2) (.int .i64 t555)) (fun _ h_ => h_.1))) (Kd.R_typed (rI (Kd.R_mono (Kd.R_far (p := ⟨gb557, 3, none⟩) (Kd.R_far (p := ⟨gb557, 2, none⟩) (Kd.R_far (p := ⟨gb557, 1, none⟩) (Kd.R_far (p := ⟨gb557, 0, none⟩) (Kd.R_mono HO_4.out (fun k_ hk => (⟨hk, hk.2⟩ : _ ∧ k_ ≠ gb557))) (fun _ hk => hk.2) (.int .i64 t552)) (fun _ hk => hk.2) (.int .i64 t553)) (fun _ hk => hk.2) (.int .i64 t554)) (fun _ hk => hk.2) (.int .i64 t555)) (fun _ h_ => h_.1)))) (by decide) hg); have n1_ := Aside0.mk (blk_grown (g := gb557) (o := .cells #[.int .i64 t552, .int .i64 t553, .int .i64 t554, .int .i64 t555] 99 (0, 0)) (pI BK557) hg (Kd.R_away HO_4.out (fun _ hk => hk.2))); have n2_ := Aside0.mk (hb); have n3_ := Aside0.mk (ho); clear HO_12; clear BK557; clear HB; clear HO_4; have HO_12 := n0_; have BK557 := n1_; have HB := n2_; have HO560 := n3_; clear n0_ n1_ n2_ n3_; clear ho hb hg hat))
     go_roundg k1
     case measure => have := HK1.out; omega
     case rel => exact ⟨(y558), (wrap64 (x14_1 + 1)), y0_15, H', ⟨y0_17⟩, ⟨by (with_reducible repeat (first | apply Kd.R_alloc | apply Kd.R_drewN | apply Kd.R_drew)); exact Kd.R_mono HO560.out (fun _ hk => trivial)⟩, ⟨by (with_reducible repeat (first | apply Kd.R_alloc | apply Kd.R_drewN | apply Kd.R_drew)); exact HO_12.out⟩, ⟨bI HB.out⟩⟩
    replace c10 := Bool.eq_false_iff.mpr c10; subst c10
    rw [if_neg (show ¬ (false = true) by decide)] at H
    simp only [Option.some.injEq, Prod.mk.injEq] at H
    obtain ⟨rfl, rfl⟩ := H; have p551 : 0 ≤ (x14_1 : Int) := of_decide_eq_true y0_14; have q551 : x14_1 < (t548.length : Int) := of_decide_eq_true y0_14; obtain ⟨ad551, e551, hx551_0⟩ := Kd.at_string (Kd.R_reads' HO_12.out).2.2 x14_1 p551 q551; cases e551; replace p551 := eq_true p551; replace q551 := eq_true q551
    go_wp2_with (first | ((with_reducible refine gate_callee (f := 143) rfl ?_); refine gB (some 20) Tryz.func143 #[.string (rdOf ByteArray.empty t548 x14_1)] ?_; (with_reducible refine (impl_TxOf.calls k1 (rdOf ByteArray.empty t548 x14_1) t552 t553 t554 t555 false _ A9.out).mono ?_); rintro e w16 ⟨rfl, hb⟩; refine ⟨_, rfl, ?_⟩; replace HO_4 := rb HO_4 hb; replace HO_12 := rb HO_12 hb; replace HB := bs HB hb; (try clear hb); (try clear hb2); (try clear hk); (try clear hi)) | ((with_reducible refine gd 7 ?_); refine bA 7 #[.int .i64 0, .int .i64 0, .int .i64 0, .int .i64 0] 99 ?_; intro gb557 hg w17 hbox hb; replace HO_4 := Aside0.mk (Kd.R_below (Kd.R_elderB (rI HO_4.out) gb557 (Nat.le_of_eq hg.symm)) hb); replace HO_12 := rb HO_12 hb; have BK557 := Aside0.mk (hbox); have GW557 := bg hg HB; have GJ557 := gi GW557; have GE557 := GW557; replace HB := bs HB hb; clear hb hbox hg; obtain ⟨hcz18_0, hcz18_1, hcz18_2, hcz18_3, hfz18_0, hfz18_1, hfz18_2, hfz18_3⟩ := cs4 BK557))
    go_ret2
    exact ⟨_, y0_11, y0_7, bI HB.out⟩
   rw [if_neg c6] at H
   have c6b0 : decide (x14_1 < (t548.length : Int)) = false := decide_eq_false c6; clear c6
   simp only [Option.some.injEq, Prod.mk.injEq] at H
   obtain ⟨rfl, rfl⟩ := H
   go_wp2
   go_ret2
   exact ⟨_, y0_11, by (with_reducible repeat (first | apply Kd.R_alloc | apply Kd.R_drewN | apply Kd.R_drew)); exact HO_4.out, bI HB.out⟩

/-! ### impl_Steps: function 90 -/
mutual
def impl_Steps.j0 : Nat → List ByteArray → Bool → Option ((List (S112)) × Bool)
 | 0, _, _ => none
 | k + 1, x4, x29 => if x29 = true then (some (([] : List (S112)), false)) else (if 1 ≤ (x4.length : Int) then ((some (x4.drop 1 : List ByteArray)).bind fun y565 => (impl_Steps.l0 k ([] : List (S112)) 0 y565 (y565.length : Int) 0)) else (none))
def impl_Steps.l0 : Nat → List (S112) → Int → List ByteArray → Int → Int → Option ((List (S112)) × Bool)
 | 0, _, _, _, _, _ => none
 | k + 1, x5, x6, x31, x32, x33 => if x33 < x32 then (if 0 ≤ x33 then (if x33 < (x31.length : Int) then ((strings_Cut.f (rdOf ByteArray.empty x31 x33) (⟨#[124]⟩ : ByteArray)).bind fun bt570 => ((impl_Number.f k bt570.1).bind fun bt573 => ((impl_TxsOf.f k bt570.2.1).bind fun bt575 => (if bt570.2.2 = true then (if bt573.2 = true then (if bt575.2 = true then ((impl_within.f bt573.1 (wrap64 (x6 + 1)) 60).bind fun t579 => (if t579 = true then (if (bt575.1.length : Int) > 2 then (some (([] : List (S112)), false)) else (if x5.length < 4398046511104 then (impl_Steps.l0 k (x5 ++ [(⟨bt573.1, bt575.1⟩ : S112)]) bt573.1 x31 x32 (wrap64 (x33 + 1))) else (none))) else (some (([] : List (S112)), false)))) else (some (([] : List (S112)), false))) else (some (([] : List (S112)), false))) else (some (([] : List (S112)), false)))))) else (none)) else (none)) else (some (x5, true))
end
def impl_Steps.f (k : Nat) (a0 : ByteArray) : Option ((List (S112)) × Bool) := if a0.toList = ([] : List UInt8) then (some (([] : List (S112)), true)) else ((impl_Split.f a0 47).bind fun t561 => (if 0 < (t561.length : Int) then (if (rdOf ByteArray.empty t561 0).toList = ([] : List UInt8) then (impl_Steps.j0 k t561 (decide ((wrap64 ((t561.length : Int) - 1)) > 30))) else (impl_Steps.j0 k t561 true)) else (none)))
theorem impl_Steps.mono_l : ∀ k, (∀ y0 y1, LeO (impl_Steps.j0 k y0 y1) (impl_Steps.j0 (k + 1) y0 y1)) ∧ (∀ y0 y1 y2 y3 y4, LeO (impl_Steps.l0 k y0 y1 y2 y3 y4) (impl_Steps.l0 (k + 1) y0 y1 y2 y3 y4))
 | 0 => ⟨fun _ _ r h => by simp [impl_Steps.j0] at h, fun _ _ _ _ _ r h => by simp [impl_Steps.l0] at h⟩
 | k + 1 => by
  obtain ⟨ih0, ih1⟩ := impl_Steps.mono_l k
  refine ⟨?_, ?_⟩
  ·
   intro y0 y1
   unfold impl_Steps.j0
   repeat' first | (with_reducible exact ih0 _ _) | (with_reducible exact ih1 _ _ _ _ _) | (with_reducible exact impl_Number.mono _ _) | (with_reducible exact impl_TxsOf.mono _ _) | (with_reducible exact LeO.refl _) | (with_reducible exact LeO.none _) | (with_reducible refine LeO.ite ?_ ?_) | (with_reducible refine LeO.bind ?_ (fun _ => ?_))
  intro y0 y1 y2 y3 y4
  unfold impl_Steps.l0
  repeat' first | (with_reducible exact ih0 _ _) | (with_reducible exact ih1 _ _ _ _ _) | (with_reducible exact impl_Number.mono _ _) | (with_reducible exact impl_TxsOf.mono _ _) | (with_reducible exact LeO.refl _) | (with_reducible exact LeO.none _) | (with_reducible refine LeO.ite ?_ ?_) | (with_reducible refine LeO.bind ?_ (fun _ => ?_))
theorem impl_Steps.mono : ∀ a0 k, LeO (impl_Steps.f k a0) (impl_Steps.f (k + 1) a0) := by
 intro a0 k
 obtain ⟨ih0, ih1⟩ := impl_Steps.mono_l k
 unfold impl_Steps.f
 repeat' first | (with_reducible exact ih0 _ _) | (with_reducible exact ih1 _ _ _ _ _) | (with_reducible exact impl_Number.mono _ _) | (with_reducible exact impl_TxsOf.mono _ _) | (with_reducible exact LeO.refl _) | (with_reducible exact LeO.none _) | (with_reducible refine LeO.ite ?_ ?_) | (with_reducible refine LeO.bind ?_ (fun _ => ?_))
set_option maxHeartbeats 8000000 in
set_option maxRecDepth 100000 in
theorem impl_Steps.calls (k : Nat) (a0 : ByteArray) (r1 : List (S112)) (r2 : Bool) (w : World) (h : impl_Steps.f k a0 = some (r1, r2)) (hG : Glob w := by exact gG HG HB) :
  Calls Tryz.prog 90 #[.string a0] w fun e w' => ∃ v0_ : Value, e = .returned (.tuple #[v0_, .bool r2]) ∧ Kd.S k112 112 w' w.heap.size (fun _ => True) v0_ r1 ∧ Below w.heap.size w w' := by
 have HG := Aside0.mk hG; clear hG; have hu112 := Tryz.underlying112; have HB := Aside0.mk (Below.refl w.heap.size w)
 have H := h; unfold impl_Steps.f at H
 clear h
 by_cases c2 : a0.toList = ([] : List UInt8)
 ·
  rw [if_pos c2] at H
  have c2b0 : (a0.toList == ([] : List UInt8)) = true := beq_iff_eq.mpr c2; have c2b1 : (a0.toList != ([] : List UInt8)) = false := bne_eq_false_iff_eq.mpr c2; clear c2
  simp only [Option.some.injEq, Prod.mk.injEq] at H
  obtain ⟨rfl, rfl⟩ := H
  go_enter Tryz.func90, Tryz.ntmps90
  go_wp2
  go_ret2
  exact ⟨_, y0_11, y0_8, bI HB.out⟩
 rw [if_neg c2] at H
 have c2b0 : (a0.toList == ([] : List UInt8)) = false := beq_eq_false_iff_ne.mpr c2; have c2b1 : (a0.toList != ([] : List UInt8)) = true := bne_iff_ne.mpr c2; obtain ⟨t561, A3, H⟩ := oB H; (try dsimp only at H); have HC4 := Aside0.mk H; clear H
 go_enter Tryz.func90, Tryz.ntmps90
 go_upto_region 4 with (first | ((with_reducible refine gate_callee (f := 119) rfl ?_); refine gB (some 19) Tryz.func119 #[.string a0, .int .u8 47] ?_; (with_reducible refine (impl_Split.calls a0 47 t561 _ A3.out).mono ?_); rintro e w5 ⟨v562, rfl, ho0, hb⟩; refine ⟨_, rfl, ?_⟩; have HO563 := Aside0.mk (Kd.R_lower ho0 (below_size (bI HB.out))); replace HB := bs HB hb; (try clear hb); (try clear ho0)))
 (try simp only [Act.put, List.setIfInBounds_toArray, List.set_cons_zero, List.set_cons_succ])
 go_cut [29] (fun v29 wc => ∃ (kq : Nat) (x29_3 : Bool), v29 = .bool x29_3 ∧ Aside0 (impl_Steps.j0 kq t561 x29_3 = some (r1, r2)) ∧ Aside0 (kq ≤ k) ∧ Aside0 (Kd.R Kd.string 9 wc w.heap.size (fun _ => True) v562 t561) ∧ Aside0 (Below w.heap.size w wc))
 case first =>
  have H := HC4.out; clear HC4
  by_cases c6 : 0 < (t561.length : Int)
  rotate_left
  ·
   rw [if_neg c6] at H
   exact absurd H (by simp)
  rw [if_pos c6] at H
  have c6b0 : decide (0 < (t561.length : Int)) = true := decide_eq_true c6
  have c6b1 : decide (0 < t561.length) = true := decide_eq_true (by omega)
  clear c6
  (first | rw [c6b0] | (simp only [i64_w, i32_w]; rw [c6b0]) | skip)
  by_cases c7 : (rdOf ByteArray.empty t561 0).toList = ([] : List UInt8)
  ·
   rw [if_pos c7] at H
   have c7b0 : ((rdOf ByteArray.empty t561 0).toList == ([] : List UInt8)) = true := beq_iff_eq.mpr c7; have c7b1 : ((rdOf ByteArray.empty t561 0).toList != ([] : List UInt8)) = false := bne_eq_false_iff_eq.mpr c7; clear c7; have H' := Aside0.mk H; clear H; obtain ⟨Ao8, co8, eo8⟩ := Kd.R_slice HO563.out; subst eo8
   have p564 : 0 ≤ (0 : Int) := (by omega)
   have q564 : 0 < (t561.length : Int) := of_decide_eq_true y0_14; obtain ⟨ad564, e564, hx564_0⟩ := Kd.at_string (Kd.R_reads' HO563.out).2.2 0 p564 q564; cases e564
   have qi564 : (0 < t561.length) = True := eq_true (by omega)
   (try rw [show ((0 : Int)).toNat = 0 from rfl] at hx564_0)
   (try rw [Addr.add_zero'] at hx564_0)
   replace p564 := eq_true p564; replace q564 := eq_true q564
   go_wp2
   go_meet
   case rel => exact ⟨_, (decide ((wrap64 ((t561.length : Int) - 1)) > 30)), y0_15, H', ⟨y0_16⟩, ⟨by (with_reducible repeat (first | apply Kd.R_alloc | apply Kd.R_drewN | apply Kd.R_drew)); exact HO563.out⟩, ⟨bI HB.out⟩⟩
  rw [if_neg c7] at H
  have c7b0 : ((rdOf ByteArray.empty t561 0).toList == ([] : List UInt8)) = false := beq_eq_false_iff_ne.mpr c7; have c7b1 : ((rdOf ByteArray.empty t561 0).toList != ([] : List UInt8)) = true := bne_iff_ne.mpr c7; have H' := Aside0.mk H; clear H; obtain ⟨Ao9, co9, eo9⟩ := Kd.R_slice HO563.out; subst eo9
  have p564 : 0 ≤ (0 : Int) := (by omega)
  have q564 : 0 < (t561.length : Int) := of_decide_eq_true y0_14; obtain ⟨ad564, e564, hx564_0⟩ := Kd.at_string (Kd.R_reads' HO563.out).2.2 0 p564 q564; cases e564
  have qi564 : (0 < t561.length) = True := eq_true (by omega)
  (try rw [show ((0 : Int)).toNat = 0 from rfl] at hx564_0)
  (try rw [Addr.add_zero'] at hx564_0)
  replace p564 := eq_true p564; replace q564 := eq_true q564
  go_wp2
  go_meet
  case rel => exact ⟨_, (true), y0_15, H', ⟨y0_16⟩, ⟨by (with_reducible repeat (first | apply Kd.R_alloc | apply Kd.R_drewN | apply Kd.R_drew)); exact HO563.out⟩, ⟨bI HB.out⟩⟩
 case rest =>
  clear HC4
  try clear c1
  try clear c2
  try clear c2b0
  try clear c2b1
  try clear p2
  try clear p5
  try clear q5
  try clear hx5
  try clear qi5
  try clear c6
  try clear c6b0
  try clear c6b1
  try clear p6
  try clear c7
  try clear c7b0
  try clear c7b1
  try clear c9
  try clear hx564_0
  try clear p564
  try clear q564
  obtain ⟨kq, x29_3, rfl, HA, HJ3, HO_4, HB⟩ := hcut; cases kq with
  | zero => exact absurd HA.out (by simp [impl_Steps.j0])
  | succ kj3 =>
   have H := HA.out; clear HA
   simp only [impl_Steps.j0] at H
   by_cases c10 : x29_3 = true
   ·
    subst c10
    rw [if_pos rfl] at H
    simp only [Option.some.injEq, Prod.mk.injEq] at H
    obtain ⟨rfl, rfl⟩ := H
    go_wp2
    go_ret2
    exact ⟨_, y0_11, y0_8, bI HB.out⟩
   replace c10 := Bool.eq_false_iff.mpr c10; subst c10
   rw [if_neg (show ¬ (false = true) by decide)] at H
   by_cases c11 : 1 ≤ (t561.length : Int)
   ·
    rw [if_pos c11] at H
    have c11b0 := eq_true c11; have c11b1 : decide (1 ≤ (t561.length : Int)) = true := decide_eq_true c11; clear c11; obtain ⟨y565, hy565⟩ : ∃ y_ : List ByteArray, y_ = (t561.drop 1) := ⟨_, rfl⟩
    replace H : (impl_Steps.l0 kj3 ([] : List (S112)) 0 y565 (y565.length : Int) 0) = some (r1, r2) := by first | (rw [hy565]; with_reducible exact H) | (have H2_ := (Option.bind_some _ _).symm.trans H; rw [hy565]; with_reducible exact H2_) | (have H2_ := (Option.bind_some _ _).symm.trans H; with_reducible exact H2_) | with_reducible exact H | (rw [hy565]; exact H) | exact H
    have Ny565 := Aside0.mk hy565; clear hy565; have H' := Aside0.mk H; clear H; obtain ⟨Ao13, co13, eo13⟩ := Kd.R_slice HO_4.out; subst eo13; have q12 : (1 : Int) ≤ ((t561.length : Int) : Int) := of_decide_eq_true y0_14; obtain ⟨i012, hi012, _, hsz12, _⟩ := info_parts info9; have hroom12 : t561.length ≤ co13 := (Kd.R_reads' HO_4.out).2.1; have hC12 : Kd.C Kd.string _ Ao13 t561.length t561 := (Kd.R_reads' HO_4.out).2.2
    have hcut12 := cut_from (P := Tryz.prog) 69 9 .i64 Tryz.underlying69 hi012 1 hsz12 Ao13 t561.length co13 1 (by omega) q12
    have hr12 := Kd.C_drop (m := (1 : Int).toNat) (c := co13) hC12 (by omega) hroom12
    obtain ⟨A12, hA12⟩ : ∃ A1, A1 = (if co13 = (1 : Int).toNat then Ao13 else (Ao13 : Option Addr).map (·.add ((1 : Int).toNat * 1))) := ⟨_, rfl⟩
    obtain ⟨c12, hc12⟩ : ∃ c1, c1 = co13 - (1 : Int).toNat := ⟨_, rfl⟩
    have hy12 : y565.length = t561.length - (1 : Int).toNat := (by rw [Ny565.out, List.length_drop] <;> omega)
    rw [show (t561).drop (1 : Int).toNat = y565 from Ny565.out.symm] at hr12
    replace hr12 : Kd.C Kd.string _ A12 y565.length y565 := (by rw [hA12]; exact hr12)
    rw [← hy12, ← hA12, ← hc12] at hcut12
    have HR568 := Aside0.mk hr12
    have HC568 := Aside0.mk (show y565.length ≤ c12 from by rw [hy12, hc12]; exact Nat.sub_le_sub_right hroom12 _)
    clear hr12 hC12 hroom12 hi012 hsz12 hc12; have KY12 := Aside0.mk hy12; have KA12 := Aside0.mk hA12; clear hy12 hA12
    have KL12 := Aside0.mk (show 1 ≤ t561.length from by omega)
    replace q12 := eq_true q12
    go_wp2
    have HB0 := HB; replace HG := Aside0.mk (HG.out.below HB.out); replace HB := Aside0.mk (Below.refl wc.heap.size wc)
    go_loopg [5, 6, 33] kj3 (fun kq v5 v6 v33 w' => ∃ (x5_2 : List (S112)) (x6_2 : Int) (x33_2 : Int), v6 = .int .i64 x6_2 ∧ v33 = .int .i64 x33_2 ∧ Aside0 (impl_Steps.l0 kq x5_2 x6_2 y565 (y565.length : Int) x33_2 = some (r1, r2)) ∧ Aside0 (kq ≤ kj3) ∧ Aside0 (Kd.S k112 112 w' wc.heap.size (fun _ => True) v5 x5_2) ∧ Aside0 (Below wc.heap.size wc w'))
    case atStart => exact ⟨(([] : List (S112))), (0), (0), y0_15, y0_15, H', ⟨Nat.le_refl _⟩, ⟨y0_8⟩, ⟨bI HB.out⟩⟩
    case round =>
     clear H'
     try clear c1
     try clear q1
     try clear c2
     try clear c2b0
     try clear c2b1
     try clear p2
     try clear p5
     try clear q5
     try clear hx5
     try clear qi5
     try clear c6
     try clear c6b0
     try clear c6b1
     try clear p6
     try clear c7
     try clear c7b0
     try clear c7b1
     try clear c9
     try clear c10
     try clear c11
     try clear c11b0
     try clear c11b1
     try clear c12
     try clear q12
     try clear hx564_0
     try clear p2
     try clear p5
     try clear p564
     try clear p6
     try clear q12
     try clear q5
     try clear q564
     obtain ⟨x5_2, x6_2, x33_2, rfl, rfl, HA, HK2, HO_5, HB⟩ := hrel; cases gk with
     | zero => exact absurd HA.out (by simp [impl_Steps.l0])
     | succ k2 =>
      have H := HA.out; clear HA
      simp only [impl_Steps.l0] at H
      by_cases c14 : x33_2 < (y565.length : Int)
      ·
       rw [if_pos c14] at H
       have c14b0 : decide (x33_2 < (y565.length : Int)) = true := decide_eq_true c14; clear c14
       by_cases c15 : 0 ≤ x33_2
       rotate_left
       ·
        rw [if_neg c15] at H
        exact absurd H (by simp)
       rw [if_pos c15] at H
       have c15b0 : decide (0 ≤ x33_2) = true := decide_eq_true c15; clear c15
       by_cases c16 : x33_2 < (y565.length : Int)
       rotate_left
       ·
        rw [if_neg c16] at H
        exact absurd H (by simp)
       rw [if_pos c16] at H
       have c16b0 : decide (x33_2 < (y565.length : Int)) = true := decide_eq_true c16; clear c16; obtain ⟨⟨t570, t571, t572⟩, A17, H⟩ := oB H; (try dsimp only at H); obtain ⟨⟨t573, t574⟩, A18, H⟩ := oB H; (try dsimp only at H); obtain ⟨⟨t575, t576⟩, A19, H⟩ := oB H; (try dsimp only at H)
       by_cases c20 : t572 = true
       ·
        subst c20
        rw [if_pos rfl] at H
        by_cases c21 : t574 = true
        ·
         subst c21
         rw [if_pos rfl] at H
         by_cases c22 : t576 = true
         ·
          subst c22
          rw [if_pos rfl] at H
          obtain ⟨t579, A23, H⟩ := oB H; (try dsimp only at H)
          by_cases c24 : t579 = true
          ·
           subst c24
           rw [if_pos rfl] at H
           by_cases c25 : (t575.length : Int) > 2
           ·
            rw [if_pos c25] at H
            have c25b0 : decide (2 < (t575.length : Int)) = true := decide_eq_true c25
            have c25b1 : decide (2 < t575.length) = true := decide_eq_true (by omega)
            clear c25
            simp only [Option.some.injEq, Prod.mk.injEq] at H
            obtain ⟨rfl, rfl⟩ := H; have p569 : 0 ≤ (x33_2 : Int) := of_decide_eq_true y0_14; have q569 : x33_2 < (y565.length : Int) := of_decide_eq_true y0_14; obtain ⟨ad569, e569, hx569_0⟩ := Kd.at_string HR568.out x33_2 p569 q569; cases e569; replace hx569_0 := bx HB hx569_0; replace p569 := eq_true p569; replace q569 := eq_true q569
            go_wp2_with (first | ((with_reducible refine gate_callee (f := 120) rfl ?_); refine gB (some 39) Tryz.func120 #[.string (rdOf ByteArray.empty y565 x33_2), .string (⟨#[124]⟩ : ByteArray)] ?_; (with_reducible refine (strings_Cut.calls (rdOf ByteArray.empty y565 x33_2) (⟨#[124]⟩ : ByteArray) t570 t571 true _ A17.out).mono ?_); rintro e w26 ⟨rfl, hb⟩; refine ⟨_, rfl, ?_⟩; replace HO_5 := sb HO_5 hb; replace HB := bs HB hb; (try clear hb); (try clear hb2); (try clear hk); (try clear hi)) | ((with_reducible refine gate_callee (f := 121) rfl ?_); refine gB (some 45) Tryz.func121 #[.string t570] ?_; (with_reducible refine (impl_Number.calls k2 t570 t573 true _ A18.out).mono ?_); rintro e w27 ⟨rfl, hb⟩; refine ⟨_, rfl, ?_⟩; replace HO_5 := sb HO_5 hb; replace HB := bs HB hb; (try clear hb); (try clear hb2); (try clear hk); (try clear hi)) | ((with_reducible refine gate_callee (f := 122) rfl ?_); refine gB (some 50) Tryz.func122 #[.string t571] ?_; (with_reducible refine (impl_TxsOf.calls k2 t571 t575 true _ A19.out).mono ?_); rintro e w28 ⟨v577, rfl, ho0, hb⟩; refine ⟨_, rfl, ?_⟩; replace HO_5 := Aside0.mk (Kd.S_elder' (sI HO_5.out) (Kd.R_base ho0) hb); have HO578 := Aside0.mk (Kd.R_lower ho0 (below_size (bI HB.out))); replace HB := bs HB hb; (try clear hb)) | (go_at_call 99; (with_reducible refine (impl_within.calls t573 (wrap64 (x6_2 + 1)) 60 true _ A23.out).mono ?_); rintro e w' ⟨rfl, ⟨nd, rfl⟩⟩; obtain ⟨Ao29, co29, eo29⟩ := Kd.R_slice HO578.out; subst eo29))
            go_ret2
            exact ⟨_, y0_11, Kd.S_lower (base := wc.heap.size) y0_8 (below_size HB0.out), below_step HB0.out (bI HB.out)⟩
           rw [if_neg c25] at H
           have c25b0 : decide (2 < (t575.length : Int)) = false := decide_eq_false c25
           have c25b1 : decide (2 < t575.length) = false := decide_eq_false (by omega)
           clear c25
           by_cases c30 : x5_2.length < 4398046511104
           rotate_left
           ·
            rw [if_neg c30] at H
            exact absurd H (by simp)
           rw [if_pos c30] at H
           have LMc30 := Aside0.mk c30; clear c30; obtain ⟨y580, hy580⟩ : ∃ y_ : List (S112), y_ = (x5_2 ++ [(⟨t573, t575⟩ : S112)]) := ⟨_, rfl⟩
           replace H : (impl_Steps.l0 k2 y580 t573 y565 (y565.length : Int) (wrap64 (x33_2 + 1))) = some (r1, r2) := by first | (rw [hy580]; with_reducible exact H) | (have H2_ := (Option.bind_some _ _).symm.trans H; rw [hy580]; with_reducible exact H2_) | (have H2_ := (Option.bind_some _ _).symm.trans H; with_reducible exact H2_) | with_reducible exact H | (rw [hy580]; exact H) | exact H
           have Ny580 := Aside0.mk hy580; clear hy580; have H' := Aside0.mk H; clear H; have p569 : 0 ≤ (x33_2 : Int) := of_decide_eq_true y0_14; have q569 : x33_2 < (y565.length : Int) := of_decide_eq_true y0_14; obtain ⟨ad569, e569, hx569_0⟩ := Kd.at_string HR568.out x33_2 p569 q569; cases e569; replace hx569_0 := bx HB hx569_0; replace p569 := eq_true p569; replace q569 := eq_true q569
           go_wp2_with (first | ((with_reducible refine gate_callee (f := 120) rfl ?_); refine gB (some 39) Tryz.func120 #[.string (rdOf ByteArray.empty y565 x33_2), .string (⟨#[124]⟩ : ByteArray)] ?_; (with_reducible refine (strings_Cut.calls (rdOf ByteArray.empty y565 x33_2) (⟨#[124]⟩ : ByteArray) t570 t571 true _ A17.out).mono ?_); rintro e w31 ⟨rfl, hb⟩; refine ⟨_, rfl, ?_⟩; replace HO_5 := sb HO_5 hb; replace HB := bs HB hb; (try clear hb); (try clear hb2); (try clear hk); (try clear hi)) | ((with_reducible refine gate_callee (f := 121) rfl ?_); refine gB (some 45) Tryz.func121 #[.string t570] ?_; (with_reducible refine (impl_Number.calls k2 t570 t573 true _ A18.out).mono ?_); rintro e w32 ⟨rfl, hb⟩; refine ⟨_, rfl, ?_⟩; replace HO_5 := sb HO_5 hb; replace HB := bs HB hb; (try clear hb); (try clear hb2); (try clear hk); (try clear hi)) | ((with_reducible refine gate_callee (f := 122) rfl ?_); refine gB (some 50) Tryz.func122 #[.string t571] ?_; (with_reducible refine (impl_TxsOf.calls k2 t571 t575 true _ A19.out).mono ?_); rintro e w33 ⟨v577, rfl, ho0, hb⟩; refine ⟨_, rfl, ?_⟩; replace HO_5 := Aside0.mk (Kd.S_elder' (sI HO_5.out) (Kd.R_base ho0) hb); have HO578 := Aside0.mk (Kd.R_lower ho0 (below_size (bI HB.out))); replace HB := bs HB hb; (try clear hb)) | (go_at_call 99; (with_reducible refine (impl_within.calls t573 (wrap64 (x6_2 + 1)) 60 true _ A23.out).mono ?_); rintro e w' ⟨rfl, ⟨nd, rfl⟩⟩; obtain ⟨Ao34, co34, eo34⟩ := Kd.R_slice HO578.out; subst eo34) | ((with_reducible refine gate_builtin (b := .append) (xs := #[.tmp 75, .tmp 79]) rfl ?_); (try (refine gate_guard (by rfl) ?_; dsimp only)); at_builtin; refine Kd.S_append k112 (w0 := wc) wc.heap.size rfl (.tmp 75) (.tmp 79) 108 112 (.agg #[(.int .i64 0), (.slice none 0 0)]) 32 rfl Tryz.underlying108 info112 rfl (by decide) (by omega) u5 x5_2 (⟨t573, t575⟩ : S112) [.int .i64 t573, .slice Ao34 t575.length co34] (fun _ => True) (fun k_ => some k_ = (.slice Ao34 t575.length co34 : Value).ownBlock) rfl rfl ?aP (fun k_ hk_ => ((Kd.R_mono (ok' := fun k_ => ((fun _ => True)) k_ ∧ some k_ ≠ (u5 : Value).ownBlock) (Kd.R_apart' (HO578.out) (Kd.S_typed HO_5.out) (by decide)) (fun k_ hk => ⟨trivial, hk.2⟩))).1 k_ hk_.symm) ?aF ?aO ?aB ?aS ?aL ?_; (case aP => exact k112_mkM _ _ _ (⟨t573, t575⟩ : S112) (Kd.R_mono (Kd.R_tight rfl (Kd.R_mono (ok' := fun k_ => ((fun _ => True)) k_ ∧ some k_ ≠ (u5 : Value).ownBlock) (Kd.R_apart' (HO578.out) (Kd.S_typed HO_5.out) (by decide)) (fun k_ hk => ⟨trivial, hk.2⟩))) (fun _ h_ => h_))); (case aB => exact (bI HB.out)); (case aF => exact (fun _ _ => trivial)); (case aO => exact (sI (Kd.S_mono HO_5.out (fun k_ hk => ⟨trivial, fun e_ => hk.2 e_⟩)))); (case aS => exact (below_size (bI HB.out))); (case aL => have := LMc30.out; omega); intro v581 w35 ho hb hg hat; rw [← Ny580.out] at ho; have n0_ := Aside0.mk (hb); have n1_ := Aside0.mk (ho); clear HB; clear HO_5; clear HO578; have HB := n0_; have HO582 := n1_; clear n0_ n1_; clear ho hb hg hat))
           go_roundg k2
           case measure => have := HJ3.out; have := HK2.out; omega
           case rel => exact ⟨(y580), (t573), (wrap64 (x33_2 + 1)), y0_15, y0_15, H', ⟨by have := HJ3.out; have := HK2.out; omega⟩, ⟨by (with_reducible repeat (first | apply Kd.S_alloc | apply Kd.S_drewN | apply Kd.S_drew)); exact HO582.out⟩, ⟨bI HB.out⟩⟩
          replace c24 := Bool.eq_false_iff.mpr c24; subst c24
          rw [if_neg (show ¬ (false = true) by decide)] at H
          simp only [Option.some.injEq, Prod.mk.injEq] at H
          obtain ⟨rfl, rfl⟩ := H; have p569 : 0 ≤ (x33_2 : Int) := of_decide_eq_true y0_14; have q569 : x33_2 < (y565.length : Int) := of_decide_eq_true y0_14; obtain ⟨ad569, e569, hx569_0⟩ := Kd.at_string HR568.out x33_2 p569 q569; cases e569; replace hx569_0 := bx HB hx569_0; replace p569 := eq_true p569; replace q569 := eq_true q569
          go_wp2_with (first | ((with_reducible refine gate_callee (f := 120) rfl ?_); refine gB (some 39) Tryz.func120 #[.string (rdOf ByteArray.empty y565 x33_2), .string (⟨#[124]⟩ : ByteArray)] ?_; (with_reducible refine (strings_Cut.calls (rdOf ByteArray.empty y565 x33_2) (⟨#[124]⟩ : ByteArray) t570 t571 true _ A17.out).mono ?_); rintro e w36 ⟨rfl, hb⟩; refine ⟨_, rfl, ?_⟩; replace HO_5 := sb HO_5 hb; replace HB := bs HB hb; (try clear hb); (try clear hb2); (try clear hk); (try clear hi)) | ((with_reducible refine gate_callee (f := 121) rfl ?_); refine gB (some 45) Tryz.func121 #[.string t570] ?_; (with_reducible refine (impl_Number.calls k2 t570 t573 true _ A18.out).mono ?_); rintro e w37 ⟨rfl, hb⟩; refine ⟨_, rfl, ?_⟩; replace HO_5 := sb HO_5 hb; replace HB := bs HB hb; (try clear hb); (try clear hb2); (try clear hk); (try clear hi)) | ((with_reducible refine gate_callee (f := 122) rfl ?_); refine gB (some 50) Tryz.func122 #[.string t571] ?_; (with_reducible refine (impl_TxsOf.calls k2 t571 t575 true _ A19.out).mono ?_); rintro e w38 ⟨v577, rfl, ho0, hb⟩; refine ⟨_, rfl, ?_⟩; replace HO_5 := Aside0.mk (Kd.S_elder' (sI HO_5.out) (Kd.R_base ho0) hb); have HO578 := Aside0.mk (Kd.R_lower ho0 (below_size (bI HB.out))); replace HB := bs HB hb; (try clear hb)) | (go_at_call 99; (with_reducible refine (impl_within.calls t573 (wrap64 (x6_2 + 1)) 60 false _ A23.out).mono ?_); rintro e w' ⟨rfl, ⟨nd, rfl⟩⟩))
          go_ret2
          exact ⟨_, y0_11, Kd.S_lower (base := wc.heap.size) y0_8 (below_size HB0.out), below_step HB0.out (bI HB.out)⟩
         replace c22 := Bool.eq_false_iff.mpr c22; subst c22
         rw [if_neg (show ¬ (false = true) by decide)] at H
         simp only [Option.some.injEq, Prod.mk.injEq] at H
         obtain ⟨rfl, rfl⟩ := H; have p569 : 0 ≤ (x33_2 : Int) := of_decide_eq_true y0_14; have q569 : x33_2 < (y565.length : Int) := of_decide_eq_true y0_14; obtain ⟨ad569, e569, hx569_0⟩ := Kd.at_string HR568.out x33_2 p569 q569; cases e569; replace hx569_0 := bx HB hx569_0; replace p569 := eq_true p569; replace q569 := eq_true q569
         go_wp2_with (first | ((with_reducible refine gate_callee (f := 120) rfl ?_); refine gB (some 39) Tryz.func120 #[.string (rdOf ByteArray.empty y565 x33_2), .string (⟨#[124]⟩ : ByteArray)] ?_; (with_reducible refine (strings_Cut.calls (rdOf ByteArray.empty y565 x33_2) (⟨#[124]⟩ : ByteArray) t570 t571 true _ A17.out).mono ?_); rintro e w39 ⟨rfl, hb⟩; refine ⟨_, rfl, ?_⟩; replace HO_5 := sb HO_5 hb; replace HB := bs HB hb; (try clear hb); (try clear hb2); (try clear hk); (try clear hi)) | ((with_reducible refine gate_callee (f := 121) rfl ?_); refine gB (some 45) Tryz.func121 #[.string t570] ?_; (with_reducible refine (impl_Number.calls k2 t570 t573 true _ A18.out).mono ?_); rintro e w40 ⟨rfl, hb⟩; refine ⟨_, rfl, ?_⟩; replace HO_5 := sb HO_5 hb; replace HB := bs HB hb; (try clear hb); (try clear hb2); (try clear hk); (try clear hi)) | ((with_reducible refine gate_callee (f := 122) rfl ?_); refine gB (some 50) Tryz.func122 #[.string t571] ?_; (with_reducible refine (impl_TxsOf.calls k2 t571 t575 false _ A19.out).mono ?_); rintro e w41 ⟨v577, rfl, ho0, hb⟩; refine ⟨_, rfl, ?_⟩; replace HO_5 := Aside0.mk (Kd.S_elder' (sI HO_5.out) (Kd.R_base ho0) hb); have HO578 := Aside0.mk (Kd.R_lower ho0 (below_size (bI HB.out))); replace HB := bs HB hb; (try clear hb)))
         go_ret2
         exact ⟨_, y0_11, Kd.S_lower (base := wc.heap.size) y0_8 (below_size HB0.out), below_step HB0.out (bI HB.out)⟩
        replace c21 := Bool.eq_false_iff.mpr c21; subst c21
        rw [if_neg (show ¬ (false = true) by decide)] at H
        simp only [Option.some.injEq, Prod.mk.injEq] at H
        obtain ⟨rfl, rfl⟩ := H; have p569 : 0 ≤ (x33_2 : Int) := of_decide_eq_true y0_14; have q569 : x33_2 < (y565.length : Int) := of_decide_eq_true y0_14; obtain ⟨ad569, e569, hx569_0⟩ := Kd.at_string HR568.out x33_2 p569 q569; cases e569; replace hx569_0 := bx HB hx569_0; replace p569 := eq_true p569; replace q569 := eq_true q569
        go_wp2_with (first | ((with_reducible refine gate_callee (f := 120) rfl ?_); refine gB (some 39) Tryz.func120 #[.string (rdOf ByteArray.empty y565 x33_2), .string (⟨#[124]⟩ : ByteArray)] ?_; (with_reducible refine (strings_Cut.calls (rdOf ByteArray.empty y565 x33_2) (⟨#[124]⟩ : ByteArray) t570 t571 true _ A17.out).mono ?_); rintro e w42 ⟨rfl, hb⟩; refine ⟨_, rfl, ?_⟩; replace HO_5 := sb HO_5 hb; replace HB := bs HB hb; (try clear hb); (try clear hb2); (try clear hk); (try clear hi)) | ((with_reducible refine gate_callee (f := 121) rfl ?_); refine gB (some 45) Tryz.func121 #[.string t570] ?_; (with_reducible refine (impl_Number.calls k2 t570 t573 false _ A18.out).mono ?_); rintro e w43 ⟨rfl, hb⟩; refine ⟨_, rfl, ?_⟩; replace HO_5 := sb HO_5 hb; replace HB := bs HB hb; (try clear hb); (try clear hb2); (try clear hk); (try clear hi)) | ((with_reducible refine gate_callee (f := 122) rfl ?_); refine gB (some 50) Tryz.func122 #[.string t571] ?_; (with_reducible refine (impl_TxsOf.calls k2 t571 t575 t576 _ A19.out).mono ?_); rintro e w44 ⟨v577, rfl, ho0, hb⟩; refine ⟨_, rfl, ?_⟩; replace HO_5 := Aside0.mk (Kd.S_elder' (sI HO_5.out) (Kd.R_base ho0) hb); have HO578 := Aside0.mk (Kd.R_lower ho0 (below_size (bI HB.out))); replace HB := bs HB hb; (try clear hb)))
        go_ret2
        exact ⟨_, y0_11, Kd.S_lower (base := wc.heap.size) y0_8 (below_size HB0.out), below_step HB0.out (bI HB.out)⟩
       replace c20 := Bool.eq_false_iff.mpr c20; subst c20
       rw [if_neg (show ¬ (false = true) by decide)] at H
       simp only [Option.some.injEq, Prod.mk.injEq] at H
       obtain ⟨rfl, rfl⟩ := H; have p569 : 0 ≤ (x33_2 : Int) := of_decide_eq_true y0_14; have q569 : x33_2 < (y565.length : Int) := of_decide_eq_true y0_14; obtain ⟨ad569, e569, hx569_0⟩ := Kd.at_string HR568.out x33_2 p569 q569; cases e569; replace hx569_0 := bx HB hx569_0; replace p569 := eq_true p569; replace q569 := eq_true q569
       go_wp2_with (first | ((with_reducible refine gate_callee (f := 120) rfl ?_); refine gB (some 39) Tryz.func120 #[.string (rdOf ByteArray.empty y565 x33_2), .string (⟨#[124]⟩ : ByteArray)] ?_; (with_reducible refine (strings_Cut.calls (rdOf ByteArray.empty y565 x33_2) (⟨#[124]⟩ : ByteArray) t570 t571 false _ A17.out).mono ?_); rintro e w45 ⟨rfl, hb⟩; refine ⟨_, rfl, ?_⟩; replace HO_5 := sb HO_5 hb; replace HB := bs HB hb; (try clear hb); (try clear hb2); (try clear hk); (try clear hi)) | ((with_reducible refine gate_callee (f := 121) rfl ?_); refine gB (some 45) Tryz.func121 #[.string t570] ?_; (with_reducible refine (impl_Number.calls k2 t570 t573 t574 _ A18.out).mono ?_); rintro e w46 ⟨rfl, hb⟩; refine ⟨_, rfl, ?_⟩; replace HO_5 := sb HO_5 hb; replace HB := bs HB hb; (try clear hb); (try clear hb2); (try clear hk); (try clear hi)) | ((with_reducible refine gate_callee (f := 122) rfl ?_); refine gB (some 50) Tryz.func122 #[.string t571] ?_; (with_reducible refine (impl_TxsOf.calls k2 t571 t575 t576 _ A19.out).mono ?_); rintro e w47 ⟨v577, rfl, ho0, hb⟩; refine ⟨_, rfl, ?_⟩; replace HO_5 := Aside0.mk (Kd.S_elder' (sI HO_5.out) (Kd.R_base ho0) hb); have HO578 := Aside0.mk (Kd.R_lower ho0 (below_size (bI HB.out))); replace HB := bs HB hb; (try clear hb)))
       go_ret2
       exact ⟨_, y0_11, Kd.S_lower (base := wc.heap.size) y0_8 (below_size HB0.out), below_step HB0.out (bI HB.out)⟩
      rw [if_neg c14] at H
      have c14b0 : decide (x33_2 < (y565.length : Int)) = false := decide_eq_false c14; clear c14
      simp only [Option.some.injEq, Prod.mk.injEq] at H
      obtain ⟨rfl, rfl⟩ := H
      go_wp2
      go_ret2
      exact ⟨_, y0_11, Kd.S_lower (base := wc.heap.size) (by (with_reducible repeat (first | apply Kd.S_alloc | apply Kd.S_drewN | apply Kd.S_drew)); exact HO_5.out) (below_size HB0.out), below_step HB0.out (bI HB.out)⟩
   rw [if_neg c11] at H
   exact absurd H (by simp)

/-! ### impl_ViewOf: function 44 -/
def impl_ViewOf.f (k : Nat) (a0 : ByteArray) : Option (Int) := (impl_Steps.f k a0).bind fun bt583 => (if (bt583.1.length : Int) = 0 then (some 0) else (if 0 ≤ (wrap64 ((bt583.1.length : Int) - 1)) then (if (wrap64 ((bt583.1.length : Int) - 1)) < (bt583.1.length : Int) then (some ((rd_T112 bt583.1 (wrap64 ((bt583.1.length : Int) - 1))).f0)) else (none)) else (none)))
theorem impl_ViewOf.mono : ∀ a0 k, LeO (impl_ViewOf.f k a0) (impl_ViewOf.f (k + 1) a0) := by
 intro a0 k
 unfold impl_ViewOf.f
 repeat' first | (with_reducible exact impl_Steps.mono _ _) | (with_reducible exact LeO.refl _) | (with_reducible exact LeO.none _) | (with_reducible refine LeO.ite ?_ ?_) | (with_reducible refine LeO.bind ?_ (fun _ => ?_))
set_option maxHeartbeats 8000000 in
set_option maxRecDepth 100000 in
theorem impl_ViewOf.calls (k : Nat) (a0 : ByteArray) (r : Int) (w : World) (h : impl_ViewOf.f k a0 = some r) (hG : Glob w := by exact gG HG HB) :
  Calls Tryz.prog 44 #[.string a0] w fun e w' => e = .returned (.int .i64 r) ∧ Below w.heap.size w w' := by
 have HG := Aside0.mk hG; clear hG; have HB := Aside0.mk (Below.refl w.heap.size w)
 have H := h; unfold impl_ViewOf.f at H
 clear h; obtain ⟨⟨t583, t584⟩, A2, H⟩ := oB H; (try dsimp only at H)
 by_cases c3 : (t583.length : Int) = 0
 ·
  rw [if_pos c3] at H
  have c3b0 : ((t583.length : Int) == 0) = true := beq_iff_eq.mpr c3; have c3b1 : ((t583.length : Int) != 0) = false := bne_eq_false_iff_eq.mpr c3; clear c3; obtain rfl := Option.some.inj H
  go_enter Tryz.func44, Tryz.ntmps44
  go_wp2_with (first | ((with_reducible refine gate_callee (f := 90) rfl ?_); refine gB (some 7) Tryz.func90 #[.string a0] ?_; (with_reducible refine (impl_Steps.calls k a0 t583 t584 _ A2.out).mono ?_); rintro e w4 ⟨v585, rfl, ho0, hb⟩; refine ⟨_, rfl, ?_⟩; have HO586 := Aside0.mk (Kd.S_lower ho0 (below_size (bI HB.out))); replace HB := bs HB hb; (try clear hb); (try clear ho0); obtain ⟨Ao5, co5, eo5⟩ := Kd.S_slice HO586.out; subst eo5))
  go_ret
  exact ⟨y0_11, bI HB.out⟩
 rw [if_neg c3] at H
 have c3b0 : ((t583.length : Int) == 0) = false := beq_eq_false_iff_ne.mpr c3; have c3b1 : ((t583.length : Int) != 0) = true := bne_iff_ne.mpr c3
 have c3b2 : ¬ (t583 = []) := fun h_ => c3 (by rw [h_]; rfl)
 obtain ⟨ji6, hji6⟩ : ∃ j_ : Int, (wrap64 ((t583.length : Int) - 1)) = j_ := ⟨_, rfl⟩
 replace H : (if 0 ≤ (ji6) then (if (ji6) < (t583.length : Int) then (some ((rd_T112 t583 (ji6)).f0)) else (none)) else (none)) = some r := by first | (rw [hji6] at H; exact H) | (simp only [hji6] at H ⊢; exact H)
 (try rw [hji6] at A2)
 have hji6w : (IntKind.i64.wrap ((t583.length : Int) - 1)) = ji6 := (i64_w _).trans hji6
 by_cases c7 : 0 ≤ (ji6)
 ·
  rw [if_pos c7] at H
  have c7b0 : decide (0 ≤ (ji6)) = true := decide_eq_true c7; clear c7
  by_cases c8 : (ji6) < (t583.length : Int)
  rotate_left
  ·
   rw [if_neg c8] at H
   exact absurd H (by simp)
  rw [if_pos c8] at H
  have c8b0 : decide ((ji6) < (t583.length : Int)) = true := decide_eq_true c8; clear c8; obtain rfl := Option.some.inj H
  go_enter Tryz.func44, Tryz.ntmps44
  go_wp2_with (first | ((with_reducible refine gate_callee (f := 90) rfl ?_); refine gB (some 7) Tryz.func90 #[.string a0] ?_; (with_reducible refine (impl_Steps.calls k a0 t583 t584 _ A2.out).mono ?_); rintro e w9 ⟨v585, rfl, ho0, hb⟩; refine ⟨_, rfl, ?_⟩; have HO586 := Aside0.mk (Kd.S_lower ho0 (below_size (bI HB.out))); replace HB := bs HB hb; (try clear hb); (try clear ho0); obtain ⟨Ao10, co10, eo10⟩ := Kd.S_slice HO586.out; subst eo10; have p587 : 0 ≤ ((ji6) : Int) := of_decide_eq_true y0_14; have q587 : (ji6) < (t583.length : Int) := of_decide_eq_true y0_14; obtain ⟨ad587, A587_1, c587_1, e587, hx587_0, hx587_1, hl587_1, hi587_1⟩ := at_T112 (Kd.S_reads' HO586.out).2.2 (ji6) p587 q587; cases e587; obtain ⟨ce587, hce587, hMe587, hcc587⟩ := Kd.S_get HO586.out z112 (ji6) p587 (by first | exact q587 | exact of_decide_eq_true y0_14 | (have e_ := (Kd.S_reads' HO586.out).1; omega)); obtain ⟨ve587_1, rfl, ge587_1⟩ := k112_openM hMe587; have hv587_1 := hcc587 1 _ rfl; rw [add_field _ _ 1 (by omega)] at hv587_1; replace hv587_1 := Option.some.inj (hv587_1.symm.trans hx587_1); rw [hv587_1] at ge587_1; have HL587_1 := Aside0.mk (show Kd.R k99 99 _ _ _ _ ((rd_T112 t583 (ji6)).f1) from ge587_1); clear hv587_1 ge587_1; clear hcc587 hce587; have HR587_1 := Aside0.mk hi587_1; have HC587_1 := Aside0.mk hl587_1; clear hi587_1 hl587_1; replace p587 := eq_true p587; replace q587 := eq_true q587))
  go_ret
  exact ⟨by first | rfl | (simp [errW_none, errW_some] <;> rfl) | (simp only [← hji6]; first | rfl | (simp [errW_none, errW_some] <;> rfl)) | (simp [*, errW_none, errW_some] <;> rfl), bI HB.out⟩
 rw [if_neg c7] at H
 exact absurd H (by simp)

/-! ### impl_ConfOk: function 54 -/
def impl_ConfOk.f (a0_0 : Int) (a0_1 : Int) : Option (Bool) := (impl_within.f a0_0 4 7).bind fun t589 => (if t589 = true then ((impl_within.f a0_1 1 6).bind fun t590 => (some t590)) else (some false))
set_option maxHeartbeats 8000000 in
set_option maxRecDepth 100000 in
theorem impl_ConfOk.calls (a0_0 : Int) (a0_1 : Int) (r : Bool) (w : World) (h : impl_ConfOk.f a0_0 a0_1 = some r) :
  Calls Tryz.prog 54 #[.agg #[.int .i64 a0_0, .int .i64 a0_1]] w fun e w' => e = .returned (.bool r) ∧ Below w.heap.size w w' := by
 have hu38 := Tryz.underlying38; have HB := Aside0.mk (Below.refl w.heap.size w)
 have H := h; unfold impl_ConfOk.f at H
 clear h
 go_enter Tryz.func54, Tryz.ntmps54
 have H' := Aside0.mk H; clear H
 go_upto_region 1 with (first | ((with_reducible refine gd 1 ?_); refine bL 1 #[.int .i64 a0_0, .int .i64 a0_1] 38 ?_; intro gb588 w2 _ _ _))
 have H := H'.out; clear H'; obtain ⟨t589, A3, H⟩ := oB H; (try dsimp only at H)
 by_cases c4 : t589 = true
 ·
  subst c4
  rw [if_pos rfl] at H
  obtain ⟨t590, A5, H⟩ := oB H; (try dsimp only at H); obtain rfl := Option.some.inj H
  go_wp2_with (first | ((with_reducible refine gate_callee (f := 99) rfl ?_); refine gD (some 5) Tryz.func99 (impl_within.calls (w := _) (h := A3.out)) ?_; intro w6 _) | (go_at_call 99; refine aD (impl_within.calls (w := _) (h := A5.out)) ?_; intro w7 _))
  go_ret
  exact ⟨y0_15, UpW.out⟩
 replace c4 := Bool.eq_false_iff.mpr c4; subst c4
 rw [if_neg (show ¬ (false = true) by decide)] at H
 obtain rfl := Option.some.inj H
 go_wp2_with (first | ((with_reducible refine gate_callee (f := 99) rfl ?_); refine gD (some 5) Tryz.func99 (impl_within.calls (w := _) (h := A3.out)) ?_; intro w8 _))
 go_ret
 exact ⟨y0_15, UpW.out⟩

/-! ### impl_Faults: function 50 -/
def impl_Faults.f (a0_0 : Int) (a0_1 : Int) : Option (Int) := (impl_ConfOk.f a0_0 a0_1).bind fun t592 => (if t592 = true then (some (wrap64 (Int.tdiv (wrap64 (a0_0 - 1)) 3))) else (some 0))
set_option maxHeartbeats 8000000 in
set_option maxRecDepth 100000 in
theorem impl_Faults.calls (a0_0 : Int) (a0_1 : Int) (r : Int) (w : World) (h : impl_Faults.f a0_0 a0_1 = some r) :
  Calls Tryz.prog 50 #[.agg #[.int .i64 a0_0, .int .i64 a0_1]] w fun e w' => e = .returned (.int .i64 r) ∧ Below w.heap.size w w' := by
 have hu38 := Tryz.underlying38; have HB := Aside0.mk (Below.refl w.heap.size w)
 have H := h; unfold impl_Faults.f at H
 clear h; obtain ⟨t592, A2, H⟩ := oB H; (try dsimp only at H)
 go_enter Tryz.func50, Tryz.ntmps50
 have H' := Aside0.mk H; clear H
 go_upto_if 5 with (first | ((with_reducible refine gd 1 ?_); refine bL 1 #[.int .i64 a0_0, .int .i64 a0_1] 38 ?_; intro gb591 w3 _ _ _) | ((with_reducible refine gate_callee (f := 54) rfl ?_); refine gC (some 4) Tryz.func54 (impl_ConfOk.calls (w := _) (h := A2.out)) ?_; intro w4 _))
 have H := H'.out; clear H'
 by_cases c5 : t592 = true
 ·
  subst c5
  rw [if_pos rfl] at H
  obtain rfl := Option.some.inj H
  go_wp2
  go_ret
  exact ⟨y0_15, UpW.out⟩
 replace c5 := Bool.eq_false_iff.mpr c5; subst c5
 rw [if_neg (show ¬ (false = true) by decide)] at H
 obtain rfl := Option.some.inj H
 go_wp2
 go_ret
 exact ⟨y0_15, UpW.out⟩

/-! ### impl_Quorum: function 52 -/
def impl_Quorum.f (a0_0 : Int) (a0_1 : Int) : Option (Int) := (impl_ConfOk.f a0_0 a0_1).bind fun t594 => (if t594 = true then ((impl_Faults.f a0_0 a0_1).bind fun t595 => (some (wrap64 (a0_0 - t595)))) else (some 0))
def impl_Quorum.T3 : Bool × List (List Nat × List Nat) := (true, [([], []), ([0], [0]), ([], []), ([2], [2]), ([1, 3], [1, 3]), ([4, 3, 0, 1, 2, 3, 4], [4])])
def impl_Quorum.B3 : List Nat := [0, 1, 0, 4, 15, 31]
theorem impl_Quorum.tab3 : rtab .any (opsOf Tryz.f52 3) = impl_Quorum.T3 := by kernel_rfl
theorem impl_Quorum.bits3 : waitsOk impl_Quorum.T3.2 impl_Quorum.B3 = true := by kernel_rfl
set_option maxHeartbeats 8000000 in
set_option maxRecDepth 100000 in
theorem impl_Quorum.calls (a0_0 : Int) (a0_1 : Int) (r : Int) (w : World) (h : impl_Quorum.f a0_0 a0_1 = some r) :
  Calls Tryz.prog 52 #[.agg #[.int .i64 a0_0, .int .i64 a0_1]] w fun e w' => e = .returned (.int .i64 r) ∧ Below w.heap.size w w' := by
 have hu38 := Tryz.underlying38; have HB := Aside0.mk (Below.refl w.heap.size w)
 have H := h; unfold impl_Quorum.f at H
 clear h; obtain ⟨t594, A2, H⟩ := oB H; (try dsimp only at H)
 go_enter Tryz.func52, Tryz.ntmps52
 have H' := Aside0.mk H; clear H
 go_upto_if 5 with (first | ((with_reducible refine gd 1 ?_); refine bL 1 #[.int .i64 a0_0, .int .i64 a0_1] 38 ?_; intro gb593 w3 _ _ _) | ((with_reducible refine gate_callee (f := 54) rfl ?_); refine gC (some 4) Tryz.func54 (impl_ConfOk.calls (w := _) (h := A2.out)) ?_; intro w4 _))
 have H := H'.out; clear H'
 by_cases c5 : t594 = true
 ·
  subst c5
  rw [if_pos rfl] at H
  obtain ⟨t595, A6, H⟩ := oB H; (try dsimp only at H); obtain rfl := Option.some.inj H
  try go_wp2
  refine sB [] impl_Quorum.tab3 impl_Quorum.bits3 ?_; intro w7 _ HT_ HW_
  refine pA 0 (some 6) (bz 6 1) HT_ ?_
  refine tB 1 (some 7) (bz 6 3) HT_ HW_ ?_
  refine tB 2 (some 8) (bz 6 7) HT_ HW_ ?_
  refine o1 3 (some 9) (bz 6 15) HT_ rfl (kC Tryz.func50 (impl_Faults.calls (w := _) (h := A6.out)) ?_); intro w8 _
  refine nA (some 9) ?_
  refine pA 4 (some 10) (bz 6 31) HT_ ?_
  refine pA 5 (some 2) (bz 6 63) HT_ ?_
  refine done_ (done_of HT_.out (by kernel_rfl)) ?_
  try go_wp2
  go_ret
  exact ⟨y0_15, UpW.out⟩
 replace c5 := Bool.eq_false_iff.mpr c5; subst c5
 rw [if_neg (show ¬ (false = true) by decide)] at H
 obtain rfl := Option.some.inj H
 go_wp2
 go_ret
 exact ⟨y0_15, UpW.out⟩

end Go.Proofs.YtemjmefacifdeaaGreatDoor.PFnQuorums
