-- By a program of this session, out of the translation (the print of the kit, with turns of its own). Lean checks it.
import Derived.Test.YtemjmefacifdeaaGreatDoorPFnExactVotex0
import Derived.Test.YtemjmefacifdeaaGreatDoorPFnExactVotex1
import Derived.Test.YtemjmefacifdeaaGreatDoorPFnExactVotex2
namespace Go.Proofs.YtemjmefacifdeaaGreatDoor.PFnExactVote
open Go.RowKit Go.Proofs.YtemjmefacifdeaaGreatDoorW.PrintWords Go.Proofs.YtemjmefacifdeaaGreatDoorW.PrintLast Go.Proofs.YtemjmefacifdeaaGreatDoorW.PrintMore
attribute [local go_sem] max2_int min2_int max_two min_two max_three min_three max_four min_four   -- for this text's walks alone
set_option linter.unusedVariables false
set_option linter.unusedSimpArgs false

/-! ### spec_Steps: function 103 -/
mutual
def spec_Steps.j0 : Nat → List (S112) → List (S112) → List ByteArray → Bool → Option ((List (S112)) × Bool)
 | 0, _, _, _, _ => none
 | k + 1, x4, x5, x6, x31 => if x31 = true then (some (x4, false)) else (spec_Steps.l0 k x4 x5 x6 0 1)
def spec_Steps.l0 : Nat → List (S112) → List (S112) → List ByteArray → Int → Int → Option ((List (S112)) × Bool)
 | 0, _, _, _, _, _ => none
 | k + 1, x4, x5, x6, x7, x8 => if x8 < (x6.length : Int) then (if 0 ≤ x8 then ((spec_l2Cut.f k (rdOf ByteArray.empty x6 x8) 124).bind fun bt184 => ((spec_Number.f k bt184.1).bind fun bt187 => ((spec_TxsOf.f k bt184.2.1).bind fun bt189 => (if bt184.2.2 = true then (if bt187.2 = true then (if bt189.2 = true then (if bt187.1 ≤ x7 then (some (x4, false)) else (if bt187.1 > 60 then (some (x4, false)) else (if (bt189.1.length : Int) > 2 then (some (x4, false)) else (if x5.length < 4398046511104 then (spec_Steps.l0 k x4 (x5 ++ [(⟨bt187.1, bt189.1⟩ : S112)]) x6 bt187.1 (wrap64 (x8 + 1))) else (none))))) else (some (x4, false))) else (some (x4, false))) else (some (x4, false)))))) else (none)) else (some (x5, true))
end
def spec_Steps.f (k : Nat) (a0 : ByteArray) : Option ((List (S112)) × Bool) := (some (([] : List (S112)) : List (S112))).bind fun y173 => ((some (([] : List (S112)) : List (S112))).bind fun y176 => (if a0.toList = ([] : List UInt8) then (some (y176, true)) else ((spec_Split.f k a0 47).bind fun t179 => (if 0 < (t179.length : Int) then (if (rdOf ByteArray.empty t179 0).toList = ([] : List UInt8) then (spec_Steps.j0 k y173 y176 t179 (decide ((t179.length : Int) > 31))) else (spec_Steps.j0 k y173 y176 t179 true)) else (none)))))
theorem spec_Steps.mono_l : ∀ k, (∀ y0 y1 y2 y3, LeO (spec_Steps.j0 k y0 y1 y2 y3) (spec_Steps.j0 (k + 1) y0 y1 y2 y3)) ∧ (∀ y0 y1 y2 y3 y4, LeO (spec_Steps.l0 k y0 y1 y2 y3 y4) (spec_Steps.l0 (k + 1) y0 y1 y2 y3 y4))
 | 0 => ⟨fun _ _ _ _ r h => by simp [spec_Steps.j0] at h, fun _ _ _ _ _ r h => by simp [spec_Steps.l0] at h⟩
 | k + 1 => by
  obtain ⟨ih0, ih1⟩ := spec_Steps.mono_l k
  refine ⟨?_, ?_⟩
  ·
   intro y0 y1 y2 y3
   unfold spec_Steps.j0
   repeat' first | (with_reducible exact ih0 _ _ _ _) | (with_reducible exact ih1 _ _ _ _ _) | (with_reducible exact spec_Number.mono _ _) | (with_reducible exact spec_Split.mono _ _ _) | (with_reducible exact spec_TxsOf.mono _ _) | (with_reducible exact spec_l2Cut.mono _ _ _) | (with_reducible exact LeO.refl _) | (with_reducible exact LeO.none _) | (with_reducible refine LeO.ite ?_ ?_) | (with_reducible refine LeO.bind ?_ (fun _ => ?_))
  intro y0 y1 y2 y3 y4
  unfold spec_Steps.l0
  repeat' first | (with_reducible exact ih0 _ _ _ _) | (with_reducible exact ih1 _ _ _ _ _) | (with_reducible exact spec_Number.mono _ _) | (with_reducible exact spec_Split.mono _ _ _) | (with_reducible exact spec_TxsOf.mono _ _) | (with_reducible exact spec_l2Cut.mono _ _ _) | (with_reducible exact LeO.refl _) | (with_reducible exact LeO.none _) | (with_reducible refine LeO.ite ?_ ?_) | (with_reducible refine LeO.bind ?_ (fun _ => ?_))
theorem spec_Steps.mono : ∀ a0 k, LeO (spec_Steps.f k a0) (spec_Steps.f (k + 1) a0) := by
 intro a0 k
 obtain ⟨ih0, ih1⟩ := spec_Steps.mono_l k
 unfold spec_Steps.f
 repeat' first | (with_reducible exact ih0 _ _ _ _) | (with_reducible exact ih1 _ _ _ _ _) | (with_reducible exact spec_Number.mono _ _) | (with_reducible exact spec_Split.mono _ _ _) | (with_reducible exact spec_TxsOf.mono _ _) | (with_reducible exact spec_l2Cut.mono _ _ _) | (with_reducible exact LeO.refl _) | (with_reducible exact LeO.none _) | (with_reducible refine LeO.ite ?_ ?_) | (with_reducible refine LeO.bind ?_ (fun _ => ?_))
set_option maxHeartbeats 8000000 in
set_option maxRecDepth 100000 in
theorem spec_Steps.calls (k : Nat) (a0 : ByteArray) (r1 : List (S112)) (r2 : Bool) (w : World) (h : spec_Steps.f k a0 = some (r1, r2)) :
  Calls Tryz.prog 103 #[.string a0] w fun e w' => ∃ v0_ : Value, e = .returned (.tuple #[v0_, .bool r2]) ∧ Kd.S k112 112 w' w.heap.size (fun _ => True) v0_ r1 ∧ Below w.heap.size w w' := by
 have hu112 := Tryz.underlying112; have HB := Aside0.mk (Below.refl w.heap.size w)
 have H : ((some (([] : List (S112)) : List (S112))).bind fun y173 => ((some (([] : List (S112)) : List (S112))).bind fun y176 => (if a0.toList = ([] : List UInt8) then (some (y176, true)) else ((spec_Split.f k a0 47).bind fun t179 => (if 0 < (t179.length : Int) then (if (rdOf ByteArray.empty t179 0).toList = ([] : List UInt8) then (spec_Steps.j0 k y173 y176 t179 (decide ((t179.length : Int) > 31))) else (spec_Steps.j0 k y173 y176 t179 true)) else (none)))))) = some (r1, r2) := h
 clear h; obtain ⟨y173, hy173⟩ : ∃ y_ : List (S112), y_ = (([] : List (S112))) := ⟨_, rfl⟩
 replace H : ((some (([] : List (S112)) : List (S112))).bind fun y176 => (if a0.toList = ([] : List UInt8) then (some (y176, true)) else ((spec_Split.f k a0 47).bind fun t179 => (if 0 < (t179.length : Int) then (if (rdOf ByteArray.empty t179 0).toList = ([] : List UInt8) then (spec_Steps.j0 k y173 y176 t179 (decide ((t179.length : Int) > 31))) else (spec_Steps.j0 k y173 y176 t179 true)) else (none))))) = some (r1, r2) := by first | (rw [hy173]; with_reducible exact H) | (have H2_ := (Option.bind_some _ _).symm.trans H; rw [hy173]; with_reducible exact H2_) | (have H2_ := (Option.bind_some _ _).symm.trans H; with_reducible exact H2_) | with_reducible exact H | (rw [hy173]; exact H) | exact H
 have Ny173 := Aside0.mk hy173; clear hy173; obtain ⟨y176, hy176⟩ : ∃ y_ : List (S112), y_ = (([] : List (S112))) := ⟨_, rfl⟩
 replace H : (if a0.toList = ([] : List UInt8) then (some (y176, true)) else ((spec_Split.f k a0 47).bind fun t179 => (if 0 < (t179.length : Int) then (if (rdOf ByteArray.empty t179 0).toList = ([] : List UInt8) then (spec_Steps.j0 k y173 y176 t179 (decide ((t179.length : Int) > 31))) else (spec_Steps.j0 k y173 y176 t179 true)) else (none)))) = some (r1, r2) := by first | (rw [hy176]; with_reducible exact H) | (have H2_ := (Option.bind_some _ _).symm.trans H; rw [hy176]; with_reducible exact H2_) | (have H2_ := (Option.bind_some _ _).symm.trans H; with_reducible exact H2_) | with_reducible exact H | (rw [hy176]; exact H) | exact H
 have Ny176 := Aside0.mk hy176; clear hy176
 by_cases c2 : a0.toList = ([] : List UInt8)
 ·
  rw [if_pos c2] at H
  have c2b0 : (a0.toList == ([] : List UInt8)) = true := beq_iff_eq.mpr c2; have c2b1 : (a0.toList != ([] : List UInt8)) = false := bne_eq_false_iff_eq.mpr c2; clear c2
  simp only [Option.some.injEq, Prod.mk.injEq] at H
  obtain ⟨rfl, rfl⟩ := H
  go_enter Tryz.func103, Tryz.ntmps103
  go_wp2_with (first | ((with_reducible refine gate_dst (N := 16) rfl ?_); (try (refine gate_guard (by rfl) ?_; dsimp only)); refine Kd.S_lit k112 _ 112 ?hg (N := 16) ?hd (xs := ([] : List (S112))) (inner := []) (ok := fun _ => True) (okp := fun _ => True) ?hr ?hp (fun _ hk => hk) trivial (Below.refl _ _) (Nat.le_refl _) (by simp) ?_; (case hd => rfl); (case hg => rfl); (case hr => first | (go_simp; done) | (go_simp; rfl)); (case hp => exact (Reps.none _ _)); intro v174 w3 ho4 hb hg_ hnew_; clear hg_ hnew_; (first | rw [← Ny173.out] at ho4 | (simp only [Int.reduceToNat] at ho4; rw [← Ny173.out] at ho4)); have HO175 := Aside0.mk (Kd.S_lower ho4 (below_size (bI HB.out))); replace HB := bs HB hb; clear hb ho4) | ((with_reducible refine gate_dst (N := 17) rfl ?_); (try (refine gate_guard (by rfl) ?_; dsimp only)); refine Kd.S_lit k112 _ 112 ?hg (N := 17) ?hd (xs := ([] : List (S112))) (inner := []) (ok := fun _ => True) (okp := fun _ => True) ?hr ?hp (fun _ hk => hk) trivial (Below.refl _ _) (Nat.le_refl _) (by simp) ?_; (case hd => rfl); (case hg => rfl); (case hr => first | (go_simp; done) | (go_simp; rfl)); (case hp => exact (Reps.none _ _)); intro v177 w5 ho6 hb hg_ hnew_; clear hg_ hnew_; (first | rw [← Ny176.out] at ho6 | (simp only [Int.reduceToNat] at ho6; rw [← Ny176.out] at ho6)); have HO178 := Aside0.mk (Kd.S_lower (Kd.S_new' ho6 (Kd.S_lt (sI HO175.out))) (below_size (bI HB.out))); replace HO175 := Aside0.mk (Kd.S_elder' (sI HO175.out) (Kd.S_base ho6) hb); replace HB := bs HB hb; clear hb ho6))
  go_ret2
  exact ⟨_, y0_7, by (with_reducible repeat (first | apply Kd.S_alloc | apply Kd.S_drewN | apply Kd.S_drew)); exact Kd.S_mono HO178.out (fun _ hk => trivial), bI HB.out⟩
 rw [if_neg c2] at H
 have c2b0 : (a0.toList == ([] : List UInt8)) = false := beq_eq_false_iff_ne.mpr c2; have c2b1 : (a0.toList != ([] : List UInt8)) = true := bne_iff_ne.mpr c2; obtain ⟨t179, A70, H⟩ := Option.bind_eq_some_iff.mp H
 try dsimp only at H
 have A7 := Aside0.mk A70; clear A70; have HC8 := Aside0.mk H; clear H
 go_enter Tryz.func103, Tryz.ntmps103
 go_upto_region 6 with (first | ((with_reducible refine gate_dst (N := 16) rfl ?_); (try (refine gate_guard (by rfl) ?_; dsimp only)); refine Kd.S_lit k112 _ 112 ?hg (N := 16) ?hd (xs := ([] : List (S112))) (inner := []) (ok := fun _ => True) (okp := fun _ => True) ?hr ?hp (fun _ hk => hk) trivial (Below.refl _ _) (Nat.le_refl _) (by simp) ?_; (case hd => rfl); (case hg => rfl); (case hr => first | (go_simp; done) | (go_simp; rfl)); (case hp => exact (Reps.none _ _)); intro v174 w9 ho10 hb hg_ hnew_; clear hg_ hnew_; (first | rw [← Ny173.out] at ho10 | (simp only [Int.reduceToNat] at ho10; rw [← Ny173.out] at ho10)); have HO175 := Aside0.mk (Kd.S_lower ho10 (below_size (bI HB.out))); replace HB := bs HB hb; clear hb ho10) | ((with_reducible refine gate_dst (N := 17) rfl ?_); (try (refine gate_guard (by rfl) ?_; dsimp only)); refine Kd.S_lit k112 _ 112 ?hg (N := 17) ?hd (xs := ([] : List (S112))) (inner := []) (ok := fun _ => True) (okp := fun _ => True) ?hr ?hp (fun _ hk => hk) trivial (Below.refl _ _) (Nat.le_refl _) (by simp) ?_; (case hd => rfl); (case hg => rfl); (case hr => first | (go_simp; done) | (go_simp; rfl)); (case hp => exact (Reps.none _ _)); intro v177 w11 ho12 hb hg_ hnew_; clear hg_ hnew_; (first | rw [← Ny176.out] at ho12 | (simp only [Int.reduceToNat] at ho12; rw [← Ny176.out] at ho12)); have HO178 := Aside0.mk (Kd.S_lower (Kd.S_new' ho12 (Kd.S_lt (sI HO175.out))) (below_size (bI HB.out))); replace HO175 := Aside0.mk (Kd.S_elder' (sI HO175.out) (Kd.S_base ho12) hb); replace HB := bs HB hb; clear hb ho12) | ((with_reducible refine gate_callee (f := 127) rfl ?_); refine gB (some 22) Tryz.func127 #[.string a0, .int .u8 47] ?_; (with_reducible refine (spec_Split.calls k a0 47 t179 _ A7.out).mono ?_); rintro e w13 ⟨v180, rfl, ho0, hb⟩; refine ⟨_, rfl, ?_⟩; replace HO175 := sb HO175 hb; replace HO178 := sb HO178 hb; have HO181 := Aside0.mk (Kd.R_lower ho0 (below_size (bI HB.out))); replace HB := bs HB hb; (try clear hb); (try clear ho0)))
 (try simp only [Act.put, List.setIfInBounds_toArray, List.set_cons_zero, List.set_cons_succ])
 go_cut [31] (fun v31 wc => ∃ (kq : Nat) (x31_7 : Bool), v31 = .bool x31_7 ∧ Aside0 (spec_Steps.j0 kq y173 y176 t179 x31_7 = some (r1, r2)) ∧ Aside0 (kq ≤ k) ∧ Aside0 (Kd.S k112 112 wc w.heap.size (fun k_ => some k_ ≠ (v177 : Value).ownBlock) v174 y173) ∧ Aside0 (Kd.S k112 112 wc w.heap.size (fun k_ => some k_ ≠ (v174 : Value).ownBlock) v177 y176) ∧ Aside0 (Kd.R Kd.string 9 wc w.heap.size (fun _ => True) v180 t179) ∧ Aside0 (Below w.heap.size w wc))
 case first =>
  have H := HC8.out; clear HC8
  by_cases c14 : 0 < (t179.length : Int)
  rotate_left
  ·
   rw [if_neg c14] at H
   exact absurd H (by simp)
  rw [if_pos c14] at H
  have c14b0 : decide (0 < (t179.length : Int)) = true := decide_eq_true c14
  have c14b1 : decide (0 < t179.length) = true := decide_eq_true (by omega)
  clear c14
  (first | rw [c14b0] | (simp only [i64_w, i32_w]; rw [c14b0]) | skip)
  by_cases c15 : (rdOf ByteArray.empty t179 0).toList = ([] : List UInt8)
  ·
   rw [if_pos c15] at H
   have c15b0 : ((rdOf ByteArray.empty t179 0).toList == ([] : List UInt8)) = true := beq_iff_eq.mpr c15; have c15b1 : ((rdOf ByteArray.empty t179 0).toList != ([] : List UInt8)) = false := bne_eq_false_iff_eq.mpr c15; clear c15; have H' := Aside0.mk H; clear H; obtain ⟨Ao16, co16, eo16⟩ := Kd.R_slice HO181.out; subst eo16
   have p182 : 0 ≤ (0 : Int) := (by omega)
   have q182 : 0 < (t179.length : Int) := of_decide_eq_true y0_9; obtain ⟨ad182, e182, hx182_0⟩ := Kd.at_string (Kd.R_reads' HO181.out).2.2 0 p182 q182; cases e182
   have qi182 : (0 < t179.length) = True := eq_true (by omega)
   (try rw [show ((0 : Int)).toNat = 0 from rfl] at hx182_0)
   (try rw [Addr.add_zero'] at hx182_0)
   replace p182 := eq_true p182; replace q182 := eq_true q182
   go_wp2
   go_meet
   case rel => exact ⟨_, (decide ((t179.length : Int) > 31)), y0_10, H', ⟨y0_11⟩, ⟨by (with_reducible repeat (first | apply Kd.S_alloc | apply Kd.S_drewN | apply Kd.S_drew)); exact Kd.S_mono HO175.out (fun _ hk => hk.2)⟩, ⟨by (with_reducible repeat (first | apply Kd.S_alloc | apply Kd.S_drewN | apply Kd.S_drew)); exact Kd.S_mono HO178.out (fun _ hk => hk.2)⟩, ⟨by (with_reducible repeat (first | apply Kd.R_alloc | apply Kd.R_drewN | apply Kd.R_drew)); exact HO181.out⟩, ⟨bI HB.out⟩⟩
  rw [if_neg c15] at H
  have c15b0 : ((rdOf ByteArray.empty t179 0).toList == ([] : List UInt8)) = false := beq_eq_false_iff_ne.mpr c15; have c15b1 : ((rdOf ByteArray.empty t179 0).toList != ([] : List UInt8)) = true := bne_iff_ne.mpr c15; have H' := Aside0.mk H; clear H; obtain ⟨Ao17, co17, eo17⟩ := Kd.R_slice HO181.out; subst eo17
  have p182 : 0 ≤ (0 : Int) := (by omega)
  have q182 : 0 < (t179.length : Int) := of_decide_eq_true y0_9; obtain ⟨ad182, e182, hx182_0⟩ := Kd.at_string (Kd.R_reads' HO181.out).2.2 0 p182 q182; cases e182
  have qi182 : (0 < t179.length) = True := eq_true (by omega)
  (try rw [show ((0 : Int)).toNat = 0 from rfl] at hx182_0)
  (try rw [Addr.add_zero'] at hx182_0)
  replace p182 := eq_true p182; replace q182 := eq_true q182
  go_wp2
  go_meet
  case rel => exact ⟨_, (true), y0_10, H', ⟨y0_11⟩, ⟨by (with_reducible repeat (first | apply Kd.S_alloc | apply Kd.S_drewN | apply Kd.S_drew)); exact Kd.S_mono HO175.out (fun _ hk => hk.2)⟩, ⟨by (with_reducible repeat (first | apply Kd.S_alloc | apply Kd.S_drewN | apply Kd.S_drew)); exact Kd.S_mono HO178.out (fun _ hk => hk.2)⟩, ⟨by (with_reducible repeat (first | apply Kd.R_alloc | apply Kd.R_drewN | apply Kd.R_drew)); exact HO181.out⟩, ⟨bI HB.out⟩⟩
 case rest =>
  clear HC8
  try clear c1
  try clear p1
  try clear q1
  try clear hx1
  try clear qi1
  try clear c2
  try clear c2b0
  try clear c2b1
  try clear p2
  try clear c10
  try clear c12
  try clear c14
  try clear c14b0
  try clear c14b1
  try clear c15
  try clear c15b0
  try clear c15b1
  try clear hx182_0
  try clear p182
  try clear q182
  obtain ⟨kq, x31_7, rfl, HA, HJ7, HO_4, HO_5, HO_6, HB⟩ := hcut; cases kq with
  | zero => exact absurd HA.out (by simp [spec_Steps.j0])
  | succ kj7 =>
   have H := HA.out; clear HA
   simp only [spec_Steps.j0] at H
   by_cases c18 : x31_7 = true
   ·
    subst c18
    rw [if_pos rfl] at H
    simp only [Option.some.injEq, Prod.mk.injEq] at H
    obtain ⟨rfl, rfl⟩ := H
    go_wp2
    go_ret2
    exact ⟨_, y0_7, y0_3, bI HB.out⟩
   replace c18 := Bool.eq_false_iff.mpr c18; subst c18
   rw [if_neg (show ¬ (false = true) by decide)] at H
   have H' := Aside0.mk H; clear H
   go_wp2
   go_loopg [5, 7, 8] kj7 (fun kq v5 v7 v8 w' => ∃ (x5_2 : List (S112)) (x7_2 : Int) (x8_2 : Int), v7 = .int .i64 x7_2 ∧ v8 = .int .i64 x8_2 ∧ Aside0 (spec_Steps.l0 kq y173 x5_2 t179 x7_2 x8_2 = some (r1, r2)) ∧ Aside0 (kq ≤ kj7) ∧ Aside0 (Kd.S k112 112 w' w.heap.size (fun k_ => some k_ ≠ (v5 : Value).ownBlock) v174 y173) ∧ Aside0 (Kd.S k112 112 w' w.heap.size (fun k_ => some k_ ≠ (v174 : Value).ownBlock) v5 x5_2) ∧ Aside0 (Kd.R Kd.string 9 w' w.heap.size (fun _ => True) v180 t179) ∧ Aside0 (Below w.heap.size w w'))
   case atStart => exact ⟨(y176), (0), (1), y0_10, y0_10, H', ⟨Nat.le_refl _⟩, ⟨by (with_reducible repeat (first | apply Kd.S_alloc | apply Kd.S_drewN | apply Kd.S_drew)); exact HO_4.out⟩, ⟨by (with_reducible repeat (first | apply Kd.S_alloc | apply Kd.S_drewN | apply Kd.S_drew)); exact HO_5.out⟩, ⟨by (with_reducible repeat (first | apply Kd.R_alloc | apply Kd.R_drewN | apply Kd.R_drew)); exact HO_6.out⟩, ⟨bI HB.out⟩⟩
   case round =>
    clear H'
    try clear c1
    try clear p1
    try clear q1
    try clear hx1
    try clear qi1
    try clear c2
    try clear c2b0
    try clear c2b1
    try clear p2
    try clear c10
    try clear c12
    try clear c14
    try clear c14b0
    try clear c14b1
    try clear c15
    try clear c15b0
    try clear c15b1
    try clear c18
    try clear p18
    try clear q18
    try clear hx18
    try clear qi18
    try clear hx182_0
    try clear p1
    try clear p182
    try clear p2
    try clear q1
    try clear q182
    obtain ⟨x5_2, x7_2, x8_2, rfl, rfl, HA, HK2, HO_4, HO_5, HO_6, HB⟩ := hrel; cases gk with
    | zero => exact absurd HA.out (by simp [spec_Steps.l0])
    | succ k2 =>
     have H := HA.out; clear HA
     simp only [spec_Steps.l0] at H
     by_cases c19 : x8_2 < (t179.length : Int)
     ·
      rw [if_pos c19] at H
      have c19b0 : decide (x8_2 < (t179.length : Int)) = true := decide_eq_true c19; clear c19
      by_cases c20 : 0 ≤ x8_2
      rotate_left
      ·
       rw [if_neg c20] at H
       exact absurd H (by simp)
      rw [if_pos c20] at H
      have c20b0 : decide (0 ≤ x8_2) = true := decide_eq_true c20; clear c20; obtain ⟨⟨t184, t185, t186⟩, A210, H⟩ := Option.bind_eq_some_iff.mp H
      try dsimp only at H
      have A21 := Aside0.mk A210; clear A210; obtain ⟨⟨t187, t188⟩, A220, H⟩ := Option.bind_eq_some_iff.mp H
      try dsimp only at H
      have A22 := Aside0.mk A220; clear A220; obtain ⟨⟨t189, t190⟩, A230, H⟩ := Option.bind_eq_some_iff.mp H
      try dsimp only at H
      have A23 := Aside0.mk A230; clear A230
      by_cases c24 : t186 = true
      ·
       subst c24
       rw [if_pos rfl] at H
       by_cases c25 : t188 = true
       ·
        subst c25
        rw [if_pos rfl] at H
        by_cases c26 : t190 = true
        ·
         subst c26
         rw [if_pos rfl] at H
         by_cases c27 : t187 ≤ x7_2
         ·
          rw [if_pos c27] at H
          have c27b0 : decide (t187 ≤ x7_2) = true := decide_eq_true c27; clear c27
          simp only [Option.some.injEq, Prod.mk.injEq] at H
          obtain ⟨rfl, rfl⟩ := H; obtain ⟨Ao28, co28, eo28⟩ := Kd.R_slice HO_6.out; subst eo28; have p183 : 0 ≤ (x8_2 : Int) := of_decide_eq_true y0_9; have q183 : x8_2 < (t179.length : Int) := of_decide_eq_true y0_9; obtain ⟨ad183, e183, hx183_0⟩ := Kd.at_string (Kd.R_reads' HO_6.out).2.2 x8_2 p183 q183; cases e183; replace p183 := eq_true p183; replace q183 := eq_true q183
          go_wp2_with (first | ((with_reducible refine gate_callee (f := 128) rfl ?_); refine gB (some 44) Tryz.func128 #[.string (rdOf ByteArray.empty t179 x8_2), .int .u8 124] ?_; (with_reducible refine (spec_l2Cut.calls k2 (rdOf ByteArray.empty t179 x8_2) 124 t184 t185 true _ A21.out).mono ?_); rintro e w' ⟨rfl, ⟨nd, rfl⟩⟩; refine ⟨_, rfl, ?_⟩) | ((with_reducible refine gate_callee (f := 129) rfl ?_); refine gB (some 50) Tryz.func129 #[.string t184] ?_; (with_reducible refine (spec_Number.calls k2 t184 t187 true _ A22.out).mono ?_); rintro e w29 ⟨rfl, hb⟩; refine ⟨_, rfl, ?_⟩; replace HO_4 := sb HO_4 hb; replace HO_5 := sb HO_5 hb; replace HO_6 := rb HO_6 hb; replace HB := bs HB hb; (try clear hb); (try clear hb2); (try clear hk); (try clear hi)) | ((with_reducible refine gate_callee (f := 130) rfl ?_); refine gB (some 55) Tryz.func130 #[.string t185] ?_; (with_reducible refine (spec_TxsOf.calls k2 t185 t189 true _ A23.out).mono ?_); rintro e w30 ⟨v191, rfl, ho0, hb⟩; refine ⟨_, rfl, ?_⟩; replace HO_4 := Aside0.mk (Kd.S_elder' (sI HO_4.out) (Kd.R_base ho0) hb); replace HO_5 := Aside0.mk (Kd.S_elder' (sI HO_5.out) (Kd.R_base ho0) hb); replace HO_6 := rb HO_6 hb; have HO192 := Aside0.mk (Kd.R_lower ho0 (below_size (bI HB.out))); replace HB := bs HB hb; (try clear hb)))
          go_ret2
          exact ⟨_, y0_7, y0_3, bI HB.out⟩
         rw [if_neg c27] at H
         have c27b0 : decide (t187 ≤ x7_2) = false := decide_eq_false c27; clear c27
         by_cases c31 : t187 > 60
         ·
          rw [if_pos c31] at H
          have c31b0 : decide (60 < t187) = true := decide_eq_true c31; clear c31
          simp only [Option.some.injEq, Prod.mk.injEq] at H
          obtain ⟨rfl, rfl⟩ := H; obtain ⟨Ao32, co32, eo32⟩ := Kd.R_slice HO_6.out; subst eo32; have p183 : 0 ≤ (x8_2 : Int) := of_decide_eq_true y0_9; have q183 : x8_2 < (t179.length : Int) := of_decide_eq_true y0_9; obtain ⟨ad183, e183, hx183_0⟩ := Kd.at_string (Kd.R_reads' HO_6.out).2.2 x8_2 p183 q183; cases e183; replace p183 := eq_true p183; replace q183 := eq_true q183
          go_wp2_with (first | ((with_reducible refine gate_callee (f := 128) rfl ?_); refine gB (some 44) Tryz.func128 #[.string (rdOf ByteArray.empty t179 x8_2), .int .u8 124] ?_; (with_reducible refine (spec_l2Cut.calls k2 (rdOf ByteArray.empty t179 x8_2) 124 t184 t185 true _ A21.out).mono ?_); rintro e w' ⟨rfl, ⟨nd, rfl⟩⟩; refine ⟨_, rfl, ?_⟩) | ((with_reducible refine gate_callee (f := 129) rfl ?_); refine gB (some 50) Tryz.func129 #[.string t184] ?_; (with_reducible refine (spec_Number.calls k2 t184 t187 true _ A22.out).mono ?_); rintro e w33 ⟨rfl, hb⟩; refine ⟨_, rfl, ?_⟩; replace HO_4 := sb HO_4 hb; replace HO_5 := sb HO_5 hb; replace HO_6 := rb HO_6 hb; replace HB := bs HB hb; (try clear hb); (try clear hb2); (try clear hk); (try clear hi)) | ((with_reducible refine gate_callee (f := 130) rfl ?_); refine gB (some 55) Tryz.func130 #[.string t185] ?_; (with_reducible refine (spec_TxsOf.calls k2 t185 t189 true _ A23.out).mono ?_); rintro e w34 ⟨v191, rfl, ho0, hb⟩; refine ⟨_, rfl, ?_⟩; replace HO_4 := Aside0.mk (Kd.S_elder' (sI HO_4.out) (Kd.R_base ho0) hb); replace HO_5 := Aside0.mk (Kd.S_elder' (sI HO_5.out) (Kd.R_base ho0) hb); replace HO_6 := rb HO_6 hb; have HO192 := Aside0.mk (Kd.R_lower ho0 (below_size (bI HB.out))); replace HB := bs HB hb; (try clear hb)))
          go_ret2
          exact ⟨_, y0_7, y0_3, bI HB.out⟩
         rw [if_neg c31] at H
         have c31b0 : decide (60 < t187) = false := decide_eq_false c31; clear c31
         by_cases c35 : (t189.length : Int) > 2
         ·
          rw [if_pos c35] at H
          have c35b0 : decide (2 < (t189.length : Int)) = true := decide_eq_true c35
          have c35b1 : decide (2 < t189.length) = true := decide_eq_true (by omega)
          clear c35
          simp only [Option.some.injEq, Prod.mk.injEq] at H
          obtain ⟨rfl, rfl⟩ := H; obtain ⟨Ao36, co36, eo36⟩ := Kd.R_slice HO_6.out; subst eo36; have p183 : 0 ≤ (x8_2 : Int) := of_decide_eq_true y0_9; have q183 : x8_2 < (t179.length : Int) := of_decide_eq_true y0_9; obtain ⟨ad183, e183, hx183_0⟩ := Kd.at_string (Kd.R_reads' HO_6.out).2.2 x8_2 p183 q183; cases e183; replace p183 := eq_true p183; replace q183 := eq_true q183
          go_wp2_with (first | ((with_reducible refine gate_callee (f := 128) rfl ?_); refine gB (some 44) Tryz.func128 #[.string (rdOf ByteArray.empty t179 x8_2), .int .u8 124] ?_; (with_reducible refine (spec_l2Cut.calls k2 (rdOf ByteArray.empty t179 x8_2) 124 t184 t185 true _ A21.out).mono ?_); rintro e w' ⟨rfl, ⟨nd, rfl⟩⟩; refine ⟨_, rfl, ?_⟩) | ((with_reducible refine gate_callee (f := 129) rfl ?_); refine gB (some 50) Tryz.func129 #[.string t184] ?_; (with_reducible refine (spec_Number.calls k2 t184 t187 true _ A22.out).mono ?_); rintro e w37 ⟨rfl, hb⟩; refine ⟨_, rfl, ?_⟩; replace HO_4 := sb HO_4 hb; replace HO_5 := sb HO_5 hb; replace HO_6 := rb HO_6 hb; replace HB := bs HB hb; (try clear hb); (try clear hb2); (try clear hk); (try clear hi)) | ((with_reducible refine gate_callee (f := 130) rfl ?_); refine gB (some 55) Tryz.func130 #[.string t185] ?_; (with_reducible refine (spec_TxsOf.calls k2 t185 t189 true _ A23.out).mono ?_); rintro e w38 ⟨v191, rfl, ho0, hb⟩; refine ⟨_, rfl, ?_⟩; replace HO_4 := Aside0.mk (Kd.S_elder' (sI HO_4.out) (Kd.R_base ho0) hb); replace HO_5 := Aside0.mk (Kd.S_elder' (sI HO_5.out) (Kd.R_base ho0) hb); replace HO_6 := rb HO_6 hb; have HO192 := Aside0.mk (Kd.R_lower ho0 (below_size (bI HB.out))); replace HB := bs HB hb; (try clear hb); obtain ⟨Ao39, co39, eo39⟩ := Kd.R_slice HO192.out; subst eo39))
          go_ret2
          exact ⟨_, y0_7, y0_3, bI HB.out⟩
         rw [if_neg c35] at H
         have c35b0 : decide (2 < (t189.length : Int)) = false := decide_eq_false c35
         have c35b1 : decide (2 < t189.length) = false := decide_eq_false (by omega)
         clear c35
         by_cases c40 : x5_2.length < 4398046511104
         rotate_left
         ·
          rw [if_neg c40] at H
          exact absurd H (by simp)
         rw [if_pos c40] at H
         have LMc40 := Aside0.mk c40; clear c40; obtain ⟨y193, hy193⟩ : ∃ y_ : List (S112), y_ = (x5_2 ++ [(⟨t187, t189⟩ : S112)]) := ⟨_, rfl⟩
         replace H : (spec_Steps.l0 k2 y173 y193 t179 t187 (wrap64 (x8_2 + 1))) = some (r1, r2) := by first | (rw [hy193]; with_reducible exact H) | (have H2_ := (Option.bind_some _ _).symm.trans H; rw [hy193]; with_reducible exact H2_) | (have H2_ := (Option.bind_some _ _).symm.trans H; with_reducible exact H2_) | with_reducible exact H | (rw [hy193]; exact H) | exact H
         have Ny193 := Aside0.mk hy193; clear hy193; have H' := Aside0.mk H; clear H; obtain ⟨Ao41, co41, eo41⟩ := Kd.R_slice HO_6.out; subst eo41; have p183 : 0 ≤ (x8_2 : Int) := of_decide_eq_true y0_9; have q183 : x8_2 < (t179.length : Int) := of_decide_eq_true y0_9; obtain ⟨ad183, e183, hx183_0⟩ := Kd.at_string (Kd.R_reads' HO_6.out).2.2 x8_2 p183 q183; cases e183; replace p183 := eq_true p183; replace q183 := eq_true q183
         go_wp2_with (first | ((with_reducible refine gate_callee (f := 128) rfl ?_); refine gB (some 44) Tryz.func128 #[.string (rdOf ByteArray.empty t179 x8_2), .int .u8 124] ?_; (with_reducible refine (spec_l2Cut.calls k2 (rdOf ByteArray.empty t179 x8_2) 124 t184 t185 true _ A21.out).mono ?_); rintro e w' ⟨rfl, ⟨nd, rfl⟩⟩; refine ⟨_, rfl, ?_⟩) | ((with_reducible refine gate_callee (f := 129) rfl ?_); refine gB (some 50) Tryz.func129 #[.string t184] ?_; (with_reducible refine (spec_Number.calls k2 t184 t187 true _ A22.out).mono ?_); rintro e w42 ⟨rfl, hb⟩; refine ⟨_, rfl, ?_⟩; replace HO_4 := sb HO_4 hb; replace HO_5 := sb HO_5 hb; replace HO_6 := rb HO_6 hb; replace HB := bs HB hb; (try clear hb); (try clear hb2); (try clear hk); (try clear hi)) | ((with_reducible refine gate_callee (f := 130) rfl ?_); refine gB (some 55) Tryz.func130 #[.string t185] ?_; (with_reducible refine (spec_TxsOf.calls k2 t185 t189 true _ A23.out).mono ?_); rintro e w43 ⟨v191, rfl, ho0, hb⟩; refine ⟨_, rfl, ?_⟩; replace HO_4 := Aside0.mk (Kd.S_elder' (sI HO_4.out) (Kd.R_base ho0) hb); replace HO_5 := Aside0.mk (Kd.S_elder' (sI HO_5.out) (Kd.R_base ho0) hb); replace HO_6 := rb HO_6 hb; have HO192 := Aside0.mk (Kd.R_lower ho0 (below_size (bI HB.out))); replace HB := bs HB hb; (try clear hb); obtain ⟨Ao44, co44, eo44⟩ := Kd.R_slice HO192.out; subst eo44) | ((with_reducible refine gate_builtin (b := .append) (xs := #[.tmp 84, .tmp 88]) rfl ?_); (try (refine gate_guard (by rfl) ?_; dsimp only)); at_builtin; refine Kd.S_append k112 (w0 := w) w.heap.size rfl (.tmp 84) (.tmp 88) 108 112 (.agg #[(.int .i64 0), (.slice none 0 0)]) 32 rfl Tryz.underlying108 info112 rfl (by decide) (by omega) u5 x5_2 (⟨t187, t189⟩ : S112) [.int .i64 t187, .slice Ao44 t189.length co44] (fun k_ => some k_ ≠ (v174 : Value).ownBlock) (fun k_ => some k_ = (.slice Ao44 t189.length co44 : Value).ownBlock) rfl rfl ?aP (fun k_ hk_ => ((Kd.R_mono (ok' := fun k_ => ((fun k_ => some k_ ≠ (v174 : Value).ownBlock)) k_ ∧ some k_ ≠ (u5 : Value).ownBlock) (Kd.R_apart' (Kd.R_apart' (HO192.out) (Kd.S_typed HO_4.out) (by decide)) (Kd.S_typed HO_5.out) (by decide)) (fun k_ hk => ⟨hk.1.2, hk.2⟩))).1 k_ hk_.symm) ?aF ?aO ?aB ?aS ?aL ?_; (case aP => exact k112_mkM _ _ _ (⟨t187, t189⟩ : S112) (Kd.R_mono (Kd.R_tight rfl (Kd.R_mono (ok' := fun k_ => ((fun k_ => some k_ ≠ (v174 : Value).ownBlock)) k_ ∧ some k_ ≠ (u5 : Value).ownBlock) (Kd.R_apart' (Kd.R_apart' (HO192.out) (Kd.S_typed HO_4.out) (by decide)) (Kd.S_typed HO_5.out) (by decide)) (fun k_ hk => ⟨hk.1.2, hk.2⟩))) (fun _ h_ => h_))); (case aB => exact (bI HB.out)); (case aF => exact (fun k_ hk => Kd.fresh' (Kd.S_lt (sI HO_4.out)) k_ hk)); (case aO => exact (sI (Kd.S_mono HO_5.out (fun k_ hk => ⟨hk.1, fun e_ => hk.2 e_⟩)))); (case aS => exact (below_size (bI HB.out))); (case aL => have := LMc40.out; omega); intro v194 w45 ho hb hg hat; rw [← Ny193.out] at ho; have n0_ := Aside0.mk (Kd.S_after (ok := (fun k_ => some k_ ≠ (.slice Ao44 t189.length co44 : Value).ownBlock)) (sI (Kd.S_mono HO_4.out (fun _ hk => ⟨hk.2, hk.1⟩))) hg hat); have n1_ := Aside0.mk (Kd.R_over' (rI HO_6.out) (Kd.S_typed (sI HO_5.out)) (by decide) hg); have n2_ := Aside0.mk (hb); have n3_ := Aside0.mk (ho); clear HO_4; clear HO_6; clear HB; clear HO_5; clear HO192; have HO_4 := n0_; have HO_6 := n1_; have HB := n2_; have HO195 := n3_; clear n0_ n1_ n2_ n3_; clear ho hb hg hat))
         go_roundg k2
         case measure => have := HJ7.out; have := HK2.out; omega
         case rel => exact ⟨(y193), (t187), (wrap64 (x8_2 + 1)), y0_10, y0_10, H', ⟨by have := HJ7.out; have := HK2.out; omega⟩, ⟨by (with_reducible repeat (first | apply Kd.S_alloc | apply Kd.S_drewN | apply Kd.S_drew)); exact Kd.S_mono HO_4.out (fun _ hk => hk.2)⟩, ⟨by (with_reducible repeat (first | apply Kd.S_alloc | apply Kd.S_drewN | apply Kd.S_drew)); exact HO195.out⟩, ⟨by (with_reducible repeat (first | apply Kd.R_alloc | apply Kd.R_drewN | apply Kd.R_drew)); exact HO_6.out⟩, ⟨bI HB.out⟩⟩
        replace c26 := Bool.eq_false_iff.mpr c26; subst c26
        rw [if_neg (show ¬ (false = true) by decide)] at H
        simp only [Option.some.injEq, Prod.mk.injEq] at H
        obtain ⟨rfl, rfl⟩ := H; obtain ⟨Ao46, co46, eo46⟩ := Kd.R_slice HO_6.out; subst eo46; have p183 : 0 ≤ (x8_2 : Int) := of_decide_eq_true y0_9; have q183 : x8_2 < (t179.length : Int) := of_decide_eq_true y0_9; obtain ⟨ad183, e183, hx183_0⟩ := Kd.at_string (Kd.R_reads' HO_6.out).2.2 x8_2 p183 q183; cases e183; replace p183 := eq_true p183; replace q183 := eq_true q183
        go_wp2_with (first | ((with_reducible refine gate_callee (f := 128) rfl ?_); refine gB (some 44) Tryz.func128 #[.string (rdOf ByteArray.empty t179 x8_2), .int .u8 124] ?_; (with_reducible refine (spec_l2Cut.calls k2 (rdOf ByteArray.empty t179 x8_2) 124 t184 t185 true _ A21.out).mono ?_); rintro e w' ⟨rfl, ⟨nd, rfl⟩⟩; refine ⟨_, rfl, ?_⟩) | ((with_reducible refine gate_callee (f := 129) rfl ?_); refine gB (some 50) Tryz.func129 #[.string t184] ?_; (with_reducible refine (spec_Number.calls k2 t184 t187 true _ A22.out).mono ?_); rintro e w47 ⟨rfl, hb⟩; refine ⟨_, rfl, ?_⟩; replace HO_4 := sb HO_4 hb; replace HO_5 := sb HO_5 hb; replace HO_6 := rb HO_6 hb; replace HB := bs HB hb; (try clear hb); (try clear hb2); (try clear hk); (try clear hi)) | ((with_reducible refine gate_callee (f := 130) rfl ?_); refine gB (some 55) Tryz.func130 #[.string t185] ?_; (with_reducible refine (spec_TxsOf.calls k2 t185 t189 false _ A23.out).mono ?_); rintro e w48 ⟨v191, rfl, ho0, hb⟩; refine ⟨_, rfl, ?_⟩; replace HO_4 := Aside0.mk (Kd.S_elder' (sI HO_4.out) (Kd.R_base ho0) hb); replace HO_5 := Aside0.mk (Kd.S_elder' (sI HO_5.out) (Kd.R_base ho0) hb); replace HO_6 := rb HO_6 hb; have HO192 := Aside0.mk (Kd.R_lower ho0 (below_size (bI HB.out))); replace HB := bs HB hb; (try clear hb)))
        go_ret2
        exact ⟨_, y0_7, y0_3, bI HB.out⟩
       replace c25 := Bool.eq_false_iff.mpr c25; subst c25
       rw [if_neg (show ¬ (false = true) by decide)] at H
       simp only [Option.some.injEq, Prod.mk.injEq] at H
       obtain ⟨rfl, rfl⟩ := H; obtain ⟨Ao49, co49, eo49⟩ := Kd.R_slice HO_6.out; subst eo49; have p183 : 0 ≤ (x8_2 : Int) := of_decide_eq_true y0_9; have q183 : x8_2 < (t179.length : Int) := of_decide_eq_true y0_9; obtain ⟨ad183, e183, hx183_0⟩ := Kd.at_string (Kd.R_reads' HO_6.out).2.2 x8_2 p183 q183; cases e183; replace p183 := eq_true p183; replace q183 := eq_true q183
       go_wp2_with (first | ((with_reducible refine gate_callee (f := 128) rfl ?_); refine gB (some 44) Tryz.func128 #[.string (rdOf ByteArray.empty t179 x8_2), .int .u8 124] ?_; (with_reducible refine (spec_l2Cut.calls k2 (rdOf ByteArray.empty t179 x8_2) 124 t184 t185 true _ A21.out).mono ?_); rintro e w' ⟨rfl, ⟨nd, rfl⟩⟩; refine ⟨_, rfl, ?_⟩) | ((with_reducible refine gate_callee (f := 129) rfl ?_); refine gB (some 50) Tryz.func129 #[.string t184] ?_; (with_reducible refine (spec_Number.calls k2 t184 t187 false _ A22.out).mono ?_); rintro e w50 ⟨rfl, hb⟩; refine ⟨_, rfl, ?_⟩; replace HO_4 := sb HO_4 hb; replace HO_5 := sb HO_5 hb; replace HO_6 := rb HO_6 hb; replace HB := bs HB hb; (try clear hb); (try clear hb2); (try clear hk); (try clear hi)) | ((with_reducible refine gate_callee (f := 130) rfl ?_); refine gB (some 55) Tryz.func130 #[.string t185] ?_; (with_reducible refine (spec_TxsOf.calls k2 t185 t189 t190 _ A23.out).mono ?_); rintro e w51 ⟨v191, rfl, ho0, hb⟩; refine ⟨_, rfl, ?_⟩; replace HO_4 := Aside0.mk (Kd.S_elder' (sI HO_4.out) (Kd.R_base ho0) hb); replace HO_5 := Aside0.mk (Kd.S_elder' (sI HO_5.out) (Kd.R_base ho0) hb); replace HO_6 := rb HO_6 hb; have HO192 := Aside0.mk (Kd.R_lower ho0 (below_size (bI HB.out))); replace HB := bs HB hb; (try clear hb)))
       go_ret2
       exact ⟨_, y0_7, y0_3, bI HB.out⟩
      replace c24 := Bool.eq_false_iff.mpr c24; subst c24
      rw [if_neg (show ¬ (false = true) by decide)] at H
      simp only [Option.some.injEq, Prod.mk.injEq] at H
      obtain ⟨rfl, rfl⟩ := H; obtain ⟨Ao52, co52, eo52⟩ := Kd.R_slice HO_6.out; subst eo52; have p183 : 0 ≤ (x8_2 : Int) := of_decide_eq_true y0_9; have q183 : x8_2 < (t179.length : Int) := of_decide_eq_true y0_9; obtain ⟨ad183, e183, hx183_0⟩ := Kd.at_string (Kd.R_reads' HO_6.out).2.2 x8_2 p183 q183; cases e183; replace p183 := eq_true p183; replace q183 := eq_true q183
      go_wp2_with (first | ((with_reducible refine gate_callee (f := 128) rfl ?_); refine gB (some 44) Tryz.func128 #[.string (rdOf ByteArray.empty t179 x8_2), .int .u8 124] ?_; (with_reducible refine (spec_l2Cut.calls k2 (rdOf ByteArray.empty t179 x8_2) 124 t184 t185 false _ A21.out).mono ?_); rintro e w' ⟨rfl, ⟨nd, rfl⟩⟩; refine ⟨_, rfl, ?_⟩) | ((with_reducible refine gate_callee (f := 129) rfl ?_); refine gB (some 50) Tryz.func129 #[.string t184] ?_; (with_reducible refine (spec_Number.calls k2 t184 t187 t188 _ A22.out).mono ?_); rintro e w53 ⟨rfl, hb⟩; refine ⟨_, rfl, ?_⟩; replace HO_4 := sb HO_4 hb; replace HO_5 := sb HO_5 hb; replace HO_6 := rb HO_6 hb; replace HB := bs HB hb; (try clear hb); (try clear hb2); (try clear hk); (try clear hi)) | ((with_reducible refine gate_callee (f := 130) rfl ?_); refine gB (some 55) Tryz.func130 #[.string t185] ?_; (with_reducible refine (spec_TxsOf.calls k2 t185 t189 t190 _ A23.out).mono ?_); rintro e w54 ⟨v191, rfl, ho0, hb⟩; refine ⟨_, rfl, ?_⟩; replace HO_4 := Aside0.mk (Kd.S_elder' (sI HO_4.out) (Kd.R_base ho0) hb); replace HO_5 := Aside0.mk (Kd.S_elder' (sI HO_5.out) (Kd.R_base ho0) hb); replace HO_6 := rb HO_6 hb; have HO192 := Aside0.mk (Kd.R_lower ho0 (below_size (bI HB.out))); replace HB := bs HB hb; (try clear hb)))
      go_ret2
      exact ⟨_, y0_7, y0_3, bI HB.out⟩
     rw [if_neg c19] at H
     have c19b0 : decide (x8_2 < (t179.length : Int)) = false := decide_eq_false c19; clear c19
     simp only [Option.some.injEq, Prod.mk.injEq] at H
     obtain ⟨rfl, rfl⟩ := H; obtain ⟨Ao55, co55, eo55⟩ := Kd.R_slice HO_6.out; subst eo55
     go_wp2
     go_ret2
     exact ⟨_, y0_7, by (with_reducible repeat (first | apply Kd.S_alloc | apply Kd.S_drewN | apply Kd.S_drew)); exact Kd.S_mono HO_5.out (fun _ hk => trivial), bI HB.out⟩

/-! ### spec_ViewOf: function 62 -/
def spec_ViewOf.f (k : Nat) (a0 : ByteArray) : Option (Int) := (spec_Steps.f k a0).bind fun bt196 => (if bt196.2 = true then (if (bt196.1.length : Int) = 0 then (some 0) else (if 0 ≤ (wrap64 ((bt196.1.length : Int) - 1)) then (if (wrap64 ((bt196.1.length : Int) - 1)) < (bt196.1.length : Int) then (some ((rd_T112 bt196.1 (wrap64 ((bt196.1.length : Int) - 1))).f0)) else (none)) else (none))) else (some 0))
theorem spec_ViewOf.mono : ∀ a0 k, LeO (spec_ViewOf.f k a0) (spec_ViewOf.f (k + 1) a0) := by
 intro a0 k
 unfold spec_ViewOf.f
 repeat' first | (with_reducible exact spec_Steps.mono _ _) | (with_reducible exact LeO.refl _) | (with_reducible exact LeO.none _) | (with_reducible refine LeO.ite ?_ ?_) | (with_reducible refine LeO.bind ?_ (fun _ => ?_))
set_option maxHeartbeats 8000000 in
set_option maxRecDepth 100000 in
theorem spec_ViewOf.calls (k : Nat) (a0 : ByteArray) (r : Int) (w : World) (h : spec_ViewOf.f k a0 = some r) :
  Calls Tryz.prog 62 #[.string a0] w fun e w' => e = .returned (.int .i64 r) ∧ Below w.heap.size w w' := by
 have HB := Aside0.mk (Below.refl w.heap.size w)
 have H : ((spec_Steps.f k a0).bind fun bt196 => (if bt196.2 = true then (if (bt196.1.length : Int) = 0 then (some 0) else (if 0 ≤ (wrap64 ((bt196.1.length : Int) - 1)) then (if (wrap64 ((bt196.1.length : Int) - 1)) < (bt196.1.length : Int) then (some ((rd_T112 bt196.1 (wrap64 ((bt196.1.length : Int) - 1))).f0)) else (none)) else (none))) else (some 0))) = some r := h
 clear h; obtain ⟨⟨t196, t197⟩, A20, H⟩ := Option.bind_eq_some_iff.mp H
 try dsimp only at H
 have A2 := Aside0.mk A20; clear A20
 by_cases c3 : t197 = true
 ·
  subst c3
  rw [if_pos rfl] at H
  by_cases c4 : (t196.length : Int) = 0
  ·
   rw [if_pos c4] at H
   have c4b0 : ((t196.length : Int) == 0) = true := beq_iff_eq.mpr c4; have c4b1 : ((t196.length : Int) != 0) = false := bne_eq_false_iff_eq.mpr c4; clear c4; obtain rfl := Option.some.inj H
   go_enter Tryz.func62, Tryz.ntmps62
   go_wp2_with (first | ((with_reducible refine gate_callee (f := 103) rfl ?_); refine gB (some 7) Tryz.func103 #[.string a0] ?_; (with_reducible refine (spec_Steps.calls k a0 t196 true _ A2.out).mono ?_); rintro e w5 ⟨v198, rfl, ho0, hb⟩; refine ⟨_, rfl, ?_⟩; have HO199 := Aside0.mk (Kd.S_lower ho0 (below_size (bI HB.out))); replace HB := bs HB hb; (try clear hb); (try clear ho0); obtain ⟨Ao6, co6, eo6⟩ := Kd.S_slice HO199.out; subst eo6))
   go_ret
   exact ⟨y0_7, bI HB.out⟩
  rw [if_neg c4] at H
  have c4b0 : ((t196.length : Int) == 0) = false := beq_eq_false_iff_ne.mpr c4; have c4b1 : ((t196.length : Int) != 0) = true := bne_iff_ne.mpr c4
  have c4b2 : ¬ (t196 = []) := fun h_ => c4 (by rw [h_]; rfl)
  obtain ⟨ji7, hji7⟩ : ∃ j_ : Int, (wrap64 ((t196.length : Int) - 1)) = j_ := ⟨_, rfl⟩
  replace H : (if 0 ≤ (ji7) then (if (ji7) < (t196.length : Int) then (some ((rd_T112 t196 (ji7)).f0)) else (none)) else (none)) = some r := by first | (rw [hji7] at H; exact H) | (simp only [hji7] at H ⊢; exact H)
  (try rw [hji7] at A2)
  have hji7w : (IntKind.i64.wrap ((t196.length : Int) - 1)) = ji7 := (i64_w _).trans hji7
  by_cases c8 : 0 ≤ (ji7)
  rotate_left
  ·
   rw [if_neg c8] at H
   exact absurd H (by simp)
  rw [if_pos c8] at H
  have c8b0 : decide (0 ≤ (ji7)) = true := decide_eq_true c8; clear c8
  by_cases c9 : (ji7) < (t196.length : Int)
  rotate_left
  ·
   rw [if_neg c9] at H
   exact absurd H (by simp)
  rw [if_pos c9] at H
  have c9b0 : decide ((ji7) < (t196.length : Int)) = true := decide_eq_true c9; clear c9; obtain rfl := Option.some.inj H
  go_enter Tryz.func62, Tryz.ntmps62
  go_wp2_with (first | ((with_reducible refine gate_callee (f := 103) rfl ?_); refine gB (some 7) Tryz.func103 #[.string a0] ?_; (with_reducible refine (spec_Steps.calls k a0 t196 true _ A2.out).mono ?_); rintro e w10 ⟨v198, rfl, ho0, hb⟩; refine ⟨_, rfl, ?_⟩; have HO199 := Aside0.mk (Kd.S_lower ho0 (below_size (bI HB.out))); replace HB := bs HB hb; (try clear hb); (try clear ho0); obtain ⟨Ao11, co11, eo11⟩ := Kd.S_slice HO199.out; subst eo11; have p200 : 0 ≤ ((ji7) : Int) := of_decide_eq_true y0_9; have q200 : (ji7) < (t196.length : Int) := of_decide_eq_true y0_9; obtain ⟨ad200, A200_1, c200_1, e200, hx200_0, hx200_1, hl200_1, hi200_1⟩ := at_T112 (Kd.S_reads' HO199.out).2.2 (ji7) p200 q200; cases e200; obtain ⟨ce200, hce200, hMe200, hcc200⟩ := Kd.S_get HO199.out z112 (ji7) p200 (by first | exact q200 | exact of_decide_eq_true y0_9 | (have e_ := (Kd.S_reads' HO199.out).1; omega)); obtain ⟨ve200_1, rfl, ge200_1⟩ := k112_openM hMe200; have hv200_1 := hcc200 1 _ rfl; rw [add_field _ _ 1 (by omega)] at hv200_1; replace hv200_1 := Option.some.inj (hv200_1.symm.trans hx200_1); rw [hv200_1] at ge200_1; have HL200_1 := Aside0.mk (show Kd.R k99 99 _ _ _ _ ((rd_T112 t196 (ji7)).f1) from ge200_1); clear hv200_1 ge200_1; clear hcc200 hce200; have HR200_1 := Aside0.mk hi200_1; have HC200_1 := Aside0.mk hl200_1; clear hi200_1 hl200_1; replace p200 := eq_true p200; replace q200 := eq_true q200))
  go_ret
  exact ⟨by first | rfl | (simp [errW_none, errW_some] <;> rfl) | (simp only [← hji7]; first | rfl | (simp [errW_none, errW_some] <;> rfl)) | (simp [*, errW_none, errW_some] <;> rfl), bI HB.out⟩
 replace c3 := Bool.eq_false_iff.mpr c3; subst c3
 rw [if_neg (show ¬ (false = true) by decide)] at H
 obtain rfl := Option.some.inj H
 go_enter Tryz.func62, Tryz.ntmps62
 go_wp2_with (first | ((with_reducible refine gate_callee (f := 103) rfl ?_); refine gB (some 7) Tryz.func103 #[.string a0] ?_; (with_reducible refine (spec_Steps.calls k a0 t196 false _ A2.out).mono ?_); rintro e w12 ⟨v198, rfl, ho0, hb⟩; refine ⟨_, rfl, ?_⟩; have HO199 := Aside0.mk (Kd.S_lower ho0 (below_size (bI HB.out))); replace HB := bs HB hb; (try clear hb); (try clear ho0)))
 go_ret
 exact ⟨y0_7, bI HB.out⟩

/-! ### spec_ConfOk: function 55 -/
def spec_ConfOk.f (a0_0 : Int) (a0_1 : Int) : Option (Bool) := (spec_l1In.f a0_0 4 7).bind fun t202 => (if t202 = true then ((spec_l1In.f a0_1 1 6).bind fun t203 => (some t203)) else (some false))
set_option maxHeartbeats 8000000 in
set_option maxRecDepth 100000 in
theorem spec_ConfOk.calls (a0_0 : Int) (a0_1 : Int) (r : Bool) (w : World) (h : spec_ConfOk.f a0_0 a0_1 = some r) :
  Calls Tryz.prog 55 #[.agg #[.int .i64 a0_0, .int .i64 a0_1]] w fun e w' => e = .returned (.bool r) ∧ Below w.heap.size w w' := by
 have hu38 := Tryz.underlying38; have HB := Aside0.mk (Below.refl w.heap.size w)
 have H : ((spec_l1In.f a0_0 4 7).bind fun t202 => (if t202 = true then ((spec_l1In.f a0_1 1 6).bind fun t203 => (some t203)) else (some false))) = some r := h
 clear h; obtain ⟨t202, A20, H⟩ := Option.bind_eq_some_iff.mp H
 try dsimp only at H
 have A2 := Aside0.mk A20; clear A20
 by_cases c3 : t202 = true
 ·
  subst c3
  rw [if_pos rfl] at H
  obtain ⟨t203, A40, H⟩ := Option.bind_eq_some_iff.mp H
  try dsimp only at H
  have A4 := Aside0.mk A40; clear A40; obtain rfl := Option.some.inj H
  go_enter Tryz.func55, Tryz.ntmps55
  go_wp2_with (first | ((with_reducible refine gd 1 ?_); refine bA 1 #[.int .i64 a0_0, .int .i64 a0_1] 38 ?_; intro gb201 hg w5 hbox hb; have BK201 := Aside0.mk (hbox); have GW201 := bg hg HB; have GJ201 := gi GW201; have GE201 := GW201; replace HB := bs HB hb; clear hb hbox hg; obtain ⟨hcz6_0, hcz6_1, hfz6_0, hfz6_1⟩ := cs2 BK201) | ((with_reducible refine gate_callee (f := 100) rfl ?_); refine gB (some 5) Tryz.func100 #[.int .i64 a0_0, .int .i64 4, .int .i64 7] ?_; (with_reducible refine (spec_l1In.calls a0_0 4 7 true _ A2.out).mono ?_); rintro e w' ⟨rfl, ⟨nd, rfl⟩⟩; refine ⟨_, rfl, ?_⟩) | (go_at_call 100; (with_reducible refine (spec_l1In.calls a0_1 1 6 t203 _ A4.out).mono ?_); rintro e w' ⟨rfl, ⟨nd, rfl⟩⟩))
  go_ret
  exact ⟨y0_7, bI HB.out⟩
 replace c3 := Bool.eq_false_iff.mpr c3; subst c3
 rw [if_neg (show ¬ (false = true) by decide)] at H
 obtain rfl := Option.some.inj H
 go_enter Tryz.func55, Tryz.ntmps55
 go_wp2_with (first | ((with_reducible refine gd 1 ?_); refine bA 1 #[.int .i64 a0_0, .int .i64 a0_1] 38 ?_; intro gb201 hg w7 hbox hb; have BK201 := Aside0.mk (hbox); have GW201 := bg hg HB; have GJ201 := gi GW201; have GE201 := GW201; replace HB := bs HB hb; clear hb hbox hg; obtain ⟨hcz8_0, hcz8_1, hfz8_0, hfz8_1⟩ := cs2 BK201) | ((with_reducible refine gate_callee (f := 100) rfl ?_); refine gB (some 5) Tryz.func100 #[.int .i64 a0_0, .int .i64 4, .int .i64 7] ?_; (with_reducible refine (spec_l1In.calls a0_0 4 7 false _ A2.out).mono ?_); rintro e w' ⟨rfl, ⟨nd, rfl⟩⟩; refine ⟨_, rfl, ?_⟩))
 go_ret
 exact ⟨y0_7, bI HB.out⟩

/-! ### spec_Quorum: function 53 -/
def spec_Quorum.f (a0_0 : Int) (a0_1 : Int) : Option (Int) := (spec_ConfOk.f a0_0 a0_1).bind fun t205 => (if t205 = true then (some (wrap64 (a0_0 - (wrap64 (Int.tdiv (wrap64 (a0_0 - 1)) 3))))) else (some 0))
set_option maxHeartbeats 8000000 in
set_option maxRecDepth 100000 in
theorem spec_Quorum.calls (a0_0 : Int) (a0_1 : Int) (r : Int) (w : World) (h : spec_Quorum.f a0_0 a0_1 = some r) :
  Calls Tryz.prog 53 #[.agg #[.int .i64 a0_0, .int .i64 a0_1]] w fun e w' => e = .returned (.int .i64 r) ∧ Below w.heap.size w w' := by
 have hu38 := Tryz.underlying38; have HB := Aside0.mk (Below.refl w.heap.size w)
 have H : ((spec_ConfOk.f a0_0 a0_1).bind fun t205 => (if t205 = true then (some (wrap64 (a0_0 - (wrap64 (Int.tdiv (wrap64 (a0_0 - 1)) 3))))) else (some 0))) = some r := h
 clear h; obtain ⟨t205, A20, H⟩ := Option.bind_eq_some_iff.mp H
 try dsimp only at H
 have A2 := Aside0.mk A20; clear A20
 by_cases c3 : t205 = true
 ·
  subst c3
  rw [if_pos rfl] at H
  obtain rfl := Option.some.inj H
  go_enter Tryz.func53, Tryz.ntmps53
  go_wp2_with (first | ((with_reducible refine gd 1 ?_); refine bA 1 #[.int .i64 a0_0, .int .i64 a0_1] 38 ?_; intro gb204 hg w4 hbox hb; have BK204 := Aside0.mk (hbox); have GW204 := bg hg HB; have GJ204 := gi GW204; have GE204 := GW204; replace HB := bs HB hb; clear hb hbox hg; obtain ⟨hcz5_0, hcz5_1, hfz5_0, hfz5_1⟩ := cs2 BK204) | ((with_reducible refine gate_callee (f := 55) rfl ?_); refine gB (some 4) Tryz.func55 #[.agg #[.int .i64 a0_0, .int .i64 a0_1]] ?_; (with_reducible refine (spec_ConfOk.calls a0_0 a0_1 true _ A2.out).mono ?_); rintro e w6 ⟨rfl, hb⟩; refine ⟨_, rfl, ?_⟩; replace BK204 := bk BK204 hb; replace HB := bs HB hb; (try clear hb); (try clear hb2); (try clear hk); (try clear hi); obtain ⟨hcz7_0, hcz7_1, hfz7_0, hfz7_1⟩ := cs2 BK204))
  go_ret
  exact ⟨y0_7, bI HB.out⟩
 replace c3 := Bool.eq_false_iff.mpr c3; subst c3
 rw [if_neg (show ¬ (false = true) by decide)] at H
 obtain rfl := Option.some.inj H
 go_enter Tryz.func53, Tryz.ntmps53
 go_wp2_with (first | ((with_reducible refine gd 1 ?_); refine bA 1 #[.int .i64 a0_0, .int .i64 a0_1] 38 ?_; intro gb204 hg w8 hbox hb; have BK204 := Aside0.mk (hbox); have GW204 := bg hg HB; have GJ204 := gi GW204; have GE204 := GW204; replace HB := bs HB hb; clear hb hbox hg; obtain ⟨hcz9_0, hcz9_1, hfz9_0, hfz9_1⟩ := cs2 BK204) | ((with_reducible refine gate_callee (f := 55) rfl ?_); refine gB (some 4) Tryz.func55 #[.agg #[.int .i64 a0_0, .int .i64 a0_1]] ?_; (with_reducible refine (spec_ConfOk.calls a0_0 a0_1 false _ A2.out).mono ?_); rintro e w10 ⟨rfl, hb⟩; refine ⟨_, rfl, ?_⟩; replace BK204 := bk BK204 hb; replace HB := bs HB hb; (try clear hb); (try clear hb2); (try clear hk); (try clear hi)))
 go_ret
 exact ⟨y0_7, bI HB.out⟩

/-! ### spec_NameOk: function 97 -/
def spec_NameOk.f (k : Nat) (a0 : ByteArray) : Option (Bool) := (spec_Steps.f k a0).bind fun bt206 => (some bt206.2)
theorem spec_NameOk.mono : ∀ a0 k, LeO (spec_NameOk.f k a0) (spec_NameOk.f (k + 1) a0) := by
 intro a0 k
 unfold spec_NameOk.f
 repeat' first | (with_reducible exact spec_Steps.mono _ _) | (with_reducible exact LeO.refl _) | (with_reducible exact LeO.none _) | (with_reducible refine LeO.ite ?_ ?_) | (with_reducible refine LeO.bind ?_ (fun _ => ?_))
set_option maxHeartbeats 8000000 in
set_option maxRecDepth 100000 in
theorem spec_NameOk.calls (k : Nat) (a0 : ByteArray) (r : Bool) (w : World) (h : spec_NameOk.f k a0 = some r) :
  Calls Tryz.prog 97 #[.string a0] w fun e w' => e = .returned (.bool r) ∧ Below w.heap.size w w' := by
 have HB := Aside0.mk (Below.refl w.heap.size w)
 have H : ((spec_Steps.f k a0).bind fun bt206 => (some bt206.2)) = some r := h
 clear h; obtain ⟨⟨t206, t207⟩, A20, H⟩ := Option.bind_eq_some_iff.mp H
 try dsimp only at H
 have A2 := Aside0.mk A20; clear A20; obtain rfl := Option.some.inj H
 go_enter Tryz.func97, Tryz.ntmps97
 go_wp2_with (first | ((with_reducible refine gate_callee (f := 103) rfl ?_); refine gB (some 7) Tryz.func103 #[.string a0] ?_; (with_reducible refine (spec_Steps.calls k a0 t206 t207 _ A2.out).mono ?_); rintro e w3 ⟨v208, rfl, ho0, hb⟩; refine ⟨_, rfl, ?_⟩; have HO209 := Aside0.mk (Kd.S_lower ho0 (below_size (bI HB.out))); replace HB := bs HB hb; (try clear hb); (try clear ho0)))
 go_ret
 exact ⟨y0_7, bI HB.out⟩

/-! ### spec_SetOk: function 98 -/
def spec_SetOk.l0 : Nat → Int → List Int → Int → Option (Bool)
 | 0, _, _, _ => none
 | k + 1, x0, x1, x5 => if x5 < (x1.length : Int) then (if 0 ≤ x5 then (if (rd x1 x5) < 0 then (some false) else (if (rd x1 x5) ≥ x0 then (some false) else (if x5 > 0 then (if 0 ≤ (wrap64 (x5 - 1)) then (if (wrap64 (x5 - 1)) < (x1.length : Int) then (if (rd x1 (wrap64 (x5 - 1))) ≥ (rd x1 x5) then (some false) else (spec_SetOk.l0 k x0 x1 (wrap64 (x5 + 1)))) else (none)) else (none)) else (spec_SetOk.l0 k x0 x1 (wrap64 (x5 + 1)))))) else (none)) else (some true)
def spec_SetOk.f (k : Nat) (a0 : Int) (l1 : List Int) : Option (Bool) := spec_SetOk.l0 k a0 l1 0
theorem spec_SetOk.mono_l : ∀ k, (∀ y0 y1 y2, LeO (spec_SetOk.l0 k y0 y1 y2) (spec_SetOk.l0 (k + 1) y0 y1 y2))
 | 0 => fun _ _ _ r h => by simp [spec_SetOk.l0] at h
 | k + 1 => by
  have ih0 := spec_SetOk.mono_l k
  intro y0 y1 y2
  unfold spec_SetOk.l0
  repeat' first | (with_reducible exact ih0 _ _ _) | (with_reducible exact LeO.refl _) | (with_reducible exact LeO.none _) | (with_reducible refine LeO.ite ?_ ?_) | (with_reducible refine LeO.bind ?_ (fun _ => ?_))
theorem spec_SetOk.mono : ∀ a0 a1 k, LeO (spec_SetOk.f k a0 a1) (spec_SetOk.f (k + 1) a0 a1) := by
 intro a0 a1 k
 have ih0 := spec_SetOk.mono_l k
 unfold spec_SetOk.f
 repeat' first | (with_reducible exact ih0 _ _ _) | (with_reducible exact LeO.refl _) | (with_reducible exact LeO.none _) | (with_reducible refine LeO.ite ?_ ?_) | (with_reducible refine LeO.bind ?_ (fun _ => ?_))
set_option maxHeartbeats 8000000 in
set_option maxRecDepth 100000 in
theorem spec_SetOk.calls (k : Nat) (a0 : Int) (A1 : Option Addr) (c1 : Nat) (l1 : List Int) (r : Bool) (w : World) (hr1 : Kd.C (Kd.int .i64) w A1 l1.length l1) (hc1 : l1.length ≤ c1) (h : spec_SetOk.f k a0 l1 = some r) :
  Calls Tryz.prog 98 #[.int .i64 a0, .slice A1 l1.length c1] w fun e w' => e = .returned (.bool r) ∧ Drawn0 w w' := by
 have HR1 := Aside0.mk hr1; have HC1 := Aside0.mk hc1; clear hr1 hc1; have H : (spec_SetOk.l0 k a0 l1 0) = some r := h; clear h; have H' := Aside0.mk H; clear H
 go_enter Tryz.func98, Tryz.ntmps98
 go_wp2
 repeat (go_quiet (fail); try go_wp2)
 go_loopg [5] k (fun kq v5 w' => ∃ (x5_1 : Int), v5 = .int .i64 x5_1 ∧ Aside0 (spec_SetOk.l0 kq a0 l1 x5_1 = some r) ∧ Aside0 (kq ≤ k) ∧ Drawn0 w w')
 case atStart => exact ⟨(0), y0_10, H', ⟨Nat.le_refl _⟩, y0_8⟩
 case round =>
  clear H'
  try clear c1
  try clear p2
  obtain ⟨x5_1, rfl, HA, HK1, ⟨m1, rfl⟩⟩ := hrel; cases gk with
  | zero => exact absurd HA.out (by simp [spec_SetOk.l0])
  | succ k1 =>
   have H := HA.out; clear HA
   simp only [spec_SetOk.l0] at H
   by_cases c3 : x5_1 < (l1.length : Int)
   ·
    rw [if_pos c3] at H
    have c3b0 : decide (x5_1 < (l1.length : Int)) = true := decide_eq_true c3; clear c3
    by_cases c4 : 0 ≤ x5_1
    rotate_left
    ·
     rw [if_neg c4] at H
     exact absurd H (by simp)
    rw [if_pos c4] at H
    have c4b0 : decide (0 ≤ x5_1) = true := decide_eq_true c4; clear c4
    by_cases c5 : (rd l1 x5_1) < 0
    ·
     rw [if_pos c5] at H
     have c5b0 : decide ((rd l1 x5_1) < 0) = true := decide_eq_true c5; clear c5; obtain rfl := Option.some.inj H; have p210 : 0 ≤ (x5_1 : Int) := of_decide_eq_true y0_9; have q210 : x5_1 < (l1.length : Int) := of_decide_eq_true y0_9; obtain ⟨ad210, e210, hx210_0⟩ := Kd.at_int HR1.out x5_1 p210 q210; cases e210; replace p210 := eq_true p210; replace q210 := eq_true q210
     go_wp2
     repeat (go_quiet (fail); try go_wp2)
     go_ret
     exact ⟨y0_10, y0_8⟩
    rw [if_neg c5] at H
    have c5b0 : decide ((rd l1 x5_1) < 0) = false := decide_eq_false c5; clear c5
    by_cases c6 : (rd l1 x5_1) ≥ a0
    ·
     rw [if_pos c6] at H
     have c6b0 : decide (a0 ≤ (rd l1 x5_1)) = true := decide_eq_true c6; clear c6; obtain rfl := Option.some.inj H; have p210 : 0 ≤ (x5_1 : Int) := of_decide_eq_true y0_9; have q210 : x5_1 < (l1.length : Int) := of_decide_eq_true y0_9; obtain ⟨ad210, e210, hx210_0⟩ := Kd.at_int HR1.out x5_1 p210 q210; cases e210; replace p210 := eq_true p210; replace q210 := eq_true q210; have p211 : 0 ≤ (x5_1 : Int) := of_decide_eq_true y0_9; have q211 : x5_1 < (l1.length : Int) := of_decide_eq_true y0_9; obtain ⟨ad211, e211, hx211_0⟩ := Kd.at_int HR1.out x5_1 p211 q211
     obtain rfl : ad210 = ad211 := (by injection e211)
     replace p211 := eq_true p211; replace q211 := eq_true q211
     go_wp2
     repeat (go_quiet (fail); try go_wp2)
     go_ret
     exact ⟨y0_10, y0_8⟩
    rw [if_neg c6] at H
    have c6b0 : decide (a0 ≤ (rd l1 x5_1)) = false := decide_eq_false c6; clear c6
    by_cases c7 : x5_1 > 0
    ·
     rw [if_pos c7] at H
     have c7b0 : decide (0 < x5_1) = true := decide_eq_true c7; clear c7; obtain ⟨ji8, hji8⟩ : ∃ j_ : Int, (wrap64 (x5_1 - 1)) = j_ := ⟨_, rfl⟩
     replace H : (if 0 ≤ (ji8) then (if (ji8) < (l1.length : Int) then (if (rd l1 (ji8)) ≥ (rd l1 x5_1) then (some false) else (spec_SetOk.l0 k1 a0 l1 (wrap64 (x5_1 + 1)))) else (none)) else (none)) = some r := by first | (rw [hji8] at H; exact H) | (simp only [hji8] at H ⊢; exact H)
     have hji8w : (IntKind.i64.wrap (x5_1 - 1)) = ji8 := (i64_w _).trans hji8
     by_cases c9 : 0 ≤ (ji8)
     rotate_left
     ·
      rw [if_neg c9] at H
      exact absurd H (by simp)
     rw [if_pos c9] at H
     have c9b0 : decide (0 ≤ (ji8)) = true := decide_eq_true c9; clear c9
     by_cases c10 : (ji8) < (l1.length : Int)
     rotate_left
     ·
      rw [if_neg c10] at H
      exact absurd H (by simp)
     rw [if_pos c10] at H
     have c10b0 : decide ((ji8) < (l1.length : Int)) = true := decide_eq_true c10; clear c10
     by_cases c11 : (rd l1 (ji8)) ≥ (rd l1 x5_1)
     ·
      rw [if_pos c11] at H
      have c11b0 : decide ((rd l1 x5_1) ≤ (rd l1 (ji8))) = true := decide_eq_true c11; clear c11; obtain rfl := Option.some.inj H; have p210 : 0 ≤ (x5_1 : Int) := of_decide_eq_true y0_9; have q210 : x5_1 < (l1.length : Int) := of_decide_eq_true y0_9; obtain ⟨ad210, e210, hx210_0⟩ := Kd.at_int HR1.out x5_1 p210 q210; cases e210; replace p210 := eq_true p210; replace q210 := eq_true q210; have p211 : 0 ≤ (x5_1 : Int) := of_decide_eq_true y0_9; have q211 : x5_1 < (l1.length : Int) := of_decide_eq_true y0_9; obtain ⟨ad211, e211, hx211_0⟩ := Kd.at_int HR1.out x5_1 p211 q211
      obtain rfl : ad210 = ad211 := (by injection e211)
      replace p211 := eq_true p211; replace q211 := eq_true q211; have p212 : 0 ≤ ((ji8) : Int) := of_decide_eq_true y0_9; have q212 : (ji8) < (l1.length : Int) := of_decide_eq_true y0_9; obtain ⟨ad212, e212, hx212_0⟩ := Kd.at_int HR1.out (ji8) p212 q212
      obtain rfl : ad210 = ad212 := (by injection e212)
      replace p212 := eq_true p212; replace q212 := eq_true q212; have p213 : 0 ≤ (x5_1 : Int) := of_decide_eq_true y0_9; have q213 : x5_1 < (l1.length : Int) := of_decide_eq_true y0_9; obtain ⟨ad213, e213, hx213_0⟩ := Kd.at_int HR1.out x5_1 p213 q213
      obtain rfl : ad210 = ad213 := (by injection e213)
      replace p213 := eq_true p213; replace q213 := eq_true q213
      go_wp2
      repeat (go_quiet (fail); try go_wp2)
      go_ret
      exact ⟨by first | rfl | (simp; done) | (simp only [← hji8] <;> (first | rfl | simp)) | (simp [*]; done), y0_8⟩
     rw [if_neg c11] at H
     have c11b0 : decide ((rd l1 x5_1) ≤ (rd l1 (ji8))) = false := decide_eq_false c11; clear c11; have H' := Aside0.mk H; clear H; have p210 : 0 ≤ (x5_1 : Int) := of_decide_eq_true y0_9; have q210 : x5_1 < (l1.length : Int) := of_decide_eq_true y0_9; obtain ⟨ad210, e210, hx210_0⟩ := Kd.at_int HR1.out x5_1 p210 q210; cases e210; replace p210 := eq_true p210; replace q210 := eq_true q210; have p211 : 0 ≤ (x5_1 : Int) := of_decide_eq_true y0_9; have q211 : x5_1 < (l1.length : Int) := of_decide_eq_true y0_9; obtain ⟨ad211, e211, hx211_0⟩ := Kd.at_int HR1.out x5_1 p211 q211
     obtain rfl : ad210 = ad211 := (by injection e211)
     replace p211 := eq_true p211; replace q211 := eq_true q211; have p212 : 0 ≤ ((ji8) : Int) := of_decide_eq_true y0_9; have q212 : (ji8) < (l1.length : Int) := of_decide_eq_true y0_9; obtain ⟨ad212, e212, hx212_0⟩ := Kd.at_int HR1.out (ji8) p212 q212
     obtain rfl : ad210 = ad212 := (by injection e212)
     replace p212 := eq_true p212; replace q212 := eq_true q212; have p213 : 0 ≤ (x5_1 : Int) := of_decide_eq_true y0_9; have q213 : x5_1 < (l1.length : Int) := of_decide_eq_true y0_9; obtain ⟨ad213, e213, hx213_0⟩ := Kd.at_int HR1.out x5_1 p213 q213
     obtain rfl : ad210 = ad213 := (by injection e213)
     replace p213 := eq_true p213; replace q213 := eq_true q213
     go_wp2
     repeat (go_quiet (fail); try go_wp2)
     go_roundg k1
     case measure => have := HK1.out; omega
     case rel => exact ⟨(wrap64 (x5_1 + 1)), y0_10, H', ⟨y0_14⟩, y0_8⟩
    rw [if_neg c7] at H
    have c7b0 : decide (0 < x5_1) = false := decide_eq_false c7; clear c7; have H' := Aside0.mk H; clear H; have p210 : 0 ≤ (x5_1 : Int) := of_decide_eq_true y0_9; have q210 : x5_1 < (l1.length : Int) := of_decide_eq_true y0_9; obtain ⟨ad210, e210, hx210_0⟩ := Kd.at_int HR1.out x5_1 p210 q210; cases e210; replace p210 := eq_true p210; replace q210 := eq_true q210; have p211 : 0 ≤ (x5_1 : Int) := of_decide_eq_true y0_9; have q211 : x5_1 < (l1.length : Int) := of_decide_eq_true y0_9; obtain ⟨ad211, e211, hx211_0⟩ := Kd.at_int HR1.out x5_1 p211 q211
    obtain rfl : ad210 = ad211 := (by injection e211)
    replace p211 := eq_true p211; replace q211 := eq_true q211
    go_wp2
    repeat (go_quiet (fail); try go_wp2)
    go_roundg k1
    case measure => have := HK1.out; omega
    case rel => exact ⟨(wrap64 (x5_1 + 1)), y0_10, H', ⟨y0_14⟩, y0_8⟩
   rw [if_neg c3] at H
   have c3b0 : decide (x5_1 < (l1.length : Int)) = false := decide_eq_false c3; clear c3; obtain rfl := Option.some.inj H
   go_wp2
   repeat (go_quiet (fail); try go_wp2)
   go_ret
   exact ⟨y0_10, y0_8⟩

end Go.Proofs.YtemjmefacifdeaaGreatDoor.PFnExactVote
