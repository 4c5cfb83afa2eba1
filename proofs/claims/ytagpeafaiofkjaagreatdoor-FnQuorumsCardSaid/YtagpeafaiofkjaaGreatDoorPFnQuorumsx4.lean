-- By a program of this session, out of the translation (the print of the kit, with turns of its own). Lean checks it.
import Derived.Test.YtagpeafaiofkjaaGreatDoorPFnQuorumsx0
import Derived.Test.YtagpeafaiofkjaaGreatDoorPFnQuorumsx2
import Derived.Test.YtagpeafaiofkjaaGreatDoorPFnQuorumsx3
namespace Go.Proofs.YtagpeafaiofkjaaGreatDoor.PFnQuorums
open Go.RowKit Go.Proofs.YtagpeafaiofkjaaGreatDoorW.PrintWords Go.Proofs.YtagpeafaiofkjaaGreatDoorW.PrintLast Go.Proofs.YtagpeafaiofkjaaGreatDoorW.PrintMore
attribute [local go_sem] max2_int min2_int max_two min_two max_three min_three max_four min_four   -- for this text's walks alone
attribute [local go_sem] cell_in frozen_in
set_option synthInstance.maxSize 1000000
set_option synthInstance.maxHeartbeats 2000000
set_option linter.unusedVariables false
set_option linter.unusedSimpArgs false

/-! ### spec_Steps: function 46 -/
mutual
def spec_Steps.j0 : Nat → List (S64) → List (S64) → List ByteArray → Bool → Option ((List (S64)) × Bool)
 | 0, _, _, _, _ => none
 | k + 1, x4, x5, x6, x31 => if x31 = true then (some (x4, false)) else (spec_Steps.l0 k x4 x5 x6 0 1)
def spec_Steps.l0 : Nat → List (S64) → List (S64) → List ByteArray → Int → Int → Option ((List (S64)) × Bool)
 | 0, _, _, _, _, _ => none
 | k + 1, x4, x5, x6, x7, x8 => if x8 < (x6.length : Int) then (if 0 ≤ x8 then ((spec_l2Cut.f k (rdOf ByteArray.empty x6 x8) 124).bind fun bt207 => ((spec_Number.f k bt207.1).bind fun bt210 => ((spec_TxsOf.f k bt207.2.1).bind fun bt212 => (if bt207.2.2 = true then (if bt210.2 = true then (if bt212.2 = true then (if bt210.1 ≤ x7 then (some (x4, false)) else (if bt210.1 > 60 then (some (x4, false)) else (if (bt212.1.length : Int) > 2 then (some (x4, false)) else (if x5.length < 4398046511104 then (spec_Steps.l0 k x4 (x5 ++ [(⟨bt210.1, bt212.1⟩ : S64)]) x6 bt210.1 (wrap64 (x8 + 1))) else (none))))) else (some (x4, false))) else (some (x4, false))) else (some (x4, false)))))) else (none)) else (some (x5, true))
end
def spec_Steps.f (k : Nat) (a0 : ByteArray) : Option ((List (S64)) × Bool) := (some (([] : List (S64)) : List (S64))).bind fun y196 => ((some (([] : List (S64)) : List (S64))).bind fun y199 => (if a0.toList = ([] : List UInt8) then (some (y199, true)) else ((spec_Split.f k a0 47).bind fun t202 => (if 0 < (t202.length : Int) then (if (rdOf ByteArray.empty t202 0).toList = ([] : List UInt8) then (spec_Steps.j0 k y196 y199 t202 (decide ((t202.length : Int) > 31))) else (spec_Steps.j0 k y196 y199 t202 true)) else (none)))))
theorem spec_Steps.mono_l : ∀ k, (∀ y0 y1 y2 y3, LeO (spec_Steps.j0 k y0 y1 y2 y3) (spec_Steps.j0 (k + 1) y0 y1 y2 y3)) ∧ (∀ y0 y1 y2 y3 y4, LeO (spec_Steps.l0 k y0 y1 y2 y3 y4) (spec_Steps.l0 (k + 1) y0 y1 y2 y3 y4))
 | 0 => ⟨fun _ _ _ _ r h => by simp [spec_Steps.j0] at h, fun _ _ _ _ _ r h => by simp [spec_Steps.l0] at h⟩
 | k + 1 => by
  obtain ⟨ih0, ih1⟩ := spec_Steps.mono_l k
  refine ⟨?_, ?_⟩
  ·
   intro y0 y1 y2 y3
   unfold spec_Steps.j0
   repeat' first | (with_reducible exact ih0 _ _ _ _) | (with_reducible exact ih1 _ _ _ _ _) | (with_reducible exact spec_Number.mono _ _) | (with_reducible exact spec_Split.mono _ _ _) | (with_reducible exact spec_TxsOf.mono _ _) | (with_reducible exact spec_l2Cut.mono _ _ _) | (with_reducible exact LeO.refl _) | (with_reducible exact LeO.none _) | (with_reducible refine LeO.ite ?_ ?_) | (with_reducible refine LeO.bind ?_ (fun _ => ?_))
  intro y0 y1 y2 y3 y4
  unfold spec_Steps.l0
  repeat' first | (with_reducible exact ih0 _ _ _ _) | (with_reducible exact ih1 _ _ _ _ _) | (with_reducible exact spec_Number.mono _ _) | (with_reducible exact spec_Split.mono _ _ _) | (with_reducible exact spec_TxsOf.mono _ _) | (with_reducible exact spec_l2Cut.mono _ _ _) | (with_reducible exact LeO.refl _) | (with_reducible exact LeO.none _) | (with_reducible refine LeO.ite ?_ ?_) | (with_reducible refine LeO.bind ?_ (fun _ => ?_))
theorem spec_Steps.mono : ∀ a0 k, LeO (spec_Steps.f k a0) (spec_Steps.f (k + 1) a0) := by
 intro a0 k
 obtain ⟨ih0, ih1⟩ := spec_Steps.mono_l k
 unfold spec_Steps.f
 repeat' first | (with_reducible exact ih0 _ _ _ _) | (with_reducible exact ih1 _ _ _ _ _) | (with_reducible exact spec_Number.mono _ _) | (with_reducible exact spec_Split.mono _ _ _) | (with_reducible exact spec_TxsOf.mono _ _) | (with_reducible exact spec_l2Cut.mono _ _ _) | (with_reducible exact LeO.refl _) | (with_reducible exact LeO.none _) | (with_reducible refine LeO.ite ?_ ?_) | (with_reducible refine LeO.bind ?_ (fun _ => ?_))
set_option maxHeartbeats 8000000 in
set_option maxRecDepth 100000 in
theorem spec_Steps.calls (k : Nat) (a0 : ByteArray) (r1 : List (S64)) (r2 : Bool) (w : World) (h : spec_Steps.f k a0 = some (r1, r2)) :
  Calls Tryz.prog 46 #[.string a0] w fun e w' => ∃ v0_ : Value, e = .returned (.tuple #[v0_, .bool r2]) ∧ Kd.S k64 64 w' w.heap.size (fun _ => True) v0_ r1 ∧ Below w.heap.size w w' := by
 have hu64 := Tryz.underlying64; have HB := Aside0.mk (Below.refl w.heap.size w)
 have H := h; unfold spec_Steps.f at H
 clear h; obtain ⟨y196, hy196⟩ : ∃ y_ : List (S64), y_ = (([] : List (S64))) := ⟨_, rfl⟩
 replace H : ((some (([] : List (S64)) : List (S64))).bind fun y199 => (if a0.toList = ([] : List UInt8) then (some (y199, true)) else ((spec_Split.f k a0 47).bind fun t202 => (if 0 < (t202.length : Int) then (if (rdOf ByteArray.empty t202 0).toList = ([] : List UInt8) then (spec_Steps.j0 k y196 y199 t202 (decide ((t202.length : Int) > 31))) else (spec_Steps.j0 k y196 y199 t202 true)) else (none))))) = some (r1, r2) := by first | (rw [hy196]; with_reducible exact H) | (have H2_ := (Option.bind_some _ _).symm.trans H; rw [hy196]; with_reducible exact H2_) | (have H2_ := (Option.bind_some _ _).symm.trans H; with_reducible exact H2_) | with_reducible exact H | (rw [hy196]; exact H) | exact H
 have Ny196 := Aside0.mk hy196; clear hy196; obtain ⟨y199, hy199⟩ : ∃ y_ : List (S64), y_ = (([] : List (S64))) := ⟨_, rfl⟩
 replace H : (if a0.toList = ([] : List UInt8) then (some (y199, true)) else ((spec_Split.f k a0 47).bind fun t202 => (if 0 < (t202.length : Int) then (if (rdOf ByteArray.empty t202 0).toList = ([] : List UInt8) then (spec_Steps.j0 k y196 y199 t202 (decide ((t202.length : Int) > 31))) else (spec_Steps.j0 k y196 y199 t202 true)) else (none)))) = some (r1, r2) := by first | (rw [hy199]; with_reducible exact H) | (have H2_ := (Option.bind_some _ _).symm.trans H; rw [hy199]; with_reducible exact H2_) | (have H2_ := (Option.bind_some _ _).symm.trans H; with_reducible exact H2_) | with_reducible exact H | (rw [hy199]; exact H) | exact H
 have Ny199 := Aside0.mk hy199; clear hy199
 by_cases c2 : a0.toList = ([] : List UInt8)
 ·
  rw [if_pos c2] at H
  have c2b0 : (a0.toList == ([] : List UInt8)) = true := beq_iff_eq.mpr c2; have c2b1 : (a0.toList != ([] : List UInt8)) = false := bne_eq_false_iff_eq.mpr c2; clear c2
  simp only [Option.some.injEq, Prod.mk.injEq] at H
  obtain ⟨rfl, rfl⟩ := H
  go_enter Tryz.func46, Tryz.ntmps46
  go_wp2_with (first | ((with_reducible refine gate_dst (N := 16) rfl ?_); (try (refine gate_guard (by rfl) ?_; dsimp only)); refine Kd.S_lit k64 _ 64 ?hg (N := 16) ?hd (xs := ([] : List (S64))) (inner := []) (ok := fun _ => True) (okp := fun _ => True) ?hr ?hp (fun _ hk => hk) trivial (Below.refl _ _) (Nat.le_refl _) (by simp) ?_; (case hd => rfl); (case hg => rfl); (case hr => first | (go_simp; done) | (go_simp; rfl)); (case hp => exact (Reps.none _ _)); intro v197 w3 ho4 hb hg_ hnew_; clear hg_ hnew_; (first | rw [← Ny196.out] at ho4 | (simp only [Int.reduceToNat] at ho4; rw [← Ny196.out] at ho4)); have HO198 := Aside0.mk (Kd.S_lower ho4 (below_size (bI HB.out))); replace HB := bs HB hb; clear hb ho4) | ((with_reducible refine gate_dst (N := 17) rfl ?_); (try (refine gate_guard (by rfl) ?_; dsimp only)); refine Kd.S_lit k64 _ 64 ?hg (N := 17) ?hd (xs := ([] : List (S64))) (inner := []) (ok := fun _ => True) (okp := fun _ => True) ?hr ?hp (fun _ hk => hk) trivial (Below.refl _ _) (Nat.le_refl _) (by simp) ?_; (case hd => rfl); (case hg => rfl); (case hr => first | (go_simp; done) | (go_simp; rfl)); (case hp => exact (Reps.none _ _)); intro v200 w5 ho6 hb hg_ hnew_; clear hg_ hnew_; (first | rw [← Ny199.out] at ho6 | (simp only [Int.reduceToNat] at ho6; rw [← Ny199.out] at ho6)); have HO201 := Aside0.mk (Kd.S_lower (Kd.S_new' ho6 (Kd.S_lt (sI HO198.out))) (below_size (bI HB.out))); replace HO198 := Aside0.mk (Kd.S_elder' (sI HO198.out) (Kd.S_base ho6) hb); replace HB := bs HB hb; clear hb ho6))
  go_ret2
  exact ⟨_, y0_11, by (with_reducible repeat (first | apply Kd.S_alloc | apply Kd.S_drewN | apply Kd.S_drew)); exact Kd.S_mono HO201.out (fun _ hk => trivial), bI HB.out⟩
 rw [if_neg c2] at H
 have c2b0 : (a0.toList == ([] : List UInt8)) = false := beq_eq_false_iff_ne.mpr c2; have c2b1 : (a0.toList != ([] : List UInt8)) = true := bne_iff_ne.mpr c2; obtain ⟨t202, A7, H⟩ := oB H; (try dsimp only at H); have HC8 := Aside0.mk H; clear H
 go_enter Tryz.func46, Tryz.ntmps46
 go_upto_region 6 with (first | ((with_reducible refine gate_dst (N := 16) rfl ?_); (try (refine gate_guard (by rfl) ?_; dsimp only)); refine Kd.S_lit k64 _ 64 ?hg (N := 16) ?hd (xs := ([] : List (S64))) (inner := []) (ok := fun _ => True) (okp := fun _ => True) ?hr ?hp (fun _ hk => hk) trivial (Below.refl _ _) (Nat.le_refl _) (by simp) ?_; (case hd => rfl); (case hg => rfl); (case hr => first | (go_simp; done) | (go_simp; rfl)); (case hp => exact (Reps.none _ _)); intro v197 w9 ho10 hb hg_ hnew_; clear hg_ hnew_; (first | rw [← Ny196.out] at ho10 | (simp only [Int.reduceToNat] at ho10; rw [← Ny196.out] at ho10)); have HO198 := Aside0.mk (Kd.S_lower ho10 (below_size (bI HB.out))); replace HB := bs HB hb; clear hb ho10) | ((with_reducible refine gate_dst (N := 17) rfl ?_); (try (refine gate_guard (by rfl) ?_; dsimp only)); refine Kd.S_lit k64 _ 64 ?hg (N := 17) ?hd (xs := ([] : List (S64))) (inner := []) (ok := fun _ => True) (okp := fun _ => True) ?hr ?hp (fun _ hk => hk) trivial (Below.refl _ _) (Nat.le_refl _) (by simp) ?_; (case hd => rfl); (case hg => rfl); (case hr => first | (go_simp; done) | (go_simp; rfl)); (case hp => exact (Reps.none _ _)); intro v200 w11 ho12 hb hg_ hnew_; clear hg_ hnew_; (first | rw [← Ny199.out] at ho12 | (simp only [Int.reduceToNat] at ho12; rw [← Ny199.out] at ho12)); have HO201 := Aside0.mk (Kd.S_lower (Kd.S_new' ho12 (Kd.S_lt (sI HO198.out))) (below_size (bI HB.out))); replace HO198 := Aside0.mk (Kd.S_elder' (sI HO198.out) (Kd.S_base ho12) hb); replace HB := bs HB hb; clear hb ho12) | ((with_reducible refine gate_callee (f := 59) rfl ?_); refine gB (some 22) Tryz.func59 #[.string a0, .int .u8 47] ?_; (with_reducible refine (spec_Split.calls k a0 47 t202 _ A7.out).mono ?_); rintro e w13 ⟨v203, rfl, ho0, hb⟩; refine ⟨_, rfl, ?_⟩; replace HO198 := sb HO198 hb; replace HO201 := sb HO201 hb; have HO204 := Aside0.mk (Kd.R_lower ho0 (below_size (bI HB.out))); replace HB := bs HB hb; (try clear hb); (try clear ho0)))
 (try simp only [Act.put, List.setIfInBounds_toArray, List.set_cons_zero, List.set_cons_succ])
 go_cut [31] (fun v31 wc => ∃ (kq : Nat) (x31_7 : Bool), v31 = .bool x31_7 ∧ Aside0 (spec_Steps.j0 kq y196 y199 t202 x31_7 = some (r1, r2)) ∧ Aside0 (kq ≤ k) ∧ Aside0 (Kd.S k64 64 wc w.heap.size (fun k_ => some k_ ≠ (v200 : Value).ownBlock) v197 y196) ∧ Aside0 (Kd.S k64 64 wc w.heap.size (fun k_ => some k_ ≠ (v197 : Value).ownBlock) v200 y199) ∧ Aside0 (Kd.R Kd.string 9 wc w.heap.size (fun _ => True) v203 t202) ∧ Aside0 (Below w.heap.size w wc))
 case first =>
  have H := HC8.out; clear HC8
  by_cases c14 : 0 < (t202.length : Int)
  rotate_left
  ·
   rw [if_neg c14] at H
   exact absurd H (by simp)
  rw [if_pos c14] at H
  have c14b0 : decide (0 < (t202.length : Int)) = true := decide_eq_true c14
  have c14b1 : decide (0 < t202.length) = true := decide_eq_true (by omega)
  clear c14
  (first | rw [c14b0] | (simp only [i64_w, i32_w]; rw [c14b0]) | skip)
  by_cases c15 : (rdOf ByteArray.empty t202 0).toList = ([] : List UInt8)
  ·
   rw [if_pos c15] at H
   have c15b0 : ((rdOf ByteArray.empty t202 0).toList == ([] : List UInt8)) = true := beq_iff_eq.mpr c15; have c15b1 : ((rdOf ByteArray.empty t202 0).toList != ([] : List UInt8)) = false := bne_eq_false_iff_eq.mpr c15; clear c15; have H' := Aside0.mk H; clear H; obtain ⟨Ao16, co16, eo16⟩ := Kd.R_slice HO204.out; subst eo16
   have p205 : 0 ≤ (0 : Int) := (by omega)
   have q205 : 0 < (t202.length : Int) := of_decide_eq_true y0_14; obtain ⟨ad205, e205, hx205_0⟩ := Kd.at_string (Kd.R_reads' HO204.out).2.2 0 p205 q205; cases e205
   have qi205 : (0 < t202.length) = True := eq_true (by omega)
   (try rw [show ((0 : Int)).toNat = 0 from rfl] at hx205_0)
   (try rw [Addr.add_zero'] at hx205_0)
   replace p205 := eq_true p205; replace q205 := eq_true q205
   go_wp2
   go_meet
   case rel => exact ⟨_, (decide ((t202.length : Int) > 31)), y0_15, H', ⟨y0_16⟩, ⟨by (with_reducible repeat (first | apply Kd.S_alloc | apply Kd.S_drewN | apply Kd.S_drew)); exact Kd.S_mono HO198.out (fun _ hk => hk.2)⟩, ⟨by (with_reducible repeat (first | apply Kd.S_alloc | apply Kd.S_drewN | apply Kd.S_drew)); exact Kd.S_mono HO201.out (fun _ hk => hk.2)⟩, ⟨by (with_reducible repeat (first | apply Kd.R_alloc | apply Kd.R_drewN | apply Kd.R_drew)); exact HO204.out⟩, ⟨bI HB.out⟩⟩
  rw [if_neg c15] at H
  have c15b0 : ((rdOf ByteArray.empty t202 0).toList == ([] : List UInt8)) = false := beq_eq_false_iff_ne.mpr c15; have c15b1 : ((rdOf ByteArray.empty t202 0).toList != ([] : List UInt8)) = true := bne_iff_ne.mpr c15; have H' := Aside0.mk H; clear H; obtain ⟨Ao17, co17, eo17⟩ := Kd.R_slice HO204.out; subst eo17
  have p205 : 0 ≤ (0 : Int) := (by omega)
  have q205 : 0 < (t202.length : Int) := of_decide_eq_true y0_14; obtain ⟨ad205, e205, hx205_0⟩ := Kd.at_string (Kd.R_reads' HO204.out).2.2 0 p205 q205; cases e205
  have qi205 : (0 < t202.length) = True := eq_true (by omega)
  (try rw [show ((0 : Int)).toNat = 0 from rfl] at hx205_0)
  (try rw [Addr.add_zero'] at hx205_0)
  replace p205 := eq_true p205; replace q205 := eq_true q205
  go_wp2
  go_meet
  case rel => exact ⟨_, (true), y0_15, H', ⟨y0_16⟩, ⟨by (with_reducible repeat (first | apply Kd.S_alloc | apply Kd.S_drewN | apply Kd.S_drew)); exact Kd.S_mono HO198.out (fun _ hk => hk.2)⟩, ⟨by (with_reducible repeat (first | apply Kd.S_alloc | apply Kd.S_drewN | apply Kd.S_drew)); exact Kd.S_mono HO201.out (fun _ hk => hk.2)⟩, ⟨by (with_reducible repeat (first | apply Kd.R_alloc | apply Kd.R_drewN | apply Kd.R_drew)); exact HO204.out⟩, ⟨bI HB.out⟩⟩
 case rest =>
  clear HC8
  try clear c1
  try clear c2
  try clear c2b0
  try clear c2b1
  try clear p2
  try clear q2
  try clear hx2
  try clear qi2
  try clear c4
  try clear c5
  try clear c14
  try clear c14b0
  try clear c14b1
  try clear c15
  try clear c15b0
  try clear c15b1
  try clear hx205_0
  try clear p205
  try clear q205
  obtain ⟨kq, x31_7, rfl, HA, HJ7, HO_4, HO_5, HO_6, HB⟩ := hcut; cases kq with
  | zero => exact absurd HA.out (by simp [spec_Steps.j0])
  | succ kj7 =>
   have H := HA.out; clear HA
   simp only [spec_Steps.j0] at H
   by_cases c18 : x31_7 = true
   ·
    subst c18
    rw [if_pos rfl] at H
    simp only [Option.some.injEq, Prod.mk.injEq] at H
    obtain ⟨rfl, rfl⟩ := H
    go_wp2
    go_ret2
    exact ⟨_, y0_11, y0_9, bI HB.out⟩
   replace c18 := Bool.eq_false_iff.mpr c18; subst c18
   rw [if_neg (show ¬ (false = true) by decide)] at H
   have H' := Aside0.mk H; clear H
   go_wp2
   go_loopg [5, 7, 8] kj7 (fun kq v5 v7 v8 w' => ∃ (x5_2 : List (S64)) (x7_2 : Int) (x8_2 : Int), v7 = .int .i64 x7_2 ∧ v8 = .int .i64 x8_2 ∧ Aside0 (spec_Steps.l0 kq y196 x5_2 t202 x7_2 x8_2 = some (r1, r2)) ∧ Aside0 (kq ≤ kj7) ∧ Aside0 (Kd.S k64 64 w' w.heap.size (fun k_ => some k_ ≠ (v5 : Value).ownBlock) v197 y196) ∧ Aside0 (Kd.S k64 64 w' w.heap.size (fun k_ => some k_ ≠ (v197 : Value).ownBlock) v5 x5_2) ∧ Aside0 (Kd.R Kd.string 9 w' w.heap.size (fun _ => True) v203 t202) ∧ Aside0 (Below w.heap.size w w'))
   case atStart => exact ⟨(y199), (0), (1), y0_15, y0_15, H', ⟨Nat.le_refl _⟩, ⟨by (with_reducible repeat (first | apply Kd.S_alloc | apply Kd.S_drewN | apply Kd.S_drew)); exact HO_4.out⟩, ⟨by (with_reducible repeat (first | apply Kd.S_alloc | apply Kd.S_drewN | apply Kd.S_drew)); exact HO_5.out⟩, ⟨by (with_reducible repeat (first | apply Kd.R_alloc | apply Kd.R_drewN | apply Kd.R_drew)); exact HO_6.out⟩, ⟨bI HB.out⟩⟩
   case round =>
    clear H'
    try clear c1
    try clear c2
    try clear c2b0
    try clear c2b1
    try clear p2
    try clear q2
    try clear hx2
    try clear qi2
    try clear c4
    try clear c5
    try clear c14
    try clear c14b0
    try clear c14b1
    try clear c15
    try clear c15b0
    try clear c15b1
    try clear c18
    try clear hx205_0
    try clear p2
    try clear p205
    try clear q2
    try clear q205
    obtain ⟨x5_2, x7_2, x8_2, rfl, rfl, HA, HK2, HO_4, HO_5, HO_6, HB⟩ := hrel; cases gk with
    | zero => exact absurd HA.out (by simp [spec_Steps.l0])
    | succ k2 =>
     have H := HA.out; clear HA
     simp only [spec_Steps.l0] at H
     by_cases c19 : x8_2 < (t202.length : Int)
     ·
      rw [if_pos c19] at H
      have c19b0 : decide (x8_2 < (t202.length : Int)) = true := decide_eq_true c19; clear c19
      by_cases c20 : 0 ≤ x8_2
      rotate_left
      ·
       rw [if_neg c20] at H
       exact absurd H (by simp)
      rw [if_pos c20] at H
      have c20b0 : decide (0 ≤ x8_2) = true := decide_eq_true c20; clear c20; obtain ⟨⟨t207, t208, t209⟩, A21, H⟩ := oB H; (try dsimp only at H); obtain ⟨⟨t210, t211⟩, A22, H⟩ := oB H; (try dsimp only at H); obtain ⟨⟨t212, t213⟩, A23, H⟩ := oB H; (try dsimp only at H)
      by_cases c24 : t209 = true
      ·
       subst c24
       rw [if_pos rfl] at H
       by_cases c25 : t211 = true
       ·
        subst c25
        rw [if_pos rfl] at H
        by_cases c26 : t213 = true
        ·
         subst c26
         rw [if_pos rfl] at H
         by_cases c27 : t210 ≤ x7_2
         ·
          rw [if_pos c27] at H
          have c27b0 : decide (t210 ≤ x7_2) = true := decide_eq_true c27; clear c27
          simp only [Option.some.injEq, Prod.mk.injEq] at H
          obtain ⟨rfl, rfl⟩ := H; obtain ⟨Ao28, co28, eo28⟩ := Kd.R_slice HO_6.out; subst eo28; have p206 : 0 ≤ (x8_2 : Int) := of_decide_eq_true y0_14; have q206 : x8_2 < (t202.length : Int) := of_decide_eq_true y0_14; obtain ⟨ad206, e206, hx206_0⟩ := Kd.at_string (Kd.R_reads' HO_6.out).2.2 x8_2 p206 q206; cases e206; replace p206 := eq_true p206; replace q206 := eq_true q206
          go_wp2_with (first | ((with_reducible refine gate_callee (f := 60) rfl ?_); refine gB (some 44) Tryz.func60 #[.string (rdOf ByteArray.empty t202 x8_2), .int .u8 124] ?_; (with_reducible refine (spec_l2Cut.calls k2 (rdOf ByteArray.empty t202 x8_2) 124 t207 t208 true _ A21.out).mono ?_); rintro e w' ⟨rfl, ⟨nd, rfl⟩⟩; refine ⟨_, rfl, ?_⟩) | ((with_reducible refine gate_callee (f := 61) rfl ?_); refine gB (some 50) Tryz.func61 #[.string t207] ?_; (with_reducible refine (spec_Number.calls k2 t207 t210 true _ A22.out).mono ?_); rintro e w29 ⟨rfl, hb⟩; refine ⟨_, rfl, ?_⟩; replace HO_4 := sb HO_4 hb; replace HO_5 := sb HO_5 hb; replace HO_6 := rb HO_6 hb; replace HB := bs HB hb; (try clear hb); (try clear hb2); (try clear hk); (try clear hi)) | ((with_reducible refine gate_callee (f := 62) rfl ?_); refine gB (some 55) Tryz.func62 #[.string t208] ?_; (with_reducible refine (spec_TxsOf.calls k2 t208 t212 true _ A23.out).mono ?_); rintro e w30 ⟨v214, rfl, ho0, hb⟩; refine ⟨_, rfl, ?_⟩; replace HO_4 := Aside0.mk (Kd.S_elder' (sI HO_4.out) (Kd.R_base ho0) hb); replace HO_5 := Aside0.mk (Kd.S_elder' (sI HO_5.out) (Kd.R_base ho0) hb); replace HO_6 := rb HO_6 hb; have HO215 := Aside0.mk (Kd.R_lower ho0 (below_size (bI HB.out))); replace HB := bs HB hb; (try clear hb)))
          go_ret2
          exact ⟨_, y0_11, y0_9, bI HB.out⟩
         rw [if_neg c27] at H
         have c27b0 : decide (t210 ≤ x7_2) = false := decide_eq_false c27; clear c27
         by_cases c31 : t210 > 60
         ·
          rw [if_pos c31] at H
          have c31b0 : decide (60 < t210) = true := decide_eq_true c31; clear c31
          simp only [Option.some.injEq, Prod.mk.injEq] at H
          obtain ⟨rfl, rfl⟩ := H; obtain ⟨Ao32, co32, eo32⟩ := Kd.R_slice HO_6.out; subst eo32; have p206 : 0 ≤ (x8_2 : Int) := of_decide_eq_true y0_14; have q206 : x8_2 < (t202.length : Int) := of_decide_eq_true y0_14; obtain ⟨ad206, e206, hx206_0⟩ := Kd.at_string (Kd.R_reads' HO_6.out).2.2 x8_2 p206 q206; cases e206; replace p206 := eq_true p206; replace q206 := eq_true q206
          go_wp2_with (first | ((with_reducible refine gate_callee (f := 60) rfl ?_); refine gB (some 44) Tryz.func60 #[.string (rdOf ByteArray.empty t202 x8_2), .int .u8 124] ?_; (with_reducible refine (spec_l2Cut.calls k2 (rdOf ByteArray.empty t202 x8_2) 124 t207 t208 true _ A21.out).mono ?_); rintro e w' ⟨rfl, ⟨nd, rfl⟩⟩; refine ⟨_, rfl, ?_⟩) | ((with_reducible refine gate_callee (f := 61) rfl ?_); refine gB (some 50) Tryz.func61 #[.string t207] ?_; (with_reducible refine (spec_Number.calls k2 t207 t210 true _ A22.out).mono ?_); rintro e w33 ⟨rfl, hb⟩; refine ⟨_, rfl, ?_⟩; replace HO_4 := sb HO_4 hb; replace HO_5 := sb HO_5 hb; replace HO_6 := rb HO_6 hb; replace HB := bs HB hb; (try clear hb); (try clear hb2); (try clear hk); (try clear hi)) | ((with_reducible refine gate_callee (f := 62) rfl ?_); refine gB (some 55) Tryz.func62 #[.string t208] ?_; (with_reducible refine (spec_TxsOf.calls k2 t208 t212 true _ A23.out).mono ?_); rintro e w34 ⟨v214, rfl, ho0, hb⟩; refine ⟨_, rfl, ?_⟩; replace HO_4 := Aside0.mk (Kd.S_elder' (sI HO_4.out) (Kd.R_base ho0) hb); replace HO_5 := Aside0.mk (Kd.S_elder' (sI HO_5.out) (Kd.R_base ho0) hb); replace HO_6 := rb HO_6 hb; have HO215 := Aside0.mk (Kd.R_lower ho0 (below_size (bI HB.out))); replace HB := bs HB hb; (try clear hb)))
          go_ret2
          exact ⟨_, y0_11, y0_9, bI HB.out⟩
         rw [if_neg c31] at H
         have c31b0 : decide (60 < t210) = false := decide_eq_false c31; clear c31
         by_cases c35 : (t212.length : Int) > 2
         ·
          rw [if_pos c35] at H
          have c35b0 : decide (2 < (t212.length : Int)) = true := decide_eq_true c35
          have c35b1 : decide (2 < t212.length) = true := decide_eq_true (by omega)
          clear c35
          simp only [Option.some.injEq, Prod.mk.injEq] at H
          obtain ⟨rfl, rfl⟩ := H; obtain ⟨Ao36, co36, eo36⟩ := Kd.R_slice HO_6.out; subst eo36; have p206 : 0 ≤ (x8_2 : Int) := of_decide_eq_true y0_14; have q206 : x8_2 < (t202.length : Int) := of_decide_eq_true y0_14; obtain ⟨ad206, e206, hx206_0⟩ := Kd.at_string (Kd.R_reads' HO_6.out).2.2 x8_2 p206 q206; cases e206; replace p206 := eq_true p206; replace q206 := eq_true q206
          go_wp2_with (first | ((with_reducible refine gate_callee (f := 60) rfl ?_); refine gB (some 44) Tryz.func60 #[.string (rdOf ByteArray.empty t202 x8_2), .int .u8 124] ?_; (with_reducible refine (spec_l2Cut.calls k2 (rdOf ByteArray.empty t202 x8_2) 124 t207 t208 true _ A21.out).mono ?_); rintro e w' ⟨rfl, ⟨nd, rfl⟩⟩; refine ⟨_, rfl, ?_⟩) | ((with_reducible refine gate_callee (f := 61) rfl ?_); refine gB (some 50) Tryz.func61 #[.string t207] ?_; (with_reducible refine (spec_Number.calls k2 t207 t210 true _ A22.out).mono ?_); rintro e w37 ⟨rfl, hb⟩; refine ⟨_, rfl, ?_⟩; replace HO_4 := sb HO_4 hb; replace HO_5 := sb HO_5 hb; replace HO_6 := rb HO_6 hb; replace HB := bs HB hb; (try clear hb); (try clear hb2); (try clear hk); (try clear hi)) | ((with_reducible refine gate_callee (f := 62) rfl ?_); refine gB (some 55) Tryz.func62 #[.string t208] ?_; (with_reducible refine (spec_TxsOf.calls k2 t208 t212 true _ A23.out).mono ?_); rintro e w38 ⟨v214, rfl, ho0, hb⟩; refine ⟨_, rfl, ?_⟩; replace HO_4 := Aside0.mk (Kd.S_elder' (sI HO_4.out) (Kd.R_base ho0) hb); replace HO_5 := Aside0.mk (Kd.S_elder' (sI HO_5.out) (Kd.R_base ho0) hb); replace HO_6 := rb HO_6 hb; have HO215 := Aside0.mk (Kd.R_lower ho0 (below_size (bI HB.out))); replace HB := bs HB hb; (try clear hb); obtain ⟨Ao39, co39, eo39⟩ := Kd.R_slice HO215.out; subst eo39))
          go_ret2
          exact ⟨_, y0_11, y0_9, bI HB.out⟩
         rw [if_neg c35] at H
         have c35b0 : decide (2 < (t212.length : Int)) = false := decide_eq_false c35
         have c35b1 : decide (2 < t212.length) = false := decide_eq_false (by omega)
         clear c35
         by_cases c40 : x5_2.length < 4398046511104
         rotate_left
         ·
          rw [if_neg c40] at H
          exact absurd H (by simp)
         rw [if_pos c40] at H
         have LMc40 := Aside0.mk c40; clear c40; obtain ⟨y216, hy216⟩ : ∃ y_ : List (S64), y_ = (x5_2 ++ [(⟨t210, t212⟩ : S64)]) := ⟨_, rfl⟩
         replace H : (spec_Steps.l0 k2 y196 y216 t202 t210 (wrap64 (x8_2 + 1))) = some (r1, r2) := by first | (rw [hy216]; with_reducible exact H) | (have H2_ := (Option.bind_some _ _).symm.trans H; rw [hy216]; with_reducible exact H2_) | (have H2_ := (Option.bind_some _ _).symm.trans H; with_reducible exact H2_) | with_reducible exact H | (rw [hy216]; exact H) | exact H
         have Ny216 := Aside0.mk hy216; clear hy216; have H' := Aside0.mk H; clear H; obtain ⟨Ao41, co41, eo41⟩ := Kd.R_slice HO_6.out; subst eo41; have p206 : 0 ≤ (x8_2 : Int) := of_decide_eq_true y0_14; have q206 : x8_2 < (t202.length : Int) := of_decide_eq_true y0_14; obtain ⟨ad206, e206, hx206_0⟩ := Kd.at_string (Kd.R_reads' HO_6.out).2.2 x8_2 p206 q206; cases e206; replace p206 := eq_true p206; replace q206 := eq_true q206
         go_wp2_with (first | ((with_reducible refine gate_callee (f := 60) rfl ?_); refine gB (some 44) Tryz.func60 #[.string (rdOf ByteArray.empty t202 x8_2), .int .u8 124] ?_; (with_reducible refine (spec_l2Cut.calls k2 (rdOf ByteArray.empty t202 x8_2) 124 t207 t208 true _ A21.out).mono ?_); rintro e w' ⟨rfl, ⟨nd, rfl⟩⟩; refine ⟨_, rfl, ?_⟩) | ((with_reducible refine gate_callee (f := 61) rfl ?_); refine gB (some 50) Tryz.func61 #[.string t207] ?_; (with_reducible refine (spec_Number.calls k2 t207 t210 true _ A22.out).mono ?_); rintro e w42 ⟨rfl, hb⟩; refine ⟨_, rfl, ?_⟩; replace HO_4 := sb HO_4 hb; replace HO_5 := sb HO_5 hb; replace HO_6 := rb HO_6 hb; replace HB := bs HB hb; (try clear hb); (try clear hb2); (try clear hk); (try clear hi)) | ((with_reducible refine gate_callee (f := 62) rfl ?_); refine gB (some 55) Tryz.func62 #[.string t208] ?_; (with_reducible refine (spec_TxsOf.calls k2 t208 t212 true _ A23.out).mono ?_); rintro e w43 ⟨v214, rfl, ho0, hb⟩; refine ⟨_, rfl, ?_⟩; replace HO_4 := Aside0.mk (Kd.S_elder' (sI HO_4.out) (Kd.R_base ho0) hb); replace HO_5 := Aside0.mk (Kd.S_elder' (sI HO_5.out) (Kd.R_base ho0) hb); replace HO_6 := rb HO_6 hb; have HO215 := Aside0.mk (Kd.R_lower ho0 (below_size (bI HB.out))); replace HB := bs HB hb; (try clear hb); obtain ⟨Ao44, co44, eo44⟩ := Kd.R_slice HO215.out; subst eo44) | ((with_reducible refine gate_builtin (b := .append) (xs := #[.tmp 84, .tmp 88]) rfl ?_); (try (refine gate_guard (by rfl) ?_; dsimp only)); at_builtin; refine Kd.S_append k64 (w0 := w) w.heap.size rfl (.tmp 84) (.tmp 88) 59 64 (.agg #[(.int .i64 0), (.slice none 0 0)]) 32 rfl Tryz.underlying59 info64 rfl (by decide) (by omega) u5 x5_2 (⟨t210, t212⟩ : S64) [.int .i64 t210, .slice Ao44 t212.length co44] (fun k_ => some k_ ≠ (v197 : Value).ownBlock) (fun k_ => some k_ = (.slice Ao44 t212.length co44 : Value).ownBlock) rfl rfl ?aP (fun k_ hk_ => ((Kd.R_mono (ok' := fun k_ => ((fun k_ => some k_ ≠ (v197 : Value).ownBlock)) k_ ∧ some k_ ≠ (u5 : Value).ownBlock) (Kd.R_apart' (Kd.R_apart' (HO215.out) (Kd.S_typed HO_4.out) (by decide)) (Kd.S_typed HO_5.out) (by decide)) (fun k_ hk => ⟨hk.1.2, hk.2⟩))).1 k_ hk_.symm) ?aF ?aO ?aB ?aS ?aL ?_; (case aP => exact k64_mkM _ _ _ (⟨t210, t212⟩ : S64) (Kd.R_mono (Kd.R_tight rfl (Kd.R_mono (ok' := fun k_ => ((fun k_ => some k_ ≠ (v197 : Value).ownBlock)) k_ ∧ some k_ ≠ (u5 : Value).ownBlock) (Kd.R_apart' (Kd.R_apart' (HO215.out) (Kd.S_typed HO_4.out) (by decide)) (Kd.S_typed HO_5.out) (by decide)) (fun k_ hk => ⟨hk.1.2, hk.2⟩))) (fun _ h_ => h_))); (case aB => exact (bI HB.out)); (case aF => exact (fun k_ hk => Kd.fresh' (Kd.S_lt (sI HO_4.out)) k_ hk)); (case aO => exact (sI (Kd.S_mono HO_5.out (fun k_ hk => ⟨hk.1, fun e_ => hk.2 e_⟩)))); (case aS => exact (below_size (bI HB.out))); (case aL => have := LMc40.out; omega); intro v217 w45 ho hb hg hat; rw [← Ny216.out] at ho; have n0_ := Aside0.mk (Kd.S_after (ok := (fun k_ => some k_ ≠ (.slice Ao44 t212.length co44 : Value).ownBlock)) (sI (Kd.S_mono HO_4.out (fun _ hk => ⟨hk.2, hk.1⟩))) hg hat); have n1_ := Aside0.mk (Kd.R_over' (rI HO_6.out) (Kd.S_typed (sI HO_5.out)) (by decide) hg); have n2_ := Aside0.mk (hb); have n3_ := Aside0.mk (ho); clear HO_4; clear HO_6; clear HB; clear HO_5; clear HO215; have HO_4 := n0_; have HO_6 := n1_; have HB := n2_; have HO218 := n3_; clear n0_ n1_ n2_ n3_; clear ho hb hg hat))
         go_roundg k2
         case measure => have := HJ7.out; have := HK2.out; omega
         case rel => exact ⟨(y216), (t210), (wrap64 (x8_2 + 1)), y0_15, y0_15, H', ⟨by have := HJ7.out; have := HK2.out; omega⟩, ⟨by (with_reducible repeat (first | apply Kd.S_alloc | apply Kd.S_drewN | apply Kd.S_drew)); exact Kd.S_mono HO_4.out (fun _ hk => hk.2)⟩, ⟨by (with_reducible repeat (first | apply Kd.S_alloc | apply Kd.S_drewN | apply Kd.S_drew)); exact HO218.out⟩, ⟨by (with_reducible repeat (first | apply Kd.R_alloc | apply Kd.R_drewN | apply Kd.R_drew)); exact HO_6.out⟩, ⟨bI HB.out⟩⟩
        replace c26 := Bool.eq_false_iff.mpr c26; subst c26
        rw [if_neg (show ¬ (false = true) by decide)] at H
        simp only [Option.some.injEq, Prod.mk.injEq] at H
        obtain ⟨rfl, rfl⟩ := H; obtain ⟨Ao46, co46, eo46⟩ := Kd.R_slice HO_6.out; subst eo46; have p206 : 0 ≤ (x8_2 : Int) := of_decide_eq_true y0_14; have q206 : x8_2 < (t202.length : Int) := of_decide_eq_true y0_14; obtain ⟨ad206, e206, hx206_0⟩ := Kd.at_string (Kd.R_reads' HO_6.out).2.2 x8_2 p206 q206; cases e206; replace p206 := eq_true p206; replace q206 := eq_true q206
        go_wp2_with (first | ((with_reducible refine gate_callee (f := 60) rfl ?_); refine gB (some 44) Tryz.func60 #[.string (rdOf ByteArray.empty t202 x8_2), .int .u8 124] ?_; (with_reducible refine (spec_l2Cut.calls k2 (rdOf ByteArray.empty t202 x8_2) 124 t207 t208 true _ A21.out).mono ?_); rintro e w' ⟨rfl, ⟨nd, rfl⟩⟩; refine ⟨_, rfl, ?_⟩) | ((with_reducible refine gate_callee (f := 61) rfl ?_); refine gB (some 50) Tryz.func61 #[.string t207] ?_; (with_reducible refine (spec_Number.calls k2 t207 t210 true _ A22.out).mono ?_); rintro e w47 ⟨rfl, hb⟩; refine ⟨_, rfl, ?_⟩; replace HO_4 := sb HO_4 hb; replace HO_5 := sb HO_5 hb; replace HO_6 := rb HO_6 hb; replace HB := bs HB hb; (try clear hb); (try clear hb2); (try clear hk); (try clear hi)) | ((with_reducible refine gate_callee (f := 62) rfl ?_); refine gB (some 55) Tryz.func62 #[.string t208] ?_; (with_reducible refine (spec_TxsOf.calls k2 t208 t212 false _ A23.out).mono ?_); rintro e w48 ⟨v214, rfl, ho0, hb⟩; refine ⟨_, rfl, ?_⟩; replace HO_4 := Aside0.mk (Kd.S_elder' (sI HO_4.out) (Kd.R_base ho0) hb); replace HO_5 := Aside0.mk (Kd.S_elder' (sI HO_5.out) (Kd.R_base ho0) hb); replace HO_6 := rb HO_6 hb; have HO215 := Aside0.mk (Kd.R_lower ho0 (below_size (bI HB.out))); replace HB := bs HB hb; (try clear hb)))
        go_ret2
        exact ⟨_, y0_11, y0_9, bI HB.out⟩
       replace c25 := Bool.eq_false_iff.mpr c25; subst c25
       rw [if_neg (show ¬ (false = true) by decide)] at H
       simp only [Option.some.injEq, Prod.mk.injEq] at H
       obtain ⟨rfl, rfl⟩ := H; obtain ⟨Ao49, co49, eo49⟩ := Kd.R_slice HO_6.out; subst eo49; have p206 : 0 ≤ (x8_2 : Int) := of_decide_eq_true y0_14; have q206 : x8_2 < (t202.length : Int) := of_decide_eq_true y0_14; obtain ⟨ad206, e206, hx206_0⟩ := Kd.at_string (Kd.R_reads' HO_6.out).2.2 x8_2 p206 q206; cases e206; replace p206 := eq_true p206; replace q206 := eq_true q206
       go_wp2_with (first | ((with_reducible refine gate_callee (f := 60) rfl ?_); refine gB (some 44) Tryz.func60 #[.string (rdOf ByteArray.empty t202 x8_2), .int .u8 124] ?_; (with_reducible refine (spec_l2Cut.calls k2 (rdOf ByteArray.empty t202 x8_2) 124 t207 t208 true _ A21.out).mono ?_); rintro e w' ⟨rfl, ⟨nd, rfl⟩⟩; refine ⟨_, rfl, ?_⟩) | ((with_reducible refine gate_callee (f := 61) rfl ?_); refine gB (some 50) Tryz.func61 #[.string t207] ?_; (with_reducible refine (spec_Number.calls k2 t207 t210 false _ A22.out).mono ?_); rintro e w50 ⟨rfl, hb⟩; refine ⟨_, rfl, ?_⟩; replace HO_4 := sb HO_4 hb; replace HO_5 := sb HO_5 hb; replace HO_6 := rb HO_6 hb; replace HB := bs HB hb; (try clear hb); (try clear hb2); (try clear hk); (try clear hi)) | ((with_reducible refine gate_callee (f := 62) rfl ?_); refine gB (some 55) Tryz.func62 #[.string t208] ?_; (with_reducible refine (spec_TxsOf.calls k2 t208 t212 t213 _ A23.out).mono ?_); rintro e w51 ⟨v214, rfl, ho0, hb⟩; refine ⟨_, rfl, ?_⟩; replace HO_4 := Aside0.mk (Kd.S_elder' (sI HO_4.out) (Kd.R_base ho0) hb); replace HO_5 := Aside0.mk (Kd.S_elder' (sI HO_5.out) (Kd.R_base ho0) hb); replace HO_6 := rb HO_6 hb; have HO215 := Aside0.mk (Kd.R_lower ho0 (below_size (bI HB.out))); replace HB := bs HB hb; (try clear hb)))
       go_ret2
       exact ⟨_, y0_11, y0_9, bI HB.out⟩
      replace c24 := Bool.eq_false_iff.mpr c24; subst c24
      rw [if_neg (show ¬ (false = true) by decide)] at H
      simp only [Option.some.injEq, Prod.mk.injEq] at H
      obtain ⟨rfl, rfl⟩ := H; obtain ⟨Ao52, co52, eo52⟩ := Kd.R_slice HO_6.out; subst eo52; have p206 : 0 ≤ (x8_2 : Int) := of_decide_eq_true y0_14; have q206 : x8_2 < (t202.length : Int) := of_decide_eq_true y0_14; obtain ⟨ad206, e206, hx206_0⟩ := Kd.at_string (Kd.R_reads' HO_6.out).2.2 x8_2 p206 q206; cases e206; replace p206 := eq_true p206; replace q206 := eq_true q206
      go_wp2_with (first | ((with_reducible refine gate_callee (f := 60) rfl ?_); refine gB (some 44) Tryz.func60 #[.string (rdOf ByteArray.empty t202 x8_2), .int .u8 124] ?_; (with_reducible refine (spec_l2Cut.calls k2 (rdOf ByteArray.empty t202 x8_2) 124 t207 t208 false _ A21.out).mono ?_); rintro e w' ⟨rfl, ⟨nd, rfl⟩⟩; refine ⟨_, rfl, ?_⟩) | ((with_reducible refine gate_callee (f := 61) rfl ?_); refine gB (some 50) Tryz.func61 #[.string t207] ?_; (with_reducible refine (spec_Number.calls k2 t207 t210 t211 _ A22.out).mono ?_); rintro e w53 ⟨rfl, hb⟩; refine ⟨_, rfl, ?_⟩; replace HO_4 := sb HO_4 hb; replace HO_5 := sb HO_5 hb; replace HO_6 := rb HO_6 hb; replace HB := bs HB hb; (try clear hb); (try clear hb2); (try clear hk); (try clear hi)) | ((with_reducible refine gate_callee (f := 62) rfl ?_); refine gB (some 55) Tryz.func62 #[.string t208] ?_; (with_reducible refine (spec_TxsOf.calls k2 t208 t212 t213 _ A23.out).mono ?_); rintro e w54 ⟨v214, rfl, ho0, hb⟩; refine ⟨_, rfl, ?_⟩; replace HO_4 := Aside0.mk (Kd.S_elder' (sI HO_4.out) (Kd.R_base ho0) hb); replace HO_5 := Aside0.mk (Kd.S_elder' (sI HO_5.out) (Kd.R_base ho0) hb); replace HO_6 := rb HO_6 hb; have HO215 := Aside0.mk (Kd.R_lower ho0 (below_size (bI HB.out))); replace HB := bs HB hb; (try clear hb)))
      go_ret2
      exact ⟨_, y0_11, y0_9, bI HB.out⟩
     rw [if_neg c19] at H
     have c19b0 : decide (x8_2 < (t202.length : Int)) = false := decide_eq_false c19; clear c19
     simp only [Option.some.injEq, Prod.mk.injEq] at H
     obtain ⟨rfl, rfl⟩ := H; obtain ⟨Ao55, co55, eo55⟩ := Kd.R_slice HO_6.out; subst eo55
     go_wp2
     go_ret2
     exact ⟨_, y0_11, by (with_reducible repeat (first | apply Kd.S_alloc | apply Kd.S_drewN | apply Kd.S_drew)); exact Kd.S_mono HO_5.out (fun _ hk => trivial), bI HB.out⟩

/-! ### spec_ViewOf: function 30 -/
def spec_ViewOf.f (k : Nat) (a0 : ByteArray) : Option (Int) := (spec_Steps.f k a0).bind fun bt219 => (if bt219.2 = true then (if (bt219.1.length : Int) = 0 then (some 0) else (if 0 ≤ (wrap64 ((bt219.1.length : Int) - 1)) then (if (wrap64 ((bt219.1.length : Int) - 1)) < (bt219.1.length : Int) then (some ((rd_T64 bt219.1 (wrap64 ((bt219.1.length : Int) - 1))).f0)) else (none)) else (none))) else (some 0))
theorem spec_ViewOf.mono : ∀ a0 k, LeO (spec_ViewOf.f k a0) (spec_ViewOf.f (k + 1) a0) := by
 intro a0 k
 unfold spec_ViewOf.f
 repeat' first | (with_reducible exact spec_Steps.mono _ _) | (with_reducible exact LeO.refl _) | (with_reducible exact LeO.none _) | (with_reducible refine LeO.ite ?_ ?_) | (with_reducible refine LeO.bind ?_ (fun _ => ?_))
set_option maxHeartbeats 8000000 in
set_option maxRecDepth 100000 in
theorem spec_ViewOf.calls (k : Nat) (a0 : ByteArray) (r : Int) (w : World) (h : spec_ViewOf.f k a0 = some r) :
  Calls Tryz.prog 30 #[.string a0] w fun e w' => e = .returned (.int .i64 r) ∧ Below w.heap.size w w' := by
 have HB := Aside0.mk (Below.refl w.heap.size w)
 have H := h; unfold spec_ViewOf.f at H
 clear h; obtain ⟨⟨t219, t220⟩, A2, H⟩ := oB H; (try dsimp only at H)
 by_cases c3 : t220 = true
 ·
  subst c3
  rw [if_pos rfl] at H
  by_cases c4 : (t219.length : Int) = 0
  ·
   rw [if_pos c4] at H
   have c4b0 : ((t219.length : Int) == 0) = true := beq_iff_eq.mpr c4; have c4b1 : ((t219.length : Int) != 0) = false := bne_eq_false_iff_eq.mpr c4; clear c4; obtain rfl := Option.some.inj H
   go_enter Tryz.func30, Tryz.ntmps30
   go_wp2_with (first | ((with_reducible refine gate_callee (f := 46) rfl ?_); refine gB (some 7) Tryz.func46 #[.string a0] ?_; (with_reducible refine (spec_Steps.calls k a0 t219 true _ A2.out).mono ?_); rintro e w5 ⟨v221, rfl, ho0, hb⟩; refine ⟨_, rfl, ?_⟩; have HO222 := Aside0.mk (Kd.S_lower ho0 (below_size (bI HB.out))); replace HB := bs HB hb; (try clear hb); (try clear ho0); obtain ⟨Ao6, co6, eo6⟩ := Kd.S_slice HO222.out; subst eo6))
   go_ret
   exact ⟨y0_11, bI HB.out⟩
  rw [if_neg c4] at H
  have c4b0 : ((t219.length : Int) == 0) = false := beq_eq_false_iff_ne.mpr c4; have c4b1 : ((t219.length : Int) != 0) = true := bne_iff_ne.mpr c4
  have c4b2 : ¬ (t219 = []) := fun h_ => c4 (by rw [h_]; rfl)
  obtain ⟨ji7, hji7⟩ : ∃ j_ : Int, (wrap64 ((t219.length : Int) - 1)) = j_ := ⟨_, rfl⟩
  replace H : (if 0 ≤ (ji7) then (if (ji7) < (t219.length : Int) then (some ((rd_T64 t219 (ji7)).f0)) else (none)) else (none)) = some r := by first | (rw [hji7] at H; exact H) | (simp only [hji7] at H ⊢; exact H)
  (try rw [hji7] at A2)
  have hji7w : (IntKind.i64.wrap ((t219.length : Int) - 1)) = ji7 := (i64_w _).trans hji7
  by_cases c8 : 0 ≤ (ji7)
  rotate_left
  ·
   rw [if_neg c8] at H
   exact absurd H (by simp)
  rw [if_pos c8] at H
  have c8b0 : decide (0 ≤ (ji7)) = true := decide_eq_true c8; clear c8
  by_cases c9 : (ji7) < (t219.length : Int)
  rotate_left
  ·
   rw [if_neg c9] at H
   exact absurd H (by simp)
  rw [if_pos c9] at H
  have c9b0 : decide ((ji7) < (t219.length : Int)) = true := decide_eq_true c9; clear c9; obtain rfl := Option.some.inj H
  go_enter Tryz.func30, Tryz.ntmps30
  go_wp2_with (first | ((with_reducible refine gate_callee (f := 46) rfl ?_); refine gB (some 7) Tryz.func46 #[.string a0] ?_; (with_reducible refine (spec_Steps.calls k a0 t219 true _ A2.out).mono ?_); rintro e w10 ⟨v221, rfl, ho0, hb⟩; refine ⟨_, rfl, ?_⟩; have HO222 := Aside0.mk (Kd.S_lower ho0 (below_size (bI HB.out))); replace HB := bs HB hb; (try clear hb); (try clear ho0); obtain ⟨Ao11, co11, eo11⟩ := Kd.S_slice HO222.out; subst eo11; have p223 : 0 ≤ ((ji7) : Int) := of_decide_eq_true y0_14; have q223 : (ji7) < (t219.length : Int) := of_decide_eq_true y0_14; obtain ⟨ad223, A223_1, c223_1, e223, hx223_0, hx223_1, hl223_1, hi223_1⟩ := at_T64 (Kd.S_reads' HO222.out).2.2 (ji7) p223 q223; cases e223; obtain ⟨ce223, hce223, hMe223, hcc223⟩ := Kd.S_get HO222.out z64 (ji7) p223 (by first | exact q223 | exact of_decide_eq_true y0_14 | (have e_ := (Kd.S_reads' HO222.out).1; omega)); obtain ⟨ve223_1, rfl, ge223_1⟩ := k64_openM hMe223; have hv223_1 := hcc223 1 _ rfl; rw [add_field _ _ 1 (by omega)] at hv223_1; replace hv223_1 := Option.some.inj (hv223_1.symm.trans hx223_1); rw [hv223_1] at ge223_1; have HL223_1 := Aside0.mk (show Kd.R k68 68 _ _ _ _ ((rd_T64 t219 (ji7)).f1) from ge223_1); clear hv223_1 ge223_1; clear hcc223 hce223; have HR223_1 := Aside0.mk hi223_1; have HC223_1 := Aside0.mk hl223_1; clear hi223_1 hl223_1; replace p223 := eq_true p223; replace q223 := eq_true q223))
  go_ret
  exact ⟨by first | rfl | (simp [errW_none, errW_some] <;> rfl) | (simp only [← hji7]; first | rfl | (simp [errW_none, errW_some] <;> rfl)) | (simp [*, errW_none, errW_some] <;> rfl), bI HB.out⟩
 replace c3 := Bool.eq_false_iff.mpr c3; subst c3
 rw [if_neg (show ¬ (false = true) by decide)] at H
 obtain rfl := Option.some.inj H
 go_enter Tryz.func30, Tryz.ntmps30
 go_wp2_with (first | ((with_reducible refine gate_callee (f := 46) rfl ?_); refine gB (some 7) Tryz.func46 #[.string a0] ?_; (with_reducible refine (spec_Steps.calls k a0 t219 false _ A2.out).mono ?_); rintro e w12 ⟨v221, rfl, ho0, hb⟩; refine ⟨_, rfl, ?_⟩; have HO222 := Aside0.mk (Kd.S_lower ho0 (below_size (bI HB.out))); replace HB := bs HB hb; (try clear hb); (try clear ho0)))
 go_ret
 exact ⟨y0_11, bI HB.out⟩

end Go.Proofs.YtagpeafaiofkjaaGreatDoor.PFnQuorums
