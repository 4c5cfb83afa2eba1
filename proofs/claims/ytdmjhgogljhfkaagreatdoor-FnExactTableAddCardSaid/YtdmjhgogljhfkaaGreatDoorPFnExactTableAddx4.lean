-- By a program of this session, out of the translation (the print of the kit, with turns of its own). Lean checks it.
import Derived.Test.YtdmjhgogljhfkaaGreatDoorPFnExactTableAddx0
import Derived.Test.YtdmjhgogljhfkaaGreatDoorPFnExactTableAddx2
import Derived.Test.YtdmjhgogljhfkaaGreatDoorPFnExactTableAddx3
namespace Go.Proofs.YtdmjhgogljhfkaaGreatDoor.PFnExactTableAdd
open Go.RowKit Go.Proofs.YtdmjhgogljhfkaaGreatDoorW.PrintWords Go.Proofs.YtdmjhgogljhfkaaGreatDoorW.PrintLast Go.Proofs.YtdmjhgogljhfkaaGreatDoorW.PrintMore
attribute [local go_sem] max2_int min2_int max_two min_two max_three min_three max_four min_four   -- for this text's walks alone
attribute [local go_sem] cell_in frozen_in cell_g cell_p
set_option synthInstance.maxSize 1000000
set_option synthInstance.maxHeartbeats 2000000
set_option linter.unusedVariables false
set_option linter.unusedSimpArgs false

/-! ### spec_Steps: function 152 -/
mutual
def spec_Steps.j0 : Nat → List (S163) → List (S163) → List ByteArray → Bool → Option ((List (S163)) × Bool)
 | 0, _, _, _, _ => none
 | k + 1, x4, x5, x6, x31 => if x31 = true then (some (x4, false)) else (spec_Steps.l0 k x4 x5 x6 0 1)
def spec_Steps.l0 : Nat → List (S163) → List (S163) → List ByteArray → Int → Int → Option ((List (S163)) × Bool)
 | 0, _, _, _, _, _ => none
 | k + 1, x4, x5, x6, x7, x8 => if x8 < (x6.length : Int) then (if 0 ≤ x8 then ((spec_l2Cut.f k (rdOf ByteArray.empty x6 x8) 124).bind fun bt246 => ((spec_Number.f k bt246.1).bind fun bt249 => ((spec_TxsOf.f k bt246.2.1).bind fun bt251 => (if bt246.2.2 = true then (if bt249.2 = true then (if bt251.2 = true then (if bt249.1 ≤ x7 then (some (x4, false)) else (if bt249.1 > 60 then (some (x4, false)) else (if (bt251.1.length : Int) > 2 then (some (x4, false)) else (if x5.length < 4398046511104 then (spec_Steps.l0 k x4 (x5 ++ [(⟨bt249.1, bt251.1⟩ : S163)]) x6 bt249.1 (wrap64 (x8 + 1))) else (none))))) else (some (x4, false))) else (some (x4, false))) else (some (x4, false)))))) else (none)) else (some (x5, true))
end
def spec_Steps.f (k : Nat) (a0 : ByteArray) : Option ((List (S163)) × Bool) := (some (([] : List (S163)) : List (S163))).bind fun y235 => ((some (([] : List (S163)) : List (S163))).bind fun y238 => (if a0.toList = ([] : List UInt8) then (some (y238, true)) else ((spec_Split.f k a0 47).bind fun t241 => (if 0 < (t241.length : Int) then (if (rdOf ByteArray.empty t241 0).toList = ([] : List UInt8) then (spec_Steps.j0 k y235 y238 t241 (decide ((t241.length : Int) > 31))) else (spec_Steps.j0 k y235 y238 t241 true)) else (none)))))
theorem spec_Steps.mono_l : ∀ k, (∀ y0 y1 y2 y3, LeO (spec_Steps.j0 k y0 y1 y2 y3) (spec_Steps.j0 (k + 1) y0 y1 y2 y3)) ∧ (∀ y0 y1 y2 y3 y4, LeO (spec_Steps.l0 k y0 y1 y2 y3 y4) (spec_Steps.l0 (k + 1) y0 y1 y2 y3 y4))
 | 0 => ⟨fun _ _ _ _ r h => by simp [spec_Steps.j0] at h, fun _ _ _ _ _ r h => by simp [spec_Steps.l0] at h⟩
 | k + 1 => by
  obtain ⟨ih0, ih1⟩ := spec_Steps.mono_l k
  refine ⟨?_, ?_⟩
  ·
   intro y0 y1 y2 y3
   unfold spec_Steps.j0
   repeat' first | (with_reducible exact ih0 _ _ _ _) | (with_reducible exact ih1 _ _ _ _ _) | (with_reducible exact spec_Number.mono _ _) | (with_reducible exact spec_Split.mono _ _ _) | (with_reducible exact spec_TxsOf.mono _ _) | (with_reducible exact spec_l2Cut.mono _ _ _) | (with_reducible exact LeO.refl _) | (with_reducible exact LeO.none _) | (with_reducible refine LeO.ite ?_ ?_) | (with_reducible refine LeO.bind ?_ (fun _ => ?_))
  intro y0 y1 y2 y3 y4
  unfold spec_Steps.l0
  repeat' first | (with_reducible exact ih0 _ _ _ _) | (with_reducible exact ih1 _ _ _ _ _) | (with_reducible exact spec_Number.mono _ _) | (with_reducible exact spec_Split.mono _ _ _) | (with_reducible exact spec_TxsOf.mono _ _) | (with_reducible exact spec_l2Cut.mono _ _ _) | (with_reducible exact LeO.refl _) | (with_reducible exact LeO.none _) | (with_reducible refine LeO.ite ?_ ?_) | (with_reducible refine LeO.bind ?_ (fun _ => ?_))
theorem spec_Steps.mono : ∀ a0 k, LeO (spec_Steps.f k a0) (spec_Steps.f (k + 1) a0) := by
 intro a0 k
 obtain ⟨ih0, ih1⟩ := spec_Steps.mono_l k
 unfold spec_Steps.f
 repeat' first | (with_reducible exact ih0 _ _ _ _) | (with_reducible exact ih1 _ _ _ _ _) | (with_reducible exact spec_Number.mono _ _) | (with_reducible exact spec_Split.mono _ _ _) | (with_reducible exact spec_TxsOf.mono _ _) | (with_reducible exact spec_l2Cut.mono _ _ _) | (with_reducible exact LeO.refl _) | (with_reducible exact LeO.none _) | (with_reducible refine LeO.ite ?_ ?_) | (with_reducible refine LeO.bind ?_ (fun _ => ?_))
set_option maxHeartbeats 8000000 in
set_option maxRecDepth 100000 in
theorem spec_Steps.calls (k : Nat) (a0 : ByteArray) (r1 : List (S163)) (r2 : Bool) (w : World) (h : spec_Steps.f k a0 = some (r1, r2)) :
  Calls Tryz.prog 152 #[.string a0] w fun e w' => ∃ v0_ : Value, e = .returned (.tuple #[v0_, .bool r2]) ∧ Kd.S k163 163 w' w.heap.size (fun _ => True) v0_ r1 ∧ Below w.heap.size w w' := by
 have hu163 := Tryz.underlying163; have HB := Aside0.mk (Below.refl w.heap.size w)
 have H := h; unfold spec_Steps.f at H
 clear h; obtain ⟨y235, hy235⟩ : ∃ y_ : List (S163), y_ = (([] : List (S163))) := ⟨_, rfl⟩
 replace H : ((some (([] : List (S163)) : List (S163))).bind fun y238 => (if a0.toList = ([] : List UInt8) then (some (y238, true)) else ((spec_Split.f k a0 47).bind fun t241 => (if 0 < (t241.length : Int) then (if (rdOf ByteArray.empty t241 0).toList = ([] : List UInt8) then (spec_Steps.j0 k y235 y238 t241 (decide ((t241.length : Int) > 31))) else (spec_Steps.j0 k y235 y238 t241 true)) else (none))))) = some (r1, r2) := by first | (rw [hy235]; with_reducible exact H) | (have H2_ := (Option.bind_some _ _).symm.trans H; rw [hy235]; with_reducible exact H2_) | (have H2_ := (Option.bind_some _ _).symm.trans H; with_reducible exact H2_) | with_reducible exact H | (rw [hy235]; exact H) | exact H
 have Ny235 := Aside0.mk hy235; clear hy235; obtain ⟨y238, hy238⟩ : ∃ y_ : List (S163), y_ = (([] : List (S163))) := ⟨_, rfl⟩
 replace H : (if a0.toList = ([] : List UInt8) then (some (y238, true)) else ((spec_Split.f k a0 47).bind fun t241 => (if 0 < (t241.length : Int) then (if (rdOf ByteArray.empty t241 0).toList = ([] : List UInt8) then (spec_Steps.j0 k y235 y238 t241 (decide ((t241.length : Int) > 31))) else (spec_Steps.j0 k y235 y238 t241 true)) else (none)))) = some (r1, r2) := by first | (rw [hy238]; with_reducible exact H) | (have H2_ := (Option.bind_some _ _).symm.trans H; rw [hy238]; with_reducible exact H2_) | (have H2_ := (Option.bind_some _ _).symm.trans H; with_reducible exact H2_) | with_reducible exact H | (rw [hy238]; exact H) | exact H
 have Ny238 := Aside0.mk hy238; clear hy238
 by_cases c2 : a0.toList = ([] : List UInt8)
 ·
  rw [if_pos c2] at H
  have c2b0 : (a0.toList == ([] : List UInt8)) = true := beq_iff_eq.mpr c2; have c2b1 : (a0.toList != ([] : List UInt8)) = false := bne_eq_false_iff_eq.mpr c2; clear c2
  simp only [Option.some.injEq, Prod.mk.injEq] at H
  obtain ⟨rfl, rfl⟩ := H
  go_enter Tryz.func152, Tryz.ntmps152
  go_wp2_with (first | ((with_reducible refine gate_dst (N := 16) rfl ?_); (try (refine gate_guard (by rfl) ?_; dsimp only)); refine Kd.S_lit k163 _ 163 ?hg (N := 16) ?hd (xs := ([] : List (S163))) (inner := []) (ok := fun _ => True) (okp := fun _ => True) ?hr ?hp (fun _ hk => hk) trivial (Below.refl _ _) (Nat.le_refl _) (by simp) ?_; (case hd => rfl); (case hg => rfl); (case hr => first | (go_simp; done) | (go_simp; rfl)); (case hp => exact (Reps.none _ _)); intro v236 w3 ho4 hb hg_ hnew_; clear hg_ hnew_; (first | rw [← Ny235.out] at ho4 | (simp only [Int.reduceToNat] at ho4; rw [← Ny235.out] at ho4)); have HO237 := Aside0.mk (Kd.S_lower ho4 (below_size (bI HB.out))); replace HB := bs HB hb; clear hb ho4) | ((with_reducible refine gate_dst (N := 17) rfl ?_); (try (refine gate_guard (by rfl) ?_; dsimp only)); refine Kd.S_lit k163 _ 163 ?hg (N := 17) ?hd (xs := ([] : List (S163))) (inner := []) (ok := fun _ => True) (okp := fun _ => True) ?hr ?hp (fun _ hk => hk) trivial (Below.refl _ _) (Nat.le_refl _) (by simp) ?_; (case hd => rfl); (case hg => rfl); (case hr => first | (go_simp; done) | (go_simp; rfl)); (case hp => exact (Reps.none _ _)); intro v239 w5 ho6 hb hg_ hnew_; clear hg_ hnew_; (first | rw [← Ny238.out] at ho6 | (simp only [Int.reduceToNat] at ho6; rw [← Ny238.out] at ho6)); have HO240 := Aside0.mk (Kd.S_lower (Kd.S_new' ho6 (Kd.S_lt (sI HO237.out))) (below_size (bI HB.out))); replace HO237 := Aside0.mk (Kd.S_elder' (sI HO237.out) (Kd.S_base ho6) hb); replace HB := bs HB hb; clear hb ho6))
  go_ret2
  exact ⟨_, y0_7, by (with_reducible repeat (first | apply Kd.S_alloc | apply Kd.S_drewN | apply Kd.S_drew)); exact Kd.S_mono HO240.out (fun _ hk => trivial), bI HB.out⟩
 rw [if_neg c2] at H
 have c2b0 : (a0.toList == ([] : List UInt8)) = false := beq_eq_false_iff_ne.mpr c2; have c2b1 : (a0.toList != ([] : List UInt8)) = true := bne_iff_ne.mpr c2; obtain ⟨t241, A7, H⟩ := oB H; (try dsimp only at H); have HC8 := Aside0.mk H; clear H
 go_enter Tryz.func152, Tryz.ntmps152
 go_upto_region 6 with (first | ((with_reducible refine gate_dst (N := 16) rfl ?_); (try (refine gate_guard (by rfl) ?_; dsimp only)); refine Kd.S_lit k163 _ 163 ?hg (N := 16) ?hd (xs := ([] : List (S163))) (inner := []) (ok := fun _ => True) (okp := fun _ => True) ?hr ?hp (fun _ hk => hk) trivial (Below.refl _ _) (Nat.le_refl _) (by simp) ?_; (case hd => rfl); (case hg => rfl); (case hr => first | (go_simp; done) | (go_simp; rfl)); (case hp => exact (Reps.none _ _)); intro v236 w9 ho10 hb hg_ hnew_; clear hg_ hnew_; (first | rw [← Ny235.out] at ho10 | (simp only [Int.reduceToNat] at ho10; rw [← Ny235.out] at ho10)); have HO237 := Aside0.mk (Kd.S_lower ho10 (below_size (bI HB.out))); replace HB := bs HB hb; clear hb ho10) | ((with_reducible refine gate_dst (N := 17) rfl ?_); (try (refine gate_guard (by rfl) ?_; dsimp only)); refine Kd.S_lit k163 _ 163 ?hg (N := 17) ?hd (xs := ([] : List (S163))) (inner := []) (ok := fun _ => True) (okp := fun _ => True) ?hr ?hp (fun _ hk => hk) trivial (Below.refl _ _) (Nat.le_refl _) (by simp) ?_; (case hd => rfl); (case hg => rfl); (case hr => first | (go_simp; done) | (go_simp; rfl)); (case hp => exact (Reps.none _ _)); intro v239 w11 ho12 hb hg_ hnew_; clear hg_ hnew_; (first | rw [← Ny238.out] at ho12 | (simp only [Int.reduceToNat] at ho12; rw [← Ny238.out] at ho12)); have HO240 := Aside0.mk (Kd.S_lower (Kd.S_new' ho12 (Kd.S_lt (sI HO237.out))) (below_size (bI HB.out))); replace HO237 := Aside0.mk (Kd.S_elder' (sI HO237.out) (Kd.S_base ho12) hb); replace HB := bs HB hb; clear hb ho12) | ((with_reducible refine gate_callee (f := 178) rfl ?_); refine gB (some 22) Tryz.func178 #[.string a0, .int .u8 47] ?_; (with_reducible refine (spec_Split.calls k a0 47 t241 _ A7.out).mono ?_); rintro e w13 ⟨v242, rfl, ho0, hb⟩; refine ⟨_, rfl, ?_⟩; replace HO237 := sb HO237 hb; replace HO240 := sb HO240 hb; have HO243 := Aside0.mk (Kd.R_lower ho0 (below_size (bI HB.out))); replace HB := bs HB hb; (try clear hb); (try clear ho0)))
 (try simp only [Act.put, List.setIfInBounds_toArray, List.set_cons_zero, List.set_cons_succ])
 go_cut [31] (fun v31 wc => ∃ (kq : Nat) (x31_7 : Bool), v31 = .bool x31_7 ∧ Aside0 (spec_Steps.j0 kq y235 y238 t241 x31_7 = some (r1, r2)) ∧ Aside0 (kq ≤ k) ∧ Aside0 (Kd.S k163 163 wc w.heap.size (fun k_ => some k_ ≠ (v239 : Value).ownBlock) v236 y235) ∧ Aside0 (Kd.S k163 163 wc w.heap.size (fun k_ => some k_ ≠ (v236 : Value).ownBlock) v239 y238) ∧ Aside0 (Kd.R Kd.string 9 wc w.heap.size (fun _ => True) v242 t241) ∧ Aside0 (Below w.heap.size w wc))
 case first =>
  have H := HC8.out; clear HC8
  by_cases c14 : 0 < (t241.length : Int)
  rotate_left
  ·
   rw [if_neg c14] at H
   exact absurd H (by simp)
  rw [if_pos c14] at H
  have c14b0 : decide (0 < (t241.length : Int)) = true := decide_eq_true c14
  have c14b1 : decide (0 < t241.length) = true := decide_eq_true (by omega)
  clear c14
  (first | rw [c14b0] | (simp only [i64_w, i32_w]; rw [c14b0]) | skip)
  by_cases c15 : (rdOf ByteArray.empty t241 0).toList = ([] : List UInt8)
  ·
   rw [if_pos c15] at H
   have c15b0 : ((rdOf ByteArray.empty t241 0).toList == ([] : List UInt8)) = true := beq_iff_eq.mpr c15; have c15b1 : ((rdOf ByteArray.empty t241 0).toList != ([] : List UInt8)) = false := bne_eq_false_iff_eq.mpr c15; clear c15; have H' := Aside0.mk H; clear H; obtain ⟨Ao16, co16, eo16⟩ := Kd.R_slice HO243.out; subst eo16
   have p244 : 0 ≤ (0 : Int) := (by omega)
   have q244 : 0 < (t241.length : Int) := of_decide_eq_true y0_12; obtain ⟨ad244, e244, hx244_0⟩ := Kd.at_string (Kd.R_reads' HO243.out).2.2 0 p244 q244; cases e244
   have qi244 : (0 < t241.length) = True := eq_true (by omega)
   (try rw [show ((0 : Int)).toNat = 0 from rfl] at hx244_0)
   (try rw [Addr.add_zero'] at hx244_0)
   replace p244 := eq_true p244; replace q244 := eq_true q244
   go_wp2
   go_meet
   case rel => exact ⟨_, (decide ((t241.length : Int) > 31)), y0_13, H', ⟨y0_14⟩, ⟨by (with_reducible repeat (first | apply Kd.S_alloc | apply Kd.S_drewN | apply Kd.S_drew)); exact Kd.S_mono HO237.out (fun _ hk => hk.2)⟩, ⟨by (with_reducible repeat (first | apply Kd.S_alloc | apply Kd.S_drewN | apply Kd.S_drew)); exact Kd.S_mono HO240.out (fun _ hk => hk.2)⟩, ⟨by (with_reducible repeat (first | apply Kd.R_alloc | apply Kd.R_drewN | apply Kd.R_drew)); exact HO243.out⟩, ⟨bI HB.out⟩⟩
  rw [if_neg c15] at H
  have c15b0 : ((rdOf ByteArray.empty t241 0).toList == ([] : List UInt8)) = false := beq_eq_false_iff_ne.mpr c15; have c15b1 : ((rdOf ByteArray.empty t241 0).toList != ([] : List UInt8)) = true := bne_iff_ne.mpr c15; have H' := Aside0.mk H; clear H; obtain ⟨Ao17, co17, eo17⟩ := Kd.R_slice HO243.out; subst eo17
  have p244 : 0 ≤ (0 : Int) := (by omega)
  have q244 : 0 < (t241.length : Int) := of_decide_eq_true y0_12; obtain ⟨ad244, e244, hx244_0⟩ := Kd.at_string (Kd.R_reads' HO243.out).2.2 0 p244 q244; cases e244
  have qi244 : (0 < t241.length) = True := eq_true (by omega)
  (try rw [show ((0 : Int)).toNat = 0 from rfl] at hx244_0)
  (try rw [Addr.add_zero'] at hx244_0)
  replace p244 := eq_true p244; replace q244 := eq_true q244
  go_wp2
  go_meet
  case rel => exact ⟨_, (true), y0_13, H', ⟨y0_14⟩, ⟨by (with_reducible repeat (first | apply Kd.S_alloc | apply Kd.S_drewN | apply Kd.S_drew)); exact Kd.S_mono HO237.out (fun _ hk => hk.2)⟩, ⟨by (with_reducible repeat (first | apply Kd.S_alloc | apply Kd.S_drewN | apply Kd.S_drew)); exact Kd.S_mono HO240.out (fun _ hk => hk.2)⟩, ⟨by (with_reducible repeat (first | apply Kd.R_alloc | apply Kd.R_drewN | apply Kd.R_drew)); exact HO243.out⟩, ⟨bI HB.out⟩⟩
 case rest =>
  clear HC8
  try clear c1
  try clear c2
  try clear c2b0
  try clear c2b1
  try clear p2
  try clear q2
  try clear hx2
  try clear qi2
  try clear c14
  try clear c14b0
  try clear c14b1
  try clear c15
  try clear c15b0
  try clear c15b1
  try clear c17
  try clear hx244_0
  try clear p244
  try clear q244
  obtain ⟨kq, x31_7, rfl, HA, HJ7, HO_4, HO_5, HO_6, HB⟩ := hcut; cases kq with
  | zero => exact absurd HA.out (by simp [spec_Steps.j0])
  | succ kj7 =>
   have H := HA.out; clear HA
   simp only [spec_Steps.j0] at H
   by_cases c18 : x31_7 = true
   ·
    subst c18
    rw [if_pos rfl] at H
    simp only [Option.some.injEq, Prod.mk.injEq] at H
    obtain ⟨rfl, rfl⟩ := H
    go_wp2
    go_ret2
    exact ⟨_, y0_7, y0_3, bI HB.out⟩
   replace c18 := Bool.eq_false_iff.mpr c18; subst c18
   rw [if_neg (show ¬ (false = true) by decide)] at H
   have H' := Aside0.mk H; clear H
   go_wp2
   go_loopg [5, 7, 8] kj7 (fun kq v5 v7 v8 w' => ∃ (x5_2 : List (S163)) (x7_2 : Int) (x8_2 : Int), v7 = .int .i64 x7_2 ∧ v8 = .int .i64 x8_2 ∧ Aside0 (spec_Steps.l0 kq y235 x5_2 t241 x7_2 x8_2 = some (r1, r2)) ∧ Aside0 (kq ≤ kj7) ∧ Aside0 (Kd.S k163 163 w' w.heap.size (fun k_ => some k_ ≠ (v5 : Value).ownBlock) v236 y235) ∧ Aside0 (Kd.S k163 163 w' w.heap.size (fun k_ => some k_ ≠ (v236 : Value).ownBlock) v5 x5_2) ∧ Aside0 (Kd.R Kd.string 9 w' w.heap.size (fun _ => True) v242 t241) ∧ Aside0 (Below w.heap.size w w'))
   case atStart => exact ⟨(y238), (0), (1), y0_13, y0_13, H', ⟨Nat.le_refl _⟩, ⟨by (with_reducible repeat (first | apply Kd.S_alloc | apply Kd.S_drewN | apply Kd.S_drew)); exact HO_4.out⟩, ⟨by (with_reducible repeat (first | apply Kd.S_alloc | apply Kd.S_drewN | apply Kd.S_drew)); exact HO_5.out⟩, ⟨by (with_reducible repeat (first | apply Kd.R_alloc | apply Kd.R_drewN | apply Kd.R_drew)); exact HO_6.out⟩, ⟨bI HB.out⟩⟩
   case round =>
    clear H'
    try clear c1
    try clear c2
    try clear c2b0
    try clear c2b1
    try clear p2
    try clear q2
    try clear hx2
    try clear qi2
    try clear c14
    try clear c14b0
    try clear c14b1
    try clear c15
    try clear c15b0
    try clear c15b1
    try clear c17
    try clear c18
    try clear hx244_0
    try clear p2
    try clear p244
    try clear q2
    try clear q244
    obtain ⟨x5_2, x7_2, x8_2, rfl, rfl, HA, HK2, HO_4, HO_5, HO_6, HB⟩ := hrel; cases gk with
    | zero => exact absurd HA.out (by simp [spec_Steps.l0])
    | succ k2 =>
     have H := HA.out; clear HA
     simp only [spec_Steps.l0] at H
     by_cases c19 : x8_2 < (t241.length : Int)
     ·
      rw [if_pos c19] at H
      have c19b0 : decide (x8_2 < (t241.length : Int)) = true := decide_eq_true c19; clear c19
      by_cases c20 : 0 ≤ x8_2
      rotate_left
      ·
       rw [if_neg c20] at H
       exact absurd H (by simp)
      rw [if_pos c20] at H
      have c20b0 : decide (0 ≤ x8_2) = true := decide_eq_true c20; clear c20; obtain ⟨⟨t246, t247, t248⟩, A21, H⟩ := oB H; (try dsimp only at H); obtain ⟨⟨t249, t250⟩, A22, H⟩ := oB H; (try dsimp only at H); obtain ⟨⟨t251, t252⟩, A23, H⟩ := oB H; (try dsimp only at H)
      by_cases c24 : t248 = true
      ·
       subst c24
       rw [if_pos rfl] at H
       by_cases c25 : t250 = true
       ·
        subst c25
        rw [if_pos rfl] at H
        by_cases c26 : t252 = true
        ·
         subst c26
         rw [if_pos rfl] at H
         by_cases c27 : t249 ≤ x7_2
         ·
          rw [if_pos c27] at H
          have c27b0 : decide (t249 ≤ x7_2) = true := decide_eq_true c27; clear c27
          simp only [Option.some.injEq, Prod.mk.injEq] at H
          obtain ⟨rfl, rfl⟩ := H; obtain ⟨Ao28, co28, eo28⟩ := Kd.R_slice HO_6.out; subst eo28; have p245 : 0 ≤ (x8_2 : Int) := of_decide_eq_true y0_12; have q245 : x8_2 < (t241.length : Int) := of_decide_eq_true y0_12; obtain ⟨ad245, e245, hx245_0⟩ := Kd.at_string (Kd.R_reads' HO_6.out).2.2 x8_2 p245 q245; cases e245; replace p245 := eq_true p245; replace q245 := eq_true q245
          go_wp2_with (first | ((with_reducible refine gate_callee (f := 179) rfl ?_); refine gB (some 44) Tryz.func179 #[.string (rdOf ByteArray.empty t241 x8_2), .int .u8 124] ?_; (with_reducible refine (spec_l2Cut.calls k2 (rdOf ByteArray.empty t241 x8_2) 124 t246 t247 true _ A21.out).mono ?_); rintro e w' ⟨rfl, ⟨nd, rfl⟩⟩; refine ⟨_, rfl, ?_⟩) | ((with_reducible refine gate_callee (f := 180) rfl ?_); refine gB (some 50) Tryz.func180 #[.string t246] ?_; (with_reducible refine (spec_Number.calls k2 t246 t249 true _ A22.out).mono ?_); rintro e w29 ⟨rfl, hb⟩; refine ⟨_, rfl, ?_⟩; replace HO_4 := sb HO_4 hb; replace HO_5 := sb HO_5 hb; replace HO_6 := rb HO_6 hb; replace HB := bs HB hb; (try clear hb); (try clear hb2); (try clear hk); (try clear hi)) | ((with_reducible refine gate_callee (f := 181) rfl ?_); refine gB (some 55) Tryz.func181 #[.string t247] ?_; (with_reducible refine (spec_TxsOf.calls k2 t247 t251 true _ A23.out).mono ?_); rintro e w30 ⟨v253, rfl, ho0, hb⟩; refine ⟨_, rfl, ?_⟩; replace HO_4 := Aside0.mk (Kd.S_elder' (sI HO_4.out) (Kd.R_base ho0) hb); replace HO_5 := Aside0.mk (Kd.S_elder' (sI HO_5.out) (Kd.R_base ho0) hb); replace HO_6 := rb HO_6 hb; have HO254 := Aside0.mk (Kd.R_lower ho0 (below_size (bI HB.out))); replace HB := bs HB hb; (try clear hb)))
          go_ret2
          exact ⟨_, y0_7, y0_3, bI HB.out⟩
         rw [if_neg c27] at H
         have c27b0 : decide (t249 ≤ x7_2) = false := decide_eq_false c27; clear c27
         by_cases c31 : t249 > 60
         ·
          rw [if_pos c31] at H
          have c31b0 : decide (60 < t249) = true := decide_eq_true c31; clear c31
          simp only [Option.some.injEq, Prod.mk.injEq] at H
          obtain ⟨rfl, rfl⟩ := H; obtain ⟨Ao32, co32, eo32⟩ := Kd.R_slice HO_6.out; subst eo32; have p245 : 0 ≤ (x8_2 : Int) := of_decide_eq_true y0_12; have q245 : x8_2 < (t241.length : Int) := of_decide_eq_true y0_12; obtain ⟨ad245, e245, hx245_0⟩ := Kd.at_string (Kd.R_reads' HO_6.out).2.2 x8_2 p245 q245; cases e245; replace p245 := eq_true p245; replace q245 := eq_true q245
          go_wp2_with (first | ((with_reducible refine gate_callee (f := 179) rfl ?_); refine gB (some 44) Tryz.func179 #[.string (rdOf ByteArray.empty t241 x8_2), .int .u8 124] ?_; (with_reducible refine (spec_l2Cut.calls k2 (rdOf ByteArray.empty t241 x8_2) 124 t246 t247 true _ A21.out).mono ?_); rintro e w' ⟨rfl, ⟨nd, rfl⟩⟩; refine ⟨_, rfl, ?_⟩) | ((with_reducible refine gate_callee (f := 180) rfl ?_); refine gB (some 50) Tryz.func180 #[.string t246] ?_; (with_reducible refine (spec_Number.calls k2 t246 t249 true _ A22.out).mono ?_); rintro e w33 ⟨rfl, hb⟩; refine ⟨_, rfl, ?_⟩; replace HO_4 := sb HO_4 hb; replace HO_5 := sb HO_5 hb; replace HO_6 := rb HO_6 hb; replace HB := bs HB hb; (try clear hb); (try clear hb2); (try clear hk); (try clear hi)) | ((with_reducible refine gate_callee (f := 181) rfl ?_); refine gB (some 55) Tryz.func181 #[.string t247] ?_; (with_reducible refine (spec_TxsOf.calls k2 t247 t251 true _ A23.out).mono ?_); rintro e w34 ⟨v253, rfl, ho0, hb⟩; refine ⟨_, rfl, ?_⟩; replace HO_4 := Aside0.mk (Kd.S_elder' (sI HO_4.out) (Kd.R_base ho0) hb); replace HO_5 := Aside0.mk (Kd.S_elder' (sI HO_5.out) (Kd.R_base ho0) hb); replace HO_6 := rb HO_6 hb; have HO254 := Aside0.mk (Kd.R_lower ho0 (below_size (bI HB.out))); replace HB := bs HB hb; (try clear hb)))
          go_ret2
          exact ⟨_, y0_7, y0_3, bI HB.out⟩
         rw [if_neg c31] at H
         have c31b0 : decide (60 < t249) = false := decide_eq_false c31; clear c31
         by_cases c35 : (t251.length : Int) > 2
         ·
          rw [if_pos c35] at H
          have c35b0 : decide (2 < (t251.length : Int)) = true := decide_eq_true c35
          have c35b1 : decide (2 < t251.length) = true := decide_eq_true (by omega)
          clear c35
          simp only [Option.some.injEq, Prod.mk.injEq] at H
          obtain ⟨rfl, rfl⟩ := H; obtain ⟨Ao36, co36, eo36⟩ := Kd.R_slice HO_6.out; subst eo36; have p245 : 0 ≤ (x8_2 : Int) := of_decide_eq_true y0_12; have q245 : x8_2 < (t241.length : Int) := of_decide_eq_true y0_12; obtain ⟨ad245, e245, hx245_0⟩ := Kd.at_string (Kd.R_reads' HO_6.out).2.2 x8_2 p245 q245; cases e245; replace p245 := eq_true p245; replace q245 := eq_true q245
          go_wp2_with (first | ((with_reducible refine gate_callee (f := 179) rfl ?_); refine gB (some 44) Tryz.func179 #[.string (rdOf ByteArray.empty t241 x8_2), .int .u8 124] ?_; (with_reducible refine (spec_l2Cut.calls k2 (rdOf ByteArray.empty t241 x8_2) 124 t246 t247 true _ A21.out).mono ?_); rintro e w' ⟨rfl, ⟨nd, rfl⟩⟩; refine ⟨_, rfl, ?_⟩) | ((with_reducible refine gate_callee (f := 180) rfl ?_); refine gB (some 50) Tryz.func180 #[.string t246] ?_; (with_reducible refine (spec_Number.calls k2 t246 t249 true _ A22.out).mono ?_); rintro e w37 ⟨rfl, hb⟩; refine ⟨_, rfl, ?_⟩; replace HO_4 := sb HO_4 hb; replace HO_5 := sb HO_5 hb; replace HO_6 := rb HO_6 hb; replace HB := bs HB hb; (try clear hb); (try clear hb2); (try clear hk); (try clear hi)) | ((with_reducible refine gate_callee (f := 181) rfl ?_); refine gB (some 55) Tryz.func181 #[.string t247] ?_; (with_reducible refine (spec_TxsOf.calls k2 t247 t251 true _ A23.out).mono ?_); rintro e w38 ⟨v253, rfl, ho0, hb⟩; refine ⟨_, rfl, ?_⟩; replace HO_4 := Aside0.mk (Kd.S_elder' (sI HO_4.out) (Kd.R_base ho0) hb); replace HO_5 := Aside0.mk (Kd.S_elder' (sI HO_5.out) (Kd.R_base ho0) hb); replace HO_6 := rb HO_6 hb; have HO254 := Aside0.mk (Kd.R_lower ho0 (below_size (bI HB.out))); replace HB := bs HB hb; (try clear hb); obtain ⟨Ao39, co39, eo39⟩ := Kd.R_slice HO254.out; subst eo39))
          go_ret2
          exact ⟨_, y0_7, y0_3, bI HB.out⟩
         rw [if_neg c35] at H
         have c35b0 : decide (2 < (t251.length : Int)) = false := decide_eq_false c35
         have c35b1 : decide (2 < t251.length) = false := decide_eq_false (by omega)
         clear c35
         by_cases c40 : x5_2.length < 4398046511104
         rotate_left
         ·
          rw [if_neg c40] at H
          exact absurd H (by simp)
         rw [if_pos c40] at H
         have LMc40 := Aside0.mk c40; clear c40; obtain ⟨y255, hy255⟩ : ∃ y_ : List (S163), y_ = (x5_2 ++ [(⟨t249, t251⟩ : S163)]) := ⟨_, rfl⟩
         replace H : (spec_Steps.l0 k2 y235 y255 t241 t249 (wrap64 (x8_2 + 1))) = some (r1, r2) := by first | (rw [hy255]; with_reducible exact H) | (have H2_ := (Option.bind_some _ _).symm.trans H; rw [hy255]; with_reducible exact H2_) | (have H2_ := (Option.bind_some _ _).symm.trans H; with_reducible exact H2_) | with_reducible exact H | (rw [hy255]; exact H) | exact H
         have Ny255 := Aside0.mk hy255; clear hy255; have H' := Aside0.mk H; clear H; obtain ⟨Ao41, co41, eo41⟩ := Kd.R_slice HO_6.out; subst eo41; have p245 : 0 ≤ (x8_2 : Int) := of_decide_eq_true y0_12; have q245 : x8_2 < (t241.length : Int) := of_decide_eq_true y0_12; obtain ⟨ad245, e245, hx245_0⟩ := Kd.at_string (Kd.R_reads' HO_6.out).2.2 x8_2 p245 q245; cases e245; replace p245 := eq_true p245; replace q245 := eq_true q245
         go_wp2_with (first | ((with_reducible refine gate_callee (f := 179) rfl ?_); refine gB (some 44) Tryz.func179 #[.string (rdOf ByteArray.empty t241 x8_2), .int .u8 124] ?_; (with_reducible refine (spec_l2Cut.calls k2 (rdOf ByteArray.empty t241 x8_2) 124 t246 t247 true _ A21.out).mono ?_); rintro e w' ⟨rfl, ⟨nd, rfl⟩⟩; refine ⟨_, rfl, ?_⟩) | ((with_reducible refine gate_callee (f := 180) rfl ?_); refine gB (some 50) Tryz.func180 #[.string t246] ?_; (with_reducible refine (spec_Number.calls k2 t246 t249 true _ A22.out).mono ?_); rintro e w42 ⟨rfl, hb⟩; refine ⟨_, rfl, ?_⟩; replace HO_4 := sb HO_4 hb; replace HO_5 := sb HO_5 hb; replace HO_6 := rb HO_6 hb; replace HB := bs HB hb; (try clear hb); (try clear hb2); (try clear hk); (try clear hi)) | ((with_reducible refine gate_callee (f := 181) rfl ?_); refine gB (some 55) Tryz.func181 #[.string t247] ?_; (with_reducible refine (spec_TxsOf.calls k2 t247 t251 true _ A23.out).mono ?_); rintro e w43 ⟨v253, rfl, ho0, hb⟩; refine ⟨_, rfl, ?_⟩; replace HO_4 := Aside0.mk (Kd.S_elder' (sI HO_4.out) (Kd.R_base ho0) hb); replace HO_5 := Aside0.mk (Kd.S_elder' (sI HO_5.out) (Kd.R_base ho0) hb); replace HO_6 := rb HO_6 hb; have HO254 := Aside0.mk (Kd.R_lower ho0 (below_size (bI HB.out))); replace HB := bs HB hb; (try clear hb); obtain ⟨Ao44, co44, eo44⟩ := Kd.R_slice HO254.out; subst eo44) | ((with_reducible refine gate_builtin (b := .append) (xs := #[.tmp 84, .tmp 88]) rfl ?_); (try (refine gate_guard (by rfl) ?_; dsimp only)); at_builtin; refine Kd.S_append k163 (w0 := w) w.heap.size rfl (.tmp 84) (.tmp 88) 159 163 (.agg #[(.int .i64 0), (.slice none 0 0)]) 32 rfl Tryz.underlying159 info163 rfl (by decide) (by omega) u5 x5_2 (⟨t249, t251⟩ : S163) [.int .i64 t249, .slice Ao44 t251.length co44] (fun k_ => some k_ ≠ (v236 : Value).ownBlock) (fun k_ => some k_ = (.slice Ao44 t251.length co44 : Value).ownBlock) rfl rfl ?aP (fun k_ hk_ => ((Kd.R_mono (ok' := fun k_ => ((fun k_ => some k_ ≠ (v236 : Value).ownBlock)) k_ ∧ some k_ ≠ (u5 : Value).ownBlock) (Kd.R_apart' (Kd.R_apart' (HO254.out) (Kd.S_typed HO_4.out) (by decide)) (Kd.S_typed HO_5.out) (by decide)) (fun k_ hk => ⟨hk.1.2, hk.2⟩))).1 k_ hk_.symm) ?aF ?aO ?aB ?aS ?aL ?_; (case aP => exact k163_mkM _ _ _ (⟨t249, t251⟩ : S163) (Kd.R_mono (Kd.R_tight rfl (Kd.R_mono (ok' := fun k_ => ((fun k_ => some k_ ≠ (v236 : Value).ownBlock)) k_ ∧ some k_ ≠ (u5 : Value).ownBlock) (Kd.R_apart' (Kd.R_apart' (HO254.out) (Kd.S_typed HO_4.out) (by decide)) (Kd.S_typed HO_5.out) (by decide)) (fun k_ hk => ⟨hk.1.2, hk.2⟩))) (fun _ h_ => h_))); (case aB => exact (bI HB.out)); (case aF => exact (fun k_ hk => Kd.fresh' (Kd.S_lt (sI HO_4.out)) k_ hk)); (case aO => exact (sI (Kd.S_mono HO_5.out (fun k_ hk => ⟨hk.1, fun e_ => hk.2 e_⟩)))); (case aS => exact (below_size (bI HB.out))); (case aL => have := LMc40.out; omega); intro v256 w45 ho hb hg hat; rw [← Ny255.out] at ho; have n0_ := Aside0.mk (Kd.S_after (ok := (fun k_ => some k_ ≠ (.slice Ao44 t251.length co44 : Value).ownBlock)) (sI (Kd.S_mono HO_4.out (fun _ hk => ⟨hk.2, hk.1⟩))) hg hat); have n1_ := Aside0.mk (Kd.R_over' (rI HO_6.out) (Kd.S_typed (sI HO_5.out)) (by decide) hg); have n2_ := Aside0.mk (hb); have n3_ := Aside0.mk (ho); clear HO_4; clear HO_6; clear HB; clear HO_5; clear HO254; have HO_4 := n0_; have HO_6 := n1_; have HB := n2_; have HO257 := n3_; clear n0_ n1_ n2_ n3_; clear ho hb hg hat))
         go_roundg k2
         case measure => have := HJ7.out; have := HK2.out; omega
         case rel => exact ⟨(y255), (t249), (wrap64 (x8_2 + 1)), y0_13, y0_13, H', ⟨by have := HJ7.out; have := HK2.out; omega⟩, ⟨by (with_reducible repeat (first | apply Kd.S_alloc | apply Kd.S_drewN | apply Kd.S_drew)); exact Kd.S_mono HO_4.out (fun _ hk => hk.2)⟩, ⟨by (with_reducible repeat (first | apply Kd.S_alloc | apply Kd.S_drewN | apply Kd.S_drew)); exact HO257.out⟩, ⟨by (with_reducible repeat (first | apply Kd.R_alloc | apply Kd.R_drewN | apply Kd.R_drew)); exact HO_6.out⟩, ⟨bI HB.out⟩⟩
        replace c26 := Bool.eq_false_iff.mpr c26; subst c26
        rw [if_neg (show ¬ (false = true) by decide)] at H
        simp only [Option.some.injEq, Prod.mk.injEq] at H
        obtain ⟨rfl, rfl⟩ := H; obtain ⟨Ao46, co46, eo46⟩ := Kd.R_slice HO_6.out; subst eo46; have p245 : 0 ≤ (x8_2 : Int) := of_decide_eq_true y0_12; have q245 : x8_2 < (t241.length : Int) := of_decide_eq_true y0_12; obtain ⟨ad245, e245, hx245_0⟩ := Kd.at_string (Kd.R_reads' HO_6.out).2.2 x8_2 p245 q245; cases e245; replace p245 := eq_true p245; replace q245 := eq_true q245
        go_wp2_with (first | ((with_reducible refine gate_callee (f := 179) rfl ?_); refine gB (some 44) Tryz.func179 #[.string (rdOf ByteArray.empty t241 x8_2), .int .u8 124] ?_; (with_reducible refine (spec_l2Cut.calls k2 (rdOf ByteArray.empty t241 x8_2) 124 t246 t247 true _ A21.out).mono ?_); rintro e w' ⟨rfl, ⟨nd, rfl⟩⟩; refine ⟨_, rfl, ?_⟩) | ((with_reducible refine gate_callee (f := 180) rfl ?_); refine gB (some 50) Tryz.func180 #[.string t246] ?_; (with_reducible refine (spec_Number.calls k2 t246 t249 true _ A22.out).mono ?_); rintro e w47 ⟨rfl, hb⟩; refine ⟨_, rfl, ?_⟩; replace HO_4 := sb HO_4 hb; replace HO_5 := sb HO_5 hb; replace HO_6 := rb HO_6 hb; replace HB := bs HB hb; (try clear hb); (try clear hb2); (try clear hk); (try clear hi)) | ((with_reducible refine gate_callee (f := 181) rfl ?_); refine gB (some 55) Tryz.func181 #[.string t247] ?_; (with_reducible refine (spec_TxsOf.calls k2 t247 t251 false _ A23.out).mono ?_); rintro e w48 ⟨v253, rfl, ho0, hb⟩; refine ⟨_, rfl, ?_⟩; replace HO_4 := Aside0.mk (Kd.S_elder' (sI HO_4.out) (Kd.R_base ho0) hb); replace HO_5 := Aside0.mk (Kd.S_elder' (sI HO_5.out) (Kd.R_base ho0) hb); replace HO_6 := rb HO_6 hb; have HO254 := Aside0.mk (Kd.R_lower ho0 (below_size (bI HB.out))); replace HB := bs HB hb; (try clear hb)))
        go_ret2
        exact ⟨_, y0_7, y0_3, bI HB.out⟩
       replace c25 := Bool.eq_false_iff.mpr c25; subst c25
       rw [if_neg (show ¬ (false = true) by decide)] at H
       simp only [Option.some.injEq, Prod.mk.injEq] at H
       obtain ⟨rfl, rfl⟩ := H; obtain ⟨Ao49, co49, eo49⟩ := Kd.R_slice HO_6.out; subst eo49; have p245 : 0 ≤ (x8_2 : Int) := of_decide_eq_true y0_12; have q245 : x8_2 < (t241.length : Int) := of_decide_eq_true y0_12; obtain ⟨ad245, e245, hx245_0⟩ := Kd.at_string (Kd.R_reads' HO_6.out).2.2 x8_2 p245 q245; cases e245; replace p245 := eq_true p245; replace q245 := eq_true q245
       go_wp2_with (first | ((with_reducible refine gate_callee (f := 179) rfl ?_); refine gB (some 44) Tryz.func179 #[.string (rdOf ByteArray.empty t241 x8_2), .int .u8 124] ?_; (with_reducible refine (spec_l2Cut.calls k2 (rdOf ByteArray.empty t241 x8_2) 124 t246 t247 true _ A21.out).mono ?_); rintro e w' ⟨rfl, ⟨nd, rfl⟩⟩; refine ⟨_, rfl, ?_⟩) | ((with_reducible refine gate_callee (f := 180) rfl ?_); refine gB (some 50) Tryz.func180 #[.string t246] ?_; (with_reducible refine (spec_Number.calls k2 t246 t249 false _ A22.out).mono ?_); rintro e w50 ⟨rfl, hb⟩; refine ⟨_, rfl, ?_⟩; replace HO_4 := sb HO_4 hb; replace HO_5 := sb HO_5 hb; replace HO_6 := rb HO_6 hb; replace HB := bs HB hb; (try clear hb); (try clear hb2); (try clear hk); (try clear hi)) | ((with_reducible refine gate_callee (f := 181) rfl ?_); refine gB (some 55) Tryz.func181 #[.string t247] ?_; (with_reducible refine (spec_TxsOf.calls k2 t247 t251 t252 _ A23.out).mono ?_); rintro e w51 ⟨v253, rfl, ho0, hb⟩; refine ⟨_, rfl, ?_⟩; replace HO_4 := Aside0.mk (Kd.S_elder' (sI HO_4.out) (Kd.R_base ho0) hb); replace HO_5 := Aside0.mk (Kd.S_elder' (sI HO_5.out) (Kd.R_base ho0) hb); replace HO_6 := rb HO_6 hb; have HO254 := Aside0.mk (Kd.R_lower ho0 (below_size (bI HB.out))); replace HB := bs HB hb; (try clear hb)))
       go_ret2
       exact ⟨_, y0_7, y0_3, bI HB.out⟩
      replace c24 := Bool.eq_false_iff.mpr c24; subst c24
      rw [if_neg (show ¬ (false = true) by decide)] at H
      simp only [Option.some.injEq, Prod.mk.injEq] at H
      obtain ⟨rfl, rfl⟩ := H; obtain ⟨Ao52, co52, eo52⟩ := Kd.R_slice HO_6.out; subst eo52; have p245 : 0 ≤ (x8_2 : Int) := of_decide_eq_true y0_12; have q245 : x8_2 < (t241.length : Int) := of_decide_eq_true y0_12; obtain ⟨ad245, e245, hx245_0⟩ := Kd.at_string (Kd.R_reads' HO_6.out).2.2 x8_2 p245 q245; cases e245; replace p245 := eq_true p245; replace q245 := eq_true q245
      go_wp2_with (first | ((with_reducible refine gate_callee (f := 179) rfl ?_); refine gB (some 44) Tryz.func179 #[.string (rdOf ByteArray.empty t241 x8_2), .int .u8 124] ?_; (with_reducible refine (spec_l2Cut.calls k2 (rdOf ByteArray.empty t241 x8_2) 124 t246 t247 false _ A21.out).mono ?_); rintro e w' ⟨rfl, ⟨nd, rfl⟩⟩; refine ⟨_, rfl, ?_⟩) | ((with_reducible refine gate_callee (f := 180) rfl ?_); refine gB (some 50) Tryz.func180 #[.string t246] ?_; (with_reducible refine (spec_Number.calls k2 t246 t249 t250 _ A22.out).mono ?_); rintro e w53 ⟨rfl, hb⟩; refine ⟨_, rfl, ?_⟩; replace HO_4 := sb HO_4 hb; replace HO_5 := sb HO_5 hb; replace HO_6 := rb HO_6 hb; replace HB := bs HB hb; (try clear hb); (try clear hb2); (try clear hk); (try clear hi)) | ((with_reducible refine gate_callee (f := 181) rfl ?_); refine gB (some 55) Tryz.func181 #[.string t247] ?_; (with_reducible refine (spec_TxsOf.calls k2 t247 t251 t252 _ A23.out).mono ?_); rintro e w54 ⟨v253, rfl, ho0, hb⟩; refine ⟨_, rfl, ?_⟩; replace HO_4 := Aside0.mk (Kd.S_elder' (sI HO_4.out) (Kd.R_base ho0) hb); replace HO_5 := Aside0.mk (Kd.S_elder' (sI HO_5.out) (Kd.R_base ho0) hb); replace HO_6 := rb HO_6 hb; have HO254 := Aside0.mk (Kd.R_lower ho0 (below_size (bI HB.out))); replace HB := bs HB hb; (try clear hb)))
      go_ret2
      exact ⟨_, y0_7, y0_3, bI HB.out⟩
     rw [if_neg c19] at H
     have c19b0 : decide (x8_2 < (t241.length : Int)) = false := decide_eq_false c19; clear c19
     simp only [Option.some.injEq, Prod.mk.injEq] at H
     obtain ⟨rfl, rfl⟩ := H; obtain ⟨Ao55, co55, eo55⟩ := Kd.R_slice HO_6.out; subst eo55
     go_wp2
     go_ret2
     exact ⟨_, y0_7, by (with_reducible repeat (first | apply Kd.S_alloc | apply Kd.S_drewN | apply Kd.S_drew)); exact Kd.S_mono HO_5.out (fun _ hk => trivial), bI HB.out⟩

/-! ### spec_NameOk: function 112 -/
def spec_NameOk.f (k : Nat) (a0 : ByteArray) : Option (Bool) := (spec_Steps.f k a0).bind fun bt258 => (some bt258.2)
theorem spec_NameOk.mono : ∀ a0 k, LeO (spec_NameOk.f k a0) (spec_NameOk.f (k + 1) a0) := by
 intro a0 k
 unfold spec_NameOk.f
 repeat' first | (with_reducible exact spec_Steps.mono _ _) | (with_reducible exact LeO.refl _) | (with_reducible exact LeO.none _) | (with_reducible refine LeO.ite ?_ ?_) | (with_reducible refine LeO.bind ?_ (fun _ => ?_))
set_option maxHeartbeats 8000000 in
set_option maxRecDepth 100000 in
theorem spec_NameOk.calls (k : Nat) (a0 : ByteArray) (r : Bool) (w : World) (h : spec_NameOk.f k a0 = some r) :
  Calls Tryz.prog 112 #[.string a0] w fun e w' => e = .returned (.bool r) ∧ Below w.heap.size w w' := by
 have HB := Aside0.mk (Below.refl w.heap.size w)
 have H := h; unfold spec_NameOk.f at H
 clear h; obtain ⟨⟨t258, t259⟩, A2, H⟩ := oB H; (try dsimp only at H); obtain rfl := Option.some.inj H
 go_enter Tryz.func112, Tryz.ntmps112
 go_wp2_with (first | ((with_reducible refine gate_callee (f := 152) rfl ?_); refine gS1 (some 7) Tryz.func152 (spec_Steps.calls (w := _) (h := A2.out)) ?_; intro Ao260 co260 w3 _ HO261))
 go_ret
 exact ⟨y0_13, UpW.out⟩

/-! ### spec_ViewOf: function 113 -/
def spec_ViewOf.f (k : Nat) (a0 : ByteArray) : Option (Int) := (spec_Steps.f k a0).bind fun bt262 => (if bt262.2 = true then (if (bt262.1.length : Int) = 0 then (some 0) else (if 0 ≤ (wrap64 ((bt262.1.length : Int) - 1)) then (if (wrap64 ((bt262.1.length : Int) - 1)) < (bt262.1.length : Int) then (some ((rd_T163 bt262.1 (wrap64 ((bt262.1.length : Int) - 1))).f0)) else (none)) else (none))) else (some 0))
theorem spec_ViewOf.mono : ∀ a0 k, LeO (spec_ViewOf.f k a0) (spec_ViewOf.f (k + 1) a0) := by
 intro a0 k
 unfold spec_ViewOf.f
 repeat' first | (with_reducible exact spec_Steps.mono _ _) | (with_reducible exact LeO.refl _) | (with_reducible exact LeO.none _) | (with_reducible refine LeO.ite ?_ ?_) | (with_reducible refine LeO.bind ?_ (fun _ => ?_))
set_option maxHeartbeats 8000000 in
set_option maxRecDepth 100000 in
theorem spec_ViewOf.calls (k : Nat) (a0 : ByteArray) (r : Int) (w : World) (h : spec_ViewOf.f k a0 = some r) :
  Calls Tryz.prog 113 #[.string a0] w fun e w' => e = .returned (.int .i64 r) ∧ Below w.heap.size w w' := by
 have HB := Aside0.mk (Below.refl w.heap.size w)
 have H := h; unfold spec_ViewOf.f at H
 clear h; obtain ⟨⟨t262, t263⟩, A2, H⟩ := oB H; (try dsimp only at H)
 by_cases c3 : t263 = true
 ·
  subst c3
  rw [if_pos rfl] at H
  by_cases c4 : (t262.length : Int) = 0
  ·
   rw [if_pos c4] at H
   have c4b0 : ((t262.length : Int) == 0) = true := beq_iff_eq.mpr c4; have c4b1 : ((t262.length : Int) != 0) = false := bne_eq_false_iff_eq.mpr c4; clear c4; obtain rfl := Option.some.inj H
   go_enter Tryz.func113, Tryz.ntmps113
   go_wp2_with (first | ((with_reducible refine gate_callee (f := 152) rfl ?_); refine gB (some 7) Tryz.func152 #[.string a0] ?_; (with_reducible refine (spec_Steps.calls k a0 t262 true _ A2.out).mono ?_); rintro e w5 ⟨v264, rfl, ho0, hb⟩; refine ⟨_, rfl, ?_⟩; have HO265 := Aside0.mk (Kd.S_lower ho0 (below_size (bI HB.out))); replace HB := bs HB hb; (try clear hb); (try clear ho0); obtain ⟨Ao6, co6, eo6⟩ := Kd.S_slice HO265.out; subst eo6))
   go_ret
   exact ⟨y0_7, bI HB.out⟩
  rw [if_neg c4] at H
  have c4b0 : ((t262.length : Int) == 0) = false := beq_eq_false_iff_ne.mpr c4; have c4b1 : ((t262.length : Int) != 0) = true := bne_iff_ne.mpr c4
  have c4b2 : ¬ (t262 = []) := fun h_ => c4 (by rw [h_]; rfl)
  obtain ⟨ji7, hji7⟩ : ∃ j_ : Int, (wrap64 ((t262.length : Int) - 1)) = j_ := ⟨_, rfl⟩
  replace H : (if 0 ≤ (ji7) then (if (ji7) < (t262.length : Int) then (some ((rd_T163 t262 (ji7)).f0)) else (none)) else (none)) = some r := by first | (rw [hji7] at H; exact H) | (simp only [hji7] at H ⊢; exact H)
  (try rw [hji7] at A2)
  have hji7w : (IntKind.i64.wrap ((t262.length : Int) - 1)) = ji7 := (i64_w _).trans hji7
  by_cases c8 : 0 ≤ (ji7)
  rotate_left
  ·
   rw [if_neg c8] at H
   exact absurd H (by simp)
  rw [if_pos c8] at H
  have c8b0 : decide (0 ≤ (ji7)) = true := decide_eq_true c8; clear c8
  by_cases c9 : (ji7) < (t262.length : Int)
  rotate_left
  ·
   rw [if_neg c9] at H
   exact absurd H (by simp)
  rw [if_pos c9] at H
  have c9b0 : decide ((ji7) < (t262.length : Int)) = true := decide_eq_true c9; clear c9; obtain rfl := Option.some.inj H
  go_enter Tryz.func113, Tryz.ntmps113
  go_wp2_with (first | ((with_reducible refine gate_callee (f := 152) rfl ?_); refine gB (some 7) Tryz.func152 #[.string a0] ?_; (with_reducible refine (spec_Steps.calls k a0 t262 true _ A2.out).mono ?_); rintro e w10 ⟨v264, rfl, ho0, hb⟩; refine ⟨_, rfl, ?_⟩; have HO265 := Aside0.mk (Kd.S_lower ho0 (below_size (bI HB.out))); replace HB := bs HB hb; (try clear hb); (try clear ho0); obtain ⟨Ao11, co11, eo11⟩ := Kd.S_slice HO265.out; subst eo11; have p266 : 0 ≤ ((ji7) : Int) := of_decide_eq_true y0_12; have q266 : (ji7) < (t262.length : Int) := of_decide_eq_true y0_12; obtain ⟨ad266, A266_1, c266_1, e266, hx266_0, hx266_1, hl266_1, hi266_1⟩ := at_T163 (Kd.S_reads' HO265.out).2.2 (ji7) p266 q266; cases e266; obtain ⟨ce266, hce266, hMe266, hcc266⟩ := Kd.S_get HO265.out z163 (ji7) p266 (by first | exact q266 | exact of_decide_eq_true y0_12 | (have e_ := (Kd.S_reads' HO265.out).1; omega)); obtain ⟨ve266_1, rfl, ge266_1⟩ := k163_openM hMe266; have hv266_1 := hcc266 1 _ rfl; rw [add_field _ _ 1 (by omega)] at hv266_1; replace hv266_1 := Option.some.inj (hv266_1.symm.trans hx266_1); rw [hv266_1] at ge266_1; have HL266_1 := Aside0.mk (show Kd.R k156 156 _ _ _ _ ((rd_T163 t262 (ji7)).f1) from ge266_1); clear hv266_1 ge266_1; clear hcc266 hce266; have HR266_1 := Aside0.mk hi266_1; have HC266_1 := Aside0.mk hl266_1; clear hi266_1 hl266_1; replace p266 := eq_true p266; replace q266 := eq_true q266))
  go_ret
  exact ⟨by first | rfl | (simp [errW_none, errW_some] <;> rfl) | (simp only [← hji7]; first | rfl | (simp [errW_none, errW_some] <;> rfl)) | (simp [*, errW_none, errW_some] <;> rfl), bI HB.out⟩
 replace c3 := Bool.eq_false_iff.mpr c3; subst c3
 rw [if_neg (show ¬ (false = true) by decide)] at H
 obtain rfl := Option.some.inj H
 go_enter Tryz.func113, Tryz.ntmps113
 go_wp2_with (first | ((with_reducible refine gate_callee (f := 152) rfl ?_); refine gB (some 7) Tryz.func152 #[.string a0] ?_; (with_reducible refine (spec_Steps.calls k a0 t262 false _ A2.out).mono ?_); rintro e w12 ⟨v264, rfl, ho0, hb⟩; refine ⟨_, rfl, ?_⟩; have HO265 := Aside0.mk (Kd.S_lower ho0 (below_size (bI HB.out))); replace HB := bs HB hb; (try clear hb); (try clear ho0)))
 go_ret
 exact ⟨y0_7, bI HB.out⟩

/-! ### spec_PartOk: function 49 -/
def spec_PartOk.f (k : Nat) (a0_0 : Int) (a0_1 : Int) (a1_0 : Int) (a1_1 : ByteArray) (l1_2 : List Int) : Option (Bool) := (spec_ConfOk.f a0_0 a0_1).bind fun t269 => (if t269 = true then ((spec_l1In.f a1_0 1 60).bind fun t270 => (if t270 = true then ((spec_SetOk.f k a0_0 l1_2).bind fun t271 => (if t271 = true then (if (l1_2.length : Int) = 0 then (some false) else (if a1_1.toList = ([] : List UInt8) then (some true) else ((spec_NameOk.f k a1_1).bind fun t272 => (if t272 = true then ((spec_ViewOf.f k a1_1).bind fun t273 => (some (t273 == a1_0))) else (some false))))) else (some false))) else (some false))) else (some false))
theorem spec_PartOk.mono : ∀ a0 a1 a2 a3 a4 k, LeO (spec_PartOk.f k a0 a1 a2 a3 a4) (spec_PartOk.f (k + 1) a0 a1 a2 a3 a4) := by
 intro a0 a1 a2 a3 a4 k
 unfold spec_PartOk.f
 repeat' first | (with_reducible exact spec_NameOk.mono _ _) | (with_reducible exact spec_SetOk.mono _ _ _) | (with_reducible exact spec_ViewOf.mono _ _) | (with_reducible exact LeO.refl _) | (with_reducible exact LeO.none _) | (with_reducible refine LeO.ite ?_ ?_) | (with_reducible refine LeO.bind ?_ (fun _ => ?_))
def spec_PartOk.T3 : Bool × List (List Nat × List Nat) := (true, [([], []), ([0], [0]), ([1], [1]), ([2], [2]), ([3], [3]), ([4, 3], [3, 4]), ([5, 3, 3], [3, 5]), ([6, 6, 3], [3, 6]), ([7], [7]), ([8, 7], [7, 8]), ([9, 7, 7], [7, 9]), ([7], [7]), ([11, 7], [7, 11]), ([10, 12, 7], [7, 10, 12]), ([7, 13, 3], [3, 7, 13]), ([3, 14], [3, 14]), ([15, 10, 0, 1, 2, 3, 4, 5, 6, 7, 8, 9, 10, 11, 12, 13, 14, 15], [15])])
def spec_PartOk.B3 : List Nat := [0, 1, 3, 7, 15, 31, 63, 127, 255, 511, 1023, 255, 2303, 8191, 16383, 32767, 65535]
theorem spec_PartOk.tab3 : rtab .any (opsOf Tryz.f49 3) = spec_PartOk.T3 := by kernel_rfl
theorem spec_PartOk.bits3 : waitsOk spec_PartOk.T3.2 spec_PartOk.B3 = true := by kernel_rfl
set_option maxHeartbeats 8000000 in
set_option maxRecDepth 100000 in
theorem spec_PartOk.calls (k : Nat) (a0_0 : Int) (a0_1 : Int) (a1_0 : Int) (a1_1 : ByteArray) (A1_2 : Option Addr) (c1_2 : Nat) (l1_2 : List Int) (r : Bool) (w : World) (hr1_2 : Kd.C (Kd.int .i64) w A1_2 l1_2.length l1_2) (hc1_2 : l1_2.length ≤ c1_2) (h : spec_PartOk.f k a0_0 a0_1 a1_0 a1_1 l1_2 = some r) :
  Calls Tryz.prog 49 #[.agg #[.int .i64 a0_0, .int .i64 a0_1], .agg #[.int .i64 a1_0, .string a1_1, .slice A1_2 l1_2.length c1_2]] w fun e w' => e = .returned (.bool r) ∧ Below w.heap.size w w' := by
 have hu32 := Tryz.underlying32; have hu48 := Tryz.underlying48; have HR1_2 := Aside0.mk hr1_2; have HC1_2 := Aside0.mk hc1_2; clear hr1_2 hc1_2; have HB := Aside0.mk (Below.refl w.heap.size w)
 have H := h; unfold spec_PartOk.f at H
 clear h
 go_enter Tryz.func49, Tryz.ntmps49
 have H' := Aside0.mk H; clear H
 go_upto_region 1 with (first | ((with_reducible refine gd 2 ?_); refine bL 2 #[.int .i64 a0_0, .int .i64 a0_1] 32 ?_; intro gb267 w3 _ _ _) | ((with_reducible refine gd 3 ?_); refine bL 3 #[.int .i64 a1_0, .string a1_1, .slice A1_2 l1_2.length c1_2] 48 ?_; intro gb268 w4 _ _ _))
 have H := H'.out; clear H'; obtain ⟨t269, A5, H⟩ := oB H; (try dsimp only at H)
 by_cases c6 : t269 = true
 ·
  subst c6
  rw [if_pos rfl] at H
  obtain ⟨t270, A7, H⟩ := oB H; (try dsimp only at H)
  by_cases c8 : t270 = true
  ·
   subst c8
   rw [if_pos rfl] at H
   obtain ⟨t271, A9, H⟩ := oB H; (try dsimp only at H)
   by_cases c10 : t271 = true
   ·
    subst c10
    rw [if_pos rfl] at H
    have H' := Aside0.mk H; clear H
    go_upto_if 27 with (first | ((with_reducible refine gate_callee (f := 109) rfl ?_); refine gC (some 6) Tryz.func109 (spec_ConfOk.calls (w := _) (h := A5.out)) ?_; intro w11 _) | (go_at_call 110; refine aD (spec_l1In.calls (w := _) (h := A7.out)) ?_; intro w12 _) | (go_at_call 111; refine aD (spec_SetOk.calls (hr1 := pC HR1_2) (hc1 := HC1_2.out) (w := _) (h := A9.out)) ?_; intro w13 _))
    have H := H'.out; clear H'
    by_cases c14 : (l1_2.length : Int) = 0
    ·
     rw [if_pos c14] at H
     have c14b0 : ((l1_2.length : Int) == 0) = true := beq_iff_eq.mpr c14; have c14b1 : ((l1_2.length : Int) != 0) = false := bne_eq_false_iff_eq.mpr c14; clear c14
     (first | rw [c14b0] | (simp only [i64_w, i32_w]; rw [c14b0]) | skip)
     obtain rfl := Option.some.inj H
     go_wp2
     go_ret
     exact ⟨y0_13, UpW.out⟩
    rw [if_neg c14] at H
    have c14b0 : ((l1_2.length : Int) == 0) = false := beq_eq_false_iff_ne.mpr c14; have c14b1 : ((l1_2.length : Int) != 0) = true := bne_iff_ne.mpr c14
    have c14b2 : ¬ (l1_2 = []) := fun h_ => c14 (by rw [h_]; rfl)
    (first | rw [c14b0] | (simp only [i64_w, i32_w]; rw [c14b0]) | skip)
    by_cases c15 : a1_1.toList = ([] : List UInt8)
    ·
     rw [if_pos c15] at H
     have c15b0 : (a1_1.toList == ([] : List UInt8)) = true := beq_iff_eq.mpr c15; have c15b1 : (a1_1.toList != ([] : List UInt8)) = false := bne_eq_false_iff_eq.mpr c15; clear c15; obtain rfl := Option.some.inj H
     try go_wp2
     refine sB [] spec_PartOk.tab3 spec_PartOk.bits3 ?_; intro w16 _ HT_ HW_
     refine pA 0 (some 28) (bz 17 1) HT_ ?_
     refine tB 1 (some 29) (bz 17 3) HT_ HW_ ?_
     refine pA 2 (some 30) (bz 17 7) HT_ ?_
     refine pA 3 (some 31) (bz 17 15) HT_ ?_
     refine pU 4 (some 32) (bz 17 31) HT_ ?_
     refine pU 5 (some 33) (bz 17 63) HT_ ?_
     refine pU 6 (some 34) (bz 17 127) HT_ ?_
     refine pU 7 (some 35) (bz 17 255) HT_ ?_
     refine pU 8 (some 36) (bz 17 511) HT_ ?_
     refine pU 9 (some 37) (bz 17 1023) HT_ ?_
     refine pU 10 (some 38) (bz 17 2047) HT_ ?_
     refine pU 11 (some 39) (bz 17 4095) HT_ ?_
     refine pU 12 (some 40) (bz 17 0x1fff) HT_ ?_
     refine pU 13 (some 41) (bz 17 0x3fff) HT_ ?_
     refine pU 14 (some 42) (bz 17 0x7fff) HT_ ?_
     refine pA 15 (some 43) (bz 17 0xffff) HT_ ?_
     refine pA 16 (some 4) (bz 17 0x1ffff) HT_ ?_
     refine done_ (done_of HT_.out (by kernel_rfl)) ?_
     try go_wp2
     go_ret
     exact ⟨y0_13, UpW.out⟩
    rw [if_neg c15] at H
    have c15b0 : (a1_1.toList == ([] : List UInt8)) = false := beq_eq_false_iff_ne.mpr c15; have c15b1 : (a1_1.toList != ([] : List UInt8)) = true := bne_iff_ne.mpr c15; obtain ⟨t272, A17, H⟩ := oB H; (try dsimp only at H)
    by_cases c18 : t272 = true
    ·
     subst c18
     rw [if_pos rfl] at H
     obtain ⟨t273, A19, H⟩ := oB H; (try dsimp only at H); obtain rfl := Option.some.inj H
     try go_wp2
     refine sB [] spec_PartOk.tab3 spec_PartOk.bits3 ?_; intro w20 _ HT_ HW_
     refine pA 0 (some 28) (bz 17 1) HT_ ?_
     refine tB 1 (some 29) (bz 17 3) HT_ HW_ ?_
     refine pA 2 (some 30) (bz 17 7) HT_ ?_
     refine pA 3 (some 31) (bz 17 15) HT_ ?_
     refine pA 4 (some 32) (bz 17 31) HT_ ?_
     refine tB 5 (some 33) (bz 17 63) HT_ HW_ ?_
     refine o1 6 (some 34) (bz 17 127) HT_ rfl (kC Tryz.func112 (spec_NameOk.calls (w := _) (h := A17.out)) ?_); intro w21 _
     refine nA (some 34) ?_
     refine pA 7 (some 35) (bz 17 255) HT_ ?_
     refine pA 8 (some 36) (bz 17 511) HT_ ?_
     refine tB 9 (some 37) (bz 17 1023) HT_ HW_ ?_
     refine pA 11 (some 39) (bz 17 3071) HT_ ?_
     refine tB 12 (some 40) (bz 17 0x1bff) HT_ HW_ ?_
     refine o1 10 (some 38) (bz 17 0x1fff) HT_ rfl (kC Tryz.func113 (spec_ViewOf.calls (w := _) (h := A19.out)) ?_); intro w22 _
     refine nA (some 38) ?_
     refine pA 13 (some 41) (bz 17 0x3fff) HT_ ?_
     refine pA 14 (some 42) (bz 17 0x7fff) HT_ ?_
     refine pA 15 (some 43) (bz 17 0xffff) HT_ ?_
     refine pA 16 (some 4) (bz 17 0x1ffff) HT_ ?_
     refine done_ (done_of HT_.out (by kernel_rfl)) ?_
     try go_wp2
     go_ret
     exact ⟨y0_13, UpW.out⟩
    replace c18 := Bool.eq_false_iff.mpr c18; subst c18
    rw [if_neg (show ¬ (false = true) by decide)] at H
    obtain rfl := Option.some.inj H
    try go_wp2
    refine sB [] spec_PartOk.tab3 spec_PartOk.bits3 ?_; intro w23 _ HT_ HW_
    refine pA 0 (some 28) (bz 17 1) HT_ ?_
    refine tB 1 (some 29) (bz 17 3) HT_ HW_ ?_
    refine pA 2 (some 30) (bz 17 7) HT_ ?_
    refine pA 3 (some 31) (bz 17 15) HT_ ?_
    refine pA 4 (some 32) (bz 17 31) HT_ ?_
    refine tB 5 (some 33) (bz 17 63) HT_ HW_ ?_
    refine o1 6 (some 34) (bz 17 127) HT_ rfl (kC Tryz.func112 (spec_NameOk.calls (w := _) (h := A17.out)) ?_); intro w24 _
    refine nA (some 34) ?_
    refine pA 7 (some 35) (bz 17 255) HT_ ?_
    refine pU 8 (some 36) (bz 17 511) HT_ ?_
    refine pU 9 (some 37) (bz 17 1023) HT_ ?_
    refine pU 10 (some 38) (bz 17 2047) HT_ ?_
    refine pU 11 (some 39) (bz 17 4095) HT_ ?_
    refine pU 12 (some 40) (bz 17 0x1fff) HT_ ?_
    refine pU 13 (some 41) (bz 17 0x3fff) HT_ ?_
    refine pA 14 (some 42) (bz 17 0x7fff) HT_ ?_
    refine pA 15 (some 43) (bz 17 0xffff) HT_ ?_
    refine pA 16 (some 4) (bz 17 0x1ffff) HT_ ?_
    refine done_ (done_of HT_.out (by kernel_rfl)) ?_
    try go_wp2
    go_ret
    exact ⟨y0_13, UpW.out⟩
   replace c10 := Bool.eq_false_iff.mpr c10; subst c10
   rw [if_neg (show ¬ (false = true) by decide)] at H
   have H' := Aside0.mk H; clear H
   go_upto_if 27 with (first | ((with_reducible refine gate_callee (f := 109) rfl ?_); refine gC (some 6) Tryz.func109 (spec_ConfOk.calls (w := _) (h := A5.out)) ?_; intro w25 _) | (go_at_call 110; refine aD (spec_l1In.calls (w := _) (h := A7.out)) ?_; intro w26 _) | (go_at_call 111; refine aD (spec_SetOk.calls (hr1 := pC HR1_2) (hc1 := HC1_2.out) (w := _) (h := A9.out)) ?_; intro w27 _))
   have H := H'.out; clear H'; obtain rfl := Option.some.inj H
   go_wp2
   go_ret
   exact ⟨y0_13, UpW.out⟩
  replace c8 := Bool.eq_false_iff.mpr c8; subst c8
  rw [if_neg (show ¬ (false = true) by decide)] at H
  have H' := Aside0.mk H; clear H
  go_upto_if 27 with (first | ((with_reducible refine gate_callee (f := 109) rfl ?_); refine gC (some 6) Tryz.func109 (spec_ConfOk.calls (w := _) (h := A5.out)) ?_; intro w28 _) | (go_at_call 110; refine aD (spec_l1In.calls (w := _) (h := A7.out)) ?_; intro w29 _))
  have H := H'.out; clear H'; obtain rfl := Option.some.inj H
  go_wp2
  go_ret
  exact ⟨y0_13, UpW.out⟩
 replace c6 := Bool.eq_false_iff.mpr c6; subst c6
 rw [if_neg (show ¬ (false = true) by decide)] at H
 have H' := Aside0.mk H; clear H
 go_upto_if 27 with (first | ((with_reducible refine gate_callee (f := 109) rfl ?_); refine gC (some 6) Tryz.func109 (spec_ConfOk.calls (w := _) (h := A5.out)) ?_; intro w30 _))
 have H := H'.out; clear H'; obtain rfl := Option.some.inj H
 go_wp2
 go_ret
 exact ⟨y0_13, UpW.out⟩

/-! ### spec_l10Before: function 79 -/
def spec_l10Before.f (a0_0 : Int) (a0_1 : ByteArray) (l0_2 : List Int) (a1_0 : Int) (a1_1 : ByteArray) (l1_2 : List Int) : Option (Bool) := if a0_0 < a1_0 then (some true) else (if a0_0 = a1_0 then (some (Op.bytesLess a0_1.toList a1_1.toList)) else (some false))
set_option maxHeartbeats 8000000 in
set_option maxRecDepth 100000 in
theorem spec_l10Before.calls (a0_0 : Int) (a0_1 : ByteArray) (A0_2 : Option Addr) (c0_2 : Nat) (l0_2 : List Int) (a1_0 : Int) (a1_1 : ByteArray) (A1_2 : Option Addr) (c1_2 : Nat) (l1_2 : List Int) (r : Bool) (w : World) (hr0_2 : Kd.C (Kd.int .i64) w A0_2 l0_2.length l0_2) (hc0_2 : l0_2.length ≤ c0_2) (hr1_2 : Kd.C (Kd.int .i64) w A1_2 l1_2.length l1_2) (hc1_2 : l1_2.length ≤ c1_2) (h : spec_l10Before.f a0_0 a0_1 l0_2 a1_0 a1_1 l1_2 = some r) :
  Calls Tryz.prog 79 #[.agg #[.int .i64 a0_0, .string a0_1, .slice A0_2 l0_2.length c0_2], .agg #[.int .i64 a1_0, .string a1_1, .slice A1_2 l1_2.length c1_2]] w fun e w' => e = .returned (.bool r) ∧ Below w.heap.size w w' := by
 have hu48 := Tryz.underlying48; have HR0_2 := Aside0.mk hr0_2; have HC0_2 := Aside0.mk hc0_2; clear hr0_2 hc0_2; have HR1_2 := Aside0.mk hr1_2; have HC1_2 := Aside0.mk hc1_2; clear hr1_2 hc1_2; have HB := Aside0.mk (Below.refl w.heap.size w); have H := h; unfold spec_l10Before.f at H; clear h
 go_enter Tryz.func79, Tryz.ntmps79
 have H' := Aside0.mk H; clear H
 go_upto_region 1 with (first | ((with_reducible refine gd 2 ?_); refine bL 2 #[.int .i64 a0_0, .string a0_1, .slice A0_2 l0_2.length c0_2] 48 ?_; intro gb274 w3 _ _ _) | ((with_reducible refine gd 3 ?_); refine bL 3 #[.int .i64 a1_0, .string a1_1, .slice A1_2 l1_2.length c1_2] 48 ?_; intro gb275 w4 _ _ _))
 have H := H'.out; clear H'
 by_cases c5 : a0_0 < a1_0
 ·
  rw [if_pos c5] at H
  have c5b0 : decide (a0_0 < a1_0) = true := decide_eq_true c5; clear c5
  (first | rw [c5b0] | (simp only [i64_w, i32_w]; rw [c5b0]) | skip)
  obtain rfl := Option.some.inj H
  go_wp2
  go_ret
  exact ⟨y0_13, UpW.out⟩
 rw [if_neg c5] at H
 have c5b0 : decide (a0_0 < a1_0) = false := decide_eq_false c5; clear c5
 (first | rw [c5b0] | (simp only [i64_w, i32_w]; rw [c5b0]) | skip)
 by_cases c6 : a0_0 = a1_0
 ·
  rw [if_pos c6] at H
  have c6b0 : (a0_0 == a1_0) = true := beq_iff_eq.mpr c6; have c6b1 : (a0_0 != a1_0) = false := bne_eq_false_iff_eq.mpr c6; clear c6; obtain rfl := Option.some.inj H
  go_wp2
  go_ret
  exact ⟨y0_13, UpW.out⟩
 rw [if_neg c6] at H
 have c6b0 : (a0_0 == a1_0) = false := beq_eq_false_iff_ne.mpr c6; have c6b1 : (a0_0 != a1_0) = true := bne_iff_ne.mpr c6; obtain rfl := Option.some.inj H
 go_wp2
 go_ret
 exact ⟨y0_13, UpW.out⟩

end Go.Proofs.YtdmjhgogljhfkaaGreatDoor.PFnExactTableAdd
