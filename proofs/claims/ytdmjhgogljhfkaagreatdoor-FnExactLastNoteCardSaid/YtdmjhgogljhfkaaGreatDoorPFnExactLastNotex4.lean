-- By a program of this session, out of the translation (the print of the kit, with turns of its own). Lean checks it.
import Derived.Test.YtdmjhgogljhfkaaGreatDoorPFnExactLastNotex0
import Derived.Test.YtdmjhgogljhfkaaGreatDoorPFnExactLastNotex2
import Derived.Test.YtdmjhgogljhfkaaGreatDoorPFnExactLastNotex3
namespace Go.Proofs.YtdmjhgogljhfkaaGreatDoor.PFnExactLastNote
open Go.RowKit Go.Proofs.YtdmjhgogljhfkaaGreatDoorW.PrintWords Go.Proofs.YtdmjhgogljhfkaaGreatDoorW.PrintLast Go.Proofs.YtdmjhgogljhfkaaGreatDoorW.PrintMore
attribute [local go_sem] max2_int min2_int max_two min_two max_three min_three max_four min_four   -- for this text's walks alone
attribute [local go_sem] cell_in frozen_in
set_option synthInstance.maxSize 1000000
set_option synthInstance.maxHeartbeats 2000000
set_option linter.unusedVariables false
set_option linter.unusedSimpArgs false

/-! ### spec_Steps: function 152 -/
mutual
def spec_Steps.j0 : Nat → List (S163) → List (S163) → List ByteArray → Bool → Option ((List (S163)) × Bool)
 | 0, _, _, _, _ => none
 | k + 1, x4, x5, x6, x31 => if x31 = true then (some (x4, false)) else (spec_Steps.l0 k x4 x5 x6 0 1)
def spec_Steps.l0 : Nat → List (S163) → List (S163) → List ByteArray → Int → Int → Option ((List (S163)) × Bool)
 | 0, _, _, _, _, _ => none
 | k + 1, x4, x5, x6, x7, x8 => if x8 < (x6.length : Int) then (if 0 ≤ x8 then ((spec_l2Cut.f k (rdOf ByteArray.empty x6 x8) 124).bind fun bt221 => ((spec_Number.f k bt221.1).bind fun bt224 => ((spec_TxsOf.f k bt221.2.1).bind fun bt226 => (if bt221.2.2 = true then (if bt224.2 = true then (if bt226.2 = true then (if bt224.1 ≤ x7 then (some (x4, false)) else (if bt224.1 > 60 then (some (x4, false)) else (if (bt226.1.length : Int) > 2 then (some (x4, false)) else (if x5.length < 4398046511104 then (spec_Steps.l0 k x4 (x5 ++ [(⟨bt224.1, bt226.1⟩ : S163)]) x6 bt224.1 (wrap64 (x8 + 1))) else (none))))) else (some (x4, false))) else (some (x4, false))) else (some (x4, false)))))) else (none)) else (some (x5, true))
end
def spec_Steps.f (k : Nat) (a0 : ByteArray) : Option ((List (S163)) × Bool) := (some (([] : List (S163)) : List (S163))).bind fun y210 => ((some (([] : List (S163)) : List (S163))).bind fun y213 => (if a0.toList = ([] : List UInt8) then (some (y213, true)) else ((spec_Split.f k a0 47).bind fun t216 => (if 0 < (t216.length : Int) then (if (rdOf ByteArray.empty t216 0).toList = ([] : List UInt8) then (spec_Steps.j0 k y210 y213 t216 (decide ((t216.length : Int) > 31))) else (spec_Steps.j0 k y210 y213 t216 true)) else (none)))))
theorem spec_Steps.mono_l : ∀ k, (∀ y0 y1 y2 y3, LeO (spec_Steps.j0 k y0 y1 y2 y3) (spec_Steps.j0 (k + 1) y0 y1 y2 y3)) ∧ (∀ y0 y1 y2 y3 y4, LeO (spec_Steps.l0 k y0 y1 y2 y3 y4) (spec_Steps.l0 (k + 1) y0 y1 y2 y3 y4))
 | 0 => ⟨fun _ _ _ _ r h => by simp [spec_Steps.j0] at h, fun _ _ _ _ _ r h => by simp [spec_Steps.l0] at h⟩
 | k + 1 => by
  obtain ⟨ih0, ih1⟩ := spec_Steps.mono_l k
  refine ⟨?_, ?_⟩
  ·
   intro y0 y1 y2 y3
   unfold spec_Steps.j0
   repeat' first | (with_reducible exact ih0 _ _ _ _) | (with_reducible exact ih1 _ _ _ _ _) | (with_reducible exact spec_Number.mono _ _) | (with_reducible exact spec_Split.mono _ _ _) | (with_reducible exact spec_TxsOf.mono _ _) | (with_reducible exact spec_l2Cut.mono _ _ _) | (with_reducible exact LeO.refl _) | (with_reducible exact LeO.none _) | (with_reducible refine LeO.ite ?_ ?_) | (with_reducible refine LeO.bind ?_ (fun _ => ?_))
  intro y0 y1 y2 y3 y4
  unfold spec_Steps.l0
  repeat' first | (with_reducible exact ih0 _ _ _ _) | (with_reducible exact ih1 _ _ _ _ _) | (with_reducible exact spec_Number.mono _ _) | (with_reducible exact spec_Split.mono _ _ _) | (with_reducible exact spec_TxsOf.mono _ _) | (with_reducible exact spec_l2Cut.mono _ _ _) | (with_reducible exact LeO.refl _) | (with_reducible exact LeO.none _) | (with_reducible refine LeO.ite ?_ ?_) | (with_reducible refine LeO.bind ?_ (fun _ => ?_))
theorem spec_Steps.mono : ∀ a0 k, LeO (spec_Steps.f k a0) (spec_Steps.f (k + 1) a0) := by
 intro a0 k
 obtain ⟨ih0, ih1⟩ := spec_Steps.mono_l k
 unfold spec_Steps.f
 repeat' first | (with_reducible exact ih0 _ _ _ _) | (with_reducible exact ih1 _ _ _ _ _) | (with_reducible exact spec_Number.mono _ _) | (with_reducible exact spec_Split.mono _ _ _) | (with_reducible exact spec_TxsOf.mono _ _) | (with_reducible exact spec_l2Cut.mono _ _ _) | (with_reducible exact LeO.refl _) | (with_reducible exact LeO.none _) | (with_reducible refine LeO.ite ?_ ?_) | (with_reducible refine LeO.bind ?_ (fun _ => ?_))
set_option maxHeartbeats 8000000 in
set_option maxRecDepth 100000 in
theorem spec_Steps.calls (k : Nat) (a0 : ByteArray) (r1 : List (S163)) (r2 : Bool) (w : World) (h : spec_Steps.f k a0 = some (r1, r2)) :
  Calls Tryz.prog 152 #[.string a0] w fun e w' => ∃ v0_ : Value, e = .returned (.tuple #[v0_, .bool r2]) ∧ Kd.S k163 163 w' w.heap.size (fun _ => True) v0_ r1 ∧ Below w.heap.size w w' := by
 have hu163 := Tryz.underlying163; have HB := Aside0.mk (Below.refl w.heap.size w)
 have H := h; unfold spec_Steps.f at H
 clear h; obtain ⟨y210, hy210⟩ : ∃ y_ : List (S163), y_ = (([] : List (S163))) := ⟨_, rfl⟩
 replace H : ((some (([] : List (S163)) : List (S163))).bind fun y213 => (if a0.toList = ([] : List UInt8) then (some (y213, true)) else ((spec_Split.f k a0 47).bind fun t216 => (if 0 < (t216.length : Int) then (if (rdOf ByteArray.empty t216 0).toList = ([] : List UInt8) then (spec_Steps.j0 k y210 y213 t216 (decide ((t216.length : Int) > 31))) else (spec_Steps.j0 k y210 y213 t216 true)) else (none))))) = some (r1, r2) := by first | (rw [hy210]; with_reducible exact H) | (have H2_ := (Option.bind_some _ _).symm.trans H; rw [hy210]; with_reducible exact H2_) | (have H2_ := (Option.bind_some _ _).symm.trans H; with_reducible exact H2_) | with_reducible exact H | (rw [hy210]; exact H) | exact H
 have Ny210 := Aside0.mk hy210; clear hy210; obtain ⟨y213, hy213⟩ : ∃ y_ : List (S163), y_ = (([] : List (S163))) := ⟨_, rfl⟩
 replace H : (if a0.toList = ([] : List UInt8) then (some (y213, true)) else ((spec_Split.f k a0 47).bind fun t216 => (if 0 < (t216.length : Int) then (if (rdOf ByteArray.empty t216 0).toList = ([] : List UInt8) then (spec_Steps.j0 k y210 y213 t216 (decide ((t216.length : Int) > 31))) else (spec_Steps.j0 k y210 y213 t216 true)) else (none)))) = some (r1, r2) := by first | (rw [hy213]; with_reducible exact H) | (have H2_ := (Option.bind_some _ _).symm.trans H; rw [hy213]; with_reducible exact H2_) | (have H2_ := (Option.bind_some _ _).symm.trans H; with_reducible exact H2_) | with_reducible exact H | (rw [hy213]; exact H) | exact H
 have Ny213 := Aside0.mk hy213; clear hy213
 by_cases c2 : a0.toList = ([] : List UInt8)
 ·
  rw [if_pos c2] at H
  have c2b0 : (a0.toList == ([] : List UInt8)) = true := beq_iff_eq.mpr c2; have c2b1 : (a0.toList != ([] : List UInt8)) = false := bne_eq_false_iff_eq.mpr c2; clear c2
  simp only [Option.some.injEq, Prod.mk.injEq] at H
  obtain ⟨rfl, rfl⟩ := H
  go_enter Tryz.func152, Tryz.ntmps152
  go_wp2_with (first | ((with_reducible refine gate_dst (N := 16) rfl ?_); (try (refine gate_guard (by rfl) ?_; dsimp only)); refine Kd.S_lit k163 _ 163 ?hg (N := 16) ?hd (xs := ([] : List (S163))) (inner := []) (ok := fun _ => True) (okp := fun _ => True) ?hr ?hp (fun _ hk => hk) trivial (Below.refl _ _) (Nat.le_refl _) (by simp) ?_; (case hd => rfl); (case hg => rfl); (case hr => first | (go_simp; done) | (go_simp; rfl)); (case hp => exact (Reps.none _ _)); intro v211 w3 ho4 hb hg_ hnew_; clear hg_ hnew_; (first | rw [← Ny210.out] at ho4 | (simp only [Int.reduceToNat] at ho4; rw [← Ny210.out] at ho4)); have HO212 := Aside0.mk (Kd.S_lower ho4 (below_size (bI HB.out))); replace HB := bs HB hb; clear hb ho4) | ((with_reducible refine gate_dst (N := 17) rfl ?_); (try (refine gate_guard (by rfl) ?_; dsimp only)); refine Kd.S_lit k163 _ 163 ?hg (N := 17) ?hd (xs := ([] : List (S163))) (inner := []) (ok := fun _ => True) (okp := fun _ => True) ?hr ?hp (fun _ hk => hk) trivial (Below.refl _ _) (Nat.le_refl _) (by simp) ?_; (case hd => rfl); (case hg => rfl); (case hr => first | (go_simp; done) | (go_simp; rfl)); (case hp => exact (Reps.none _ _)); intro v214 w5 ho6 hb hg_ hnew_; clear hg_ hnew_; (first | rw [← Ny213.out] at ho6 | (simp only [Int.reduceToNat] at ho6; rw [← Ny213.out] at ho6)); have HO215 := Aside0.mk (Kd.S_lower (Kd.S_new' ho6 (Kd.S_lt (sI HO212.out))) (below_size (bI HB.out))); replace HO212 := Aside0.mk (Kd.S_elder' (sI HO212.out) (Kd.S_base ho6) hb); replace HB := bs HB hb; clear hb ho6))
  go_ret2
  exact ⟨_, y0_11, by (with_reducible repeat (first | apply Kd.S_alloc | apply Kd.S_drewN | apply Kd.S_drew)); exact Kd.S_mono HO215.out (fun _ hk => trivial), bI HB.out⟩
 rw [if_neg c2] at H
 have c2b0 : (a0.toList == ([] : List UInt8)) = false := beq_eq_false_iff_ne.mpr c2; have c2b1 : (a0.toList != ([] : List UInt8)) = true := bne_iff_ne.mpr c2; obtain ⟨t216, A7, H⟩ := oB H; (try dsimp only at H); have HC8 := Aside0.mk H; clear H
 go_enter Tryz.func152, Tryz.ntmps152
 go_upto_region 6 with (first | ((with_reducible refine gate_dst (N := 16) rfl ?_); (try (refine gate_guard (by rfl) ?_; dsimp only)); refine Kd.S_lit k163 _ 163 ?hg (N := 16) ?hd (xs := ([] : List (S163))) (inner := []) (ok := fun _ => True) (okp := fun _ => True) ?hr ?hp (fun _ hk => hk) trivial (Below.refl _ _) (Nat.le_refl _) (by simp) ?_; (case hd => rfl); (case hg => rfl); (case hr => first | (go_simp; done) | (go_simp; rfl)); (case hp => exact (Reps.none _ _)); intro v211 w9 ho10 hb hg_ hnew_; clear hg_ hnew_; (first | rw [← Ny210.out] at ho10 | (simp only [Int.reduceToNat] at ho10; rw [← Ny210.out] at ho10)); have HO212 := Aside0.mk (Kd.S_lower ho10 (below_size (bI HB.out))); replace HB := bs HB hb; clear hb ho10) | ((with_reducible refine gate_dst (N := 17) rfl ?_); (try (refine gate_guard (by rfl) ?_; dsimp only)); refine Kd.S_lit k163 _ 163 ?hg (N := 17) ?hd (xs := ([] : List (S163))) (inner := []) (ok := fun _ => True) (okp := fun _ => True) ?hr ?hp (fun _ hk => hk) trivial (Below.refl _ _) (Nat.le_refl _) (by simp) ?_; (case hd => rfl); (case hg => rfl); (case hr => first | (go_simp; done) | (go_simp; rfl)); (case hp => exact (Reps.none _ _)); intro v214 w11 ho12 hb hg_ hnew_; clear hg_ hnew_; (first | rw [← Ny213.out] at ho12 | (simp only [Int.reduceToNat] at ho12; rw [← Ny213.out] at ho12)); have HO215 := Aside0.mk (Kd.S_lower (Kd.S_new' ho12 (Kd.S_lt (sI HO212.out))) (below_size (bI HB.out))); replace HO212 := Aside0.mk (Kd.S_elder' (sI HO212.out) (Kd.S_base ho12) hb); replace HB := bs HB hb; clear hb ho12) | ((with_reducible refine gate_callee (f := 178) rfl ?_); refine gB (some 22) Tryz.func178 #[.string a0, .int .u8 47] ?_; (with_reducible refine (spec_Split.calls k a0 47 t216 _ A7.out).mono ?_); rintro e w13 ⟨v217, rfl, ho0, hb⟩; refine ⟨_, rfl, ?_⟩; replace HO212 := sb HO212 hb; replace HO215 := sb HO215 hb; have HO218 := Aside0.mk (Kd.R_lower ho0 (below_size (bI HB.out))); replace HB := bs HB hb; (try clear hb); (try clear ho0)))
 (try simp only [Act.put, List.setIfInBounds_toArray, List.set_cons_zero, List.set_cons_succ])
 go_cut [31] (fun v31 wc => ∃ (kq : Nat) (x31_7 : Bool), v31 = .bool x31_7 ∧ Aside0 (spec_Steps.j0 kq y210 y213 t216 x31_7 = some (r1, r2)) ∧ Aside0 (kq ≤ k) ∧ Aside0 (Kd.S k163 163 wc w.heap.size (fun k_ => some k_ ≠ (v214 : Value).ownBlock) v211 y210) ∧ Aside0 (Kd.S k163 163 wc w.heap.size (fun k_ => some k_ ≠ (v211 : Value).ownBlock) v214 y213) ∧ Aside0 (Kd.R Kd.string 9 wc w.heap.size (fun _ => True) v217 t216) ∧ Aside0 (Below w.heap.size w wc))
 case first =>
  have H := HC8.out; clear HC8
  by_cases c14 : 0 < (t216.length : Int)
  rotate_left
  ·
   rw [if_neg c14] at H
   exact absurd H (by simp)
  rw [if_pos c14] at H
  have c14b0 : decide (0 < (t216.length : Int)) = true := decide_eq_true c14
  have c14b1 : decide (0 < t216.length) = true := decide_eq_true (by omega)
  clear c14
  (first | rw [c14b0] | (simp only [i64_w, i32_w]; rw [c14b0]) | skip)
  by_cases c15 : (rdOf ByteArray.empty t216 0).toList = ([] : List UInt8)
  ·
   rw [if_pos c15] at H
   have c15b0 : ((rdOf ByteArray.empty t216 0).toList == ([] : List UInt8)) = true := beq_iff_eq.mpr c15; have c15b1 : ((rdOf ByteArray.empty t216 0).toList != ([] : List UInt8)) = false := bne_eq_false_iff_eq.mpr c15; clear c15; have H' := Aside0.mk H; clear H; obtain ⟨Ao16, co16, eo16⟩ := Kd.R_slice HO218.out; subst eo16
   have p219 : 0 ≤ (0 : Int) := (by omega)
   have q219 : 0 < (t216.length : Int) := of_decide_eq_true y0_16; obtain ⟨ad219, e219, hx219_0⟩ := Kd.at_string (Kd.R_reads' HO218.out).2.2 0 p219 q219; cases e219
   have qi219 : (0 < t216.length) = True := eq_true (by omega)
   (try rw [show ((0 : Int)).toNat = 0 from rfl] at hx219_0)
   (try rw [Addr.add_zero'] at hx219_0)
   replace p219 := eq_true p219; replace q219 := eq_true q219
   go_wp2
   go_meet
   case rel => exact ⟨_, (decide ((t216.length : Int) > 31)), y0_17, H', ⟨y0_18⟩, ⟨by (with_reducible repeat (first | apply Kd.S_alloc | apply Kd.S_drewN | apply Kd.S_drew)); exact Kd.S_mono HO212.out (fun _ hk => hk.2)⟩, ⟨by (with_reducible repeat (first | apply Kd.S_alloc | apply Kd.S_drewN | apply Kd.S_drew)); exact Kd.S_mono HO215.out (fun _ hk => hk.2)⟩, ⟨by (with_reducible repeat (first | apply Kd.R_alloc | apply Kd.R_drewN | apply Kd.R_drew)); exact HO218.out⟩, ⟨bI HB.out⟩⟩
  rw [if_neg c15] at H
  have c15b0 : ((rdOf ByteArray.empty t216 0).toList == ([] : List UInt8)) = false := beq_eq_false_iff_ne.mpr c15; have c15b1 : ((rdOf ByteArray.empty t216 0).toList != ([] : List UInt8)) = true := bne_iff_ne.mpr c15; have H' := Aside0.mk H; clear H; obtain ⟨Ao17, co17, eo17⟩ := Kd.R_slice HO218.out; subst eo17
  have p219 : 0 ≤ (0 : Int) := (by omega)
  have q219 : 0 < (t216.length : Int) := of_decide_eq_true y0_16; obtain ⟨ad219, e219, hx219_0⟩ := Kd.at_string (Kd.R_reads' HO218.out).2.2 0 p219 q219; cases e219
  have qi219 : (0 < t216.length) = True := eq_true (by omega)
  (try rw [show ((0 : Int)).toNat = 0 from rfl] at hx219_0)
  (try rw [Addr.add_zero'] at hx219_0)
  replace p219 := eq_true p219; replace q219 := eq_true q219
  go_wp2
  go_meet
  case rel => exact ⟨_, (true), y0_17, H', ⟨y0_18⟩, ⟨by (with_reducible repeat (first | apply Kd.S_alloc | apply Kd.S_drewN | apply Kd.S_drew)); exact Kd.S_mono HO212.out (fun _ hk => hk.2)⟩, ⟨by (with_reducible repeat (first | apply Kd.S_alloc | apply Kd.S_drewN | apply Kd.S_drew)); exact Kd.S_mono HO215.out (fun _ hk => hk.2)⟩, ⟨by (with_reducible repeat (first | apply Kd.R_alloc | apply Kd.R_drewN | apply Kd.R_drew)); exact HO218.out⟩, ⟨bI HB.out⟩⟩
 case rest =>
  clear HC8
  try clear c1
  try clear c2
  try clear c2b0
  try clear c2b1
  try clear p2
  try clear q2
  try clear hx2
  try clear qi2
  try clear c14
  try clear c14b0
  try clear c14b1
  try clear c15
  try clear c15b0
  try clear c15b1
  try clear c17
  try clear hx219_0
  try clear p219
  try clear q219
  obtain ⟨kq, x31_7, rfl, HA, HJ7, HO_4, HO_5, HO_6, HB⟩ := hcut; cases kq with
  | zero => exact absurd HA.out (by simp [spec_Steps.j0])
  | succ kj7 =>
   have H := HA.out; clear HA
   simp only [spec_Steps.j0] at H
   by_cases c18 : x31_7 = true
   ·
    subst c18
    rw [if_pos rfl] at H
    simp only [Option.some.injEq, Prod.mk.injEq] at H
    obtain ⟨rfl, rfl⟩ := H
    go_wp2
    go_ret2
    exact ⟨_, y0_11, y0_4, bI HB.out⟩
   replace c18 := Bool.eq_false_iff.mpr c18; subst c18
   rw [if_neg (show ¬ (false = true) by decide)] at H
   have H' := Aside0.mk H; clear H
   go_wp2
   go_loopg [5, 7, 8] kj7 (fun kq v5 v7 v8 w' => ∃ (x5_2 : List (S163)) (x7_2 : Int) (x8_2 : Int), v7 = .int .i64 x7_2 ∧ v8 = .int .i64 x8_2 ∧ Aside0 (spec_Steps.l0 kq y210 x5_2 t216 x7_2 x8_2 = some (r1, r2)) ∧ Aside0 (kq ≤ kj7) ∧ Aside0 (Kd.S k163 163 w' w.heap.size (fun k_ => some k_ ≠ (v5 : Value).ownBlock) v211 y210) ∧ Aside0 (Kd.S k163 163 w' w.heap.size (fun k_ => some k_ ≠ (v211 : Value).ownBlock) v5 x5_2) ∧ Aside0 (Kd.R Kd.string 9 w' w.heap.size (fun _ => True) v217 t216) ∧ Aside0 (Below w.heap.size w w'))
   case atStart => exact ⟨(y213), (0), (1), y0_17, y0_17, H', ⟨Nat.le_refl _⟩, ⟨by (with_reducible repeat (first | apply Kd.S_alloc | apply Kd.S_drewN | apply Kd.S_drew)); exact HO_4.out⟩, ⟨by (with_reducible repeat (first | apply Kd.S_alloc | apply Kd.S_drewN | apply Kd.S_drew)); exact HO_5.out⟩, ⟨by (with_reducible repeat (first | apply Kd.R_alloc | apply Kd.R_drewN | apply Kd.R_drew)); exact HO_6.out⟩, ⟨bI HB.out⟩⟩
   case round =>
    clear H'
    try clear c1
    try clear c2
    try clear c2b0
    try clear c2b1
    try clear p2
    try clear q2
    try clear hx2
    try clear qi2
    try clear c14
    try clear c14b0
    try clear c14b1
    try clear c15
    try clear c15b0
    try clear c15b1
    try clear c17
    try clear c18
    try clear hx219_0
    try clear p2
    try clear p219
    try clear q2
    try clear q219
    obtain ⟨x5_2, x7_2, x8_2, rfl, rfl, HA, HK2, HO_4, HO_5, HO_6, HB⟩ := hrel; cases gk with
    | zero => exact absurd HA.out (by simp [spec_Steps.l0])
    | succ k2 =>
     have H := HA.out; clear HA
     simp only [spec_Steps.l0] at H
     by_cases c19 : x8_2 < (t216.length : Int)
     ·
      rw [if_pos c19] at H
      have c19b0 : decide (x8_2 < (t216.length : Int)) = true := decide_eq_true c19; clear c19
      by_cases c20 : 0 ≤ x8_2
      rotate_left
      ·
       rw [if_neg c20] at H
       exact absurd H (by simp)
      rw [if_pos c20] at H
      have c20b0 : decide (0 ≤ x8_2) = true := decide_eq_true c20; clear c20; obtain ⟨⟨t221, t222, t223⟩, A21, H⟩ := oB H; (try dsimp only at H); obtain ⟨⟨t224, t225⟩, A22, H⟩ := oB H; (try dsimp only at H); obtain ⟨⟨t226, t227⟩, A23, H⟩ := oB H; (try dsimp only at H)
      by_cases c24 : t223 = true
      ·
       subst c24
       rw [if_pos rfl] at H
       by_cases c25 : t225 = true
       ·
        subst c25
        rw [if_pos rfl] at H
        by_cases c26 : t227 = true
        ·
         subst c26
         rw [if_pos rfl] at H
         by_cases c27 : t224 ≤ x7_2
         ·
          rw [if_pos c27] at H
          have c27b0 : decide (t224 ≤ x7_2) = true := decide_eq_true c27; clear c27
          simp only [Option.some.injEq, Prod.mk.injEq] at H
          obtain ⟨rfl, rfl⟩ := H; obtain ⟨Ao28, co28, eo28⟩ := Kd.R_slice HO_6.out; subst eo28; have p220 : 0 ≤ (x8_2 : Int) := of_decide_eq_true y0_16; have q220 : x8_2 < (t216.length : Int) := of_decide_eq_true y0_16; obtain ⟨ad220, e220, hx220_0⟩ := Kd.at_string (Kd.R_reads' HO_6.out).2.2 x8_2 p220 q220; cases e220; replace p220 := eq_true p220; replace q220 := eq_true q220
          go_wp2_with (first | ((with_reducible refine gate_callee (f := 179) rfl ?_); refine gB (some 44) Tryz.func179 #[.string (rdOf ByteArray.empty t216 x8_2), .int .u8 124] ?_; (with_reducible refine (spec_l2Cut.calls k2 (rdOf ByteArray.empty t216 x8_2) 124 t221 t222 true _ A21.out).mono ?_); rintro e w' ⟨rfl, ⟨nd, rfl⟩⟩; refine ⟨_, rfl, ?_⟩) | ((with_reducible refine gate_callee (f := 180) rfl ?_); refine gB (some 50) Tryz.func180 #[.string t221] ?_; (with_reducible refine (spec_Number.calls k2 t221 t224 true _ A22.out).mono ?_); rintro e w29 ⟨rfl, hb⟩; refine ⟨_, rfl, ?_⟩; replace HO_4 := sb HO_4 hb; replace HO_5 := sb HO_5 hb; replace HO_6 := rb HO_6 hb; replace HB := bs HB hb; (try clear hb); (try clear hb2); (try clear hk); (try clear hi)) | ((with_reducible refine gate_callee (f := 181) rfl ?_); refine gB (some 55) Tryz.func181 #[.string t222] ?_; (with_reducible refine (spec_TxsOf.calls k2 t222 t226 true _ A23.out).mono ?_); rintro e w30 ⟨v228, rfl, ho0, hb⟩; refine ⟨_, rfl, ?_⟩; replace HO_4 := Aside0.mk (Kd.S_elder' (sI HO_4.out) (Kd.R_base ho0) hb); replace HO_5 := Aside0.mk (Kd.S_elder' (sI HO_5.out) (Kd.R_base ho0) hb); replace HO_6 := rb HO_6 hb; have HO229 := Aside0.mk (Kd.R_lower ho0 (below_size (bI HB.out))); replace HB := bs HB hb; (try clear hb)))
          go_ret2
          exact ⟨_, y0_11, y0_4, bI HB.out⟩
         rw [if_neg c27] at H
         have c27b0 : decide (t224 ≤ x7_2) = false := decide_eq_false c27; clear c27
         by_cases c31 : t224 > 60
         ·
          rw [if_pos c31] at H
          have c31b0 : decide (60 < t224) = true := decide_eq_true c31; clear c31
          simp only [Option.some.injEq, Prod.mk.injEq] at H
          obtain ⟨rfl, rfl⟩ := H; obtain ⟨Ao32, co32, eo32⟩ := Kd.R_slice HO_6.out; subst eo32; have p220 : 0 ≤ (x8_2 : Int) := of_decide_eq_true y0_16; have q220 : x8_2 < (t216.length : Int) := of_decide_eq_true y0_16; obtain ⟨ad220, e220, hx220_0⟩ := Kd.at_string (Kd.R_reads' HO_6.out).2.2 x8_2 p220 q220; cases e220; replace p220 := eq_true p220; replace q220 := eq_true q220
          go_wp2_with (first | ((with_reducible refine gate_callee (f := 179) rfl ?_); refine gB (some 44) Tryz.func179 #[.string (rdOf ByteArray.empty t216 x8_2), .int .u8 124] ?_; (with_reducible refine (spec_l2Cut.calls k2 (rdOf ByteArray.empty t216 x8_2) 124 t221 t222 true _ A21.out).mono ?_); rintro e w' ⟨rfl, ⟨nd, rfl⟩⟩; refine ⟨_, rfl, ?_⟩) | ((with_reducible refine gate_callee (f := 180) rfl ?_); refine gB (some 50) Tryz.func180 #[.string t221] ?_; (with_reducible refine (spec_Number.calls k2 t221 t224 true _ A22.out).mono ?_); rintro e w33 ⟨rfl, hb⟩; refine ⟨_, rfl, ?_⟩; replace HO_4 := sb HO_4 hb; replace HO_5 := sb HO_5 hb; replace HO_6 := rb HO_6 hb; replace HB := bs HB hb; (try clear hb); (try clear hb2); (try clear hk); (try clear hi)) | ((with_reducible refine gate_callee (f := 181) rfl ?_); refine gB (some 55) Tryz.func181 #[.string t222] ?_; (with_reducible refine (spec_TxsOf.calls k2 t222 t226 true _ A23.out).mono ?_); rintro e w34 ⟨v228, rfl, ho0, hb⟩; refine ⟨_, rfl, ?_⟩; replace HO_4 := Aside0.mk (Kd.S_elder' (sI HO_4.out) (Kd.R_base ho0) hb); replace HO_5 := Aside0.mk (Kd.S_elder' (sI HO_5.out) (Kd.R_base ho0) hb); replace HO_6 := rb HO_6 hb; have HO229 := Aside0.mk (Kd.R_lower ho0 (below_size (bI HB.out))); replace HB := bs HB hb; (try clear hb)))
          go_ret2
          exact ⟨_, y0_11, y0_4, bI HB.out⟩
         rw [if_neg c31] at H
         have c31b0 : decide (60 < t224) = false := decide_eq_false c31; clear c31
         by_cases c35 : (t226.length : Int) > 2
         ·
          rw [if_pos c35] at H
          have c35b0 : decide (2 < (t226.length : Int)) = true := decide_eq_true c35
          have c35b1 : decide (2 < t226.length) = true := decide_eq_true (by omega)
          clear c35
          simp only [Option.some.injEq, Prod.mk.injEq] at H
          obtain ⟨rfl, rfl⟩ := H; obtain ⟨Ao36, co36, eo36⟩ := Kd.R_slice HO_6.out; subst eo36; have p220 : 0 ≤ (x8_2 : Int) := of_decide_eq_true y0_16; have q220 : x8_2 < (t216.length : Int) := of_decide_eq_true y0_16; obtain ⟨ad220, e220, hx220_0⟩ := Kd.at_string (Kd.R_reads' HO_6.out).2.2 x8_2 p220 q220; cases e220; replace p220 := eq_true p220; replace q220 := eq_true q220
          go_wp2_with (first | ((with_reducible refine gate_callee (f := 179) rfl ?_); refine gB (some 44) Tryz.func179 #[.string (rdOf ByteArray.empty t216 x8_2), .int .u8 124] ?_; (with_reducible refine (spec_l2Cut.calls k2 (rdOf ByteArray.empty t216 x8_2) 124 t221 t222 true _ A21.out).mono ?_); rintro e w' ⟨rfl, ⟨nd, rfl⟩⟩; refine ⟨_, rfl, ?_⟩) | ((with_reducible refine gate_callee (f := 180) rfl ?_); refine gB (some 50) Tryz.func180 #[.string t221] ?_; (with_reducible refine (spec_Number.calls k2 t221 t224 true _ A22.out).mono ?_); rintro e w37 ⟨rfl, hb⟩; refine ⟨_, rfl, ?_⟩; replace HO_4 := sb HO_4 hb; replace HO_5 := sb HO_5 hb; replace HO_6 := rb HO_6 hb; replace HB := bs HB hb; (try clear hb); (try clear hb2); (try clear hk); (try clear hi)) | ((with_reducible refine gate_callee (f := 181) rfl ?_); refine gB (some 55) Tryz.func181 #[.string t222] ?_; (with_reducible refine (spec_TxsOf.calls k2 t222 t226 true _ A23.out).mono ?_); rintro e w38 ⟨v228, rfl, ho0, hb⟩; refine ⟨_, rfl, ?_⟩; replace HO_4 := Aside0.mk (Kd.S_elder' (sI HO_4.out) (Kd.R_base ho0) hb); replace HO_5 := Aside0.mk (Kd.S_elder' (sI HO_5.out) (Kd.R_base ho0) hb); replace HO_6 := rb HO_6 hb; have HO229 := Aside0.mk (Kd.R_lower ho0 (below_size (bI HB.out))); replace HB := bs HB hb; (try clear hb); obtain ⟨Ao39, co39, eo39⟩ := Kd.R_slice HO229.out; subst eo39))
          go_ret2
          exact ⟨_, y0_11, y0_4, bI HB.out⟩
         rw [if_neg c35] at H
         have c35b0 : decide (2 < (t226.length : Int)) = false := decide_eq_false c35
         have c35b1 : decide (2 < t226.length) = false := decide_eq_false (by omega)
         clear c35
         by_cases c40 : x5_2.length < 4398046511104
         rotate_left
         ·
          rw [if_neg c40] at H
          exact absurd H (by simp)
         rw [if_pos c40] at H
         have LMc40 := Aside0.mk c40; clear c40; obtain ⟨y230, hy230⟩ : ∃ y_ : List (S163), y_ = (x5_2 ++ [(⟨t224, t226⟩ : S163)]) := ⟨_, rfl⟩
         replace H : (spec_Steps.l0 k2 y210 y230 t216 t224 (wrap64 (x8_2 + 1))) = some (r1, r2) := by first | (rw [hy230]; with_reducible exact H) | (have H2_ := (Option.bind_some _ _).symm.trans H; rw [hy230]; with_reducible exact H2_) | (have H2_ := (Option.bind_some _ _).symm.trans H; with_reducible exact H2_) | with_reducible exact H | (rw [hy230]; exact H) | exact H
         have Ny230 := Aside0.mk hy230; clear hy230; have H' := Aside0.mk H; clear H; obtain ⟨Ao41, co41, eo41⟩ := Kd.R_slice HO_6.out; subst eo41; have p220 : 0 ≤ (x8_2 : Int) := of_decide_eq_true y0_16; have q220 : x8_2 < (t216.length : Int) := of_decide_eq_true y0_16; obtain ⟨ad220, e220, hx220_0⟩ := Kd.at_string (Kd.R_reads' HO_6.out).2.2 x8_2 p220 q220; cases e220; replace p220 := eq_true p220; replace q220 := eq_true q220
         go_wp2_with (first | ((with_reducible refine gate_callee (f := 179) rfl ?_); refine gB (some 44) Tryz.func179 #[.string (rdOf ByteArray.empty t216 x8_2), .int .u8 124] ?_; (with_reducible refine (spec_l2Cut.calls k2 (rdOf ByteArray.empty t216 x8_2) 124 t221 t222 true _ A21.out).mono ?_); rintro e w' ⟨rfl, ⟨nd, rfl⟩⟩; refine ⟨_, rfl, ?_⟩) | ((with_reducible refine gate_callee (f := 180) rfl ?_); refine gB (some 50) Tryz.func180 #[.string t221] ?_; (with_reducible refine (spec_Number.calls k2 t221 t224 true _ A22.out).mono ?_); rintro e w42 ⟨rfl, hb⟩; refine ⟨_, rfl, ?_⟩; replace HO_4 := sb HO_4 hb; replace HO_5 := sb HO_5 hb; replace HO_6 := rb HO_6 hb; replace HB := bs HB hb; (try clear hb); (try clear hb2); (try clear hk); (try clear hi)) | ((with_reducible refine gate_callee (f := 181) rfl ?_); refine gB (some 55) Tryz.func181 #[.string t222] ?_; (with_reducible refine (spec_TxsOf.calls k2 t222 t226 true _ A23.out).mono ?_); rintro e w43 ⟨v228, rfl, ho0, hb⟩; refine ⟨_, rfl, ?_⟩; replace HO_4 := Aside0.mk (Kd.S_elder' (sI HO_4.out) (Kd.R_base ho0) hb); replace HO_5 := Aside0.mk (Kd.S_elder' (sI HO_5.out) (Kd.R_base ho0) hb); replace HO_6 := rb HO_6 hb; have HO229 := Aside0.mk (Kd.R_lower ho0 (below_size (bI HB.out))); replace HB := bs HB hb; (try clear hb); obtain ⟨Ao44, co44, eo44⟩ := Kd.R_slice HO229.out; subst eo44) | ((with_reducible refine gate_builtin (b := .append) (xs := #[.tmp 84, .tmp 88]) rfl ?_); (try (refine gate_guard (by rfl) ?_; dsimp only)); at_builtin; refine Kd.S_append k163 (w0 := w) w.heap.size rfl (.tmp 84) (.tmp 88) 159 163 (.agg #[(.int .i64 0), (.slice none 0 0)]) 32 rfl Tryz.underlying159 info163 rfl (by decide) (by omega) u5 x5_2 (⟨t224, t226⟩ : S163) [.int .i64 t224, .slice Ao44 t226.length co44] (fun k_ => some k_ ≠ (v211 : Value).ownBlock) (fun k_ => some k_ = (.slice Ao44 t226.length co44 : Value).ownBlock) rfl rfl ?aP (fun k_ hk_ => ((Kd.R_mono (ok' := fun k_ => ((fun k_ => some k_ ≠ (v211 : Value).ownBlock)) k_ ∧ some k_ ≠ (u5 : Value).ownBlock) (Kd.R_apart' (Kd.R_apart' (HO229.out) (Kd.S_typed HO_4.out) (by decide)) (Kd.S_typed HO_5.out) (by decide)) (fun k_ hk => ⟨hk.1.2, hk.2⟩))).1 k_ hk_.symm) ?aF ?aO ?aB ?aS ?aL ?_; (case aP => exact k163_mkM _ _ _ (⟨t224, t226⟩ : S163) (Kd.R_mono (Kd.R_tight rfl (Kd.R_mono (ok' := fun k_ => ((fun k_ => some k_ ≠ (v211 : Value).ownBlock)) k_ ∧ some k_ ≠ (u5 : Value).ownBlock) (Kd.R_apart' (Kd.R_apart' (HO229.out) (Kd.S_typed HO_4.out) (by decide)) (Kd.S_typed HO_5.out) (by decide)) (fun k_ hk => ⟨hk.1.2, hk.2⟩))) (fun _ h_ => h_))); (case aB => exact (bI HB.out)); (case aF => exact (fun k_ hk => Kd.fresh' (Kd.S_lt (sI HO_4.out)) k_ hk)); (case aO => exact (sI (Kd.S_mono HO_5.out (fun k_ hk => ⟨hk.1, fun e_ => hk.2 e_⟩)))); (case aS => exact (below_size (bI HB.out))); (case aL => have := LMc40.out; omega); intro v231 w45 ho hb hg hat; rw [← Ny230.out] at ho; have n0_ := Aside0.mk (Kd.S_after (ok := (fun k_ => some k_ ≠ (.slice Ao44 t226.length co44 : Value).ownBlock)) (sI (Kd.S_mono HO_4.out (fun _ hk => ⟨hk.2, hk.1⟩))) hg hat); have n1_ := Aside0.mk (Kd.R_over' (rI HO_6.out) (Kd.S_typed (sI HO_5.out)) (by decide) hg); have n2_ := Aside0.mk (hb); have n3_ := Aside0.mk (ho); clear HO_4; clear HO_6; clear HB; clear HO_5; clear HO229; have HO_4 := n0_; have HO_6 := n1_; have HB := n2_; have HO232 := n3_; clear n0_ n1_ n2_ n3_; clear ho hb hg hat))
         go_roundg k2
         case measure => have := HJ7.out; have := HK2.out; omega
         case rel => exact ⟨(y230), (t224), (wrap64 (x8_2 + 1)), y0_17, y0_17, H', ⟨by have := HJ7.out; have := HK2.out; omega⟩, ⟨by (with_reducible repeat (first | apply Kd.S_alloc | apply Kd.S_drewN | apply Kd.S_drew)); exact Kd.S_mono HO_4.out (fun _ hk => hk.2)⟩, ⟨by (with_reducible repeat (first | apply Kd.S_alloc | apply Kd.S_drewN | apply Kd.S_drew)); exact HO232.out⟩, ⟨by (with_reducible repeat (first | apply Kd.R_alloc | apply Kd.R_drewN | apply Kd.R_drew)); exact HO_6.out⟩, ⟨bI HB.out⟩⟩
        replace c26 := Bool.eq_false_iff.mpr c26; subst c26
        rw [if_neg (show ¬ (false = true) by decide)] at H
        simp only [Option.some.injEq, Prod.mk.injEq] at H
        obtain ⟨rfl, rfl⟩ := H; obtain ⟨Ao46, co46, eo46⟩ := Kd.R_slice HO_6.out; subst eo46; have p220 : 0 ≤ (x8_2 : Int) := of_decide_eq_true y0_16; have q220 : x8_2 < (t216.length : Int) := of_decide_eq_true y0_16; obtain ⟨ad220, e220, hx220_0⟩ := Kd.at_string (Kd.R_reads' HO_6.out).2.2 x8_2 p220 q220; cases e220; replace p220 := eq_true p220; replace q220 := eq_true q220
        go_wp2_with (first | ((with_reducible refine gate_callee (f := 179) rfl ?_); refine gB (some 44) Tryz.func179 #[.string (rdOf ByteArray.empty t216 x8_2), .int .u8 124] ?_; (with_reducible refine (spec_l2Cut.calls k2 (rdOf ByteArray.empty t216 x8_2) 124 t221 t222 true _ A21.out).mono ?_); rintro e w' ⟨rfl, ⟨nd, rfl⟩⟩; refine ⟨_, rfl, ?_⟩) | ((with_reducible refine gate_callee (f := 180) rfl ?_); refine gB (some 50) Tryz.func180 #[.string t221] ?_; (with_reducible refine (spec_Number.calls k2 t221 t224 true _ A22.out).mono ?_); rintro e w47 ⟨rfl, hb⟩; refine ⟨_, rfl, ?_⟩; replace HO_4 := sb HO_4 hb; replace HO_5 := sb HO_5 hb; replace HO_6 := rb HO_6 hb; replace HB := bs HB hb; (try clear hb); (try clear hb2); (try clear hk); (try clear hi)) | ((with_reducible refine gate_callee (f := 181) rfl ?_); refine gB (some 55) Tryz.func181 #[.string t222] ?_; (with_reducible refine (spec_TxsOf.calls k2 t222 t226 false _ A23.out).mono ?_); rintro e w48 ⟨v228, rfl, ho0, hb⟩; refine ⟨_, rfl, ?_⟩; replace HO_4 := Aside0.mk (Kd.S_elder' (sI HO_4.out) (Kd.R_base ho0) hb); replace HO_5 := Aside0.mk (Kd.S_elder' (sI HO_5.out) (Kd.R_base ho0) hb); replace HO_6 := rb HO_6 hb; have HO229 := Aside0.mk (Kd.R_lower ho0 (below_size (bI HB.out))); replace HB := bs HB hb; (try clear hb)))
        go_ret2
        exact ⟨_, y0_11, y0_4, bI HB.out⟩
       replace c25 := Bool.eq_false_iff.mpr c25; subst c25
       rw [if_neg (show ¬ (false = true) by decide)] at H
       simp only [Option.some.injEq, Prod.mk.injEq] at H
       obtain ⟨rfl, rfl⟩ := H; obtain ⟨Ao49, co49, eo49⟩ := Kd.R_slice HO_6.out; subst eo49; have p220 : 0 ≤ (x8_2 : Int) := of_decide_eq_true y0_16; have q220 : x8_2 < (t216.length : Int) := of_decide_eq_true y0_16; obtain ⟨ad220, e220, hx220_0⟩ := Kd.at_string (Kd.R_reads' HO_6.out).2.2 x8_2 p220 q220; cases e220; replace p220 := eq_true p220; replace q220 := eq_true q220
       go_wp2_with (first | ((with_reducible refine gate_callee (f := 179) rfl ?_); refine gB (some 44) Tryz.func179 #[.string (rdOf ByteArray.empty t216 x8_2), .int .u8 124] ?_; (with_reducible refine (spec_l2Cut.calls k2 (rdOf ByteArray.empty t216 x8_2) 124 t221 t222 true _ A21.out).mono ?_); rintro e w' ⟨rfl, ⟨nd, rfl⟩⟩; refine ⟨_, rfl, ?_⟩) | ((with_reducible refine gate_callee (f := 180) rfl ?_); refine gB (some 50) Tryz.func180 #[.string t221] ?_; (with_reducible refine (spec_Number.calls k2 t221 t224 false _ A22.out).mono ?_); rintro e w50 ⟨rfl, hb⟩; refine ⟨_, rfl, ?_⟩; replace HO_4 := sb HO_4 hb; replace HO_5 := sb HO_5 hb; replace HO_6 := rb HO_6 hb; replace HB := bs HB hb; (try clear hb); (try clear hb2); (try clear hk); (try clear hi)) | ((with_reducible refine gate_callee (f := 181) rfl ?_); refine gB (some 55) Tryz.func181 #[.string t222] ?_; (with_reducible refine (spec_TxsOf.calls k2 t222 t226 t227 _ A23.out).mono ?_); rintro e w51 ⟨v228, rfl, ho0, hb⟩; refine ⟨_, rfl, ?_⟩; replace HO_4 := Aside0.mk (Kd.S_elder' (sI HO_4.out) (Kd.R_base ho0) hb); replace HO_5 := Aside0.mk (Kd.S_elder' (sI HO_5.out) (Kd.R_base ho0) hb); replace HO_6 := rb HO_6 hb; have HO229 := Aside0.mk (Kd.R_lower ho0 (below_size (bI HB.out))); replace HB := bs HB hb; (try clear hb)))
       go_ret2
       exact ⟨_, y0_11, y0_4, bI HB.out⟩
      replace c24 := Bool.eq_false_iff.mpr c24; subst c24
      rw [if_neg (show ¬ (false = true) by decide)] at H
      simp only [Option.some.injEq, Prod.mk.injEq] at H
      obtain ⟨rfl, rfl⟩ := H; obtain ⟨Ao52, co52, eo52⟩ := Kd.R_slice HO_6.out; subst eo52; have p220 : 0 ≤ (x8_2 : Int) := of_decide_eq_true y0_16; have q220 : x8_2 < (t216.length : Int) := of_decide_eq_true y0_16; obtain ⟨ad220, e220, hx220_0⟩ := Kd.at_string (Kd.R_reads' HO_6.out).2.2 x8_2 p220 q220; cases e220; replace p220 := eq_true p220; replace q220 := eq_true q220
      go_wp2_with (first | ((with_reducible refine gate_callee (f := 179) rfl ?_); refine gB (some 44) Tryz.func179 #[.string (rdOf ByteArray.empty t216 x8_2), .int .u8 124] ?_; (with_reducible refine (spec_l2Cut.calls k2 (rdOf ByteArray.empty t216 x8_2) 124 t221 t222 false _ A21.out).mono ?_); rintro e w' ⟨rfl, ⟨nd, rfl⟩⟩; refine ⟨_, rfl, ?_⟩) | ((with_reducible refine gate_callee (f := 180) rfl ?_); refine gB (some 50) Tryz.func180 #[.string t221] ?_; (with_reducible refine (spec_Number.calls k2 t221 t224 t225 _ A22.out).mono ?_); rintro e w53 ⟨rfl, hb⟩; refine ⟨_, rfl, ?_⟩; replace HO_4 := sb HO_4 hb; replace HO_5 := sb HO_5 hb; replace HO_6 := rb HO_6 hb; replace HB := bs HB hb; (try clear hb); (try clear hb2); (try clear hk); (try clear hi)) | ((with_reducible refine gate_callee (f := 181) rfl ?_); refine gB (some 55) Tryz.func181 #[.string t222] ?_; (with_reducible refine (spec_TxsOf.calls k2 t222 t226 t227 _ A23.out).mono ?_); rintro e w54 ⟨v228, rfl, ho0, hb⟩; refine ⟨_, rfl, ?_⟩; replace HO_4 := Aside0.mk (Kd.S_elder' (sI HO_4.out) (Kd.R_base ho0) hb); replace HO_5 := Aside0.mk (Kd.S_elder' (sI HO_5.out) (Kd.R_base ho0) hb); replace HO_6 := rb HO_6 hb; have HO229 := Aside0.mk (Kd.R_lower ho0 (below_size (bI HB.out))); replace HB := bs HB hb; (try clear hb)))
      go_ret2
      exact ⟨_, y0_11, y0_4, bI HB.out⟩
     rw [if_neg c19] at H
     have c19b0 : decide (x8_2 < (t216.length : Int)) = false := decide_eq_false c19; clear c19
     simp only [Option.some.injEq, Prod.mk.injEq] at H
     obtain ⟨rfl, rfl⟩ := H; obtain ⟨Ao55, co55, eo55⟩ := Kd.R_slice HO_6.out; subst eo55
     go_wp2
     go_ret2
     exact ⟨_, y0_11, by (with_reducible repeat (first | apply Kd.S_alloc | apply Kd.S_drewN | apply Kd.S_drew)); exact Kd.S_mono HO_5.out (fun _ hk => trivial), bI HB.out⟩

/-! ### spec_NameOk: function 112 -/
def spec_NameOk.f (k : Nat) (a0 : ByteArray) : Option (Bool) := (spec_Steps.f k a0).bind fun bt233 => (some bt233.2)
theorem spec_NameOk.mono : ∀ a0 k, LeO (spec_NameOk.f k a0) (spec_NameOk.f (k + 1) a0) := by
 intro a0 k
 unfold spec_NameOk.f
 repeat' first | (with_reducible exact spec_Steps.mono _ _) | (with_reducible exact LeO.refl _) | (with_reducible exact LeO.none _) | (with_reducible refine LeO.ite ?_ ?_) | (with_reducible refine LeO.bind ?_ (fun _ => ?_))
set_option maxHeartbeats 8000000 in
set_option maxRecDepth 100000 in
theorem spec_NameOk.calls (k : Nat) (a0 : ByteArray) (r : Bool) (w : World) (h : spec_NameOk.f k a0 = some r) :
  Calls Tryz.prog 112 #[.string a0] w fun e w' => e = .returned (.bool r) ∧ Below w.heap.size w w' := by
 have HB := Aside0.mk (Below.refl w.heap.size w)
 have H := h; unfold spec_NameOk.f at H
 clear h; obtain ⟨⟨t233, t234⟩, A2, H⟩ := oB H; (try dsimp only at H); obtain rfl := Option.some.inj H
 go_enter Tryz.func112, Tryz.ntmps112
 go_wp2_with (first | ((with_reducible refine gate_callee (f := 152) rfl ?_); refine gS1 (some 7) Tryz.func152 (spec_Steps.calls (w := _) (h := A2.out)) ?_; intro Ao235 co235 w3 _ HO236))
 go_ret
 exact ⟨y0_17, UpW.out⟩

/-! ### spec_ViewOf: function 113 -/
def spec_ViewOf.f (k : Nat) (a0 : ByteArray) : Option (Int) := (spec_Steps.f k a0).bind fun bt237 => (if bt237.2 = true then (if (bt237.1.length : Int) = 0 then (some 0) else (if 0 ≤ (wrap64 ((bt237.1.length : Int) - 1)) then (if (wrap64 ((bt237.1.length : Int) - 1)) < (bt237.1.length : Int) then (some ((rd_T163 bt237.1 (wrap64 ((bt237.1.length : Int) - 1))).f0)) else (none)) else (none))) else (some 0))
theorem spec_ViewOf.mono : ∀ a0 k, LeO (spec_ViewOf.f k a0) (spec_ViewOf.f (k + 1) a0) := by
 intro a0 k
 unfold spec_ViewOf.f
 repeat' first | (with_reducible exact spec_Steps.mono _ _) | (with_reducible exact LeO.refl _) | (with_reducible exact LeO.none _) | (with_reducible refine LeO.ite ?_ ?_) | (with_reducible refine LeO.bind ?_ (fun _ => ?_))
set_option maxHeartbeats 8000000 in
set_option maxRecDepth 100000 in
theorem spec_ViewOf.calls (k : Nat) (a0 : ByteArray) (r : Int) (w : World) (h : spec_ViewOf.f k a0 = some r) :
  Calls Tryz.prog 113 #[.string a0] w fun e w' => e = .returned (.int .i64 r) ∧ Below w.heap.size w w' := by
 have HB := Aside0.mk (Below.refl w.heap.size w)
 have H := h; unfold spec_ViewOf.f at H
 clear h; obtain ⟨⟨t237, t238⟩, A2, H⟩ := oB H; (try dsimp only at H)
 by_cases c3 : t238 = true
 ·
  subst c3
  rw [if_pos rfl] at H
  by_cases c4 : (t237.length : Int) = 0
  ·
   rw [if_pos c4] at H
   have c4b0 : ((t237.length : Int) == 0) = true := beq_iff_eq.mpr c4; have c4b1 : ((t237.length : Int) != 0) = false := bne_eq_false_iff_eq.mpr c4; clear c4; obtain rfl := Option.some.inj H
   go_enter Tryz.func113, Tryz.ntmps113
   go_wp2_with (first | ((with_reducible refine gate_callee (f := 152) rfl ?_); refine gB (some 7) Tryz.func152 #[.string a0] ?_; (with_reducible refine (spec_Steps.calls k a0 t237 true _ A2.out).mono ?_); rintro e w5 ⟨v239, rfl, ho0, hb⟩; refine ⟨_, rfl, ?_⟩; have HO240 := Aside0.mk (Kd.S_lower ho0 (below_size (bI HB.out))); replace HB := bs HB hb; (try clear hb); (try clear ho0); obtain ⟨Ao6, co6, eo6⟩ := Kd.S_slice HO240.out; subst eo6))
   go_ret
   exact ⟨y0_11, bI HB.out⟩
  rw [if_neg c4] at H
  have c4b0 : ((t237.length : Int) == 0) = false := beq_eq_false_iff_ne.mpr c4; have c4b1 : ((t237.length : Int) != 0) = true := bne_iff_ne.mpr c4
  have c4b2 : ¬ (t237 = []) := fun h_ => c4 (by rw [h_]; rfl)
  obtain ⟨ji7, hji7⟩ : ∃ j_ : Int, (wrap64 ((t237.length : Int) - 1)) = j_ := ⟨_, rfl⟩
  replace H : (if 0 ≤ (ji7) then (if (ji7) < (t237.length : Int) then (some ((rd_T163 t237 (ji7)).f0)) else (none)) else (none)) = some r := by first | (rw [hji7] at H; exact H) | (simp only [hji7] at H ⊢; exact H)
  (try rw [hji7] at A2)
  have hji7w : (IntKind.i64.wrap ((t237.length : Int) - 1)) = ji7 := (i64_w _).trans hji7
  by_cases c8 : 0 ≤ (ji7)
  rotate_left
  ·
   rw [if_neg c8] at H
   exact absurd H (by simp)
  rw [if_pos c8] at H
  have c8b0 : decide (0 ≤ (ji7)) = true := decide_eq_true c8; clear c8
  by_cases c9 : (ji7) < (t237.length : Int)
  rotate_left
  ·
   rw [if_neg c9] at H
   exact absurd H (by simp)
  rw [if_pos c9] at H
  have c9b0 : decide ((ji7) < (t237.length : Int)) = true := decide_eq_true c9; clear c9; obtain rfl := Option.some.inj H
  go_enter Tryz.func113, Tryz.ntmps113
  go_wp2_with (first | ((with_reducible refine gate_callee (f := 152) rfl ?_); refine gB (some 7) Tryz.func152 #[.string a0] ?_; (with_reducible refine (spec_Steps.calls k a0 t237 true _ A2.out).mono ?_); rintro e w10 ⟨v239, rfl, ho0, hb⟩; refine ⟨_, rfl, ?_⟩; have HO240 := Aside0.mk (Kd.S_lower ho0 (below_size (bI HB.out))); replace HB := bs HB hb; (try clear hb); (try clear ho0); obtain ⟨Ao11, co11, eo11⟩ := Kd.S_slice HO240.out; subst eo11; have p241 : 0 ≤ ((ji7) : Int) := of_decide_eq_true y0_16; have q241 : (ji7) < (t237.length : Int) := of_decide_eq_true y0_16; obtain ⟨ad241, A241_1, c241_1, e241, hx241_0, hx241_1, hl241_1, hi241_1⟩ := at_T163 (Kd.S_reads' HO240.out).2.2 (ji7) p241 q241; cases e241; obtain ⟨ce241, hce241, hMe241, hcc241⟩ := Kd.S_get HO240.out z163 (ji7) p241 (by first | exact q241 | exact of_decide_eq_true y0_16 | (have e_ := (Kd.S_reads' HO240.out).1; omega)); obtain ⟨ve241_1, rfl, ge241_1⟩ := k163_openM hMe241; have hv241_1 := hcc241 1 _ rfl; rw [add_field _ _ 1 (by omega)] at hv241_1; replace hv241_1 := Option.some.inj (hv241_1.symm.trans hx241_1); rw [hv241_1] at ge241_1; have HL241_1 := Aside0.mk (show Kd.R k156 156 _ _ _ _ ((rd_T163 t237 (ji7)).f1) from ge241_1); clear hv241_1 ge241_1; clear hcc241 hce241; have HR241_1 := Aside0.mk hi241_1; have HC241_1 := Aside0.mk hl241_1; clear hi241_1 hl241_1; replace p241 := eq_true p241; replace q241 := eq_true q241))
  go_ret
  exact ⟨by first | rfl | (simp [errW_none, errW_some] <;> rfl) | (simp only [← hji7]; first | rfl | (simp [errW_none, errW_some] <;> rfl)) | (simp [*, errW_none, errW_some] <;> rfl), bI HB.out⟩
 replace c3 := Bool.eq_false_iff.mpr c3; subst c3
 rw [if_neg (show ¬ (false = true) by decide)] at H
 obtain rfl := Option.some.inj H
 go_enter Tryz.func113, Tryz.ntmps113
 go_wp2_with (first | ((with_reducible refine gate_callee (f := 152) rfl ?_); refine gB (some 7) Tryz.func152 #[.string a0] ?_; (with_reducible refine (spec_Steps.calls k a0 t237 false _ A2.out).mono ?_); rintro e w12 ⟨v239, rfl, ho0, hb⟩; refine ⟨_, rfl, ?_⟩; have HO240 := Aside0.mk (Kd.S_lower ho0 (below_size (bI HB.out))); replace HB := bs HB hb; (try clear hb); (try clear ho0)))
 go_ret
 exact ⟨y0_11, bI HB.out⟩

/-! ### spec_Quorum: function 148 -/
def spec_Quorum.f (a0_0 : Int) (a0_1 : Int) : Option (Int) := (spec_ConfOk.f a0_0 a0_1).bind fun t243 => (if t243 = true then (some (wrap64 (a0_0 - (wrap64 (Int.tdiv (wrap64 (a0_0 - 1)) 3))))) else (some 0))
set_option maxHeartbeats 8000000 in
set_option maxRecDepth 100000 in
theorem spec_Quorum.calls (a0_0 : Int) (a0_1 : Int) (r : Int) (w : World) (h : spec_Quorum.f a0_0 a0_1 = some r) :
  Calls Tryz.prog 148 #[.agg #[.int .i64 a0_0, .int .i64 a0_1]] w fun e w' => e = .returned (.int .i64 r) ∧ Below w.heap.size w w' := by
 have hu32 := Tryz.underlying32; have HB := Aside0.mk (Below.refl w.heap.size w)
 have H := h; unfold spec_Quorum.f at H
 clear h; obtain ⟨t243, A2, H⟩ := oB H; (try dsimp only at H)
 go_enter Tryz.func148, Tryz.ntmps148
 have H' := Aside0.mk H; clear H
 go_upto_if 5 with (first | ((with_reducible refine gd 1 ?_); refine bL 1 #[.int .i64 a0_0, .int .i64 a0_1] 32 ?_; intro gb242 w3 _ _ _) | ((with_reducible refine gate_callee (f := 109) rfl ?_); refine gC (some 4) Tryz.func109 (spec_ConfOk.calls (w := _) (h := A2.out)) ?_; intro w4 _))
 have H := H'.out; clear H'
 by_cases c5 : t243 = true
 ·
  subst c5
  rw [if_pos rfl] at H
  obtain rfl := Option.some.inj H
  go_wp2
  go_ret
  exact ⟨y0_17, UpW.out⟩
 replace c5 := Bool.eq_false_iff.mpr c5; subst c5
 rw [if_neg (show ¬ (false = true) by decide)] at H
 obtain rfl := Option.some.inj H
 go_wp2
 go_ret
 exact ⟨y0_17, UpW.out⟩

/-! ### spec_QcOk: function 100 -/
def spec_QcOk.f (k : Nat) (a0_0 : Int) (a0_1 : Int) (a1_0 : Int) (a1_1 : ByteArray) (l1_2 : List Int) : Option (Bool) := (spec_ConfOk.f a0_0 a0_1).bind fun t246 => (if t246 = true then ((spec_NameOk.f k a1_1).bind fun t247 => (if t247 = true then ((spec_ViewOf.f k a1_1).bind fun t248 => (if t248 = a1_0 then (if a1_1.toList = ([] : List UInt8) then (some ((l1_2.length : Int) == 0)) else ((spec_SetOk.f k a0_0 l1_2).bind fun t249 => (if t249 = true then ((spec_Quorum.f a0_0 a0_1).bind fun t250 => (some (decide ((l1_2.length : Int) ≥ t250)))) else (some false)))) else (some false))) else (some false))) else (some false))
theorem spec_QcOk.mono : ∀ a0 a1 a2 a3 a4 k, LeO (spec_QcOk.f k a0 a1 a2 a3 a4) (spec_QcOk.f (k + 1) a0 a1 a2 a3 a4) := by
 intro a0 a1 a2 a3 a4 k
 unfold spec_QcOk.f
 repeat' first | (with_reducible exact spec_NameOk.mono _ _) | (with_reducible exact spec_SetOk.mono _ _ _) | (with_reducible exact spec_ViewOf.mono _ _) | (with_reducible exact LeO.refl _) | (with_reducible exact LeO.none _) | (with_reducible refine LeO.ite ?_ ?_) | (with_reducible refine LeO.bind ?_ (fun _ => ?_))
def spec_QcOk.T1 : Bool × List (List Nat × List Nat) := (true, [([], []), ([0], [0]), ([1], [1]), ([2, 1], [2]), ([3], [3]), ([4, 3], [3, 4]), ([5, 3, 3], [3, 5]), ([6, 3], [3, 6]), ([3, 7], [3, 7]), ([8, 6], [8]), ([9], [9]), ([10, 9], [9, 10]), ([11, 9, 9], [9, 11]), ([9], [9]), ([13, 9], [9, 13]), ([12, 14, 9], [9, 12, 14]), ([9, 15], [9, 15])])
def spec_QcOk.B1 : List Nat := [0, 1, 3, 7, 15, 31, 63, 127, 255, 511, 1023, 2047, 4095, 1023, 9215, 32767, 65535]
theorem spec_QcOk.tab1 : rtab .any (opsOf Tryz.f100 1) = spec_QcOk.T1 := by kernel_rfl
theorem spec_QcOk.bits1 : waitsOk spec_QcOk.T1.2 spec_QcOk.B1 = true := by kernel_rfl
def spec_QcOk.T5 : Bool × List (List Nat × List Nat) := (true, [([], []), ([0], [0]), ([], []), ([2], [2]), ([1, 3], [1, 3]), ([4, 4], [4]), ([5], [5]), ([6, 5], [5, 6]), ([7, 5], [5, 7]), ([5], [5]), ([9, 5, 5], [5, 9]), ([8, 10, 5], [5, 8, 10]), ([5, 11], [5, 11]), ([12, 10, 0, 1, 2, 3, 4, 5, 6, 7, 8, 9, 10, 11, 12], [12])])
def spec_QcOk.B5 : List Nat := [0, 1, 0, 4, 15, 31, 63, 127, 255, 63, 575, 2047, 4095, 8191]
theorem spec_QcOk.tab5 : rtab .any (opsOf Tryz.f100 5) = spec_QcOk.T5 := by kernel_rfl
theorem spec_QcOk.bits5 : waitsOk spec_QcOk.T5.2 spec_QcOk.B5 = true := by kernel_rfl
set_option maxHeartbeats 8000000 in
set_option maxRecDepth 100000 in
theorem spec_QcOk.calls (k : Nat) (a0_0 : Int) (a0_1 : Int) (a1_0 : Int) (a1_1 : ByteArray) (A1_2 : Option Addr) (c1_2 : Nat) (l1_2 : List Int) (r : Bool) (w : World) (hr1_2 : Kd.C (Kd.int .i64) w A1_2 l1_2.length l1_2) (hc1_2 : l1_2.length ≤ c1_2) (h : spec_QcOk.f k a0_0 a0_1 a1_0 a1_1 l1_2 = some r) :
  Calls Tryz.prog 100 #[.agg #[.int .i64 a0_0, .int .i64 a0_1], .agg #[.int .i64 a1_0, .string a1_1, .slice A1_2 l1_2.length c1_2]] w fun e w' => e = .returned (.bool r) ∧ Below w.heap.size w w' := by
 have hu32 := Tryz.underlying32; have hu27 := Tryz.underlying27; have HR1_2 := Aside0.mk hr1_2; have HC1_2 := Aside0.mk hc1_2; clear hr1_2 hc1_2; have HB := Aside0.mk (Below.refl w.heap.size w)
 have H := h; unfold spec_QcOk.f at H
 clear h
 go_enter Tryz.func100, Tryz.ntmps100
 have H' := Aside0.mk H; clear H
 go_upto_region 1 with (first | ((with_reducible refine gd 2 ?_); refine bL 2 #[.int .i64 a0_0, .int .i64 a0_1] 32 ?_; intro gb244 w3 _ _ _) | ((with_reducible refine gd 3 ?_); refine bL 3 #[.int .i64 a1_0, .string a1_1, .slice A1_2 l1_2.length c1_2] 27 ?_; intro gb245 w4 _ _ _))
 have H := H'.out; clear H'; obtain ⟨t246, A5, H⟩ := oB H; (try dsimp only at H)
 by_cases c6 : t246 = true
 ·
  subst c6
  rw [if_pos rfl] at H
  obtain ⟨t247, A7, H⟩ := oB H; (try dsimp only at H)
  by_cases c8 : t247 = true
  ·
   subst c8
   rw [if_pos rfl] at H
   obtain ⟨t248, A9, H⟩ := oB H; (try dsimp only at H); have H' := Aside0.mk H; clear H
   try go_wp2
   refine sB [] spec_QcOk.tab1 spec_QcOk.bits1 ?_; intro w10 _ HT_ HW_
   refine tB 0 (some 5) (bz 17 1) HT_ HW_ ?_
   refine o1 1 (some 6) (bz 17 3) HT_ rfl (kC Tryz.func109 (spec_ConfOk.calls (w := _) (h := A5.out)) ?_); intro w11 _
   refine nA (some 6) ?_
   refine pA 2 (some 7) (bz 17 7) HT_ ?_
   refine pA 3 (some 8) (bz 17 15) HT_ ?_
   refine pA 4 (some 9) (bz 17 31) HT_ ?_
   refine tB 5 (some 10) (bz 17 63) HT_ HW_ ?_
   refine o1 6 (some 11) (bz 17 127) HT_ rfl (kC Tryz.func112 (spec_NameOk.calls (w := _) (h := A7.out)) ?_); intro w12 _
   refine nA (some 11) ?_
   refine pA 7 (some 12) (bz 17 255) HT_ ?_
   refine pA 8 (some 13) (bz 17 511) HT_ ?_
   refine pA 9 (some 14) (bz 17 1023) HT_ ?_
   refine pA 10 (some 15) (bz 17 2047) HT_ ?_
   refine tB 11 (some 16) (bz 17 4095) HT_ HW_ ?_
   refine pA 13 (some 18) (bz 17 0x2fff) HT_ ?_
   refine tB 14 (some 19) (bz 17 0x6fff) HT_ HW_ ?_
   refine o1 12 (some 17) (bz 17 0x7fff) HT_ rfl (kC Tryz.func113 (spec_ViewOf.calls (w := _) (h := A9.out)) ?_); intro w13 _
   refine nA (some 17) ?_
   refine pA 15 (some 20) (bz 17 0xffff) HT_ ?_
   refine pA 16 (some 21) (bz 17 0x1ffff) HT_ ?_
   refine done_ (done_of HT_.out (by kernel_rfl)) ?_
   go_upto_if 21 with fail
   have H := H'.out; clear H'
   by_cases c14 : t248 = a1_0
   ·
    rw [if_pos c14] at H
    have c14b0 : (t248 == a1_0) = true := beq_iff_eq.mpr c14; have c14b1 : (t248 != a1_0) = false := bne_eq_false_iff_eq.mpr c14; clear c14
    (first | rw [c14b0] | (simp only [i64_w, i32_w]; rw [c14b0]) | skip)
    have H' := Aside0.mk H; clear H
    go_upto_if 24 with fail
    have H := H'.out; clear H'
    by_cases c15 : a1_1.toList = ([] : List UInt8)
    ·
     rw [if_pos c15] at H
     have c15b0 : (a1_1.toList == ([] : List UInt8)) = true := beq_iff_eq.mpr c15; have c15b1 : (a1_1.toList != ([] : List UInt8)) = false := bne_eq_false_iff_eq.mpr c15; clear c15
     (first | rw [c15b0] | (simp only [i64_w, i32_w]; rw [c15b0]) | rw [show List.isEmpty (a1_1.toList) = true from by simpa using c15b0] | skip)
     obtain rfl := Option.some.inj H
     go_wp2
     go_ret
     exact ⟨y0_17, UpW.out⟩
    rw [if_neg c15] at H
    have c15b0 : (a1_1.toList == ([] : List UInt8)) = false := beq_eq_false_iff_ne.mpr c15; have c15b1 : (a1_1.toList != ([] : List UInt8)) = true := bne_iff_ne.mpr c15
    (first | rw [c15b0] | (simp only [i64_w, i32_w]; rw [c15b0]) | rw [show List.isEmpty (a1_1.toList) = false from by simpa using c15b0] | skip)
    obtain ⟨t249, A16, H⟩ := oB H; (try dsimp only at H)
    by_cases c17 : t249 = true
    ·
     subst c17
     rw [if_pos rfl] at H
     obtain ⟨t250, A18, H⟩ := oB H; (try dsimp only at H); obtain rfl := Option.some.inj H
     try go_wp2
     refine sB [] spec_QcOk.tab5 spec_QcOk.bits5 ?_; intro w19 _ HT_ HW_
     refine pA 0 (some 29) (bz 14 1) HT_ ?_
     refine tB 1 (some 30) (bz 14 3) HT_ HW_ ?_
     refine pA 2 (some 31) (bz 14 7) HT_ ?_
     refine tB 3 (some 32) (bz 14 15) HT_ HW_ ?_
     refine o1 4 (some 33) (bz 14 31) HT_ rfl (kD Tryz.func111 (spec_SetOk.calls (hr1 := pC HR1_2) (hc1 := HC1_2.out) (w := _) (h := A16.out)) ?_); intro w20 _
     refine nA (some 33) ?_
     refine pA 5 (some 34) (bz 14 63) HT_ ?_
     refine pA 6 (some 35) (bz 14 127) HT_ ?_
     refine tB 7 (some 36) (bz 14 255) HT_ HW_ ?_
     refine pA 8 (some 37) (bz 14 511) HT_ ?_
     refine tB 9 (some 38) (bz 14 1023) HT_ HW_ ?_
     refine o1 10 (some 39) (bz 14 2047) HT_ rfl (kC Tryz.func148 (spec_Quorum.calls (w := _) (h := A18.out)) ?_); intro w21 _
     refine nA (some 39) ?_
     refine pA 11 (some 40) (bz 14 4095) HT_ ?_
     refine pA 12 (some 41) (bz 14 0x1fff) HT_ ?_
     refine pA 13 (some 4) (bz 14 0x3fff) HT_ ?_
     refine done_ (done_of HT_.out (by kernel_rfl)) ?_
     try go_wp2
     go_ret
     exact ⟨y0_17, UpW.out⟩
    replace c17 := Bool.eq_false_iff.mpr c17; subst c17
    rw [if_neg (show ¬ (false = true) by decide)] at H
    obtain rfl := Option.some.inj H
    try go_wp2
    refine sB [] spec_QcOk.tab5 spec_QcOk.bits5 ?_; intro w22 _ HT_ HW_
    refine pA 0 (some 29) (bz 14 1) HT_ ?_
    refine tB 1 (some 30) (bz 14 3) HT_ HW_ ?_
    refine pA 2 (some 31) (bz 14 7) HT_ ?_
    refine tB 3 (some 32) (bz 14 15) HT_ HW_ ?_
    refine o1 4 (some 33) (bz 14 31) HT_ rfl (kD Tryz.func111 (spec_SetOk.calls (hr1 := pC HR1_2) (hc1 := HC1_2.out) (w := _) (h := A16.out)) ?_); intro w23 _
    refine nA (some 33) ?_
    refine pA 5 (some 34) (bz 14 63) HT_ ?_
    refine pU 6 (some 35) (bz 14 127) HT_ ?_
    refine pU 7 (some 36) (bz 14 255) HT_ ?_
    refine pU 8 (some 37) (bz 14 511) HT_ ?_
    refine pU 9 (some 38) (bz 14 1023) HT_ ?_
    refine pU 10 (some 39) (bz 14 2047) HT_ ?_
    refine pU 11 (some 40) (bz 14 4095) HT_ ?_
    refine pA 12 (some 41) (bz 14 0x1fff) HT_ ?_
    refine pA 13 (some 4) (bz 14 0x3fff) HT_ ?_
    refine done_ (done_of HT_.out (by kernel_rfl)) ?_
    try go_wp2
    go_ret
    exact ⟨y0_17, UpW.out⟩
   rw [if_neg c14] at H
   have c14b0 : (t248 == a1_0) = false := beq_eq_false_iff_ne.mpr c14; have c14b1 : (t248 != a1_0) = true := bne_iff_ne.mpr c14
   (first | rw [c14b0] | (simp only [i64_w, i32_w]; rw [c14b0]) | skip)
   obtain rfl := Option.some.inj H
   go_wp2
   go_ret
   exact ⟨y0_17, UpW.out⟩
  replace c8 := Bool.eq_false_iff.mpr c8; subst c8
  rw [if_neg (show ¬ (false = true) by decide)] at H
  have H' := Aside0.mk H; clear H
  try go_wp2
  refine sB [] spec_QcOk.tab1 spec_QcOk.bits1 ?_; intro w24 _ HT_ HW_
  refine tB 0 (some 5) (bz 17 1) HT_ HW_ ?_
  refine o1 1 (some 6) (bz 17 3) HT_ rfl (kC Tryz.func109 (spec_ConfOk.calls (w := _) (h := A5.out)) ?_); intro w25 _
  refine nA (some 6) ?_
  refine pA 2 (some 7) (bz 17 7) HT_ ?_
  refine pA 3 (some 8) (bz 17 15) HT_ ?_
  refine pA 4 (some 9) (bz 17 31) HT_ ?_
  refine tB 5 (some 10) (bz 17 63) HT_ HW_ ?_
  refine o1 6 (some 11) (bz 17 127) HT_ rfl (kC Tryz.func112 (spec_NameOk.calls (w := _) (h := A7.out)) ?_); intro w26 _
  refine nA (some 11) ?_
  refine pA 7 (some 12) (bz 17 255) HT_ ?_
  refine pA 8 (some 13) (bz 17 511) HT_ ?_
  refine pA 9 (some 14) (bz 17 1023) HT_ ?_
  refine pU 10 (some 15) (bz 17 2047) HT_ ?_
  refine pU 11 (some 16) (bz 17 4095) HT_ ?_
  refine pU 12 (some 17) (bz 17 0x1fff) HT_ ?_
  refine pU 13 (some 18) (bz 17 0x3fff) HT_ ?_
  refine pU 14 (some 19) (bz 17 0x7fff) HT_ ?_
  refine pU 15 (some 20) (bz 17 0xffff) HT_ ?_
  refine pA 16 (some 21) (bz 17 0x1ffff) HT_ ?_
  refine done_ (done_of HT_.out (by kernel_rfl)) ?_
  go_upto_if 21 with fail
  have H := H'.out; clear H'; obtain rfl := Option.some.inj H
  go_wp2
  go_ret
  exact ⟨y0_17, UpW.out⟩
 replace c6 := Bool.eq_false_iff.mpr c6; subst c6
 rw [if_neg (show ¬ (false = true) by decide)] at H
 have H' := Aside0.mk H; clear H
 try go_wp2
 refine sB [] spec_QcOk.tab1 spec_QcOk.bits1 ?_; intro w27 _ HT_ HW_
 refine tB 0 (some 5) (bz 17 1) HT_ HW_ ?_
 refine o1 1 (some 6) (bz 17 3) HT_ rfl (kC Tryz.func109 (spec_ConfOk.calls (w := _) (h := A5.out)) ?_); intro w28 _
 refine nA (some 6) ?_
 refine pA 2 (some 7) (bz 17 7) HT_ ?_
 refine pA 3 (some 8) (bz 17 15) HT_ ?_
 refine pU 4 (some 9) (bz 17 31) HT_ ?_
 refine pU 5 (some 10) (bz 17 63) HT_ ?_
 refine pU 6 (some 11) (bz 17 127) HT_ ?_
 refine pU 7 (some 12) (bz 17 255) HT_ ?_
 refine pA 8 (some 13) (bz 17 511) HT_ ?_
 refine pA 9 (some 14) (bz 17 1023) HT_ ?_
 refine pU 10 (some 15) (bz 17 2047) HT_ ?_
 refine pU 11 (some 16) (bz 17 4095) HT_ ?_
 refine pU 12 (some 17) (bz 17 0x1fff) HT_ ?_
 refine pU 13 (some 18) (bz 17 0x3fff) HT_ ?_
 refine pU 14 (some 19) (bz 17 0x7fff) HT_ ?_
 refine pU 15 (some 20) (bz 17 0xffff) HT_ ?_
 refine pA 16 (some 21) (bz 17 0x1ffff) HT_ ?_
 refine done_ (done_of HT_.out (by kernel_rfl)) ?_
 go_upto_if 21 with fail
 have H := H'.out; clear H'; obtain rfl := Option.some.inj H
 go_wp2
 go_ret
 exact ⟨y0_17, UpW.out⟩

end Go.Proofs.YtdmjhgogljhfkaaGreatDoor.PFnExactLastNote
