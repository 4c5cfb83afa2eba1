import Derived.Test.YtdmjhgogljhfkaaGreatDoorPFnNotesx0
import Derived.Test.YtdmjhgogljhfkaaGreatDoorPFnNotesx1
namespace Go.Proofs.YtdmjhgogljhfkaaGreatDoor.PFnNotes
open Go.RowKit Go.Proofs.YtdmjhgogljhfkaaGreatDoorW.PrintWords Go.Proofs.YtdmjhgogljhfkaaGreatDoorW.PrintLast Go.Proofs.YtdmjhgogljhfkaaGreatDoorW.PrintMore
attribute [local go_sem] max2_int min2_int max_two min_two max_three min_three max_four min_four
attribute [local go_sem] cell_in frozen_in cell_g cell_p cell_r cell_q
set_option synthInstance.maxSize 1000000
set_option synthInstance.maxHeartbeats 2000000
set_option linter.unusedVariables false
set_option linter.unusedSimpArgs false
set_option maxHeartbeats 8000000
set_option maxRecDepth 100000
mutual
def spec_Steps.j0 : Nat → List (S163) → List (S163) → List ByteArray → Bool → Option ((List (S163)) × Bool)
 | 0, _, _, _, _ => none
 | k + 1, x4, x5, x6, x31 => if x31 = true then (some (x4, false)) else (spec_Steps.l0 k x4 x5 x6 0 1)
def spec_Steps.l0 : Nat → List (S163) → List (S163) → List ByteArray → Int → Int → Option ((List (S163)) × Bool)
 | 0, _, _, _, _, _ => none
 | k + 1, x4, x5, x6, x7, x8 => if x8 < (x6.length : Int) then (if 0 ≤ x8 then ((spec_l2Cut.f k (rdOf ByteArray.empty x6 x8) 124).bind fun bt221 => ((spec_Number.f k bt221.1).bind fun bt224 => ((spec_TxsOf.f k bt221.2.1).bind fun bt226 => (if bt221.2.2 = true then (if bt224.2 = true then (if bt226.2 = true then (if bt224.1 ≤ x7 then (some (x4, false)) else (if bt224.1 > 60 then (some (x4, false)) else (if (bt226.1.length : Int) > 2 then (some (x4, false)) else (if x5.length < 4398046511104 then (spec_Steps.l0 k x4 (x5 ++ [(⟨bt224.1, bt226.1⟩ : S163)]) x6 bt224.1 (wrap64 (x8 + 1))) else (none))))) else (some (x4, false))) else (some (x4, false))) else (some (x4, false)))))) else (none)) else (some (x5, true))
end
def spec_Steps.f (k : Nat) (a0 : ByteArray) : Option ((List (S163)) × Bool) := (some (([] : List (S163)) : List (S163))).bind fun y210 => ((some (([] : List (S163)) : List (S163))).bind fun y213 => (if a0.toList = ([] : List UInt8) then (some (y213, true)) else ((spec_Split.f k a0 47).bind fun t216 => (if 0 < (t216.length : Int) then (if (rdOf ByteArray.empty t216 0).toList = ([] : List UInt8) then (spec_Steps.j0 k y210 y213 t216 (decide ((t216.length : Int) > 31))) else (spec_Steps.j0 k y210 y213 t216 true)) else (none)))))
theorem spec_Steps.mono_l : ∀ k, (∀ y0 y1 y2 y3, LeO (spec_Steps.j0 k y0 y1 y2 y3) (spec_Steps.j0 (k + 1) y0 y1 y2 y3)) ∧ (∀ y0 y1 y2 y3 y4, LeO (spec_Steps.l0 k y0 y1 y2 y3 y4) (spec_Steps.l0 (k + 1) y0 y1 y2 y3 y4))
 | 0 => ⟨fun _ _ _ _ r h => by simp [spec_Steps.j0] at h, fun _ _ _ _ _ r h => by simp [spec_Steps.l0] at h⟩
 | k + 1 => by
  obtain ⟨ih0, ih1⟩ := spec_Steps.mono_l k
  refine ⟨?_, ?_⟩
  ·
   intro y0 y1 y2 y3
   unfold spec_Steps.j0
   repeat' first | (with_reducible exact ih0 _ _ _ _) | (with_reducible exact ih1 _ _ _ _ _) | (with_reducible exact spec_Number.mono _ _) | (with_reducible exact spec_Split.mono _ _ _) | (with_reducible exact spec_TxsOf.mono _ _) | (with_reducible exact spec_l2Cut.mono _ _ _) | (with_reducible exact LeO.refl _) | (with_reducible exact LeO.none _) | (with_reducible refine LeO.ite ?_ ?_) | (with_reducible refine LeO.bind ?_ (fun _ => ?_))
  intro y0 y1 y2 y3 y4
  unfold spec_Steps.l0
  repeat' first | (with_reducible exact ih0 _ _ _ _) | (with_reducible exact ih1 _ _ _ _ _) | (with_reducible exact spec_Number.mono _ _) | (with_reducible exact spec_Split.mono _ _ _) | (with_reducible exact spec_TxsOf.mono _ _) | (with_reducible exact spec_l2Cut.mono _ _ _) | (with_reducible exact LeO.refl _) | (with_reducible exact LeO.none _) | (with_reducible refine LeO.ite ?_ ?_) | (with_reducible refine LeO.bind ?_ (fun _ => ?_))
theorem spec_Steps.mono : ∀ a0 k, LeO (spec_Steps.f k a0) (spec_Steps.f (k + 1) a0) := by
 intro a0 k
 obtain ⟨ih0, ih1⟩ := spec_Steps.mono_l k
 unfold spec_Steps.f
 repeat' first | (with_reducible exact ih0 _ _ _ _) | (with_reducible exact ih1 _ _ _ _ _) | (with_reducible exact spec_Number.mono _ _) | (with_reducible exact spec_Split.mono _ _ _) | (with_reducible exact spec_TxsOf.mono _ _) | (with_reducible exact spec_l2Cut.mono _ _ _) | (with_reducible exact LeO.refl _) | (with_reducible exact LeO.none _) | (with_reducible refine LeO.ite ?_ ?_) | (with_reducible refine LeO.bind ?_ (fun _ => ?_))
theorem spec_Steps.calls (k : Nat) (a0 : ByteArray) (r1 : List (S163)) (r2 : Bool) (w : World) (h : spec_Steps.f k a0 = some (r1, r2)) :
  Calls Tryz.prog 152 #[.string a0] w fun e w' => ∃ v0_ : Value, e = .returned (.tuple #[v0_, .bool r2]) ∧ Kd.S k163 163 w' w.heap.size (fun _ => True) v0_ r1 ∧ Below w.heap.size w w' := by
 have hu163 := Tryz.underlying163; have HB := Aside0.mk (Below.refl w.heap.size w)
 have H := h; unfold spec_Steps.f at H
 clear h; obtain ⟨y210, hy210⟩ : ∃ y_ : List (S163), y_ = (([] : List (S163))) := ⟨_, rfl⟩
 replace H : ((some (([] : List (S163)) : List (S163))).bind fun y213 => (if a0.toList = ([] : List UInt8) then (some (y213, true)) else ((spec_Split.f k a0 47).bind fun t216 => (if 0 < (t216.length : Int) then (if (rdOf ByteArray.empty t216 0).toList = ([] : List UInt8) then (spec_Steps.j0 k y210 y213 t216 (decide ((t216.length : Int) > 31))) else (spec_Steps.j0 k y210 y213 t216 true)) else (none))))) = some (r1, r2) := by first | (rw [hy210]; with_reducible exact H) | (rw [hy210]; with_reducible exact (Option.bind_some _ _).symm.trans H) | (rw [hy210]; exact H) | exact H
 have Ny210 := Aside0.mk hy210; clear hy210; obtain ⟨y213, hy213⟩ : ∃ y_ : List (S163), y_ = (([] : List (S163))) := ⟨_, rfl⟩
 replace H : (if a0.toList = ([] : List UInt8) then (some (y213, true)) else ((spec_Split.f k a0 47).bind fun t216 => (if 0 < (t216.length : Int) then (if (rdOf ByteArray.empty t216 0).toList = ([] : List UInt8) then (spec_Steps.j0 k y210 y213 t216 (decide ((t216.length : Int) > 31))) else (spec_Steps.j0 k y210 y213 t216 true)) else (none)))) = some (r1, r2) := by first | (rw [hy213]; with_reducible exact H) | (rw [hy213]; with_reducible exact (Option.bind_some _ _).symm.trans H) | (rw [hy213]; exact H) | exact H
 have Ny213 := Aside0.mk hy213; clear hy213
 by_cases c2 : a0.toList = ([] : List UInt8)
 ·
  rw [if_pos c2] at H
  have c2b0 : (a0.toList == ([] : List UInt8)) = true := beq_iff_eq.mpr c2; have c2b1 : (a0.toList != ([] : List UInt8)) = false := bne_eq_false_iff_eq.mpr c2; clear c2
  simp only [Option.some.injEq, Prod.mk.injEq] at H
  obtain ⟨rfl, rfl⟩ := H
  go_enter Tryz.func152, Tryz.ntmps152
  go_wp2_with (first | ((with_reducible refine gate_dst (N := 16) rfl ?_); (try (refine gate_guard (by rfl) ?_; dsimp only)); refine Kd.S_lit k163 _ 163 ?hg (N := 16) ?hd (xs := ([] : List (S163))) (inner := []) (ok := fun _ => True) (okp := fun _ => True) ?hr ?hp (fun _ hk => hk) trivial (Below.refl _ _) (Nat.le_refl _) (by simp) ?_; (case hd => rfl); (case hg => rfl); (case hr => first | (go_simp; done) | (go_simp; rfl)); (case hp => exact (Reps.none _ _)); intro v211 w3 ho4 hb hg_ hnew_; clear hg_ hnew_; (first | rw [← Ny210.out] at ho4 | (simp only [Int.reduceToNat] at ho4; rw [← Ny210.out] at ho4)); have HO212 := Aside0.mk (Kd.S_lower ho4 (below_size (bI HB.out))); replace HB := bs HB hb; clear hb ho4) | ((with_reducible refine gate_dst (N := 17) rfl ?_); (try (refine gate_guard (by rfl) ?_; dsimp only)); refine Kd.S_lit k163 _ 163 ?hg (N := 17) ?hd (xs := ([] : List (S163))) (inner := []) (ok := fun _ => True) (okp := fun _ => True) ?hr ?hp (fun _ hk => hk) trivial (Below.refl _ _) (Nat.le_refl _) (by simp) ?_; (case hd => rfl); (case hg => rfl); (case hr => first | (go_simp; done) | (go_simp; rfl)); (case hp => exact (Reps.none _ _)); intro v214 w5 ho6 hb hg_ hnew_; clear hg_ hnew_; (first | rw [← Ny213.out] at ho6 | (simp only [Int.reduceToNat] at ho6; rw [← Ny213.out] at ho6)); have HO215 := Aside0.mk (Kd.S_lower (Kd.S_new' ho6 (Kd.S_lt (sI HO212.out))) (below_size (bI HB.out))); replace HO212 := Aside0.mk (Kd.S_elder' (sI HO212.out) (Kd.S_base ho6) hb); replace HB := bs HB hb; clear hb ho6))
  go_ret2
  exact ⟨_, y0_3, by (with_reducible repeat (first | apply Kd.S_alloc | apply Kd.S_drewN | apply Kd.S_drew)); exact Kd.S_mono HO215.out (fun _ hk => trivial), bI HB.out⟩
 rw [if_neg c2] at H
 have c2b0 : (a0.toList == ([] : List UInt8)) = false := beq_eq_false_iff_ne.mpr c2; have c2b1 : (a0.toList != ([] : List UInt8)) = true := bne_iff_ne.mpr c2; obtain ⟨t216, A7, H⟩ := oB H; (try dsimp only at H); have HC8 := Aside0.mk H; clear H
 go_enter Tryz.func152, Tryz.ntmps152
 go_upto_region 6 with (first | ((with_reducible refine gate_dst (N := 16) rfl ?_); (try (refine gate_guard (by rfl) ?_; dsimp only)); refine Kd.S_lit k163 _ 163 ?hg (N := 16) ?hd (xs := ([] : List (S163))) (inner := []) (ok := fun _ => True) (okp := fun _ => True) ?hr ?hp (fun _ hk => hk) trivial (Below.refl _ _) (Nat.le_refl _) (by simp) ?_; (case hd => rfl); (case hg => rfl); (case hr => first | (go_simp; done) | (go_simp; rfl)); (case hp => exact (Reps.none _ _)); intro v211 w9 ho10 hb hg_ hnew_; clear hg_ hnew_; (first | rw [← Ny210.out] at ho10 | (simp only [Int.reduceToNat] at ho10; rw [← Ny210.out] at ho10)); have HO212 := Aside0.mk (Kd.S_lower ho10 (below_size (bI HB.out))); replace HB := bs HB hb; clear hb ho10) | ((with_reducible refine gate_dst (N := 17) rfl ?_); (try (refine gate_guard (by rfl) ?_; dsimp only)); refine Kd.S_lit k163 _ 163 ?hg (N := 17) ?hd (xs := ([] : List (S163))) (inner := []) (ok := fun _ => True) (okp := fun _ => True) ?hr ?hp (fun _ hk => hk) trivial (Below.refl _ _) (Nat.le_refl _) (by simp) ?_; (case hd => rfl); (case hg => rfl); (case hr => first | (go_simp; done) | (go_simp; rfl)); (case hp => exact (Reps.none _ _)); intro v214 w11 ho12 hb hg_ hnew_; clear hg_ hnew_; (first | rw [← Ny213.out] at ho12 | (simp only [Int.reduceToNat] at ho12; rw [← Ny213.out] at ho12)); have HO215 := Aside0.mk (Kd.S_lower (Kd.S_new' ho12 (Kd.S_lt (sI HO212.out))) (below_size (bI HB.out))); replace HO212 := Aside0.mk (Kd.S_elder' (sI HO212.out) (Kd.S_base ho12) hb); replace HB := bs HB hb; clear hb ho12) | ((with_reducible refine gate_callee (f := 178) rfl ?_); refine gB (some 22) Tryz.func178 #[.string a0, .int .u8 47] ?_; (with_reducible refine (spec_Split.calls k a0 47 t216 _ A7.out).mono ?_); rintro e w13 ⟨v217, rfl, ho0, hb⟩; refine ⟨_, rfl, ?_⟩; replace HO212 := sb HO212 hb; replace HO215 := sb HO215 hb; have HO218 := Aside0.mk (Kd.R_lower ho0 (below_size (bI HB.out))); replace HB := bs HB hb; (try clear hb); (try clear ho0)))
 (try simp only [Act.put, List.setIfInBounds_toArray, List.set_cons_zero, List.set_cons_succ])
 go_cut [31] (fun v31 wc => ∃ (kq : Nat) (x31_7 : Bool), v31 = .bool x31_7 ∧ Aside0 (spec_Steps.j0 kq y210 y213 t216 x31_7 = some (r1, r2)) ∧ Aside0 (kq ≤ k) ∧ Aside0 (Kd.S k163 163 wc w.heap.size (fun k_ => some k_ ≠ (v214 : Value).ownBlock) v211 y210) ∧ Aside0 (Kd.S k163 163 wc w.heap.size (fun k_ => some k_ ≠ (v211 : Value).ownBlock) v214 y213) ∧ Aside0 (Kd.R Kd.string 9 wc w.heap.size (fun _ => True) v217 t216) ∧ Aside0 (Below w.heap.size w wc))
 case first =>
  have H := HC8.out; clear HC8
  by_cases c14 : 0 < (t216.length : Int)
  rotate_left
  ·
   rw [if_neg c14] at H
   exact absurd H (by simp)
  rw [if_pos c14] at H
  have c14b0 : decide (0 < (t216.length : Int)) = true := decide_eq_true c14
  have c14b1 : decide (0 < t216.length) = true := decide_eq_true (by omega)
  clear c14
  (first | rw [c14b0] | rw [c14b1] | (simp only [i64_w, i32_w]; rw [c14b0]) | skip)
  by_cases c15 : (rdOf ByteArray.empty t216 0).toList = ([] : List UInt8)
  ·
   rw [if_pos c15] at H
   have c15b0 : ((rdOf ByteArray.empty t216 0).toList == ([] : List UInt8)) = true := beq_iff_eq.mpr c15; have c15b1 : ((rdOf ByteArray.empty t216 0).toList != ([] : List UInt8)) = false := bne_eq_false_iff_eq.mpr c15; clear c15; have H' := Aside0.mk H; clear H; obtain ⟨Ao16, co16, eo16⟩ := Kd.R_slice HO218.out; subst eo16
   have p219 : 0 ≤ (0 : Int) := (by omega)
   have q219 : 0 < (t216.length : Int) := of_decide_eq_true y0_7; obtain ⟨ad219, e219, hx219_0⟩ := Kd.at_string (Kd.R_reads' HO218.out).2.2 0 p219 q219; cases e219
   have qi219 : (0 < t216.length) = True := eq_true (by omega)
   (try rw [show ((0 : Int)).toNat = 0 from rfl] at hx219_0)
   (try rw [Addr.add_zero'] at hx219_0)
   replace p219 := eq_true p219; replace q219 := eq_true q219
   go_wp2
   go_meet
   case rel => exact ⟨_, (decide ((t216.length : Int) > 31)), y0_8, H', ⟨by first | omega | exact Nat.le_refl _⟩, ⟨by (with_reducible repeat (first | apply Kd.S_alloc | apply Kd.S_drewN | apply Kd.S_drew)); exact Kd.S_mono HO212.out (fun _ hk => hk.2)⟩, ⟨by (with_reducible repeat (first | apply Kd.S_alloc | apply Kd.S_drewN | apply Kd.S_drew)); exact Kd.S_mono HO215.out (fun _ hk => hk.2)⟩, ⟨by (with_reducible repeat (first | apply Kd.R_alloc | apply Kd.R_drewN | apply Kd.R_drew)); exact HO218.out⟩, ⟨bI HB.out⟩⟩
  rw [if_neg c15] at H
  have c15b0 : ((rdOf ByteArray.empty t216 0).toList == ([] : List UInt8)) = false := beq_eq_false_iff_ne.mpr c15; have c15b1 : ((rdOf ByteArray.empty t216 0).toList != ([] : List UInt8)) = true := bne_iff_ne.mpr c15; have H' := Aside0.mk H; clear H; obtain ⟨Ao17, co17, eo17⟩ := Kd.R_slice HO218.out; subst eo17
  have p219 : 0 ≤ (0 : Int) := (by omega)
  have q219 : 0 < (t216.length : Int) := of_decide_eq_true y0_7; obtain ⟨ad219, e219, hx219_0⟩ := Kd.at_string (Kd.R_reads' HO218.out).2.2 0 p219 q219; cases e219
  have qi219 : (0 < t216.length) = True := eq_true (by omega)
  (try rw [show ((0 : Int)).toNat = 0 from rfl] at hx219_0)
  (try rw [Addr.add_zero'] at hx219_0)
  replace p219 := eq_true p219; replace q219 := eq_true q219
  go_wp2
  go_meet
  case rel => exact ⟨_, (true), y0_8, H', ⟨by first | omega | exact Nat.le_refl _⟩, ⟨by (with_reducible repeat (first | apply Kd.S_alloc | apply Kd.S_drewN | apply Kd.S_drew)); exact Kd.S_mono HO212.out (fun _ hk => hk.2)⟩, ⟨by (with_reducible repeat (first | apply Kd.S_alloc | apply Kd.S_drewN | apply Kd.S_drew)); exact Kd.S_mono HO215.out (fun _ hk => hk.2)⟩, ⟨by (with_reducible repeat (first | apply Kd.R_alloc | apply Kd.R_drewN | apply Kd.R_drew)); exact HO218.out⟩, ⟨bI HB.out⟩⟩
 case rest =>
  clear HC8
  try clear c1
  try clear c2
  try clear c2b0
  try clear c2b1
  try clear p2
  try clear q2
  try clear hx2
  try clear qi2
  try clear c14
  try clear c14b0
  try clear c14b1
  try clear c15
  try clear c15b0
  try clear c15b1
  try clear c17
  try clear hx219_0
  try clear p219
  try clear q219
  obtain ⟨kq, x31_7, rfl, HA, HJ7, HO_4, HO_5, HO_6, HB⟩ := hcut; cases kq with
  | zero => exact absurd HA.out (by simp [spec_Steps.j0])
  | succ kj7 =>
   have H := HA.out; clear HA
   simp only [spec_Steps.j0] at H
   by_cases c18 : x31_7 = true
   ·
    subst c18
    rw [if_pos rfl] at H
    simp only [Option.some.injEq, Prod.mk.injEq] at H
    obtain ⟨rfl, rfl⟩ := H
    go_wp2
    go_ret2
    exact ⟨_, y0_3, y0_1, bI HB.out⟩
   replace c18 := Bool.eq_false_iff.mpr c18; subst c18
   rw [if_neg Bool.false_ne_true] at H
   have H' := Aside0.mk H; clear H
   go_wp2
   go_loopg [5, 7, 8] kj7 (fun kq v5 v7 v8 w' => ∃ (x5_2 : List (S163)) (x7_2 : Int) (x8_2 : Int), v7 = .int .i64 x7_2 ∧ v8 = .int .i64 x8_2 ∧ Aside0 (spec_Steps.l0 kq y210 x5_2 t216 x7_2 x8_2 = some (r1, r2)) ∧ Aside0 (kq ≤ kj7) ∧ Aside0 (Kd.S k163 163 w' w.heap.size (fun k_ => some k_ ≠ (v5 : Value).ownBlock) v211 y210) ∧ Aside0 (Kd.S k163 163 w' w.heap.size (fun k_ => some k_ ≠ (v211 : Value).ownBlock) v5 x5_2) ∧ Aside0 (Kd.R Kd.string 9 w' w.heap.size (fun _ => True) v217 t216) ∧ Aside0 (Below w.heap.size w w'))
   case atStart => exact ⟨(y213), (0), (1), y0_8, y0_8, H', ⟨Nat.le_refl _⟩, ⟨by (with_reducible repeat (first | apply Kd.S_alloc | apply Kd.S_drewN | apply Kd.S_drew)); exact HO_4.out⟩, ⟨by (with_reducible repeat (first | apply Kd.S_alloc | apply Kd.S_drewN | apply Kd.S_drew)); exact HO_5.out⟩, ⟨by (with_reducible repeat (first | apply Kd.R_alloc | apply Kd.R_drewN | apply Kd.R_drew)); exact HO_6.out⟩, ⟨bI HB.out⟩⟩
   case round =>
    clear H'
    try clear c1
    try clear c2
    try clear c2b0
    try clear c2b1
    try clear p2
    try clear q2
    try clear hx2
    try clear qi2
    try clear c14
    try clear c14b0
    try clear c14b1
    try clear c15
    try clear c15b0
    try clear c15b1
    try clear c17
    try clear c18
    try clear hx219_0
    try clear p2
    try clear p219
    try clear q2
    try clear q219
    obtain ⟨x5_2, x7_2, x8_2, rfl, rfl, HA, HK2, HO_4, HO_5, HO_6, HB⟩ := hrel; cases gk with
    | zero => exact absurd HA.out (by simp [spec_Steps.l0])
    | succ k2 =>
     have H := HA.out; clear HA
     simp only [spec_Steps.l0] at H
     by_cases c19 : x8_2 < (t216.length : Int)
     ·
      rw [if_pos c19] at H
      have c19b0 : decide (x8_2 < (t216.length : Int)) = true := decide_eq_true c19; clear c19
      by_cases c20 : 0 ≤ x8_2
      rotate_left
      ·
       rw [if_neg c20] at H
       exact absurd H (by simp)
      rw [if_pos c20] at H
      have c20b0 : decide (0 ≤ x8_2) = true := decide_eq_true c20; clear c20; obtain ⟨⟨t221, t222, t223⟩, A21, H⟩ := oB H; (try dsimp only at H); obtain ⟨⟨t224, t225⟩, A22, H⟩ := oB H; (try dsimp only at H); obtain ⟨⟨t226, t227⟩, A23, H⟩ := oB H; (try dsimp only at H)
      by_cases c24 : t223 = true
      ·
       subst c24
       rw [if_pos rfl] at H
       by_cases c25 : t225 = true
       ·
        subst c25
        rw [if_pos rfl] at H
        by_cases c26 : t227 = true
        ·
         subst c26
         rw [if_pos rfl] at H
         by_cases c27 : t224 ≤ x7_2
         ·
          rw [if_pos c27] at H
          have c27b0 : decide (t224 ≤ x7_2) = true := decide_eq_true c27; clear c27
          simp only [Option.some.injEq, Prod.mk.injEq] at H
          obtain ⟨rfl, rfl⟩ := H; obtain ⟨Ao28, co28, eo28⟩ := Kd.R_slice HO_6.out; subst eo28; have p220 : 0 ≤ (x8_2 : Int) := of_decide_eq_true y0_7; have q220 : x8_2 < (t216.length : Int) := of_decide_eq_true y0_7; obtain ⟨ad220, e220, hx220_0⟩ := Kd.at_string (Kd.R_reads' HO_6.out).2.2 x8_2 p220 q220; cases e220; replace p220 := eq_true p220; replace q220 := eq_true q220
          go_wp2_with (first | ((with_reducible refine gate_callee (f := 179) rfl ?_); refine gB (some 44) Tryz.func179 #[.string (rdOf ByteArray.empty t216 x8_2), .int .u8 124] ?_; (with_reducible refine (spec_l2Cut.calls k2 (rdOf ByteArray.empty t216 x8_2) 124 t221 t222 true _ A21.out).mono ?_); rintro e w' ⟨rfl, ⟨nd, rfl⟩⟩; refine ⟨_, rfl, ?_⟩) | ((with_reducible refine gate_callee (f := 180) rfl ?_); refine gB (some 50) Tryz.func180 #[.string t221] ?_; (with_reducible refine (spec_Number.calls k2 t221 t224 true _ A22.out).mono ?_); rintro e w29 ⟨rfl, hb⟩; refine ⟨_, rfl, ?_⟩; replace HO_4 := sb HO_4 hb; replace HO_5 := sb HO_5 hb; replace HO_6 := rb HO_6 hb; replace HB := bs HB hb; (try clear hb); (try clear hb2); (try clear hk); (try clear hi)) | ((with_reducible refine gate_callee (f := 181) rfl ?_); refine gB (some 55) Tryz.func181 #[.string t222] ?_; (with_reducible refine (spec_TxsOf.calls k2 t222 t226 true _ A23.out).mono ?_); rintro e w30 ⟨v228, rfl, ho0, hb⟩; refine ⟨_, rfl, ?_⟩; replace HO_4 := Aside0.mk (Kd.S_elder' (sI HO_4.out) (Kd.R_base ho0) hb); replace HO_5 := Aside0.mk (Kd.S_elder' (sI HO_5.out) (Kd.R_base ho0) hb); replace HO_6 := rb HO_6 hb; have HO229 := Aside0.mk (Kd.R_lower ho0 (below_size (bI HB.out))); replace HB := bs HB hb; (try clear hb)))
          go_ret2
          exact ⟨_, y0_3, y0_1, bI HB.out⟩
         rw [if_neg c27] at H
         have c27b0 : decide (t224 ≤ x7_2) = false := decide_eq_false c27; clear c27
         by_cases c31 : t224 > 60
         ·
          rw [if_pos c31] at H
          have c31b0 : decide (60 < t224) = true := decide_eq_true c31; clear c31
          simp only [Option.some.injEq, Prod.mk.injEq] at H
          obtain ⟨rfl, rfl⟩ := H; obtain ⟨Ao32, co32, eo32⟩ := Kd.R_slice HO_6.out; subst eo32; have p220 : 0 ≤ (x8_2 : Int) := of_decide_eq_true y0_7; have q220 : x8_2 < (t216.length : Int) := of_decide_eq_true y0_7; obtain ⟨ad220, e220, hx220_0⟩ := Kd.at_string (Kd.R_reads' HO_6.out).2.2 x8_2 p220 q220; cases e220; replace p220 := eq_true p220; replace q220 := eq_true q220
          go_wp2_with (first | ((with_reducible refine gate_callee (f := 179) rfl ?_); refine gB (some 44) Tryz.func179 #[.string (rdOf ByteArray.empty t216 x8_2), .int .u8 124] ?_; (with_reducible refine (spec_l2Cut.calls k2 (rdOf ByteArray.empty t216 x8_2) 124 t221 t222 true _ A21.out).mono ?_); rintro e w' ⟨rfl, ⟨nd, rfl⟩⟩; refine ⟨_, rfl, ?_⟩) | ((with_reducible refine gate_callee (f := 180) rfl ?_); refine gB (some 50) Tryz.func180 #[.string t221] ?_; (with_reducible refine (spec_Number.calls k2 t221 t224 true _ A22.out).mono ?_); rintro e w33 ⟨rfl, hb⟩; refine ⟨_, rfl, ?_⟩; replace HO_4 := sb HO_4 hb; replace HO_5 := sb HO_5 hb; replace HO_6 := rb HO_6 hb; replace HB := bs HB hb; (try clear hb); (try clear hb2); (try clear hk); (try clear hi)) | ((with_reducible refine gate_callee (f := 181) rfl ?_); refine gB (some 55) Tryz.func181 #[.string t222] ?_; (with_reducible refine (spec_TxsOf.calls k2 t222 t226 true _ A23.out).mono ?_); rintro e w34 ⟨v228, rfl, ho0, hb⟩; refine ⟨_, rfl, ?_⟩; replace HO_4 := Aside0.mk (Kd.S_elder' (sI HO_4.out) (Kd.R_base ho0) hb); replace HO_5 := Aside0.mk (Kd.S_elder' (sI HO_5.out) (Kd.R_base ho0) hb); replace HO_6 := rb HO_6 hb; have HO229 := Aside0.mk (Kd.R_lower ho0 (below_size (bI HB.out))); replace HB := bs HB hb; (try clear hb)))
          go_ret2
          exact ⟨_, y0_3, y0_1, bI HB.out⟩
         rw [if_neg c31] at H
         have c31b0 : decide (60 < t224) = false := decide_eq_false c31; clear c31
         by_cases c35 : (t226.length : Int) > 2
         ·
          rw [if_pos c35] at H
          have c35b0 : decide (2 < (t226.length : Int)) = true := decide_eq_true c35
          have c35b1 : decide (2 < t226.length) = true := decide_eq_true (by omega)
          clear c35
          simp only [Option.some.injEq, Prod.mk.injEq] at H
          obtain ⟨rfl, rfl⟩ := H; obtain ⟨Ao36, co36, eo36⟩ := Kd.R_slice HO_6.out; subst eo36; have p220 : 0 ≤ (x8_2 : Int) := of_decide_eq_true y0_7; have q220 : x8_2 < (t216.length : Int) := of_decide_eq_true y0_7; obtain ⟨ad220, e220, hx220_0⟩ := Kd.at_string (Kd.R_reads' HO_6.out).2.2 x8_2 p220 q220; cases e220; replace p220 := eq_true p220; replace q220 := eq_true q220
          go_wp2_with (first | ((with_reducible refine gate_callee (f := 179) rfl ?_); refine gB (some 44) Tryz.func179 #[.string (rdOf ByteArray.empty t216 x8_2), .int .u8 124] ?_; (with_reducible refine (spec_l2Cut.calls k2 (rdOf ByteArray.empty t216 x8_2) 124 t221 t222 true _ A21.out).mono ?_); rintro e w' ⟨rfl, ⟨nd, rfl⟩⟩; refine ⟨_, rfl, ?_⟩) | ((with_reducible refine gate_callee (f := 180) rfl ?_); refine gB (some 50) Tryz.func180 #[.string t221] ?_; (with_reducible refine (spec_Number.calls k2 t221 t224 true _ A22.out).mono ?_); rintro e w37 ⟨rfl, hb⟩; refine ⟨_, rfl, ?_⟩; replace HO_4 := sb HO_4 hb; replace HO_5 := sb HO_5 hb; replace HO_6 := rb HO_6 hb; replace HB := bs HB hb; (try clear hb); (try clear hb2); (try clear hk); (try clear hi)) | ((with_reducible refine gate_callee (f := 181) rfl ?_); refine gB (some 55) Tryz.func181 #[.string t222] ?_; (with_reducible refine (spec_TxsOf.calls k2 t222 t226 true _ A23.out).mono ?_); rintro e w38 ⟨v228, rfl, ho0, hb⟩; refine ⟨_, rfl, ?_⟩; replace HO_4 := Aside0.mk (Kd.S_elder' (sI HO_4.out) (Kd.R_base ho0) hb); replace HO_5 := Aside0.mk (Kd.S_elder' (sI HO_5.out) (Kd.R_base ho0) hb); replace HO_6 := rb HO_6 hb; have HO229 := Aside0.mk (Kd.R_lower ho0 (below_size (bI HB.out))); replace HB := bs HB hb; (try clear hb); obtain ⟨Ao39, co39, eo39⟩ := Kd.R_slice HO229.out; subst eo39))
          go_ret2
          exact ⟨_, y0_3, y0_1, bI HB.out⟩
         rw [if_neg c35] at H
         have c35b0 : decide (2 < (t226.length : Int)) = false := decide_eq_false c35
         have c35b1 : decide (2 < t226.length) = false := decide_eq_false (by omega)
         clear c35
         by_cases c40 : x5_2.length < 4398046511104
         rotate_left
         ·
          rw [if_neg c40] at H
          exact absurd H (by simp)
         rw [if_pos c40] at H
         have LMc40 := Aside0.mk c40; clear c40; obtain ⟨y230, hy230⟩ : ∃ y_ : List (S163), y_ = (x5_2 ++ [(⟨t224, t226⟩ : S163)]) := ⟨_, rfl⟩
         replace H : (spec_Steps.l0 k2 y210 y230 t216 t224 (wrap64 (x8_2 + 1))) = some (r1, r2) := by first | (rw [hy230]; with_reducible exact H) | (rw [hy230]; with_reducible exact (Option.bind_some _ _).symm.trans H) | (rw [hy230]; exact H) | exact H
         have Ny230 := Aside0.mk hy230; clear hy230; have H' := Aside0.mk H; clear H; obtain ⟨Ao41, co41, eo41⟩ := Kd.R_slice HO_6.out; subst eo41; have p220 : 0 ≤ (x8_2 : Int) := of_decide_eq_true y0_7; have q220 : x8_2 < (t216.length : Int) := of_decide_eq_true y0_7; obtain ⟨ad220, e220, hx220_0⟩ := Kd.at_string (Kd.R_reads' HO_6.out).2.2 x8_2 p220 q220; cases e220; replace p220 := eq_true p220; replace q220 := eq_true q220
         go_wp2_with (first | ((with_reducible refine gate_callee (f := 179) rfl ?_); refine gB (some 44) Tryz.func179 #[.string (rdOf ByteArray.empty t216 x8_2), .int .u8 124] ?_; (with_reducible refine (spec_l2Cut.calls k2 (rdOf ByteArray.empty t216 x8_2) 124 t221 t222 true _ A21.out).mono ?_); rintro e w' ⟨rfl, ⟨nd, rfl⟩⟩; refine ⟨_, rfl, ?_⟩) | ((with_reducible refine gate_callee (f := 180) rfl ?_); refine gB (some 50) Tryz.func180 #[.string t221] ?_; (with_reducible refine (spec_Number.calls k2 t221 t224 true _ A22.out).mono ?_); rintro e w42 ⟨rfl, hb⟩; refine ⟨_, rfl, ?_⟩; replace HO_4 := sb HO_4 hb; replace HO_5 := sb HO_5 hb; replace HO_6 := rb HO_6 hb; replace HB := bs HB hb; (try clear hb); (try clear hb2); (try clear hk); (try clear hi)) | ((with_reducible refine gate_callee (f := 181) rfl ?_); refine gB (some 55) Tryz.func181 #[.string t222] ?_; (with_reducible refine (spec_TxsOf.calls k2 t222 t226 true _ A23.out).mono ?_); rintro e w43 ⟨v228, rfl, ho0, hb⟩; refine ⟨_, rfl, ?_⟩; replace HO_4 := Aside0.mk (Kd.S_elder' (sI HO_4.out) (Kd.R_base ho0) hb); replace HO_5 := Aside0.mk (Kd.S_elder' (sI HO_5.out) (Kd.R_base ho0) hb); replace HO_6 := rb HO_6 hb; have HO229 := Aside0.mk (Kd.R_lower ho0 (below_size (bI HB.out))); replace HB := bs HB hb; (try clear hb); obtain ⟨Ao44, co44, eo44⟩ := Kd.R_slice HO229.out; subst eo44) | ((with_reducible refine gate_builtin (b := .append) (xs := #[.tmp 84, .tmp 88]) rfl ?_); (try (refine gate_guard (by rfl) ?_; dsimp only)); at_builtin; refine Kd.S_append k163 (w0 := w) w.heap.size rfl (.tmp 84) (.tmp 88) 159 163 (.agg #[(.int .i64 0), (.slice none 0 0)]) 32 rfl Tryz.underlying159 info163 rfl (by decide) (by omega) u5 x5_2 (⟨t224, t226⟩ : S163) [.int .i64 t224, .slice Ao44 t226.length co44] (fun k_ => some k_ ≠ (v211 : Value).ownBlock) (fun k_ => some k_ = (.slice Ao44 t226.length co44 : Value).ownBlock) rfl rfl ?aP (fun k_ hk_ => ((Kd.R_mono (ok' := fun k_ => ((fun k_ => some k_ ≠ (v211 : Value).ownBlock)) k_ ∧ some k_ ≠ (u5 : Value).ownBlock) (Kd.R_apart' (Kd.R_apart' (HO229.out) (Kd.S_typed HO_4.out) (by decide)) (Kd.S_typed HO_5.out) (by decide)) (fun k_ hk => ⟨hk.1.2, hk.2⟩))).1 k_ hk_.symm) ?aF ?aO ?aB ?aS ?aL ?_; (case aP => exact k163_mkM _ _ _ (⟨t224, t226⟩ : S163) (Kd.R_mono (Kd.R_tight rfl (Kd.R_mono (ok' := fun k_ => ((fun k_ => some k_ ≠ (v211 : Value).ownBlock)) k_ ∧ some k_ ≠ (u5 : Value).ownBlock) (Kd.R_apart' (Kd.R_apart' (HO229.out) (Kd.S_typed HO_4.out) (by decide)) (Kd.S_typed HO_5.out) (by decide)) (fun k_ hk => ⟨hk.1.2, hk.2⟩))) (fun _ h_ => h_))); (case aB => exact (bI HB.out)); (case aF => exact (fun k_ hk => Kd.fresh' (Kd.S_lt (sI HO_4.out)) k_ hk)); (case aO => exact (sI (Kd.S_mono HO_5.out (fun k_ hk => ⟨hk.1, fun e_ => hk.2 e_⟩)))); (case aS => exact (below_size (bI HB.out))); (case aL => have := LMc40.out; omega); intro v231 w45 ho hb hg hat; rw [← Ny230.out] at ho; have n0_ := Aside0.mk (Kd.S_after (ok := (fun k_ => some k_ ≠ (.slice Ao44 t226.length co44 : Value).ownBlock)) (sI (Kd.S_mono HO_4.out (fun _ hk => ⟨hk.2, hk.1⟩))) hg hat); have n1_ := Aside0.mk (Kd.R_over' (rI HO_6.out) (Kd.S_typed (sI HO_5.out)) (by decide) hg); have n2_ := Aside0.mk (hb); have n3_ := Aside0.mk (ho); clear HO_4; clear HO_6; clear HB; clear HO_5; clear HO229; have HO_4 := n0_; have HO_6 := n1_; have HB := n2_; have HO232 := n3_; clear n0_ n1_ n2_ n3_; clear ho hb hg hat))
         go_roundg k2
         case measure => have := HJ7.out; have := HK2.out; omega
         case rel => exact ⟨(y230), (t224), (wrap64 (x8_2 + 1)), y0_8, y0_8, H', ⟨by have := HJ7.out; have := HK2.out; omega⟩, ⟨by (with_reducible repeat (first | apply Kd.S_alloc | apply Kd.S_drewN | apply Kd.S_drew)); exact Kd.S_mono HO_4.out (fun _ hk => hk.2)⟩, ⟨by (with_reducible repeat (first | apply Kd.S_alloc | apply Kd.S_drewN | apply Kd.S_drew)); exact HO232.out⟩, ⟨by (with_reducible repeat (first | apply Kd.R_alloc | apply Kd.R_drewN | apply Kd.R_drew)); exact HO_6.out⟩, ⟨bI HB.out⟩⟩
        replace c26 := Bool.eq_false_iff.mpr c26; subst c26
        rw [if_neg Bool.false_ne_true] at H
        simp only [Option.some.injEq, Prod.mk.injEq] at H
        obtain ⟨rfl, rfl⟩ := H; obtain ⟨Ao46, co46, eo46⟩ := Kd.R_slice HO_6.out; subst eo46; have p220 : 0 ≤ (x8_2 : Int) := of_decide_eq_true y0_7; have q220 : x8_2 < (t216.length : Int) := of_decide_eq_true y0_7; obtain ⟨ad220, e220, hx220_0⟩ := Kd.at_string (Kd.R_reads' HO_6.out).2.2 x8_2 p220 q220; cases e220; replace p220 := eq_true p220; replace q220 := eq_true q220
        go_wp2_with (first | ((with_reducible refine gate_callee (f := 179) rfl ?_); refine gB (some 44) Tryz.func179 #[.string (rdOf ByteArray.empty t216 x8_2), .int .u8 124] ?_; (with_reducible refine (spec_l2Cut.calls k2 (rdOf ByteArray.empty t216 x8_2) 124 t221 t222 true _ A21.out).mono ?_); rintro e w' ⟨rfl, ⟨nd, rfl⟩⟩; refine ⟨_, rfl, ?_⟩) | ((with_reducible refine gate_callee (f := 180) rfl ?_); refine gB (some 50) Tryz.func180 #[.string t221] ?_; (with_reducible refine (spec_Number.calls k2 t221 t224 true _ A22.out).mono ?_); rintro e w47 ⟨rfl, hb⟩; refine ⟨_, rfl, ?_⟩; replace HO_4 := sb HO_4 hb; replace HO_5 := sb HO_5 hb; replace HO_6 := rb HO_6 hb; replace HB := bs HB hb; (try clear hb); (try clear hb2); (try clear hk); (try clear hi)) | ((with_reducible refine gate_callee (f := 181) rfl ?_); refine gB (some 55) Tryz.func181 #[.string t222] ?_; (with_reducible refine (spec_TxsOf.calls k2 t222 t226 false _ A23.out).mono ?_); rintro e w48 ⟨v228, rfl, ho0, hb⟩; refine ⟨_, rfl, ?_⟩; replace HO_4 := Aside0.mk (Kd.S_elder' (sI HO_4.out) (Kd.R_base ho0) hb); replace HO_5 := Aside0.mk (Kd.S_elder' (sI HO_5.out) (Kd.R_base ho0) hb); replace HO_6 := rb HO_6 hb; have HO229 := Aside0.mk (Kd.R_lower ho0 (below_size (bI HB.out))); replace HB := bs HB hb; (try clear hb)))
        go_ret2
        exact ⟨_, y0_3, y0_1, bI HB.out⟩
       replace c25 := Bool.eq_false_iff.mpr c25; subst c25
       rw [if_neg Bool.false_ne_true] at H
       simp only [Option.some.injEq, Prod.mk.injEq] at H
       obtain ⟨rfl, rfl⟩ := H; obtain ⟨Ao49, co49, eo49⟩ := Kd.R_slice HO_6.out; subst eo49; have p220 : 0 ≤ (x8_2 : Int) := of_decide_eq_true y0_7; have q220 : x8_2 < (t216.length : Int) := of_decide_eq_true y0_7; obtain ⟨ad220, e220, hx220_0⟩ := Kd.at_string (Kd.R_reads' HO_6.out).2.2 x8_2 p220 q220; cases e220; replace p220 := eq_true p220; replace q220 := eq_true q220
       go_wp2_with (first | ((with_reducible refine gate_callee (f := 179) rfl ?_); refine gB (some 44) Tryz.func179 #[.string (rdOf ByteArray.empty t216 x8_2), .int .u8 124] ?_; (with_reducible refine (spec_l2Cut.calls k2 (rdOf ByteArray.empty t216 x8_2) 124 t221 t222 true _ A21.out).mono ?_); rintro e w' ⟨rfl, ⟨nd, rfl⟩⟩; refine ⟨_, rfl, ?_⟩) | ((with_reducible refine gate_callee (f := 180) rfl ?_); refine gB (some 50) Tryz.func180 #[.string t221] ?_; (with_reducible refine (spec_Number.calls k2 t221 t224 false _ A22.out).mono ?_); rintro e w50 ⟨rfl, hb⟩; refine ⟨_, rfl, ?_⟩; replace HO_4 := sb HO_4 hb; replace HO_5 := sb HO_5 hb; replace HO_6 := rb HO_6 hb; replace HB := bs HB hb; (try clear hb); (try clear hb2); (try clear hk); (try clear hi)) | ((with_reducible refine gate_callee (f := 181) rfl ?_); refine gB (some 55) Tryz.func181 #[.string t222] ?_; (with_reducible refine (spec_TxsOf.calls k2 t222 t226 t227 _ A23.out).mono ?_); rintro e w51 ⟨v228, rfl, ho0, hb⟩; refine ⟨_, rfl, ?_⟩; replace HO_4 := Aside0.mk (Kd.S_elder' (sI HO_4.out) (Kd.R_base ho0) hb); replace HO_5 := Aside0.mk (Kd.S_elder' (sI HO_5.out) (Kd.R_base ho0) hb); replace HO_6 := rb HO_6 hb; have HO229 := Aside0.mk (Kd.R_lower ho0 (below_size (bI HB.out))); replace HB := bs HB hb; (try clear hb)))
       go_ret2
       exact ⟨_, y0_3, y0_1, bI HB.out⟩
      replace c24 := Bool.eq_false_iff.mpr c24; subst c24
      rw [if_neg Bool.false_ne_true] at H
      simp only [Option.some.injEq, Prod.mk.injEq] at H
      obtain ⟨rfl, rfl⟩ := H; obtain ⟨Ao52, co52, eo52⟩ := Kd.R_slice HO_6.out; subst eo52; have p220 : 0 ≤ (x8_2 : Int) := of_decide_eq_true y0_7; have q220 : x8_2 < (t216.length : Int) := of_decide_eq_true y0_7; obtain ⟨ad220, e220, hx220_0⟩ := Kd.at_string (Kd.R_reads' HO_6.out).2.2 x8_2 p220 q220; cases e220; replace p220 := eq_true p220; replace q220 := eq_true q220
      go_wp2_with (first | ((with_reducible refine gate_callee (f := 179) rfl ?_); refine gB (some 44) Tryz.func179 #[.string (rdOf ByteArray.empty t216 x8_2), .int .u8 124] ?_; (with_reducible refine (spec_l2Cut.calls k2 (rdOf ByteArray.empty t216 x8_2) 124 t221 t222 false _ A21.out).mono ?_); rintro e w' ⟨rfl, ⟨nd, rfl⟩⟩; refine ⟨_, rfl, ?_⟩) | ((with_reducible refine gate_callee (f := 180) rfl ?_); refine gB (some 50) Tryz.func180 #[.string t221] ?_; (with_reducible refine (spec_Number.calls k2 t221 t224 t225 _ A22.out).mono ?_); rintro e w53 ⟨rfl, hb⟩; refine ⟨_, rfl, ?_⟩; replace HO_4 := sb HO_4 hb; replace HO_5 := sb HO_5 hb; replace HO_6 := rb HO_6 hb; replace HB := bs HB hb; (try clear hb); (try clear hb2); (try clear hk); (try clear hi)) | ((with_reducible refine gate_callee (f := 181) rfl ?_); refine gB (some 55) Tryz.func181 #[.string t222] ?_; (with_reducible refine (spec_TxsOf.calls k2 t222 t226 t227 _ A23.out).mono ?_); rintro e w54 ⟨v228, rfl, ho0, hb⟩; refine ⟨_, rfl, ?_⟩; replace HO_4 := Aside0.mk (Kd.S_elder' (sI HO_4.out) (Kd.R_base ho0) hb); replace HO_5 := Aside0.mk (Kd.S_elder' (sI HO_5.out) (Kd.R_base ho0) hb); replace HO_6 := rb HO_6 hb; have HO229 := Aside0.mk (Kd.R_lower ho0 (below_size (bI HB.out))); replace HB := bs HB hb; (try clear hb)))
      go_ret2
      exact ⟨_, y0_3, y0_1, bI HB.out⟩
     rw [if_neg c19] at H
     have c19b0 : decide (x8_2 < (t216.length : Int)) = false := decide_eq_false c19; clear c19
     simp only [Option.some.injEq, Prod.mk.injEq] at H
     obtain ⟨rfl, rfl⟩ := H; obtain ⟨Ao55, co55, eo55⟩ := Kd.R_slice HO_6.out; subst eo55
     go_wp2
     go_ret2
     exact ⟨_, y0_3, by (with_reducible repeat (first | apply Kd.S_alloc | apply Kd.S_drewN | apply Kd.S_drew)); exact Kd.S_mono HO_5.out (fun _ hk => trivial), bI HB.out⟩
def spec_NameOk.f (k : Nat) (a0 : ByteArray) : Option (Bool) := (spec_Steps.f k a0).bind fun bt233 => (some bt233.2)
theorem spec_NameOk.mono : ∀ a0 k, LeO (spec_NameOk.f k a0) (spec_NameOk.f (k + 1) a0) := by
 intro a0 k
 unfold spec_NameOk.f
 repeat' first | (with_reducible exact spec_Steps.mono _ _) | (with_reducible exact LeO.refl _) | (with_reducible exact LeO.none _) | (with_reducible refine LeO.ite ?_ ?_) | (with_reducible refine LeO.bind ?_ (fun _ => ?_))
theorem spec_NameOk.calls (k : Nat) (a0 : ByteArray) (r : Bool) (w : World) (h : spec_NameOk.f k a0 = some r) :
  Calls Tryz.prog 112 #[.string a0] w fun e w' => e = .returned (.bool r) ∧ Below w.heap.size w w' := by
 have HB := Aside0.mk (Below.refl w.heap.size w)
 have H := h; unfold spec_NameOk.f at H
 clear h; obtain ⟨⟨t233, t234⟩, A2, H⟩ := oB H; (try dsimp only at H); obtain rfl := Option.some.inj H
 go_enter Tryz.func112, Tryz.ntmps112
 go_wp2_with (first | ((with_reducible refine gate_callee (f := 152) rfl ?_); refine gS1 (some 7) Tryz.func152 (spec_Steps.calls (w := _) (h := A2.out)) ?_; intro Ao235 co235 w3 _ HO236))
 go_ret
 exact ⟨y0_8, UpW.out⟩
def spec_ViewOf.f (k : Nat) (a0 : ByteArray) : Option (Int) := (spec_Steps.f k a0).bind fun bt237 => (if bt237.2 = true then (if (bt237.1.length : Int) = 0 then (some 0) else (if 0 ≤ (wrap64 ((bt237.1.length : Int) - 1)) then (if (wrap64 ((bt237.1.length : Int) - 1)) < (bt237.1.length : Int) then (some ((rd_T163 bt237.1 (wrap64 ((bt237.1.length : Int) - 1))).f0)) else (none)) else (none))) else (some 0))
theorem spec_ViewOf.mono : ∀ a0 k, LeO (spec_ViewOf.f k a0) (spec_ViewOf.f (k + 1) a0) := by
 intro a0 k
 unfold spec_ViewOf.f
 repeat' first | (with_reducible exact spec_Steps.mono _ _) | (with_reducible exact LeO.refl _) | (with_reducible exact LeO.none _) | (with_reducible refine LeO.ite ?_ ?_) | (with_reducible refine LeO.bind ?_ (fun _ => ?_))
theorem spec_ViewOf.calls (k : Nat) (a0 : ByteArray) (r : Int) (w : World) (h : spec_ViewOf.f k a0 = some r) :
  Calls Tryz.prog 113 #[.string a0] w fun e w' => e = .returned (.int .i64 r) ∧ Below w.heap.size w w' := by
 have HB := Aside0.mk (Below.refl w.heap.size w)
 have H := h; unfold spec_ViewOf.f at H
 clear h; obtain ⟨⟨t237, t238⟩, A2, H⟩ := oB H; (try dsimp only at H)
 go_enter Tryz.func113, Tryz.ntmps113
 have H' := Aside0.mk H; clear H
 go_upto_region 2 with (first | ((with_reducible refine gate_callee (f := 152) rfl ?_); refine gS1 (some 7) Tryz.func152 (spec_Steps.calls (w := _) (h := A2.out)) ?_; intro Ao239 co239 w3 _ HO240))
 have H := H'.out; clear H'
 by_cases c4 : t238 = true
 ·
  subst c4
  rw [if_pos rfl] at H
  have H' := Aside0.mk H; clear H
  go_upto_if 16 with fail
  have H := H'.out; clear H'
  by_cases c5 : (t237.length : Int) = 0
  ·
   rw [if_pos c5] at H
   have c5b0 : ((t237.length : Int) == 0) = true := beq_iff_eq.mpr c5; have c5b1 : ((t237.length : Int) != 0) = false := bne_eq_false_iff_eq.mpr c5; clear c5
   (first | rw [c5b0] | (simp only [i64_w, i32_w]; rw [c5b0]) | skip)
   obtain rfl := Option.some.inj H
   go_wp2
   go_ret
   exact ⟨y0_8, UpW.out⟩
  rw [if_neg c5] at H
  have c5b0 : ((t237.length : Int) == 0) = false := beq_eq_false_iff_ne.mpr c5; have c5b1 : ((t237.length : Int) != 0) = true := bne_iff_ne.mpr c5
  have c5b2 : ¬ (t237 = []) := fun h_ => c5 (by rw [h_]; rfl)
  (first | rw [c5b0] | (simp only [i64_w, i32_w]; rw [c5b0]) | skip)
  obtain ⟨ji6, hji6⟩ : ∃ j_ : Int, (wrap64 ((t237.length : Int) - 1)) = j_ := ⟨_, rfl⟩
  replace H : (if 0 ≤ (ji6) then (if (ji6) < (t237.length : Int) then (some ((rd_T163 t237 (ji6)).f0)) else (none)) else (none)) = some r := by first | (rw [hji6] at H; exact H) | (simp only [hji6] at H ⊢; exact H)
  have hji6w : (IntKind.i64.wrap ((t237.length : Int) - 1)) = ji6 := (i64_w _).trans hji6
  by_cases c7 : 0 ≤ (ji6)
  rotate_left
  ·
   rw [if_neg c7] at H
   exact absurd H (by simp)
  rw [if_pos c7] at H
  have c7b0 : decide (0 ≤ (ji6)) = true := decide_eq_true c7; clear c7
  by_cases c8 : (ji6) < (t237.length : Int)
  rotate_left
  ·
   rw [if_neg c8] at H
   exact absurd H (by simp)
  rw [if_pos c8] at H
  have c8b0 : decide ((ji6) < (t237.length : Int)) = true := decide_eq_true c8; clear c8; obtain rfl := Option.some.inj H; have p241 : 0 ≤ ((ji6) : Int) := of_decide_eq_true y0_7; have q241 : (ji6) < (t237.length : Int) := of_decide_eq_true y0_7
  obtain ⟨go241, cc241, eo241, hb241, _, hg241⟩ := Kd.S_form HO240.out (by omega)
  have bo241 : BornI go241 _ := ⟨hb241⟩
  injection eo241 with ea_ en_ ec_
  subst ea_; subst ec_; clear en_; have sb241 : StB go241 w3 163 := ⟨hg241⟩; obtain ⟨ok241, ce241, _, hM241, hcc241, _, _, _⟩ := Kd.S_elem HO240.out z163 (ji6) p241 q241; obtain ⟨ve241_1, rfl, ge241_1⟩ := k163_openM hM241; obtain ⟨A241_1, c241_1, ev241_1⟩ := Kd.R_slice ge241_1; subst ev241_1; have i241_0_ : RdG go241 (((ji6) : Int).toNat * 2) w3 (.int .i64 ((rd_T163 t237 (ji6)).f0)) := RdG.of hg241 (hcc241 0 _ rfl); have i241_1_ : RdG go241 (((ji6) : Int).toNat * 2 + 1) w3 (.slice A241_1 ((rd_T163 t237 (ji6)).f1).length c241_1) := RdG.of hg241 (hcc241 1 _ rfl)
  have HR241_1 := Aside0.mk (show Kd.R k156 156 w3 _ ok241 (.slice A241_1 ((rd_T163 t237 (ji6)).f1).length c241_1) ((rd_T163 t237 (ji6)).f1) from ge241_1)
  replace p241 := eq_true p241; replace q241 := eq_true q241
  go_wp2
  go_ret
  exact ⟨by first | rfl | (simp; done) | (simp only [← hji6] <;> (first | rfl | simp)) | (simp [*]; done), UpW.out⟩
 replace c4 := Bool.eq_false_iff.mpr c4; subst c4
 rw [if_neg Bool.false_ne_true] at H
 obtain rfl := Option.some.inj H
 go_wp2
 go_ret
 exact ⟨y0_8, UpW.out⟩
def spec_Quorum.f (a0_0 : Int) (a0_1 : Int) : Option (Int) := (spec_ConfOk.f a0_0 a0_1).bind fun t243 => (if t243 = true then (some (wrap64 (a0_0 - (wrap64 (Int.tdiv (wrap64 (a0_0 - 1)) 3))))) else (some 0))
theorem spec_Quorum.calls (a0_0 : Int) (a0_1 : Int) (r : Int) (w : World) (h : spec_Quorum.f a0_0 a0_1 = some r) :
  Calls Tryz.prog 148 #[.agg #[.int .i64 a0_0, .int .i64 a0_1]] w fun e w' => e = .returned (.int .i64 r) ∧ Below w.heap.size w w' := by
 have hu32 := Tryz.underlying32; have HB := Aside0.mk (Below.refl w.heap.size w)
 have H := h; unfold spec_Quorum.f at H
 clear h; obtain ⟨t243, A2, H⟩ := oB H; (try dsimp only at H)
 go_enter Tryz.func148, Tryz.ntmps148
 have H' := Aside0.mk H; clear H
 go_upto_if 5 with (first | ((with_reducible refine gd 1 ?_); refine bL 1 #[.int .i64 a0_0, .int .i64 a0_1] 32 ?_; intro gb242 w3 _ _ _) | ((with_reducible refine gate_callee (f := 109) rfl ?_); refine gC (some 4) Tryz.func109 (spec_ConfOk.calls (w := _) (h := A2.out)) ?_; intro w4 _))
 have H := H'.out; clear H'
 by_cases c5 : t243 = true
 ·
  subst c5
  rw [if_pos rfl] at H
  obtain rfl := Option.some.inj H
  go_wp2
  go_ret
  exact ⟨y0_8, UpW.out⟩
 replace c5 := Bool.eq_false_iff.mpr c5; subst c5
 rw [if_neg Bool.false_ne_true] at H
 obtain rfl := Option.some.inj H
 go_wp2
 go_ret
 exact ⟨y0_8, UpW.out⟩
def spec_QcOk.f (k : Nat) (a0_0 : Int) (a0_1 : Int) (a1_0 : Int) (a1_1 : ByteArray) (l1_2 : List Int) : Option (Bool) := (spec_ConfOk.f a0_0 a0_1).bind fun t246 => (if t246 = true then ((spec_NameOk.f k a1_1).bind fun t247 => (if t247 = true then ((spec_ViewOf.f k a1_1).bind fun t248 => (if t248 = a1_0 then (if a1_1.toList = ([] : List UInt8) then (some ((l1_2.length : Int) == 0)) else ((spec_SetOk.f k a0_0 l1_2).bind fun t249 => (if t249 = true then ((spec_Quorum.f a0_0 a0_1).bind fun t250 => (some (decide ((l1_2.length : Int) ≥ t250)))) else (some false)))) else (some false))) else (some false))) else (some false))
theorem spec_QcOk.mono : ∀ a0 a1 a2 a3 a4 k, LeO (spec_QcOk.f k a0 a1 a2 a3 a4) (spec_QcOk.f (k + 1) a0 a1 a2 a3 a4) := by
 intro a0 a1 a2 a3 a4 k
 unfold spec_QcOk.f
 repeat' first | (with_reducible exact spec_NameOk.mono _ _) | (with_reducible exact spec_SetOk.mono _ _ _) | (with_reducible exact spec_ViewOf.mono _ _) | (with_reducible exact LeO.refl _) | (with_reducible exact LeO.none _) | (with_reducible refine LeO.ite ?_ ?_) | (with_reducible refine LeO.bind ?_ (fun _ => ?_))
def spec_QcOk.T1 : Bool × List (List Nat × List Nat) := (true, [([], []), ([0], [0]), ([1], [1]), ([2, 1], [2]), ([3], [3]), ([4, 3], [3, 4]), ([5, 3, 3], [3, 5]), ([6, 3], [3, 6]), ([3, 7], [3, 7]), ([8, 6], [8]), ([9], [9]), ([10, 9], [9, 10]), ([11, 9, 9], [9, 11]), ([9], [9]), ([13, 9], [9, 13]), ([12, 14, 9], [9, 12, 14]), ([9, 15], [9, 15])])
def spec_QcOk.B1 : List Nat := [0, 1, 3, 7, 15, 31, 63, 127, 255, 511, 1023, 2047, 4095, 1023, 9215, 32767, 65535]
theorem spec_QcOk.tab1 : rtab .any (opsOf Tryz.f100 1) = spec_QcOk.T1 := by kernel_rfl
theorem spec_QcOk.bits1 : waitsOk spec_QcOk.T1.2 spec_QcOk.B1 = true := by kernel_rfl
def spec_QcOk.T5 : Bool × List (List Nat × List Nat) := (true, [([], []), ([0], [0]), ([], []), ([2], [2]), ([1, 3], [1, 3]), ([4, 4], [4]), ([5], [5]), ([6, 5], [5, 6]), ([7, 5], [5, 7]), ([5], [5]), ([9, 5, 5], [5, 9]), ([8, 10, 5], [5, 8, 10]), ([5, 11], [5, 11]), ([12, 10, 0, 1, 2, 3, 4, 5, 6, 7, 8, 9, 10, 11, 12], [12])])
def spec_QcOk.B5 : List Nat := [0, 1, 0, 4, 15, 31, 63, 127, 255, 63, 575, 2047, 4095, 8191]
theorem spec_QcOk.tab5 : rtab .any (opsOf Tryz.f100 5) = spec_QcOk.T5 := by kernel_rfl
theorem spec_QcOk.bits5 : waitsOk spec_QcOk.T5.2 spec_QcOk.B5 = true := by kernel_rfl
theorem spec_QcOk.calls (k : Nat) (a0_0 : Int) (a0_1 : Int) (a1_0 : Int) (a1_1 : ByteArray) (A1_2 : Option Addr) (c1_2 : Nat) (l1_2 : List Int) (r : Bool) (w : World) (hr1_2 : Kd.C (Kd.int .i64) w A1_2 l1_2.length l1_2) (hc1_2 : l1_2.length ≤ c1_2) (h : spec_QcOk.f k a0_0 a0_1 a1_0 a1_1 l1_2 = some r) :
  Calls Tryz.prog 100 #[.agg #[.int .i64 a0_0, .int .i64 a0_1], .agg #[.int .i64 a1_0, .string a1_1, .slice A1_2 l1_2.length c1_2]] w fun e w' => e = .returned (.bool r) ∧ Below w.heap.size w w' := by
 have hu32 := Tryz.underlying32; have hu27 := Tryz.underlying27; have HR1_2 := Aside0.mk hr1_2; have HC1_2 := Aside0.mk hc1_2; clear hr1_2 hc1_2; have HB := Aside0.mk (Below.refl w.heap.size w)
 have H := h; unfold spec_QcOk.f at H
 clear h
 go_enter Tryz.func100, Tryz.ntmps100
 have H' := Aside0.mk H; clear H
 go_upto_region 1 with (first | ((with_reducible refine gd 2 ?_); refine bL 2 #[.int .i64 a0_0, .int .i64 a0_1] 32 ?_; intro gb244 w3 _ _ _) | ((with_reducible refine gd 3 ?_); refine bL 3 #[.int .i64 a1_0, .string a1_1, .slice A1_2 l1_2.length c1_2] 27 ?_; intro gb245 w4 _ _ _))
 have H := H'.out; clear H'; obtain ⟨t246, A5, H⟩ := oB H; (try dsimp only at H)
 by_cases c6 : t246 = true
 ·
  subst c6
  rw [if_pos rfl] at H
  obtain ⟨t247, A7, H⟩ := oB H; (try dsimp only at H)
  by_cases c8 : t247 = true
  ·
   subst c8
   rw [if_pos rfl] at H
   obtain ⟨t248, A9, H⟩ := oB H; (try dsimp only at H); have H' := Aside0.mk H; clear H
   try go_wp2
   refine sB [] spec_QcOk.tab1 spec_QcOk.bits1 ?_; intro w10 _ HT_ HW_
   refine tB 0 (some 5) (bz 17 1) HT_ HW_ ?_
   refine o1 1 (some 6) (bz 17 3) HT_ rfl (kC Tryz.func109 (spec_ConfOk.calls (w := _) (h := A5.out)) ?_); intro w11 _
   refine nA (some 6) ?_
   refine pA 2 (some 7) (bz 17 7) HT_ ?_
   refine pA 3 (some 8) (bz 17 15) HT_ ?_
   refine pA 4 (some 9) (bz 17 31) HT_ ?_
   refine tB 5 (some 10) (bz 17 63) HT_ HW_ ?_
   refine o1 6 (some 11) (bz 17 127) HT_ rfl (kC Tryz.func112 (spec_NameOk.calls (w := _) (h := A7.out)) ?_); intro w12 _
   refine nA (some 11) ?_
   refine pA 7 (some 12) (bz 17 255) HT_ ?_
   refine pA 8 (some 13) (bz 17 511) HT_ ?_
   refine pA 9 (some 14) (bz 17 1023) HT_ ?_
   refine pA 10 (some 15) (bz 17 2047) HT_ ?_
   refine tB 11 (some 16) (bz 17 4095) HT_ HW_ ?_
   refine pA 13 (some 18) (bz 17 0x2fff) HT_ ?_
   refine tB 14 (some 19) (bz 17 0x6fff) HT_ HW_ ?_
   refine o1 12 (some 17) (bz 17 0x7fff) HT_ rfl (kC Tryz.func113 (spec_ViewOf.calls (w := _) (h := A9.out)) ?_); intro w13 _
   refine nA (some 17) ?_
   refine pA 15 (some 20) (bz 17 0xffff) HT_ ?_
   refine pA 16 (some 21) (bz 17 0x1ffff) HT_ ?_
   refine done_ (done_of HT_.out (by kernel_rfl)) ?_
   go_upto_if 21 with fail
   have H := H'.out; clear H'
   by_cases c14 : t248 = a1_0
   ·
    rw [if_pos c14] at H
    have c14b0 : (t248 == a1_0) = true := beq_iff_eq.mpr c14; have c14b1 : (t248 != a1_0) = false := bne_eq_false_iff_eq.mpr c14; clear c14
    (first | rw [c14b0] | (simp only [i64_w, i32_w]; rw [c14b0]) | skip)
    have H' := Aside0.mk H; clear H
    go_upto_if 24 with fail
    have H := H'.out; clear H'
    by_cases c15 : a1_1.toList = ([] : List UInt8)
    ·
     rw [if_pos c15] at H
     have c15b0 : (a1_1.toList == ([] : List UInt8)) = true := beq_iff_eq.mpr c15; have c15b1 : (a1_1.toList != ([] : List UInt8)) = false := bne_eq_false_iff_eq.mpr c15; clear c15
     (first | rw [c15b0] | (simp only [i64_w, i32_w]; rw [c15b0]) | rw [show List.isEmpty (a1_1.toList) = true from by simpa using c15b0] | skip)
     obtain rfl := Option.some.inj H
     go_wp2
     go_ret
     exact ⟨y0_8, UpW.out⟩
    rw [if_neg c15] at H
    have c15b0 : (a1_1.toList == ([] : List UInt8)) = false := beq_eq_false_iff_ne.mpr c15; have c15b1 : (a1_1.toList != ([] : List UInt8)) = true := bne_iff_ne.mpr c15
    (first | rw [c15b0] | (simp only [i64_w, i32_w]; rw [c15b0]) | rw [show List.isEmpty (a1_1.toList) = false from by simpa using c15b0] | skip)
    obtain ⟨t249, A16, H⟩ := oB H; (try dsimp only at H)
    by_cases c17 : t249 = true
    ·
     subst c17
     rw [if_pos rfl] at H
     obtain ⟨t250, A18, H⟩ := oB H; (try dsimp only at H); obtain rfl := Option.some.inj H
     try go_wp2
     refine sB [] spec_QcOk.tab5 spec_QcOk.bits5 ?_; intro w19 _ HT_ HW_
     refine pA 0 (some 29) (bz 14 1) HT_ ?_
     refine tB 1 (some 30) (bz 14 3) HT_ HW_ ?_
     refine pA 2 (some 31) (bz 14 7) HT_ ?_
     refine tB 3 (some 32) (bz 14 15) HT_ HW_ ?_
     refine o1 4 (some 33) (bz 14 31) HT_ rfl (kD Tryz.func111 (spec_SetOk.calls (hr1 := pC HR1_2) (hc1 := HC1_2.out) (w := _) (h := A16.out)) ?_); intro w20 _
     refine nA (some 33) ?_
     refine pA 5 (some 34) (bz 14 63) HT_ ?_
     refine pA 6 (some 35) (bz 14 127) HT_ ?_
     refine tB 7 (some 36) (bz 14 255) HT_ HW_ ?_
     refine pA 8 (some 37) (bz 14 511) HT_ ?_
     refine tB 9 (some 38) (bz 14 1023) HT_ HW_ ?_
     refine o1 10 (some 39) (bz 14 2047) HT_ rfl (kC Tryz.func148 (spec_Quorum.calls (w := _) (h := A18.out)) ?_); intro w21 _
     refine nA (some 39) ?_
     refine pA 11 (some 40) (bz 14 4095) HT_ ?_
     refine pA 12 (some 41) (bz 14 0x1fff) HT_ ?_
     refine pA 13 (some 4) (bz 14 0x3fff) HT_ ?_
     refine done_ (done_of HT_.out (by kernel_rfl)) ?_
     try go_wp2
     go_ret
     exact ⟨y0_8, UpW.out⟩
    replace c17 := Bool.eq_false_iff.mpr c17; subst c17
    rw [if_neg Bool.false_ne_true] at H
    obtain rfl := Option.some.inj H
    try go_wp2
    refine sB [] spec_QcOk.tab5 spec_QcOk.bits5 ?_; intro w22 _ HT_ HW_
    refine pA 0 (some 29) (bz 14 1) HT_ ?_
    refine tB 1 (some 30) (bz 14 3) HT_ HW_ ?_
    refine pA 2 (some 31) (bz 14 7) HT_ ?_
    refine tB 3 (some 32) (bz 14 15) HT_ HW_ ?_
    refine o1 4 (some 33) (bz 14 31) HT_ rfl (kD Tryz.func111 (spec_SetOk.calls (hr1 := pC HR1_2) (hc1 := HC1_2.out) (w := _) (h := A16.out)) ?_); intro w23 _
    refine nA (some 33) ?_
    refine pA 5 (some 34) (bz 14 63) HT_ ?_
    refine pU 6 (some 35) (bz 14 127) HT_ ?_
    refine pU 7 (some 36) (bz 14 255) HT_ ?_
    refine pU 8 (some 37) (bz 14 511) HT_ ?_
    refine pU 9 (some 38) (bz 14 1023) HT_ ?_
    refine pU 10 (some 39) (bz 14 2047) HT_ ?_
    refine pU 11 (some 40) (bz 14 4095) HT_ ?_
    refine pA 12 (some 41) (bz 14 0x1fff) HT_ ?_
    refine pA 13 (some 4) (bz 14 0x3fff) HT_ ?_
    refine done_ (done_of HT_.out (by kernel_rfl)) ?_
    try go_wp2
    go_ret
    exact ⟨y0_8, UpW.out⟩
   rw [if_neg c14] at H
   have c14b0 : (t248 == a1_0) = false := beq_eq_false_iff_ne.mpr c14; have c14b1 : (t248 != a1_0) = true := bne_iff_ne.mpr c14
   (first | rw [c14b0] | (simp only [i64_w, i32_w]; rw [c14b0]) | skip)
   obtain rfl := Option.some.inj H
   go_wp2
   go_ret
   exact ⟨y0_8, UpW.out⟩
  replace c8 := Bool.eq_false_iff.mpr c8; subst c8
  rw [if_neg Bool.false_ne_true] at H
  have H' := Aside0.mk H; clear H
  try go_wp2
  refine sB [] spec_QcOk.tab1 spec_QcOk.bits1 ?_; intro w24 _ HT_ HW_
  refine tB 0 (some 5) (bz 17 1) HT_ HW_ ?_
  refine o1 1 (some 6) (bz 17 3) HT_ rfl (kC Tryz.func109 (spec_ConfOk.calls (w := _) (h := A5.out)) ?_); intro w25 _
  refine nA (some 6) ?_
  refine pA 2 (some 7) (bz 17 7) HT_ ?_
  refine pA 3 (some 8) (bz 17 15) HT_ ?_
  refine pA 4 (some 9) (bz 17 31) HT_ ?_
  refine tB 5 (some 10) (bz 17 63) HT_ HW_ ?_
  refine o1 6 (some 11) (bz 17 127) HT_ rfl (kC Tryz.func112 (spec_NameOk.calls (w := _) (h := A7.out)) ?_); intro w26 _
  refine nA (some 11) ?_
  refine pA 7 (some 12) (bz 17 255) HT_ ?_
  refine pA 8 (some 13) (bz 17 511) HT_ ?_
  refine pA 9 (some 14) (bz 17 1023) HT_ ?_
  refine pU 10 (some 15) (bz 17 2047) HT_ ?_
  refine pU 11 (some 16) (bz 17 4095) HT_ ?_
  refine pU 12 (some 17) (bz 17 0x1fff) HT_ ?_
  refine pU 13 (some 18) (bz 17 0x3fff) HT_ ?_
  refine pU 14 (some 19) (bz 17 0x7fff) HT_ ?_
  refine pU 15 (some 20) (bz 17 0xffff) HT_ ?_
  refine pA 16 (some 21) (bz 17 0x1ffff) HT_ ?_
  refine done_ (done_of HT_.out (by kernel_rfl)) ?_
  go_upto_if 21 with fail
  have H := H'.out; clear H'; obtain rfl := Option.some.inj H
  go_wp2
  go_ret
  exact ⟨y0_8, UpW.out⟩
 replace c6 := Bool.eq_false_iff.mpr c6; subst c6
 rw [if_neg Bool.false_ne_true] at H
 have H' := Aside0.mk H; clear H
 try go_wp2
 refine sB [] spec_QcOk.tab1 spec_QcOk.bits1 ?_; intro w27 _ HT_ HW_
 refine tB 0 (some 5) (bz 17 1) HT_ HW_ ?_
 refine o1 1 (some 6) (bz 17 3) HT_ rfl (kC Tryz.func109 (spec_ConfOk.calls (w := _) (h := A5.out)) ?_); intro w28 _
 refine nA (some 6) ?_
 refine pA 2 (some 7) (bz 17 7) HT_ ?_
 refine pA 3 (some 8) (bz 17 15) HT_ ?_
 refine pU 4 (some 9) (bz 17 31) HT_ ?_
 refine pU 5 (some 10) (bz 17 63) HT_ ?_
 refine pU 6 (some 11) (bz 17 127) HT_ ?_
 refine pU 7 (some 12) (bz 17 255) HT_ ?_
 refine pA 8 (some 13) (bz 17 511) HT_ ?_
 refine pA 9 (some 14) (bz 17 1023) HT_ ?_
 refine pU 10 (some 15) (bz 17 2047) HT_ ?_
 refine pU 11 (some 16) (bz 17 4095) HT_ ?_
 refine pU 12 (some 17) (bz 17 0x1fff) HT_ ?_
 refine pU 13 (some 18) (bz 17 0x3fff) HT_ ?_
 refine pU 14 (some 19) (bz 17 0x7fff) HT_ ?_
 refine pU 15 (some 20) (bz 17 0xffff) HT_ ?_
 refine pA 16 (some 21) (bz 17 0x1ffff) HT_ ?_
 refine done_ (done_of HT_.out (by kernel_rfl)) ?_
 go_upto_if 21 with fail
 have H := H'.out; clear H'; obtain rfl := Option.some.inj H
 go_wp2
 go_ret
 exact ⟨y0_8, UpW.out⟩
def spec_SafeOk.f (k : Nat) (a0_0 : Int) (a0_1 : Int) (a1_0 : Int) (a1_1 : Int) (a1_2 : Int) (a1_3 : ByteArray) (l1_4 : List Int) (a1_5 : ByteArray) : Option (Bool) := (spec_l1In.f a1_0 0 60).bind fun t253 => (if t253 = true then ((spec_l1In.f a1_1 0 60).bind fun t254 => (if t254 = true then ((spec_QcOk.f k a0_0 a0_1 a1_2 a1_3 l1_4).bind fun t255 => (if t255 = true then ((spec_NameOk.f k a1_5).bind fun t256 => (some t256)) else (some false))) else (some false))) else (some false))
theorem spec_SafeOk.mono : ∀ a0 a1 a2 a3 a4 a5 a6 a7 k, LeO (spec_SafeOk.f k a0 a1 a2 a3 a4 a5 a6 a7) (spec_SafeOk.f (k + 1) a0 a1 a2 a3 a4 a5 a6 a7) := by
 intro a0 a1 a2 a3 a4 a5 a6 a7 k
 unfold spec_SafeOk.f
 repeat' first | (with_reducible exact spec_NameOk.mono _ _) | (with_reducible exact spec_QcOk.mono _ _ _ _ _ _) | (with_reducible exact LeO.refl _) | (with_reducible exact LeO.none _) | (with_reducible refine LeO.ite ?_ ?_) | (with_reducible refine LeO.bind ?_ (fun _ => ?_))
theorem spec_SafeOk.calls (k : Nat) (a0_0 : Int) (a0_1 : Int) (a1_0 : Int) (a1_1 : Int) (a1_2 : Int) (a1_3 : ByteArray) (A1_4 : Option Addr) (c1_4 : Nat) (l1_4 : List Int) (a1_5 : ByteArray) (r : Bool) (w : World) (hr1_4 : Kd.C (Kd.int .i64) w A1_4 l1_4.length l1_4) (hc1_4 : l1_4.length ≤ c1_4) (h : spec_SafeOk.f k a0_0 a0_1 a1_0 a1_1 a1_2 a1_3 l1_4 a1_5 = some r) :
  Calls Tryz.prog 129 #[.agg #[.int .i64 a0_0, .int .i64 a0_1], .agg #[.int .i64 a1_0, .int .i64 a1_1, .int .i64 a1_2, .string a1_3, .slice A1_4 l1_4.length c1_4, .string a1_5]] w fun e w' => e = .returned (.bool r) ∧ Below w.heap.size w w' := by
 have hu32 := Tryz.underlying32; have hu29 := Tryz.underlying29; have hu27 := Tryz.underlying27; have HR1_4 := Aside0.mk hr1_4; have HC1_4 := Aside0.mk hc1_4; clear hr1_4 hc1_4; have HB := Aside0.mk (Below.refl w.heap.size w)
 have H := h; unfold spec_SafeOk.f at H
 clear h
 go_enter Tryz.func129, Tryz.ntmps129
 have H' := Aside0.mk H; clear H
 go_upto_region 1 with (first | ((with_reducible refine gd 2 ?_); refine bL 2 #[.int .i64 a0_0, .int .i64 a0_1] 32 ?_; intro gb251 w3 _ _ _) | ((with_reducible refine gd 3 ?_); refine bL 3 #[.int .i64 a1_0, .int .i64 a1_1, .int .i64 a1_2, .string a1_3, .slice A1_4 l1_4.length c1_4, .string a1_5] 29 ?_; intro gb252 w4 _ _ _))
 have H := H'.out; clear H'; obtain ⟨t253, A5, H⟩ := oB H; (try dsimp only at H)
 by_cases c6 : t253 = true
 ·
  subst c6
  rw [if_pos rfl] at H
  obtain ⟨t254, A7, H⟩ := oB H; (try dsimp only at H)
  by_cases c8 : t254 = true
  ·
   subst c8
   rw [if_pos rfl] at H
   obtain ⟨t255, A9, H⟩ := oB H; (try dsimp only at H)
   by_cases c10 : t255 = true
   ·
    subst c10
    rw [if_pos rfl] at H
    obtain ⟨t256, A11, H⟩ := oB H; (try dsimp only at H); obtain rfl := Option.some.inj H
    go_wp2_with (first | ((with_reducible refine gate_callee (f := 110) rfl ?_); refine gD (some 7) Tryz.func110 (spec_l1In.calls (w := _) (h := A5.out)) ?_; intro w12 _) | (go_at_call 110; refine aD (spec_l1In.calls (w := _) (h := A7.out)) ?_; intro w13 _) | (go_at_call 100; refine aC (spec_QcOk.calls (hr1_2 := pC HR1_4) (hc1_2 := HC1_4.out) (w := _) (h := A9.out)) ?_; intro w14 _) | (go_at_call 112; refine aC (spec_NameOk.calls (w := _) (h := A11.out)) ?_; intro w15 _))
    go_ret
    exact ⟨y0_8, UpW.out⟩
   replace c10 := Bool.eq_false_iff.mpr c10; subst c10
   rw [if_neg Bool.false_ne_true] at H
   obtain rfl := Option.some.inj H
   go_wp2_with (first | ((with_reducible refine gate_callee (f := 110) rfl ?_); refine gD (some 7) Tryz.func110 (spec_l1In.calls (w := _) (h := A5.out)) ?_; intro w16 _) | (go_at_call 110; refine aD (spec_l1In.calls (w := _) (h := A7.out)) ?_; intro w17 _) | (go_at_call 100; refine aC (spec_QcOk.calls (hr1_2 := pC HR1_4) (hc1_2 := HC1_4.out) (w := _) (h := A9.out)) ?_; intro w18 _))
   go_ret
   exact ⟨y0_8, UpW.out⟩
  replace c8 := Bool.eq_false_iff.mpr c8; subst c8
  rw [if_neg Bool.false_ne_true] at H
  obtain rfl := Option.some.inj H
  go_wp2_with (first | ((with_reducible refine gate_callee (f := 110) rfl ?_); refine gD (some 7) Tryz.func110 (spec_l1In.calls (w := _) (h := A5.out)) ?_; intro w19 _) | (go_at_call 110; refine aD (spec_l1In.calls (w := _) (h := A7.out)) ?_; intro w20 _))
  go_ret
  exact ⟨y0_8, UpW.out⟩
 replace c6 := Bool.eq_false_iff.mpr c6; subst c6
 rw [if_neg Bool.false_ne_true] at H
 obtain rfl := Option.some.inj H
 go_wp2_with (first | ((with_reducible refine gate_callee (f := 110) rfl ?_); refine gD (some 7) Tryz.func110 (spec_l1In.calls (w := _) (h := A5.out)) ?_; intro w21 _))
 go_ret
 exact ⟨y0_8, UpW.out⟩
def spec_SafeOf.f (k : Nat) (a0_0 : Int) (a0_1 : Int) (l1 : List Int) : Option (Int × Int × Int × ByteArray × List Int × ByteArray × Bool) := (spec_l12Num.f k l1 0 true).bind fun bt261 => ((spec_l12Num.f k l1 bt261.2.1 bt261.2.2).bind fun bt264 => ((spec_l12Qc.f k l1 bt264.2.1 bt264.2.2).bind fun bt267 => ((spec_l12Text.f k l1 bt267.2.2.2.1 bt267.2.2.2.2).bind fun bt274 => (if bt274.2.2 = true then (if bt274.2.1 = (l1.length : Int) then ((spec_SafeOk.f k a0_0 a0_1 bt261.1 bt264.1 bt267.1 bt267.2.1 bt267.2.2.1 bt274.1).bind fun t277 => (if t277 = true then (some (bt261.1, bt264.1, bt267.1, bt267.2.1, bt267.2.2.1, bt274.1, true)) else (some (0, 0, 0, (⟨#[]⟩ : ByteArray), ([] : List Int), (⟨#[]⟩ : ByteArray), false)))) else (some (0, 0, 0, (⟨#[]⟩ : ByteArray), ([] : List Int), (⟨#[]⟩ : ByteArray), false))) else (some (0, 0, 0, (⟨#[]⟩ : ByteArray), ([] : List Int), (⟨#[]⟩ : ByteArray), false))))))
theorem spec_SafeOf.mono : ∀ a0 a1 a2 k, LeO (spec_SafeOf.f k a0 a1 a2) (spec_SafeOf.f (k + 1) a0 a1 a2) := by
 intro a0 a1 a2 k
 unfold spec_SafeOf.f
 repeat' first | (with_reducible exact spec_SafeOk.mono _ _ _ _ _ _ _ _ _) | (with_reducible exact spec_l12Num.mono _ _ _ _) | (with_reducible exact spec_l12Qc.mono _ _ _ _) | (with_reducible exact spec_l12Text.mono _ _ _ _) | (with_reducible exact LeO.refl _) | (with_reducible exact LeO.none _) | (with_reducible refine LeO.ite ?_ ?_) | (with_reducible refine LeO.bind ?_ (fun _ => ?_))
theorem spec_SafeOf.calls (k : Nat) (a0_0 : Int) (a0_1 : Int) (A1 : Option Addr) (c1 : Nat) (l1 : List Int) (r1 : Int) (r2 : Int) (r3 : Int) (r4 : ByteArray) (r5 : List Int) (r6 : ByteArray) (r7 : Bool) (w : World) (hr1 : Kd.C (Kd.int .u8) w A1 l1.length l1) (hc1 : l1.length ≤ c1) (h : spec_SafeOf.f k a0_0 a0_1 l1 = some (r1, r2, r3, r4, r5, r6, r7)) :
  Calls Tryz.prog 58 #[.agg #[.int .i64 a0_0, .int .i64 a0_1], .slice A1 l1.length c1] w fun e w' => ∃ v4_ : Value, e = .returned (.tuple #[.agg #[.int .i64 r1, .int .i64 r2, .int .i64 r3, .string r4, v4_, .string r6], .bool r7]) ∧ Kd.R (Kd.int .i64) 3 w' w.heap.size (fun _ => True) v4_ r5 ∧ Below w.heap.size w w' := by
 have hu32 := Tryz.underlying32; have hu29 := Tryz.underlying29; have hu139 := Tryz.underlying139; have hu27 := Tryz.underlying27; have HR1 := Aside0.mk hr1; have HC1 := Aside0.mk hc1; clear hr1 hc1; have HB := Aside0.mk (Below.refl w.heap.size w)
 have H := h; unfold spec_SafeOf.f at H
 clear h; obtain ⟨⟨t261, t262, t263⟩, A3, H⟩ := oB H; (try dsimp only at H); obtain ⟨⟨t264, t265, t266⟩, A4, H⟩ := oB H; (try dsimp only at H); obtain ⟨⟨t267, t268, t269, t272, t273⟩, A5, H⟩ := oB H; (try dsimp only at H); obtain ⟨⟨t274, t275, t276⟩, A6, H⟩ := oB H; (try dsimp only at H)
 go_enter Tryz.func58, Tryz.ntmps58
 have H' := Aside0.mk H; clear H
 go_upto_region 7 with (first | ((with_reducible refine gd 2 ?_); refine bL 2 #[.int .i64 a0_0, .int .i64 a0_1] 32 ?_; intro gb257 w7 _ _ _) | ((with_reducible refine gd 4 ?_); refine bL 4 #[.int .i64 0, .int .i64 0, .int .i64 0, .string (⟨#[]⟩ : ByteArray), .slice none 0 0, .string (⟨#[]⟩ : ByteArray)] 29 ?_; intro gb258 w8 _ _ _) | ((with_reducible refine gd 10 ?_); refine bL 10 #[.slice A1 l1.length c1, .int .i64 0, .bool true] 139 ?_; intro gb259 w9 _ _ _) | ((with_reducible refine gd 7 ?_); refine bL 7 #[.int .i64 0, .int .i64 0, .int .i64 0, .string (⟨#[]⟩ : ByteArray), .slice none 0 0, .string (⟨#[]⟩ : ByteArray)] 29 ?_; intro gb260 w10 _ _ _) | ((with_reducible refine gate_callee (f := 126) rfl ?_); refine gK (some 13) Tryz.func126 (spec_l12Num.calls (hI := (nS139 xB HR1 HC1)) (hB := UpW.out) (w := _) (h := A3.out)) ?_; intro w11 _ _ _ HI12; obtain ⟨AS13_0, cS13_0, bk13, HG13, HS13_0, HL13_0⟩ := oS139 HI12) | ((with_reducible refine gate_callee (f := 126) rfl ?_); refine gK (some 16) Tryz.func126 (spec_l12Num.calls (hI := (nS139 xB HS13_0 HL13_0)) (hB := UpW.out) (w := _) (h := A4.out)) ?_; intro w14 _ _ _ HI15; obtain ⟨AS16_0, cS16_0, bk16, HG16, HS16_0, HL16_0⟩ := oS139 HI15; clear bk13) | ((with_reducible refine gate_callee (f := 127) rfl ?_); refine gK1 (some 19) Tryz.func127 (spec_l12Qc.calls (hI := (nS139 xB HS16_0 HL16_0)) (hB := UpW.out) (w := _) (h := A5.out)) ?_; intro Ao270 co270 w17 _ _ _ HI18 HO271; obtain ⟨AS19_0, cS19_0, bk19, HG19, HS19_0, HL19_0⟩ := oS139 HI18; clear bk16) | ((with_reducible refine gate_callee (f := 128) rfl ?_); refine gK (some 22) Tryz.func128 (spec_l12Text.calls (hI := (nS139 xB HS19_0 HL19_0)) (hB := UpW.out) (w := _) (h := A6.out)) ?_; intro w20 _ _ _ HI21; obtain ⟨AS22_0, cS22_0, bk22, HG22, HS22_0, HL22_0⟩ := oS139 HI21; clear bk19))
 have H := H'.out; clear H'
 by_cases c23 : t276 = true
 ·
  subst c23
  rw [if_pos rfl] at H
  by_cases c24 : t275 = (l1.length : Int)
  ·
   rw [if_pos c24] at H
   have c24b0 : (t275 == (l1.length : Int)) = true := beq_iff_eq.mpr c24; have c24b1 : (t275 != (l1.length : Int)) = false := bne_eq_false_iff_eq.mpr c24; clear c24
   (first | rw [c24b0] | (simp only [i64_w, i32_w]; rw [c24b0]) | skip)
   obtain ⟨t277, A25, H⟩ := oB H; (try dsimp only at H); have H' := Aside0.mk H; clear H
   go_upto_if 43 with (first | (go_at_call 129; refine aC (spec_SafeOk.calls (hr1_4 := rC HO271) (hc1_4 := rL HO271) (w := _) (h := A25.out)) ?_; intro w26 _))
   have H := H'.out; clear H'
   by_cases c27 : t277 = true
   ·
    subst c27
    rw [if_pos rfl] at H
    simp only [Option.some.injEq, Prod.mk.injEq] at H
    obtain ⟨rfl, rfl, rfl, rfl, rfl, rfl, rfl⟩ := H
    go_wp2
    refine bodyPost_ret (results_ct rfl _ _ gb258 29 #[.int .i64 t261, .int .i64 t264, .int .i64 t267, .string t268, .slice Ao270 t269.length co270, .string t274] (0, 0) _ rfl xB Tryz.underlying29 rfl (by kernel_rfl)) rfl ?_
    exact ⟨_, y0_8, rR HO271, UpW.out⟩
   replace c27 := Bool.eq_false_iff.mpr c27; subst c27
   rw [if_neg Bool.false_ne_true] at H
   simp only [Option.some.injEq, Prod.mk.injEq] at H
   obtain ⟨rfl, rfl, rfl, rfl, rfl, rfl, rfl⟩ := H
   go_wp2
   refine bodyPost_ret (results_ct rfl _ _ gb258 29 #[.int .i64 0, .int .i64 0, .int .i64 0, .string (⟨#[]⟩ : ByteArray), .slice none 0 0, .string (⟨#[]⟩ : ByteArray)] (0, 0) _ rfl xB Tryz.underlying29 rfl (by kernel_rfl)) rfl ?_
   exact ⟨_, y0_8, Kd.R_nil _ _ _ _ _, UpW.out⟩
  rw [if_neg c24] at H
  have c24b0 : (t275 == (l1.length : Int)) = false := beq_eq_false_iff_ne.mpr c24; have c24b1 : (t275 != (l1.length : Int)) = true := bne_iff_ne.mpr c24
  (first | rw [c24b0] | (simp only [i64_w, i32_w]; rw [c24b0]) | skip)
  have H' := Aside0.mk H; clear H
  go_upto_if 43 with fail
  have H := H'.out; clear H'
  simp only [Option.some.injEq, Prod.mk.injEq] at H
  obtain ⟨rfl, rfl, rfl, rfl, rfl, rfl, rfl⟩ := H
  go_wp2
  refine bodyPost_ret (results_ct rfl _ _ gb258 29 #[.int .i64 0, .int .i64 0, .int .i64 0, .string (⟨#[]⟩ : ByteArray), .slice none 0 0, .string (⟨#[]⟩ : ByteArray)] (0, 0) _ rfl xB Tryz.underlying29 rfl (by kernel_rfl)) rfl ?_
  exact ⟨_, y0_8, Kd.R_nil _ _ _ _ _, UpW.out⟩
 replace c23 := Bool.eq_false_iff.mpr c23; subst c23
 rw [if_neg Bool.false_ne_true] at H
 have H' := Aside0.mk H; clear H
 go_upto_if 43 with fail
 have H := H'.out; clear H'
 simp only [Option.some.injEq, Prod.mk.injEq] at H
 obtain ⟨rfl, rfl, rfl, rfl, rfl, rfl, rfl⟩ := H
 go_wp2
 refine bodyPost_ret (results_ct rfl _ _ gb258 29 #[.int .i64 0, .int .i64 0, .int .i64 0, .string (⟨#[]⟩ : ByteArray), .slice none 0 0, .string (⟨#[]⟩ : ByteArray)] (0, 0) _ rfl xB Tryz.underlying29 rfl (by kernel_rfl)) rfl ?_
 exact ⟨_, y0_8, Kd.R_nil _ _ _ _ _, UpW.out⟩
def spec_SafeNew.f  : Option (Int × Int × Int × ByteArray × List Int × ByteArray) := some (0, 0, 0, (⟨#[]⟩ : ByteArray), ([] : List Int), (⟨#[]⟩ : ByteArray))
theorem spec_SafeNew.calls  (r1 : Int) (r2 : Int) (r3 : Int) (r4 : ByteArray) (r5 : List Int) (r6 : ByteArray) (w : World) (h : spec_SafeNew.f  = some (r1, r2, r3, r4, r5, r6)) :
  Calls Tryz.prog 71 #[] w fun e w' => ∃ v4_ : Value, e = .returned (.agg #[.int .i64 r1, .int .i64 r2, .int .i64 r3, .string r4, v4_, .string r6]) ∧ Kd.R (Kd.int .i64) 3 w' w.heap.size (fun _ => True) v4_ r5 ∧ Below w.heap.size w w' := by
 have hu29 := Tryz.underlying29; have HB := Aside0.mk (Below.refl w.heap.size w); have H := h; unfold spec_SafeNew.f at H; clear h
 simp only [Option.some.injEq, Prod.mk.injEq] at H
 obtain ⟨rfl, rfl, rfl, rfl, rfl, rfl⟩ := H
 go_enter Tryz.func71, Tryz.ntmps71
 go_wp2_with (first | ((with_reducible refine gd 0 ?_); refine bL 0 #[.int .i64 0, .int .i64 0, .int .i64 0, .string (⟨#[]⟩ : ByteArray), .slice none 0 0, .string (⟨#[]⟩ : ByteArray)] 29 ?_; intro gb278 w1 _ _ _))
 refine bodyPost_ret (results_cell_row rfl _ _ gb278 29 #[.int .i64 0, .int .i64 0, .int .i64 0, .string (⟨#[]⟩ : ByteArray), .slice none 0 0, .string (⟨#[]⟩ : ByteArray)] (0, 0) _ rfl xB Tryz.underlying29 rfl (by kernel_rfl)) rfl ?_
 exact ⟨_, y0_8, Kd.R_nil _ _ _ _ _, UpW.out⟩
def spec_LastNote.l0 : Nat → List Int → Int → Int → Int → Int → Int → Int → ByteArray → List Int → ByteArray → Option (Int × Int × Int × ByteArray × List Int × ByteArray × Int)
 | 0, _, _, _, _, _, _, _, _, _, _ => none
 | k + 1, x1, x7, x280000, x280001, x290000, x290001, x290002, x290003, x290004, x290005 => (spec_GetNum.f k x1 x7).bind fun bt290 => (if bt290.2.2 = true then (if bt290.1 ≥ (wrap64 ((x1.length : Int) - bt290.2.1)) then (some (x290000, x290001, x290002, x290003, x290004, x290005, x7)) else (if 0 ≤ (wrap64 (bt290.2.1 + bt290.1)) then (if (wrap64 (bt290.2.1 + bt290.1)) < (x1.length : Int) then (if (rd x1 (wrap64 (bt290.2.1 + bt290.1))) = 10 then (if 0 ≤ bt290.2.1 then (if bt290.2.1 ≤ (wrap64 (bt290.2.1 + bt290.1)) then (if (wrap64 (bt290.2.1 + bt290.1)) ≤ (x1.length : Int) then ((spec_SafeOf.f k x280000 x280001 ((x1.take ((wrap64 (bt290.2.1 + bt290.1)) : Int).toNat).drop (bt290.2.1 : Int).toNat)).bind fun bt298 => (if bt298.2.2.2.2.2.2 = true then (spec_LastNote.l0 k x1 (wrap64 ((wrap64 (bt290.2.1 + bt290.1)) + 1)) x280000 x280001 bt298.1 bt298.2.1 bt298.2.2.1 bt298.2.2.2.1 bt298.2.2.2.2.1 bt298.2.2.2.2.2.1) else (some (x290000, x290001, x290002, x290003, x290004, x290005, x7)))) else (none)) else (none)) else (none)) else (some (x290000, x290001, x290002, x290003, x290004, x290005, x7))) else (none)) else (none))) else (some (x290000, x290001, x290002, x290003, x290004, x290005, x7)))
def spec_LastNote.f (k : Nat) (a0_0 : Int) (a0_1 : Int) (l1 : List Int) : Option (Int × Int × Int × ByteArray × List Int × ByteArray × Int) := (spec_SafeNew.f).bind fun bt281 => (spec_LastNote.l0 k l1 0 a0_0 a0_1 bt281.1 bt281.2.1 bt281.2.2.1 bt281.2.2.2.1 bt281.2.2.2.2.1 bt281.2.2.2.2.2)
theorem spec_LastNote.mono_l : ∀ k, (∀ y0 y1 y2 y3 y4 y5 y6 y7 y8 y9, LeO (spec_LastNote.l0 k y0 y1 y2 y3 y4 y5 y6 y7 y8 y9) (spec_LastNote.l0 (k + 1) y0 y1 y2 y3 y4 y5 y6 y7 y8 y9))
 | 0 => fun _ _ _ _ _ _ _ _ _ _ r h => by simp [spec_LastNote.l0] at h
 | k + 1 => by
  have ih0 := spec_LastNote.mono_l k
  intro y0 y1 y2 y3 y4 y5 y6 y7 y8 y9
  unfold spec_LastNote.l0
  repeat' first | (with_reducible exact ih0 _ _ _ _ _ _ _ _ _ _) | (with_reducible exact spec_GetNum.mono _ _ _) | (with_reducible exact spec_SafeOf.mono _ _ _ _) | (with_reducible exact LeO.refl _) | (with_reducible exact LeO.none _) | (with_reducible refine LeO.ite ?_ ?_) | (with_reducible refine LeO.bind ?_ (fun _ => ?_))
def spec_LastNote.T6 : Bool × List (List Nat × List Nat) := (true, [([], []), ([], []), ([], []), ([], []), ([], []), ([3, 4], [3, 4]), ([1, 2, 5], [1, 2, 5]), ([0, 6], [0, 6]), ([7], [7]), ([8], [8]), ([8], [8]), ([], []), ([11, 9, 7, 0, 1, 2, 3, 4, 5, 6, 7, 8, 9, 11], [9, 11]), ([10, 12, 0, 1, 2, 3, 4, 5, 6, 7, 8, 9, 10, 11, 12], [10])])
def spec_LastNote.B6 : List Nat := [0, 0, 0, 0, 0, 24, 62, 127, 255, 511, 511, 0, 3071, 8191]
theorem spec_LastNote.tab6 : rtab .any (opsOf Tryz.f7 6) = spec_LastNote.T6 := by kernel_rfl
theorem spec_LastNote.bits6 : waitsOk spec_LastNote.T6.2 spec_LastNote.B6 = true := by kernel_rfl
theorem spec_LastNote.calls (k : Nat) (a0_0 : Int) (a0_1 : Int) (A1 : Option Addr) (c1 : Nat) (l1 : List Int) (r1 : Int) (r2 : Int) (r3 : Int) (r4 : ByteArray) (r5 : List Int) (r6 : ByteArray) (r7 : Int) (w : World) (hr1 : Kd.C (Kd.int .u8) w A1 l1.length l1) (hc1 : l1.length ≤ c1) (h : spec_LastNote.f k a0_0 a0_1 l1 = some (r1, r2, r3, r4, r5, r6, r7)) :
  Calls Tryz.prog 7 #[.agg #[.int .i64 a0_0, .int .i64 a0_1], .slice A1 l1.length c1] w fun e w' => ∃ v4_ : Value, e = .returned (.tuple #[.agg #[.int .i64 r1, .int .i64 r2, .int .i64 r3, .string r4, v4_, .string r6], .int .i64 r7]) ∧ Kd.R (Kd.int .i64) 3 w' w.heap.size (fun _ => True) v4_ r5 ∧ Below w.heap.size w w' := by
 have hu32 := Tryz.underlying32; have hu29 := Tryz.underlying29; have HR1 := Aside0.mk hr1; have HC1 := Aside0.mk hc1; clear hr1 hc1; have HB := Aside0.mk (Below.refl w.heap.size w)
 have H := h; unfold spec_LastNote.f at H
 clear h; obtain ⟨⟨t281, t282, t283, t284, t285, t288⟩, A3, H⟩ := oB H; (try dsimp only at H)
 go_enter Tryz.func7, Tryz.ntmps7
 have H' := Aside0.mk H; clear H
 go_wp2_with (first | ((with_reducible refine gd 2 ?_); refine bL 2 #[.int .i64 a0_0, .int .i64 a0_1] 32 ?_; intro gb279 w4 _ _ _) | ((with_reducible refine gd 4 ?_); refine bL 4 #[.int .i64 0, .int .i64 0, .int .i64 0, .string (⟨#[]⟩ : ByteArray), .slice none 0 0, .string (⟨#[]⟩ : ByteArray)] 29 ?_; intro gb280 w5 _ _ _) | ((with_reducible refine gate_callee (f := 71) rfl ?_); refine gC1 (some 13) Tryz.func71 (spec_SafeNew.calls (w := _) (h := A3.out)) ?_; intro Ao286 co286 w6 _ HO287) | ((with_reducible refine gd 6 ?_); refine bL 6 #[.int .i64 0, .int .i64 0, .int .i64 0, .string (⟨#[]⟩ : ByteArray), .slice none 0 0, .string (⟨#[]⟩ : ByteArray)] 29 ?_; intro gb289 w7 _ _ _))
 refine wC ?_; intro w8 _
 go_loopg [7] k (fun kq v7 w' => ∃ (x7_1 : Int) (x281000_1 : Int) (x281001_1 : Int) (x281002_1 : Int) (x281003_1 : ByteArray) (x281005_1 : ByteArray) (x290000_1 : Int) (x290001_1 : Int) (x290002_1 : Int) (x290003_1 : ByteArray) (x290004_1 : List Int) (x290005_1 : ByteArray) (Ao290004_1 : Option Addr) (co290004_1 : Nat), v7 = .int .i64 x7_1 ∧ Aside0 (spec_LastNote.l0 kq l1 x7_1 a0_0 a0_1 x290000_1 x290001_1 x290002_1 x290003_1 x290004_1 x290005_1 = some (r1, r2, r3, r4, r5, r6, r7)) ∧ Aside0 (kq ≤ k) ∧ Aside0 (Kd.R (Kd.int .i64) 3 w' w.heap.size (iv w w') (.slice Ao290004_1 x290004_1.length co290004_1) x290004_1) ∧ BkI gb280 w' #[.int .i64 x281000_1, .int .i64 x281001_1, .int .i64 x281002_1, .string x281003_1, .slice none 0 0, .string x281005_1] 29 ∧ BkI gb289 w' #[.int .i64 x290000_1, .int .i64 x290001_1, .int .i64 x290002_1, .string x290003_1, .slice Ao290004_1 x290004_1.length co290004_1, .string x290005_1] 29 ∧ KL w8 [gb280, gb289] w' ∧ LB w w')
 case atStart => exact ⟨(0), (0), (0), (0), ((⟨#[]⟩ : ByteArray)), ((⟨#[]⟩ : ByteArray)), (t281), (t282), (t283), (t284), (t285), (t288), (Ao286), (co286), y0_8, H', ⟨Nat.le_refl _⟩, ⟨rJ HO287⟩, ⟨xB⟩, ⟨xB⟩, ⟨UpL.out⟩, ⟨UpW.out⟩⟩
 case round =>
  clear H'; obtain ⟨x7_1, x281000_1, x281001_1, x281002_1, x281003_1, x281005_1, x290000_1, x290001_1, x290002_1, x290003_1, x290004_1, x290005_1, Ao290004_1, co290004_1, rfl, HA, HK1, HO_290004, _, _, _, _⟩ := hrel; cases gk with
  | zero => exact absurd HA.out (by simp [spec_LastNote.l0])
  | succ k1 =>
   have H := HA.out; clear HA
   simp only [spec_LastNote.l0] at H
   obtain ⟨⟨t290, t291, t292⟩, A9, H⟩ := oB H; (try dsimp only at H); have H' := Aside0.mk H; clear H
   go_upto_region 4 with (first | ((with_reducible refine gate_callee (f := 72) rfl ?_); refine gD (some 17) Tryz.func72 (spec_GetNum.calls (hr0 := pC HR1) (hc0 := HC1.out) (w := _) (h := A9.out)) ?_; intro w10 _))
   have H := H'.out; clear H'
   by_cases c11 : t292 = true
   ·
    subst c11
    rw [if_pos rfl] at H
    by_cases c12 : t290 ≥ (wrap64 ((l1.length : Int) - t291))
    ·
     rw [if_pos c12] at H
     have c12b0 : decide ((wrap64 ((l1.length : Int) - t291)) ≤ t290) = true := decide_eq_true c12; clear c12
     (first | rw [c12b0] | (simp only [i64_w, i32_w]; rw [c12b0]) | skip)
     simp only [Option.some.injEq, Prod.mk.injEq] at H
     obtain ⟨rfl, rfl, rfl, rfl, rfl, rfl, rfl⟩ := H
     go_wp2
     refine bodyPost_ret (results_ct rfl _ _ gb280 29 #[.int .i64 x290000_1, .int .i64 x290001_1, .int .i64 x290002_1, .string x290003_1, .slice Ao290004_1 x290004_1.length co290004_1, .string x290005_1] (0, 0) _ rfl xB Tryz.underlying29 rfl (by kernel_rfl)) rfl ?_
     exact ⟨_, y0_8, rR HO_290004, UpW.out⟩
    rw [if_neg c12] at H
    have c12b0 : decide ((wrap64 ((l1.length : Int) - t291)) ≤ t290) = false := decide_eq_false c12; clear c12
    (first | rw [c12b0] | (simp only [i64_w, i32_w]; rw [c12b0]) | skip)
    obtain ⟨ji13, hji13⟩ : ∃ j_ : Int, (wrap64 (t291 + t290)) = j_ := ⟨_, rfl⟩
    replace H : (if 0 ≤ (ji13) then (if (ji13) < (l1.length : Int) then (if (rd l1 (ji13)) = 10 then (if 0 ≤ t291 then (if t291 ≤ (ji13) then (if (ji13) ≤ (l1.length : Int) then ((spec_SafeOf.f k1 a0_0 a0_1 ((l1.take ((ji13) : Int).toNat).drop (t291 : Int).toNat)).bind fun bt298 => (if bt298.2.2.2.2.2.2 = true then (spec_LastNote.l0 k1 l1 (wrap64 ((ji13) + 1)) a0_0 a0_1 bt298.1 bt298.2.1 bt298.2.2.1 bt298.2.2.2.1 bt298.2.2.2.2.1 bt298.2.2.2.2.2.1) else (some (x290000_1, x290001_1, x290002_1, x290003_1, x290004_1, x290005_1, x7_1)))) else (none)) else (none)) else (none)) else (some (x290000_1, x290001_1, x290002_1, x290003_1, x290004_1, x290005_1, x7_1))) else (none)) else (none)) = some (r1, r2, r3, r4, r5, r6, r7) := by first | (rw [hji13] at H; exact H) | (simp only [hji13] at H ⊢; exact H)
    have hji13w : (IntKind.i64.wrap (t291 + t290)) = ji13 := (i64_w _).trans hji13
    by_cases c14 : 0 ≤ (ji13)
    rotate_left
    ·
     rw [if_neg c14] at H
     exact absurd H (by simp)
    rw [if_pos c14] at H
    have c14b0 : decide (0 ≤ (ji13)) = true := decide_eq_true c14; clear c14
    by_cases c15 : (ji13) < (l1.length : Int)
    rotate_left
    ·
     rw [if_neg c15] at H
     exact absurd H (by simp)
    rw [if_pos c15] at H
    have c15b0 : decide ((ji13) < (l1.length : Int)) = true := decide_eq_true c15; clear c15; have H' := Aside0.mk H; clear H; have p293 : 0 ≤ ((ji13) : Int) := of_decide_eq_true y0_7; have q293 : (ji13) < (l1.length : Int) := of_decide_eq_true y0_7; obtain ⟨ad293, e293, hx293_0⟩ := Kd.at_int HR1.out (ji13) p293 q293; cases e293; have i293_0_ := RdP.mk hx293_0; clear hx293_0; replace p293 := eq_true p293; replace q293 := eq_true q293
    go_upto_if 39 with fail
    have H := H'.out; clear H'
    by_cases c16 : (rd l1 (ji13)) = 10
    ·
     rw [if_pos c16] at H
     have c16b0 : ((rd l1 (ji13)) == 10) = true := beq_iff_eq.mpr c16; have c16b1 : ((rd l1 (ji13)) != 10) = false := bne_eq_false_iff_eq.mpr c16; clear c16
     (first | rw [c16b0] | (simp only [i64_w, i32_w]; rw [c16b0]) | skip)
     by_cases c17 : 0 ≤ t291
     rotate_left
     ·
      rw [if_neg c17] at H
      exact absurd H (by simp)
     rw [if_pos c17] at H
     have c17b0 := eq_true c17; have c17b1 : decide (0 ≤ t291) = true := decide_eq_true c17; clear c17
     by_cases c18 : t291 ≤ (ji13)
     rotate_left
     ·
      rw [if_neg c18] at H
      exact absurd H (by simp)
     rw [if_pos c18] at H
     have c18b0 := eq_true c18; have c18b1 : decide (t291 ≤ (ji13)) = true := decide_eq_true c18; clear c18
     by_cases c19 : (ji13) ≤ (l1.length : Int)
     rotate_left
     ·
      rw [if_neg c19] at H
      exact absurd H (by simp)
     rw [if_pos c19] at H
     have c19b0 := eq_true c19; have c19b1 : decide ((ji13) ≤ (l1.length : Int)) = true := decide_eq_true c19; clear c19; obtain ⟨y294, hy294⟩ : ∃ y_ : List Int, y_ = ((l1.take ((ji13) : Int).toNat).drop (t291 : Int).toNat) := ⟨_, rfl⟩
     replace H : ((spec_SafeOf.f k1 a0_0 a0_1 y294).bind fun bt298 => (if bt298.2.2.2.2.2.2 = true then (spec_LastNote.l0 k1 l1 (wrap64 ((ji13) + 1)) a0_0 a0_1 bt298.1 bt298.2.1 bt298.2.2.1 bt298.2.2.2.1 bt298.2.2.2.2.1 bt298.2.2.2.2.2.1) else (some (x290000_1, x290001_1, x290002_1, x290003_1, x290004_1, x290005_1, x7_1)))) = some (r1, r2, r3, r4, r5, r6, r7) := by first | (rw [hy294]; with_reducible exact H) | (rw [hy294]; with_reducible exact (Option.bind_some _ _).symm.trans H) | (rw [hy294]; exact H) | exact H
     have Ny294 := Aside0.mk hy294; clear hy294; obtain ⟨⟨t298, t299, t300, t301, t302, t305, t306⟩, A20, H⟩ := oB H; (try dsimp only at H); have H' := Aside0.mk H; clear H
     try go_wp2
     have q21 : ((ji13) : Int) ≤ (l1.length : Int) := of_decide_eq_true y0_7; have ql21 : (t291 : Int) ≤ ((ji13) : Int) := of_decide_eq_true y0_7; have q021 : 0 ≤ (t291 : Int) := of_decide_eq_true y0_7; obtain ⟨i021, hi021, _, hsz21, _⟩ := info_parts info5; obtain ⟨A21, hcut21, hr21, hl21⟩ := print_mid_of (P := Tryz.prog) (Value.int .u8) 0 24 5 .i64 .i64 Tryz.underlying24 hi021 hsz21 (some ad293) c1 l1 (t291 : Int) (ji13) q021 ql21 q21 HC1.out
     rw [← Ny294.out] at hcut21 hr21 hl21
     have HR297 := Aside0.mk (Kd.C_of_reads (h1 := fun _ => rfl) (hr21 _ (Kd.reads_of_C HR1.out)) : (Kd.int .u8).C _ _ y294.length y294)
     have HC297 := Aside0.mk hl21; clear hi021 hsz21 hr21 hl21; replace q21 := eq_true q21; replace ql21 := eq_true ql21; replace q021 := eq_true q021
     refine sB [] spec_LastNote.tab6 spec_LastNote.bits6 ?_; intro w22 _ HT_ HW_
     refine tB 0 (some 43) (bz 14 1) HT_ HW_ ?_
     refine pA 1 (some 44) (bz 14 3) HT_ ?_
     refine pA 2 (some 45) (bz 14 7) HT_ ?_
     refine pA 3 (some 46) (bz 14 15) HT_ ?_
     refine pA 4 (some 47) (bz 14 31) HT_ ?_
     refine pA 5 (some 48) (bz 14 63) HT_ ?_
     refine pA 6 (some 49) (bz 14 127) HT_ ?_
     refine join_ (σ := Option Addr × Nat × Nat) 2 (bz 14 4095) (fun s_ => [(50, .tuple #[.agg #[.int .i64 t298, .int .i64 t299, .int .i64 t300, .string t301, .slice s_.1 t302.length s_.2.1, .string t305], .bool t306]), (42, .tuple #[.agg #[.int .i64 t298, .int .i64 t299, .int .i64 t300, .string t301, .slice s_.1 t302.length s_.2.1, .string t305], .bool t306]), (51, .agg #[.int .i64 t298, .int .i64 t299, .int .i64 t300, .string t301, .slice s_.1 t302.length s_.2.1, .string t305]), (52, .bool t306), (11, .pointer (some ⟨s_.2.2, 0, none⟩))]) (fun s_ w' => Aside0 (Kd.R (Kd.int .i64) 3 w' w22.heap.size (iv w22 w') (.slice s_.1 t302.length s_.2.1) t302) ∧ BkI (s_.2.2) w' #[.int .i64 0, .int .i64 0, .int .i64 0, .string (⟨#[]⟩ : ByteArray), .slice none 0 0, .string (⟨#[]⟩ : ByteArray)] 29 ∧ BornI (s_.2.2) w22 ∧ UB w22 w') ?_ ?_
     rotate_left
     ·
      intro hCont
      refine o2 7 11 (some 50) (some 11) (bz 14 255) (bz 14 2175) HT_ rfl rfl (kC1 Tryz.func58 (spec_SafeOf.calls (hr1 := pC HR297) (hc1 := HC297.out) (w := _) (h := A20.out)) ?_) (kB #[.int .i64 0, .int .i64 0, .int .i64 0, .string (⟨#[]⟩ : ByteArray), .slice none 0 0, .string (⟨#[]⟩ : ByteArray)] 29 ?_)
      ·
       intro Ao303 co303 w23 _ HO304
       refine nA (some 50) ?_
       refine pA 8 (some 42) (bz 14 511) HT_ ?_
       refine pA 9 (some 51) (bz 14 1023) HT_ ?_
       refine pA 10 (some 52) (bz 14 2047) HT_ ?_
       refine o1 11 (some 11) (bz 14 4095) HT_ rfl (kB #[.int .i64 0, .int .i64 0, .int .i64 0, .string (⟨#[]⟩ : ByteArray), .slice none 0 0, .string (⟨#[]⟩ : ByteArray)] 29 ?_); intro gb307 w25 _ _ _
       refine nA (some 11) ?_
       exact hJ (hCont (Ao303, co303, gb307) _ ⟨⟨rJ HO304⟩, ⟨xB⟩, ⟨GeI.out⟩, ⟨UpW.out⟩⟩)
      intro gb307 w24 _ _ _
      refine nA (some 11) ?_
      refine o1 7 (some 50) (bz 14 2303) HT_ rfl (kC1 Tryz.func58 (spec_SafeOf.calls (hr1 := pC HR297) (hc1 := HC297.out) (w := _) (h := A20.out)) ?_); intro Ao303 co303 w26 _ HO304
      refine nA (some 50) ?_
      refine pA 8 (some 42) (bz 14 2559) HT_ ?_
      refine pA 9 (some 51) (bz 14 3071) HT_ ?_
      refine pA 10 (some 52) (bz 14 4095) HT_ ?_
      exact hJ (hCont (Ao303, co303, gb307) _ ⟨⟨rJ HO304⟩, ⟨xB⟩, ⟨GeI.out⟩, ⟨UpW.out⟩⟩)
     rintro ⟨Ao303, co303, gb307⟩ w27 ⟨HO304, _, _, _⟩
     refine nP ?_
     refine o1 12 none (bz 14 0x1fff) HT_ rfl (kS ?_)
     refine pA 13 (some 12) (bz 14 0x3fff) HT_ ?_
     refine done_ (done_of HT_.out (by kernel_rfl)) ?_
     go_upto_if 54 with fail
     have H := H'.out; clear H'
     by_cases c28 : t306 = true
     ·
      subst c28
      rw [if_pos rfl] at H
      have H' := Aside0.mk H; clear H
      go_wp2
      go_roundg k1
      case measure => have := HK1.out; omega
      case rel => exact ⟨(wrap64 ((ji13) + 1)), (x281000_1), (x281001_1), (x281002_1), (x281003_1), (x281005_1), (t298), (t299), (t300), (t301), (t302), (t305), (Ao303), (co303), y0_4, H', ⟨y0_11⟩, ⟨rJ HO304⟩, ⟨xB⟩, ⟨xB⟩, ⟨UpL.out⟩, ⟨UpW.out⟩⟩
     replace c28 := Bool.eq_false_iff.mpr c28; subst c28
     rw [if_neg Bool.false_ne_true] at H
     simp only [Option.some.injEq, Prod.mk.injEq] at H
     obtain ⟨rfl, rfl, rfl, rfl, rfl, rfl, rfl⟩ := H
     go_wp2
     refine bodyPost_ret (results_ct rfl _ _ gb280 29 #[.int .i64 x290000_1, .int .i64 x290001_1, .int .i64 x290002_1, .string x290003_1, .slice Ao290004_1 x290004_1.length co290004_1, .string x290005_1] (0, 0) _ rfl xB Tryz.underlying29 rfl (by kernel_rfl)) rfl ?_
     exact ⟨_, y0_4, rR HO_290004, UpW.out⟩
    rw [if_neg c16] at H
    have c16b0 : ((rd l1 (ji13)) == 10) = false := beq_eq_false_iff_ne.mpr c16; have c16b1 : ((rd l1 (ji13)) != 10) = true := bne_iff_ne.mpr c16
    (first | rw [c16b0] | (simp only [i64_w, i32_w]; rw [c16b0]) | skip)
    simp only [Option.some.injEq, Prod.mk.injEq] at H
    obtain ⟨rfl, rfl, rfl, rfl, rfl, rfl, rfl⟩ := H
    go_wp2
    refine bodyPost_ret (results_ct rfl _ _ gb280 29 #[.int .i64 x290000_1, .int .i64 x290001_1, .int .i64 x290002_1, .string x290003_1, .slice Ao290004_1 x290004_1.length co290004_1, .string x290005_1] (0, 0) _ rfl xB Tryz.underlying29 rfl (by kernel_rfl)) rfl ?_
    exact ⟨_, y0_4, rR HO_290004, UpW.out⟩
   replace c11 := Bool.eq_false_iff.mpr c11; subst c11
   rw [if_neg Bool.false_ne_true] at H
   simp only [Option.some.injEq, Prod.mk.injEq] at H
   obtain ⟨rfl, rfl, rfl, rfl, rfl, rfl, rfl⟩ := H
   go_wp2
   refine bodyPost_ret (results_ct rfl _ _ gb280 29 #[.int .i64 x290000_1, .int .i64 x290001_1, .int .i64 x290002_1, .string x290003_1, .slice Ao290004_1 x290004_1.length co290004_1, .string x290005_1] (0, 0) _ rfl xB Tryz.underlying29 rfl (by kernel_rfl)) rfl ?_
   exact ⟨_, y0_8, rR HO_290004, UpW.out⟩
def slices_Equal_int_int.l0 : Nat → List Int → List Int → Int → Int → Option (Bool)
 | 0, _, _, _, _ => none
 | k + 1, x0, x1, x12, x13 => if x13 < x12 then (if 0 ≤ x13 then (if x13 < (x0.length : Int) then (if x13 < (x1.length : Int) then (if (rd x0 x13) = (rd x1 x13) then (slices_Equal_int_int.l0 k x0 x1 x12 (wrap64 (x13 + 1))) else (some false)) else (none)) else (none)) else (none)) else (some true)
def slices_Equal_int_int.f (k : Nat) (l0 : List Int) (l1 : List Int) : Option (Bool) := if (l0.length : Int) = (l1.length : Int) then (slices_Equal_int_int.l0 k l0 l1 (l0.length : Int) 0) else (some false)
theorem slices_Equal_int_int.calls (k : Nat) (A0 : Option Addr) (c0 : Nat) (l0 : List Int) (A1 : Option Addr) (c1 : Nat) (l1 : List Int) (r : Bool) (w : World) (hr0 : Kd.C (Kd.int .i64) w A0 l0.length l0) (hc0 : l0.length ≤ c0) (hr1 : Kd.C (Kd.int .i64) w A1 l1.length l1) (hc1 : l1.length ≤ c1) (h : slices_Equal_int_int.f k l0 l1 = some r) :
  Calls Tryz.prog 104 #[.slice A0 l0.length c0, .slice A1 l1.length c1] w fun e w' => e = .returned (.bool r) ∧ Drawn0 w w' := by
 have HR0 := Aside0.mk hr0; have HC0 := Aside0.mk hc0; clear hr0 hc0; have HR1 := Aside0.mk hr1; have HC1 := Aside0.mk hc1; clear hr1 hc1; have H := h; unfold slices_Equal_int_int.f at H; clear h
 by_cases c3 : (l0.length : Int) = (l1.length : Int)
 ·
  rw [if_pos c3] at H
  have c3b0 : ((l0.length : Int) == (l1.length : Int)) = true := beq_iff_eq.mpr c3; have c3b1 : ((l0.length : Int) != (l1.length : Int)) = false := bne_eq_false_iff_eq.mpr c3
  have c3b2 : (l0.length == l1.length) = true := by first | simpa using c3 | (simp at c3 ⊢; omega)
  clear c3; have H' := Aside0.mk H; clear H
  go_enter Tryz.func104, Tryz.ntmps104
  go_wp2
  repeat (go_quiet (fail); try go_wp2)
  go_loopg [13] k (fun kq v13 w' => ∃ (x13_1 : Int), v13 = .int .i64 x13_1 ∧ Aside0 (slices_Equal_int_int.l0 kq l0 l1 (l0.length : Int) x13_1 = some r) ∧ Aside0 (kq ≤ k) ∧ Drawn0 w w')
  case atStart => exact ⟨(0), y0_8, H', ⟨Nat.le_refl _⟩, y0_6⟩
  case round =>
   clear H'
   try clear c1
   try clear p2
   try clear c3
   try clear c3b0
   try clear c3b1
   try clear c3b2
   obtain ⟨x13_1, rfl, HA, HK1, ⟨m1, rfl⟩⟩ := hrel; cases gk with
   | zero => exact absurd HA.out (by simp [slices_Equal_int_int.l0])
   | succ k1 =>
    have H := HA.out; clear HA
    simp only [slices_Equal_int_int.l0] at H
    by_cases c4 : x13_1 < (l0.length : Int)
    ·
     rw [if_pos c4] at H
     have c4b0 : decide (x13_1 < (l0.length : Int)) = true := decide_eq_true c4; clear c4
     by_cases c5 : 0 ≤ x13_1
     rotate_left
     ·
      rw [if_neg c5] at H
      exact absurd H (by simp)
     rw [if_pos c5] at H
     have c5b0 : decide (0 ≤ x13_1) = true := decide_eq_true c5; clear c5
     by_cases c6 : x13_1 < (l0.length : Int)
     rotate_left
     ·
      rw [if_neg c6] at H
      exact absurd H (by simp)
     rw [if_pos c6] at H
     have c6b0 : decide (x13_1 < (l0.length : Int)) = true := decide_eq_true c6; clear c6
     by_cases c7 : x13_1 < (l1.length : Int)
     rotate_left
     ·
      rw [if_neg c7] at H
      exact absurd H (by simp)
     rw [if_pos c7] at H
     have c7b0 : decide (x13_1 < (l1.length : Int)) = true := decide_eq_true c7; clear c7
     by_cases c8 : (rd l0 x13_1) = (rd l1 x13_1)
     ·
      rw [if_pos c8] at H
      have c8b0 : ((rd l0 x13_1) == (rd l1 x13_1)) = true := beq_iff_eq.mpr c8; have c8b1 : ((rd l0 x13_1) != (rd l1 x13_1)) = false := bne_eq_false_iff_eq.mpr c8; clear c8; have H' := Aside0.mk H; clear H; have p308 : 0 ≤ (x13_1 : Int) := of_decide_eq_true y0_7; have q308 : x13_1 < (l0.length : Int) := of_decide_eq_true y0_7; obtain ⟨ad308, e308, hx308_0⟩ := Kd.at_int HR0.out x13_1 p308 q308; cases e308; replace p308 := eq_true p308; replace q308 := eq_true q308; have p309 : 0 ≤ (x13_1 : Int) := of_decide_eq_true y0_7; have q309 : x13_1 < (l1.length : Int) := of_decide_eq_true y0_7; obtain ⟨ad309, e309, hx309_0⟩ := Kd.at_int HR1.out x13_1 p309 q309; cases e309; replace p309 := eq_true p309; replace q309 := eq_true q309
      go_wp2
      repeat (go_quiet (fail); try go_wp2)
      go_roundg k1
      case measure => have := HK1.out; omega
      case rel => exact ⟨(wrap64 (x13_1 + 1)), y0_8, H', ⟨y0_11⟩, y0_6⟩
     rw [if_neg c8] at H
     have c8b0 : ((rd l0 x13_1) == (rd l1 x13_1)) = false := beq_eq_false_iff_ne.mpr c8; have c8b1 : ((rd l0 x13_1) != (rd l1 x13_1)) = true := bne_iff_ne.mpr c8; obtain rfl := Option.some.inj H; have p308 : 0 ≤ (x13_1 : Int) := of_decide_eq_true y0_7; have q308 : x13_1 < (l0.length : Int) := of_decide_eq_true y0_7; obtain ⟨ad308, e308, hx308_0⟩ := Kd.at_int HR0.out x13_1 p308 q308; cases e308; replace p308 := eq_true p308; replace q308 := eq_true q308; have p309 : 0 ≤ (x13_1 : Int) := of_decide_eq_true y0_7; have q309 : x13_1 < (l1.length : Int) := of_decide_eq_true y0_7; obtain ⟨ad309, e309, hx309_0⟩ := Kd.at_int HR1.out x13_1 p309 q309; cases e309; replace p309 := eq_true p309; replace q309 := eq_true q309
     go_wp2
     repeat (go_quiet (fail); try go_wp2)
     go_ret
     exact ⟨y0_8, y0_6⟩
    rw [if_neg c4] at H
    have c4b0 : decide (x13_1 < (l0.length : Int)) = false := decide_eq_false c4; clear c4; obtain rfl := Option.some.inj H
    go_wp2
    repeat (go_quiet (fail); try go_wp2)
    go_ret
    exact ⟨y0_8, y0_6⟩
 rw [if_neg c3] at H
 have c3b0 : ((l0.length : Int) == (l1.length : Int)) = false := beq_eq_false_iff_ne.mpr c3; have c3b1 : ((l0.length : Int) != (l1.length : Int)) = true := bne_iff_ne.mpr c3
 have c3b2 : (l0.length == l1.length) = false := by first | simpa using c3 | (simp at c3 ⊢; omega)
 obtain rfl := Option.some.inj H
 go_enter Tryz.func104, Tryz.ntmps104
 go_wp2
 repeat (go_quiet (fail); try go_wp2)
 go_ret
 exact ⟨y0_8, y0_6⟩
def impl_QcSame.f (k : Nat) (a0_0 : Int) (a0_1 : ByteArray) (l0_2 : List Int) (a1_0 : Int) (a1_1 : ByteArray) (l1_2 : List Int) : Option (Bool) := if a0_0 = a1_0 then (if a0_1.toList = a1_1.toList then ((slices_Equal_int_int.f k l0_2 l1_2).bind fun t312 => (some t312)) else (some false)) else (some false)
theorem impl_QcSame.calls (k : Nat) (a0_0 : Int) (a0_1 : ByteArray) (A0_2 : Option Addr) (c0_2 : Nat) (l0_2 : List Int) (a1_0 : Int) (a1_1 : ByteArray) (A1_2 : Option Addr) (c1_2 : Nat) (l1_2 : List Int) (r : Bool) (w : World) (hr0_2 : Kd.C (Kd.int .i64) w A0_2 l0_2.length l0_2) (hc0_2 : l0_2.length ≤ c0_2) (hr1_2 : Kd.C (Kd.int .i64) w A1_2 l1_2.length l1_2) (hc1_2 : l1_2.length ≤ c1_2) (h : impl_QcSame.f k a0_0 a0_1 l0_2 a1_0 a1_1 l1_2 = some r) :
  Calls Tryz.prog 41 #[.agg #[.int .i64 a0_0, .string a0_1, .slice A0_2 l0_2.length c0_2], .agg #[.int .i64 a1_0, .string a1_1, .slice A1_2 l1_2.length c1_2]] w fun e w' => e = .returned (.bool r) ∧ Below w.heap.size w w' := by
 have hu27 := Tryz.underlying27; have HR0_2 := Aside0.mk hr0_2; have HC0_2 := Aside0.mk hc0_2; clear hr0_2 hc0_2; have HR1_2 := Aside0.mk hr1_2; have HC1_2 := Aside0.mk hc1_2; clear hr1_2 hc1_2; have HB := Aside0.mk (Below.refl w.heap.size w)
 have H := h; unfold impl_QcSame.f at H
 clear h
 go_enter Tryz.func41, Tryz.ntmps41
 have H' := Aside0.mk H; clear H
 go_upto_region 1 with (first | ((with_reducible refine gd 2 ?_); refine bL 2 #[.int .i64 a0_0, .string a0_1, .slice A0_2 l0_2.length c0_2] 27 ?_; intro gb310 w3 _ _ _) | ((with_reducible refine gd 3 ?_); refine bL 3 #[.int .i64 a1_0, .string a1_1, .slice A1_2 l1_2.length c1_2] 27 ?_; intro gb311 w4 _ _ _))
 have H := H'.out; clear H'
 by_cases c5 : a0_0 = a1_0
 ·
  rw [if_pos c5] at H
  have c5b0 : (a0_0 == a1_0) = true := beq_iff_eq.mpr c5; have c5b1 : (a0_0 != a1_0) = false := bne_eq_false_iff_eq.mpr c5; clear c5
  (first | rw [c5b0] | (simp only [i64_w, i32_w]; rw [c5b0]) | skip)
  by_cases c6 : a0_1.toList = a1_1.toList
  ·
   rw [if_pos c6] at H
   have c6b0 : (a0_1.toList == a1_1.toList) = true := beq_iff_eq.mpr c6; have c6b1 : (a0_1.toList != a1_1.toList) = false := bne_eq_false_iff_eq.mpr c6; clear c6; obtain ⟨t312, A7, H⟩ := oB H; (try dsimp only at H); obtain rfl := Option.some.inj H
   go_wp2_with (first | (go_at_call 104; refine aD (slices_Equal_int_int.calls (hr0 := pC HR0_2) (hc0 := HC0_2.out) (hr1 := pC HR1_2) (hc1 := HC1_2.out) (w := _) (h := A7.out)) ?_; intro w8 _))
   go_ret
   exact ⟨y0_8, UpW.out⟩
  rw [if_neg c6] at H
  have c6b0 : (a0_1.toList == a1_1.toList) = false := beq_eq_false_iff_ne.mpr c6; have c6b1 : (a0_1.toList != a1_1.toList) = true := bne_iff_ne.mpr c6; obtain rfl := Option.some.inj H
  go_wp2
  go_ret
  exact ⟨y0_8, UpW.out⟩
 rw [if_neg c5] at H
 have c5b0 : (a0_0 == a1_0) = false := beq_eq_false_iff_ne.mpr c5; have c5b1 : (a0_0 != a1_0) = true := bne_iff_ne.mpr c5
 (first | rw [c5b0] | (simp only [i64_w, i32_w]; rw [c5b0]) | skip)
 obtain rfl := Option.some.inj H
 go_wp2
 go_ret
 exact ⟨y0_8, UpW.out⟩
def impl_SetOk.l0 : Nat → Int → List Int → List Int → Int → Int → Option (Bool)
 | 0, _, _, _, _, _ => none
 | k + 1, x0, x1, x7, x8, x9 => if x9 < x8 then (if 0 ≤ x9 then (if x9 < (x7.length : Int) then (if (rd x7 x9) < 0 then (some false) else (if (rd x7 x9) ≥ x0 then (some false) else (if x9 > 0 then (if 0 ≤ (wrap64 (x9 - 1)) then (if (wrap64 (x9 - 1)) < (x1.length : Int) then (if (rd x1 (wrap64 (x9 - 1))) ≥ (rd x7 x9) then (some false) else (impl_SetOk.l0 k x0 x1 x7 x8 (wrap64 (x9 + 1)))) else (none)) else (none)) else (impl_SetOk.l0 k x0 x1 x7 x8 (wrap64 (x9 + 1)))))) else (none)) else (none)) else (some true)
def impl_SetOk.f (k : Nat) (a0 : Int) (l1 : List Int) : Option (Bool) := impl_SetOk.l0 k a0 l1 l1 (l1.length : Int) 0
theorem impl_SetOk.calls (k : Nat) (a0 : Int) (A1 : Option Addr) (c1 : Nat) (l1 : List Int) (r : Bool) (w : World) (hr1 : Kd.C (Kd.int .i64) w A1 l1.length l1) (hc1 : l1.length ≤ c1) (h : impl_SetOk.f k a0 l1 = some r) :
  Calls Tryz.prog 51 #[.int .i64 a0, .slice A1 l1.length c1] w fun e w' => e = .returned (.bool r) ∧ Drawn0 w w' := by
 have HR1 := Aside0.mk hr1; have HC1 := Aside0.mk hc1; clear hr1 hc1; have H := h; unfold impl_SetOk.f at H; clear h; have H' := Aside0.mk H; clear H
 go_enter Tryz.func51, Tryz.ntmps51
 go_wp2
 go_loopg [9] k (fun kq v9 w' => ∃ (x9_1 : Int), v9 = .int .i64 x9_1 ∧ Aside0 (impl_SetOk.l0 kq a0 l1 l1 (l1.length : Int) x9_1 = some r) ∧ Aside0 (kq ≤ k) ∧ Drawn0 w w')
 case atStart => exact ⟨(0), y0_8, H', ⟨Nat.le_refl _⟩, y0_6⟩
 case round =>
  clear H'
  try clear c1
  try clear p2
  obtain ⟨x9_1, rfl, HA, HK1, ⟨m1, rfl⟩⟩ := hrel; cases gk with
  | zero => exact absurd HA.out (by simp [impl_SetOk.l0])
  | succ k1 =>
   have H := HA.out; clear HA
   simp only [impl_SetOk.l0] at H
   by_cases c3 : x9_1 < (l1.length : Int)
   ·
    rw [if_pos c3] at H
    have c3b0 : decide (x9_1 < (l1.length : Int)) = true := decide_eq_true c3; clear c3
    by_cases c4 : 0 ≤ x9_1
    rotate_left
    ·
     rw [if_neg c4] at H
     exact absurd H (by simp)
    rw [if_pos c4] at H
    have c4b0 : decide (0 ≤ x9_1) = true := decide_eq_true c4; clear c4
    by_cases c5 : x9_1 < (l1.length : Int)
    rotate_left
    ·
     rw [if_neg c5] at H
     exact absurd H (by simp)
    rw [if_pos c5] at H
    have c5b0 : decide (x9_1 < (l1.length : Int)) = true := decide_eq_true c5; clear c5
    by_cases c6 : (rd l1 x9_1) < 0
    ·
     rw [if_pos c6] at H
     have c6b0 : decide ((rd l1 x9_1) < 0) = true := decide_eq_true c6; clear c6; obtain rfl := Option.some.inj H; have p313 : 0 ≤ (x9_1 : Int) := of_decide_eq_true y0_7; have q313 : x9_1 < (l1.length : Int) := of_decide_eq_true y0_7; obtain ⟨ad313, e313, hx313_0⟩ := Kd.at_int HR1.out x9_1 p313 q313; cases e313; replace p313 := eq_true p313; replace q313 := eq_true q313
     go_wp2
     go_ret
     exact ⟨y0_8, y0_6⟩
    rw [if_neg c6] at H
    have c6b0 : decide ((rd l1 x9_1) < 0) = false := decide_eq_false c6; clear c6
    by_cases c7 : (rd l1 x9_1) ≥ a0
    ·
     rw [if_pos c7] at H
     have c7b0 : decide (a0 ≤ (rd l1 x9_1)) = true := decide_eq_true c7; clear c7; obtain rfl := Option.some.inj H; have p313 : 0 ≤ (x9_1 : Int) := of_decide_eq_true y0_7; have q313 : x9_1 < (l1.length : Int) := of_decide_eq_true y0_7; obtain ⟨ad313, e313, hx313_0⟩ := Kd.at_int HR1.out x9_1 p313 q313; cases e313; replace p313 := eq_true p313; replace q313 := eq_true q313
     go_wp2
     go_ret
     exact ⟨y0_8, y0_6⟩
    rw [if_neg c7] at H
    have c7b0 : decide (a0 ≤ (rd l1 x9_1)) = false := decide_eq_false c7; clear c7
    by_cases c8 : x9_1 > 0
    ·
     rw [if_pos c8] at H
     have c8b0 : decide (0 < x9_1) = true := decide_eq_true c8; clear c8; obtain ⟨ji9, hji9⟩ : ∃ j_ : Int, (wrap64 (x9_1 - 1)) = j_ := ⟨_, rfl⟩
     replace H : (if 0 ≤ (ji9) then (if (ji9) < (l1.length : Int) then (if (rd l1 (ji9)) ≥ (rd l1 x9_1) then (some false) else (impl_SetOk.l0 k1 a0 l1 l1 (l1.length : Int) (wrap64 (x9_1 + 1)))) else (none)) else (none)) = some r := by first | (rw [hji9] at H; exact H) | (simp only [hji9] at H ⊢; exact H)
     have hji9w : (IntKind.i64.wrap (x9_1 - 1)) = ji9 := (i64_w _).trans hji9
     by_cases c10 : 0 ≤ (ji9)
     rotate_left
     ·
      rw [if_neg c10] at H
      exact absurd H (by simp)
     rw [if_pos c10] at H
     have c10b0 : decide (0 ≤ (ji9)) = true := decide_eq_true c10; clear c10
     by_cases c11 : (ji9) < (l1.length : Int)
     rotate_left
     ·
      rw [if_neg c11] at H
      exact absurd H (by simp)
     rw [if_pos c11] at H
     have c11b0 : decide ((ji9) < (l1.length : Int)) = true := decide_eq_true c11; clear c11
     by_cases c12 : (rd l1 (ji9)) ≥ (rd l1 x9_1)
     ·
      rw [if_pos c12] at H
      have c12b0 : decide ((rd l1 x9_1) ≤ (rd l1 (ji9))) = true := decide_eq_true c12; clear c12; obtain rfl := Option.some.inj H; have p313 : 0 ≤ (x9_1 : Int) := of_decide_eq_true y0_7; have q313 : x9_1 < (l1.length : Int) := of_decide_eq_true y0_7; obtain ⟨ad313, e313, hx313_0⟩ := Kd.at_int HR1.out x9_1 p313 q313; cases e313; replace p313 := eq_true p313; replace q313 := eq_true q313; have p314 : 0 ≤ ((ji9) : Int) := of_decide_eq_true y0_7; have q314 : (ji9) < (l1.length : Int) := of_decide_eq_true y0_7; obtain ⟨ad314, e314, hx314_0⟩ := Kd.at_int HR1.out (ji9) p314 q314
      obtain rfl : ad313 = ad314 := (by injection e314)
      replace p314 := eq_true p314; replace q314 := eq_true q314
      go_wp2
      go_ret
      exact ⟨by first | rfl | (simp; done) | (simp only [← hji9] <;> (first | rfl | simp)) | (simp [*]; done), y0_6⟩
     rw [if_neg c12] at H
     have c12b0 : decide ((rd l1 x9_1) ≤ (rd l1 (ji9))) = false := decide_eq_false c12; clear c12; have H' := Aside0.mk H; clear H; have p313 : 0 ≤ (x9_1 : Int) := of_decide_eq_true y0_7; have q313 : x9_1 < (l1.length : Int) := of_decide_eq_true y0_7; obtain ⟨ad313, e313, hx313_0⟩ := Kd.at_int HR1.out x9_1 p313 q313; cases e313; replace p313 := eq_true p313; replace q313 := eq_true q313; have p314 : 0 ≤ ((ji9) : Int) := of_decide_eq_true y0_7; have q314 : (ji9) < (l1.length : Int) := of_decide_eq_true y0_7; obtain ⟨ad314, e314, hx314_0⟩ := Kd.at_int HR1.out (ji9) p314 q314
     obtain rfl : ad313 = ad314 := (by injection e314)
     replace p314 := eq_true p314; replace q314 := eq_true q314
     go_wp2
     go_roundg k1
     case measure => have := HK1.out; omega
     case rel => exact ⟨(wrap64 (x9_1 + 1)), y0_8, H', ⟨y0_11⟩, y0_6⟩
    rw [if_neg c8] at H
    have c8b0 : decide (0 < x9_1) = false := decide_eq_false c8; clear c8; have H' := Aside0.mk H; clear H; have p313 : 0 ≤ (x9_1 : Int) := of_decide_eq_true y0_7; have q313 : x9_1 < (l1.length : Int) := of_decide_eq_true y0_7; obtain ⟨ad313, e313, hx313_0⟩ := Kd.at_int HR1.out x9_1 p313 q313; cases e313; replace p313 := eq_true p313; replace q313 := eq_true q313
    go_wp2
    go_roundg k1
    case measure => have := HK1.out; omega
    case rel => exact ⟨(wrap64 (x9_1 + 1)), y0_8, H', ⟨y0_11⟩, y0_6⟩
   rw [if_neg c3] at H
   have c3b0 : decide (x9_1 < (l1.length : Int)) = false := decide_eq_false c3; clear c3; obtain rfl := Option.some.inj H
   go_wp2
   go_ret
   exact ⟨y0_8, y0_6⟩
def impl_within.f (a0 : Int) (a1 : Int) (a2 : Int) : Option (Bool) := if a0 ≥ a1 then (some (decide (a0 ≤ a2))) else (some false)
theorem impl_within.calls (a0 : Int) (a1 : Int) (a2 : Int) (r : Bool) (w : World) (h : impl_within.f a0 a1 a2 = some r) :
  Calls Tryz.prog 106 #[.int .i64 a0, .int .i64 a1, .int .i64 a2] w fun e w' => e = .returned (.bool r) ∧ Drawn0 w w' := by
 have H := h; unfold impl_within.f at H; clear h
 by_cases c4 : a0 ≥ a1
 ·
  rw [if_pos c4] at H
  have c4b0 : decide (a1 ≤ a0) = true := decide_eq_true c4; clear c4; obtain rfl := Option.some.inj H
  go_enter Tryz.func106, Tryz.ntmps106
  go_wp2
  go_ret
  exact ⟨y0_8, y0_6⟩
 rw [if_neg c4] at H
 have c4b0 : decide (a1 ≤ a0) = false := decide_eq_false c4; clear c4; obtain rfl := Option.some.inj H
 go_enter Tryz.func106, Tryz.ntmps106
 go_wp2
 go_ret
 exact ⟨y0_8, y0_6⟩
def impl_ConfOk.f (a0_0 : Int) (a0_1 : Int) : Option (Bool) := (impl_within.f a0_0 4 7).bind fun t316 => (if t316 = true then ((impl_within.f a0_1 1 6).bind fun t317 => (some t317)) else (some false))
theorem impl_ConfOk.calls (a0_0 : Int) (a0_1 : Int) (r : Bool) (w : World) (h : impl_ConfOk.f a0_0 a0_1 = some r) :
  Calls Tryz.prog 105 #[.agg #[.int .i64 a0_0, .int .i64 a0_1]] w fun e w' => e = .returned (.bool r) ∧ Below w.heap.size w w' := by
 have hu32 := Tryz.underlying32; have HB := Aside0.mk (Below.refl w.heap.size w)
 have H := h; unfold impl_ConfOk.f at H
 clear h
 go_enter Tryz.func105, Tryz.ntmps105
 have H' := Aside0.mk H; clear H
 go_upto_region 1 with (first | ((with_reducible refine gd 1 ?_); refine bL 1 #[.int .i64 a0_0, .int .i64 a0_1] 32 ?_; intro gb315 w2 _ _ _))
 have H := H'.out; clear H'; obtain ⟨t316, A3, H⟩ := oB H; (try dsimp only at H)
 by_cases c4 : t316 = true
 ·
  subst c4
  rw [if_pos rfl] at H
  obtain ⟨t317, A5, H⟩ := oB H; (try dsimp only at H); obtain rfl := Option.some.inj H
  go_wp2_with (first | ((with_reducible refine gate_callee (f := 106) rfl ?_); refine gD (some 5) Tryz.func106 (impl_within.calls (w := _) (h := A3.out)) ?_; intro w6 _) | (go_at_call 106; refine aD (impl_within.calls (w := _) (h := A5.out)) ?_; intro w7 _))
  go_ret
  exact ⟨y0_8, UpW.out⟩
 replace c4 := Bool.eq_false_iff.mpr c4; subst c4
 rw [if_neg Bool.false_ne_true] at H
 obtain rfl := Option.some.inj H
 go_wp2_with (first | ((with_reducible refine gate_callee (f := 106) rfl ?_); refine gD (some 5) Tryz.func106 (impl_within.calls (w := _) (h := A3.out)) ?_; intro w8 _))
 go_ret
 exact ⟨y0_8, UpW.out⟩
def impl_Split.f (a0 : ByteArray) (a1 : Int) : Option (List ByteArray) := (strings_Split.f a0 (strOfNums (([a1] : List Int)))).bind fun t321 => (some t321)
theorem impl_Split.calls (a0 : ByteArray) (a1 : Int) (r : List ByteArray) (w : World) (h : impl_Split.f a0 a1 = some r) (hG : Glob w := by exact gG HG HB) :
  Calls Tryz.prog 174 #[.string a0, .int .u8 a1] w fun e w' => ∃ v0_ : Value, e = .returned (v0_) ∧ Kd.R Kd.string 9 w' w.heap.size (fun _ => True) v0_ r ∧ Below w.heap.size w w' := by
 have HG := Aside0.mk hG; clear hG; have HB := Aside0.mk (Below.refl w.heap.size w)
 have H := h; unfold impl_Split.f at H
 clear h; obtain ⟨y318, hy318⟩ : ∃ y_ : List Int, y_ = (([a1] : List Int)) := ⟨_, rfl⟩
 replace H : ((strings_Split.f a0 (strOfNums y318)).bind fun t321 => (some t321)) = some r := by first | (rw [hy318]; with_reducible exact H) | (rw [hy318]; with_reducible exact (Option.bind_some _ _).symm.trans H) | (rw [hy318]; exact H) | exact H
 have Ny318 := Aside0.mk hy318; clear hy318; obtain ⟨t321, A3, H⟩ := oB H; (try dsimp only at H); obtain rfl := Option.some.inj H
 go_enter Tryz.func174, Tryz.ntmps174
 go_wp2_with (first | ((with_reducible refine gate_dst (N := 7) rfl ?_); refine Kd.R_lit (Kd.int .u8) _ 5 ?hg (N := 7) ?hd (xs := ([a1] : List Int)) (inner := [.int .u8 a1]) (ok := fun _ => True) (okp := fun _ => True) ?hr ?hp (fun _ hk => hk) trivial (Below.refl _ _) (Nat.le_refl _) (by simp) ?_; (case hd => rfl); (case hg => rfl); (case hr => first | (go_simp; done) | (go_simp; rfl)); (case hp => exact (Reps.one (show Kd.M (Kd.int .u8) _ _ _ a1 [.int .u8 a1] from rfl) (Reps.none _ _))); intro v319 w4 ho5 hb hg_ hnew_; clear hg_ hnew_; (first | rw [← Ny318.out] at ho5 | (simp only [Int.reduceToNat] at ho5; rw [← Ny318.out] at ho5)); have HO320 := Aside0.mk (Kd.R_lower ho5 (below_size (bI HB.out))); replace HB := bs HB hb; clear hb ho5; have hcv6 := own_string (P := Tryz.prog) Tryz.underlying24 Tryz.underlying5 Tryz.underlying9 (Kd.own_of_R HO320.out)) | ((with_reducible refine gate_callee (f := 195) rfl ?_); refine gB (some 9) Tryz.func195 #[.string a0, .string (strOfNums y318)] ?_; (with_reducible refine (strings_Split.calls a0 (strOfNums y318) t321 _ A3.out).mono ?_); rintro e w7 ⟨v322, rfl, ho0, hb⟩; refine ⟨_, rfl, ?_⟩; replace HO320 := rb HO320 hb; have HO323 := Aside0.mk (Kd.R_lower ho0 (below_size (bI HB.out))); replace HB := bs HB hb; (try clear hb); (try clear ho0)))
 go_ret
 exact ⟨_, y0_3, by (with_reducible repeat (first | apply Kd.R_alloc | apply Kd.R_drewN | apply Kd.R_drew)); exact HO323.out, bI HB.out⟩
def impl_Digits.f (a0 : Int) : Option (ByteArray) := (strconv_Itoa_205.f a0).bind fun t324 => (some t324)
theorem impl_Digits.calls (a0 : Int) (r : ByteArray) (w : World) (h : impl_Digits.f a0 = some r) (hG : Glob w := by exact gG HG HB) :
  Calls Tryz.prog 197 #[.int .i64 a0] w fun e w' => e = .returned (.string r) ∧ Below w.heap.size w w' := by
 have HG := Aside0.mk hG; clear hG; have HB := Aside0.mk (Below.refl w.heap.size w)
 have H := h; unfold impl_Digits.f at H
 clear h; obtain ⟨t324, A2, H⟩ := oB H; (try dsimp only at H); obtain rfl := Option.some.inj H
 go_enter Tryz.func197, Tryz.ntmps197
 go_wp2_with (first | ((with_reducible refine gate_callee (f := 205) rfl ?_); refine gC (some 4) Tryz.func205 (strconv_Itoa_205.calls (w := _) (h := A2.out)) ?_; intro w3 _))
 go_ret
 exact ⟨y0_8, UpW.out⟩
def impl_Number.l0 : Nat → ByteArray → Int → Int → Option (Int × Bool)
 | 0, _, _, _ => none
 | k + 1, x0, x4, x5 => if x5 < (x0.size : Int) then (if 0 ≤ x5 then (if (bt x0 x5) < 48 then (some (0, false)) else (if (bt x0 x5) > 57 then (some (0, false)) else (impl_Number.l0 k x0 (wrap64 ((wrap64 (10 * x4)) + (((bt x0 x5) - 48) % 256))) (wrap64 (x5 + 1))))) else (none)) else ((impl_Digits.f x4).bind fun t325 => (if t325.toList = x0.toList then (some (x4, true)) else (some (0, false))))
def impl_Number.f (k : Nat) (a0 : ByteArray) : Option (Int × Bool) := if (a0.size : Int) < 1 then (some (0, false)) else (if (a0.size : Int) > 6 then (some (0, false)) else (impl_Number.l0 k a0 0 0))
theorem impl_Number.mono_l : ∀ k, (∀ y0 y1 y2, LeO (impl_Number.l0 k y0 y1 y2) (impl_Number.l0 (k + 1) y0 y1 y2))
 | 0 => fun _ _ _ r h => by simp [impl_Number.l0] at h
 | k + 1 => by
  have ih0 := impl_Number.mono_l k
  intro y0 y1 y2
  unfold impl_Number.l0
  repeat' first | (with_reducible exact ih0 _ _ _) | (with_reducible exact LeO.refl _) | (with_reducible exact LeO.none _) | (with_reducible refine LeO.ite ?_ ?_) | (with_reducible refine LeO.bind ?_ (fun _ => ?_))
theorem impl_Number.mono : ∀ a0 k, LeO (impl_Number.f k a0) (impl_Number.f (k + 1) a0) := by
 intro a0 k
 have ih0 := impl_Number.mono_l k
 unfold impl_Number.f
 repeat' first | (with_reducible exact ih0 _ _ _) | (with_reducible exact LeO.refl _) | (with_reducible exact LeO.none _) | (with_reducible refine LeO.ite ?_ ?_) | (with_reducible refine LeO.bind ?_ (fun _ => ?_))
theorem impl_Number.calls (k : Nat) (a0 : ByteArray) (r1 : Int) (r2 : Bool) (w : World) (h : impl_Number.f k a0 = some (r1, r2)) (hG : Glob w := by exact gG HG HB) :
  Calls Tryz.prog 176 #[.string a0] w fun e w' => e = .returned (.tuple #[.int .i64 r1, .bool r2]) ∧ Below w.heap.size w w' := by
 have HG := Aside0.mk hG; clear hG; have HB := Aside0.mk (Below.refl w.heap.size w); have H := h; unfold impl_Number.f at H; clear h
 go_enter Tryz.func176, Tryz.ntmps176
 have H' := Aside0.mk H; clear H
 go_upto_region 1 with fail
 have H := H'.out; clear H'
 by_cases c2 : (a0.size : Int) < 1
 ·
  rw [if_pos c2] at H
  have c2b0 : decide ((a0.size : Int) < 1) = true := decide_eq_true c2
  have c2b1 : decide (a0.size < 1) = true := decide_eq_true (by omega)
  clear c2
  (first | rw [c2b0] | (simp only [i64_w, i32_w]; rw [c2b0]) | skip)
  simp only [Option.some.injEq, Prod.mk.injEq] at H
  obtain ⟨rfl, rfl⟩ := H
  go_wp2
  go_ret2
  exact ⟨y0_8, UpW.out⟩
 rw [if_neg c2] at H
 have c2b0 : decide ((a0.size : Int) < 1) = false := decide_eq_false c2
 have c2b1 : decide (a0.size < 1) = false := decide_eq_false (by omega)
 clear c2
 (first | rw [c2b0] | (simp only [i64_w, i32_w]; rw [c2b0]) | skip)
 by_cases c3 : (a0.size : Int) > 6
 ·
  rw [if_pos c3] at H
  have c3b0 : decide (6 < (a0.size : Int)) = true := decide_eq_true c3
  have c3b1 : decide (6 < a0.size) = true := decide_eq_true (by omega)
  clear c3
  simp only [Option.some.injEq, Prod.mk.injEq] at H
  obtain ⟨rfl, rfl⟩ := H
  go_wp2
  go_ret2
  exact ⟨y0_8, UpW.out⟩
 rw [if_neg c3] at H
 have c3b0 : decide (6 < (a0.size : Int)) = false := decide_eq_false c3
 have c3b1 : decide (6 < a0.size) = false := decide_eq_false (by omega)
 clear c3; have H' := Aside0.mk H; clear H
 go_wp2
 refine wC ?_; intro w4 _
 go_loopg [4, 5] k (fun kq v4 v5 w' => ∃ (x4_1 : Int) (x5_1 : Int), v4 = .int .i64 x4_1 ∧ v5 = .int .i64 x5_1 ∧ Aside0 (impl_Number.l0 kq a0 x4_1 x5_1 = some (r1, r2)) ∧ Aside0 (kq ≤ k) ∧ UB w4 w')
 case atStart => exact ⟨(0), (0), y0_8, y0_8, H', ⟨Nat.le_refl _⟩, ⟨UpW.out⟩⟩
 case round =>
  clear H'; obtain ⟨x4_1, x5_1, rfl, rfl, HA, HK1, _⟩ := hrel; cases gk with
  | zero => exact absurd HA.out (by simp [impl_Number.l0])
  | succ k1 =>
   have H := HA.out; clear HA
   simp only [impl_Number.l0] at H
   by_cases c5 : x5_1 < (a0.size : Int)
   ·
    rw [if_pos c5] at H
    have c5b0 : decide (x5_1 < (a0.size : Int)) = true := decide_eq_true c5; clear c5
    by_cases c6 : 0 ≤ x5_1
    rotate_left
    ·
     rw [if_neg c6] at H
     exact absurd H (by simp)
    rw [if_pos c6] at H
    have c6b0 : decide (0 ≤ x5_1) = true := decide_eq_true c6; clear c6
    by_cases c8 : (bt a0 x5_1) < 48
    ·
     rw [if_pos c8] at H
     have c8b0 : decide ((bt a0 x5_1) < 48) = true := decide_eq_true c8; clear c8; have H' := Aside0.mk H; clear H; have p7 : 0 ≤ (x5_1 : Int) := of_decide_eq_true y0_7; have q7 : x5_1 < (a0.size : Int) := of_decide_eq_true y0_7; have hx7 := bt_at a0 x5_1; replace p7 := eq_true p7; replace q7 := eq_true q7
     go_upto_if 29 with fail
     have H := H'.out; clear H'
     simp only [Option.some.injEq, Prod.mk.injEq] at H
     obtain ⟨rfl, rfl⟩ := H
     go_wp2
     go_ret2
     exact ⟨y0_8, UpW.out⟩
    rw [if_neg c8] at H
    have c8b0 : decide ((bt a0 x5_1) < 48) = false := decide_eq_false c8; clear c8; have H' := Aside0.mk H; clear H; have p7 : 0 ≤ (x5_1 : Int) := of_decide_eq_true y0_7; have q7 : x5_1 < (a0.size : Int) := of_decide_eq_true y0_7; have hx7 := bt_at a0 x5_1; replace p7 := eq_true p7; replace q7 := eq_true q7; have p9 : 0 ≤ (x5_1 : Int) := of_decide_eq_true y0_7; have q9 : x5_1 < (a0.size : Int) := of_decide_eq_true y0_7; have hx9 := bt_at a0 x5_1; replace p9 := eq_true p9; replace q9 := eq_true q9
    go_upto_if 29 with fail
    have H := H'.out; clear H'
    by_cases c10 : (bt a0 x5_1) > 57
    ·
     rw [if_pos c10] at H
     have c10b0 : decide (57 < (bt a0 x5_1)) = true := decide_eq_true c10; clear c10
     (first | rw [c10b0] | (simp only [i64_w, i32_w]; rw [c10b0]) | skip)
     simp only [Option.some.injEq, Prod.mk.injEq] at H
     obtain ⟨rfl, rfl⟩ := H
     go_wp2
     go_ret2
     exact ⟨y0_8, UpW.out⟩
    rw [if_neg c10] at H
    have c10b0 : decide (57 < (bt a0 x5_1)) = false := decide_eq_false c10; clear c10
    (first | rw [c10b0] | (simp only [i64_w, i32_w]; rw [c10b0]) | skip)
    have H' := Aside0.mk H; clear H; have p11 : 0 ≤ (x5_1 : Int) := of_decide_eq_true y0_7; have q11 : x5_1 < (a0.size : Int) := of_decide_eq_true y0_7; have hx11 := bt_at a0 x5_1; replace p11 := eq_true p11; replace q11 := eq_true q11
    go_wp2
    go_roundg k1
    case measure => have := HK1.out; omega
    case rel => exact ⟨(wrap64 ((wrap64 (10 * x4_1)) + (((bt a0 x5_1) - 48) % 256))), (wrap64 (x5_1 + 1)), y0_8, y0_8, H', ⟨y0_11⟩, ⟨UpW.out⟩⟩
   rw [if_neg c5] at H
   have c5b0 : decide (x5_1 < (a0.size : Int)) = false := decide_eq_false c5; clear c5; obtain ⟨t325, A12, H⟩ := oB H; (try dsimp only at H); have H' := Aside0.mk H; clear H
   go_upto_if 41 with (first | ((with_reducible refine gate_callee (f := 197) rfl ?_); refine gC (some 39) Tryz.func197 (impl_Digits.calls (w := _) (h := A12.out)) ?_; intro w13 _))
   have H := H'.out; clear H'
   by_cases c14 : t325.toList = a0.toList
   ·
    rw [if_pos c14] at H
    have c14b0 : (t325.toList == a0.toList) = true := beq_iff_eq.mpr c14; have c14b1 : (t325.toList != a0.toList) = false := bne_eq_false_iff_eq.mpr c14; clear c14
    (first | rw [c14b0] | (simp only [i64_w, i32_w]; rw [c14b0]) | skip)
    simp only [Option.some.injEq, Prod.mk.injEq] at H
    obtain ⟨rfl, rfl⟩ := H
    go_wp2
    go_ret2
    exact ⟨y0_8, UpW.out⟩
   rw [if_neg c14] at H
   have c14b0 : (t325.toList == a0.toList) = false := beq_eq_false_iff_ne.mpr c14; have c14b1 : (t325.toList != a0.toList) = true := bne_iff_ne.mpr c14
   (first | rw [c14b0] | (simp only [i64_w, i32_w]; rw [c14b0]) | skip)
   simp only [Option.some.injEq, Prod.mk.injEq] at H
   obtain ⟨rfl, rfl⟩ := H
   go_wp2
   go_ret2
   exact ⟨y0_8, UpW.out⟩
def impl_TxOk.f (a0_0 : Int) (a0_1 : Int) (a0_2 : Int) (a0_3 : Int) : Option (Bool) := (impl_within.f a0_0 0 3).bind fun t327 => (if t327 = true then ((impl_within.f a0_1 0 3).bind fun t328 => (if t328 = true then ((impl_within.f a0_2 0 1000).bind fun t329 => (if t329 = true then ((impl_within.f a0_3 0 99).bind fun t330 => (some t330)) else (some false))) else (some false))) else (some false))
theorem impl_TxOk.calls (a0_0 : Int) (a0_1 : Int) (a0_2 : Int) (a0_3 : Int) (r : Bool) (w : World) (h : impl_TxOk.f a0_0 a0_1 a0_2 a0_3 = some r) :
  Calls Tryz.prog 206 #[.agg #[.int .i64 a0_0, .int .i64 a0_1, .int .i64 a0_2, .int .i64 a0_3]] w fun e w' => e = .returned (.bool r) ∧ Below w.heap.size w w' := by
 have hu156 := Tryz.underlying156; have HB := Aside0.mk (Below.refl w.heap.size w)
 have H := h; unfold impl_TxOk.f at H
 clear h
 go_enter Tryz.func206, Tryz.ntmps206
 have H' := Aside0.mk H; clear H
 go_upto_region 1 with (first | ((with_reducible refine gd 1 ?_); refine bL 1 #[.int .i64 a0_0, .int .i64 a0_1, .int .i64 a0_2, .int .i64 a0_3] 156 ?_; intro gb326 w2 _ _ _))
 have H := H'.out; clear H'; obtain ⟨t327, A3, H⟩ := oB H; (try dsimp only at H)
 by_cases c4 : t327 = true
 ·
  subst c4
  rw [if_pos rfl] at H
  obtain ⟨t328, A5, H⟩ := oB H; (try dsimp only at H)
  by_cases c6 : t328 = true
  ·
   subst c6
   rw [if_pos rfl] at H
   obtain ⟨t329, A7, H⟩ := oB H; (try dsimp only at H)
   by_cases c8 : t329 = true
   ·
    subst c8
    rw [if_pos rfl] at H
    obtain ⟨t330, A9, H⟩ := oB H; (try dsimp only at H); obtain rfl := Option.some.inj H
    go_wp2_with (first | ((with_reducible refine gate_callee (f := 106) rfl ?_); refine gD (some 5) Tryz.func106 (impl_within.calls (w := _) (h := A3.out)) ?_; intro w10 _) | (go_at_call 106; refine aD (impl_within.calls (w := _) (h := A5.out)) ?_; intro w11 _) | (go_at_call 106; refine aD (impl_within.calls (w := _) (h := A7.out)) ?_; intro w12 _) | (go_at_call 106; refine aD (impl_within.calls (w := _) (h := A9.out)) ?_; intro w13 _))
    go_ret
    exact ⟨y0_8, UpW.out⟩
   replace c8 := Bool.eq_false_iff.mpr c8; subst c8
   rw [if_neg Bool.false_ne_true] at H
   obtain rfl := Option.some.inj H
   go_wp2_with (first | ((with_reducible refine gate_callee (f := 106) rfl ?_); refine gD (some 5) Tryz.func106 (impl_within.calls (w := _) (h := A3.out)) ?_; intro w14 _) | (go_at_call 106; refine aD (impl_within.calls (w := _) (h := A5.out)) ?_; intro w15 _) | (go_at_call 106; refine aD (impl_within.calls (w := _) (h := A7.out)) ?_; intro w16 _))
   go_ret
   exact ⟨y0_8, UpW.out⟩
  replace c6 := Bool.eq_false_iff.mpr c6; subst c6
  rw [if_neg Bool.false_ne_true] at H
  obtain rfl := Option.some.inj H
  go_wp2_with (first | ((with_reducible refine gate_callee (f := 106) rfl ?_); refine gD (some 5) Tryz.func106 (impl_within.calls (w := _) (h := A3.out)) ?_; intro w17 _) | (go_at_call 106; refine aD (impl_within.calls (w := _) (h := A5.out)) ?_; intro w18 _))
  go_ret
  exact ⟨y0_8, UpW.out⟩
 replace c4 := Bool.eq_false_iff.mpr c4; subst c4
 rw [if_neg Bool.false_ne_true] at H
 obtain rfl := Option.some.inj H
 go_wp2_with (first | ((with_reducible refine gate_callee (f := 106) rfl ?_); refine gD (some 5) Tryz.func106 (impl_within.calls (w := _) (h := A3.out)) ?_; intro w19 _))
 go_ret
 exact ⟨y0_8, UpW.out⟩
end Go.Proofs.YtdmjhgogljhfkaaGreatDoor.PFnNotes
