import Derived.Test.YtdmjhgogljhfkaaGreatDoorPFnPartsx0
import Derived.Test.YtdmjhgogljhfkaaGreatDoorPFnPartsx1
import Derived.Test.YtdmjhgogljhfkaaGreatDoorPFnPartsx2
namespace Go.Proofs.YtdmjhgogljhfkaaGreatDoor.PFnParts
open Go.RowKit Go.Proofs.YtdmjhgogljhfkaaGreatDoorW.PrintWords Go.Proofs.YtdmjhgogljhfkaaGreatDoorW.PrintLast Go.Proofs.YtdmjhgogljhfkaaGreatDoorW.PrintMore
attribute [local go_sem] max2_int min2_int max_two min_two max_three min_three max_four min_four
attribute [local go_sem] cell_in frozen_in cell_g cell_p cell_r cell_q
set_option synthInstance.maxSize 1000000
set_option synthInstance.maxHeartbeats 2000000
set_option linter.unusedVariables false
set_option linter.unusedSimpArgs false
set_option maxHeartbeats 8000000
set_option maxRecDepth 100000
mutual
def spec_Steps.j0 : Nat → List (S163) → List (S163) → List ByteArray → Bool → Option ((List (S163)) × Bool)
 | 0, _, _, _, _ => none
 | k + 1, x4, x5, x6, x31 => if x31 = true then (some (x4, false)) else (spec_Steps.l0 k x4 x5 x6 0 1)
def spec_Steps.l0 : Nat → List (S163) → List (S163) → List ByteArray → Int → Int → Option ((List (S163)) × Bool)
 | 0, _, _, _, _, _ => none
 | k + 1, x4, x5, x6, x7, x8 => if x8 < (x6.length : Int) then (if 0 ≤ x8 then ((spec_l2Cut.f k (rdOf ByteArray.empty x6 x8) 124).bind fun bt239 => ((spec_Number.f k bt239.1).bind fun bt242 => ((spec_TxsOf.f k bt239.2.1).bind fun bt244 => (if bt239.2.2 = true then (if bt242.2 = true then (if bt244.2 = true then (if bt242.1 ≤ x7 then (some (x4, false)) else (if bt242.1 > 60 then (some (x4, false)) else (if (bt244.1.length : Int) > 2 then (some (x4, false)) else (if x5.length < 4398046511104 then (spec_Steps.l0 k x4 (x5 ++ [(⟨bt242.1, bt244.1⟩ : S163)]) x6 bt242.1 (wrap64 (x8 + 1))) else (none))))) else (some (x4, false))) else (some (x4, false))) else (some (x4, false)))))) else (none)) else (some (x5, true))
end
def spec_Steps.f (k : Nat) (a0 : ByteArray) : Option ((List (S163)) × Bool) := (some (([] : List (S163)) : List (S163))).bind fun y228 => ((some (([] : List (S163)) : List (S163))).bind fun y231 => (if a0.toList = ([] : List UInt8) then (some (y231, true)) else ((spec_Split.f k a0 47).bind fun t234 => (if 0 < (t234.length : Int) then (if (rdOf ByteArray.empty t234 0).toList = ([] : List UInt8) then (spec_Steps.j0 k y228 y231 t234 (decide ((t234.length : Int) > 31))) else (spec_Steps.j0 k y228 y231 t234 true)) else (none)))))
theorem spec_Steps.mono_l : ∀ k, (∀ y0 y1 y2 y3, LeO (spec_Steps.j0 k y0 y1 y2 y3) (spec_Steps.j0 (k + 1) y0 y1 y2 y3)) ∧ (∀ y0 y1 y2 y3 y4, LeO (spec_Steps.l0 k y0 y1 y2 y3 y4) (spec_Steps.l0 (k + 1) y0 y1 y2 y3 y4))
 | 0 => ⟨fun _ _ _ _ r h => by simp [spec_Steps.j0] at h, fun _ _ _ _ _ r h => by simp [spec_Steps.l0] at h⟩
 | k + 1 => by
  obtain ⟨ih0, ih1⟩ := spec_Steps.mono_l k
  refine ⟨?_, ?_⟩
  ·
   intro y0 y1 y2 y3
   unfold spec_Steps.j0
   repeat' first | (with_reducible exact ih0 _ _ _ _) | (with_reducible exact ih1 _ _ _ _ _) | (with_reducible exact spec_Number.mono _ _) | (with_reducible exact spec_Split.mono _ _ _) | (with_reducible exact spec_TxsOf.mono _ _) | (with_reducible exact spec_l2Cut.mono _ _ _) | (with_reducible exact LeO.refl _) | (with_reducible exact LeO.none _) | (with_reducible refine LeO.ite ?_ ?_) | (with_reducible refine LeO.bind ?_ (fun _ => ?_))
  intro y0 y1 y2 y3 y4
  unfold spec_Steps.l0
  repeat' first | (with_reducible exact ih0 _ _ _ _) | (with_reducible exact ih1 _ _ _ _ _) | (with_reducible exact spec_Number.mono _ _) | (with_reducible exact spec_Split.mono _ _ _) | (with_reducible exact spec_TxsOf.mono _ _) | (with_reducible exact spec_l2Cut.mono _ _ _) | (with_reducible exact LeO.refl _) | (with_reducible exact LeO.none _) | (with_reducible refine LeO.ite ?_ ?_) | (with_reducible refine LeO.bind ?_ (fun _ => ?_))
theorem spec_Steps.mono : ∀ a0 k, LeO (spec_Steps.f k a0) (spec_Steps.f (k + 1) a0) := by
 intro a0 k
 obtain ⟨ih0, ih1⟩ := spec_Steps.mono_l k
 unfold spec_Steps.f
 repeat' first | (with_reducible exact ih0 _ _ _ _) | (with_reducible exact ih1 _ _ _ _ _) | (with_reducible exact spec_Number.mono _ _) | (with_reducible exact spec_Split.mono _ _ _) | (with_reducible exact spec_TxsOf.mono _ _) | (with_reducible exact spec_l2Cut.mono _ _ _) | (with_reducible exact LeO.refl _) | (with_reducible exact LeO.none _) | (with_reducible refine LeO.ite ?_ ?_) | (with_reducible refine LeO.bind ?_ (fun _ => ?_))
theorem spec_Steps.calls (k : Nat) (a0 : ByteArray) (r1 : List (S163)) (r2 : Bool) (w : World) (h : spec_Steps.f k a0 = some (r1, r2)) :
  Calls Tryz.prog 152 #[.string a0] w fun e w' => ∃ v0_ : Value, e = .returned (.tuple #[v0_, .bool r2]) ∧ Kd.S k163 163 w' w.heap.size (fun _ => True) v0_ r1 ∧ Below w.heap.size w w' := by
 have hu163 := Tryz.underlying163; have HB := Aside0.mk (Below.refl w.heap.size w)
 have H := h; unfold spec_Steps.f at H
 clear h; obtain ⟨y228, hy228⟩ : ∃ y_ : List (S163), y_ = (([] : List (S163))) := ⟨_, rfl⟩
 replace H : ((some (([] : List (S163)) : List (S163))).bind fun y231 => (if a0.toList = ([] : List UInt8) then (some (y231, true)) else ((spec_Split.f k a0 47).bind fun t234 => (if 0 < (t234.length : Int) then (if (rdOf ByteArray.empty t234 0).toList = ([] : List UInt8) then (spec_Steps.j0 k y228 y231 t234 (decide ((t234.length : Int) > 31))) else (spec_Steps.j0 k y228 y231 t234 true)) else (none))))) = some (r1, r2) := by first | (rw [hy228]; with_reducible exact H) | (rw [hy228]; with_reducible exact (Option.bind_some _ _).symm.trans H) | (rw [hy228]; exact H) | exact H
 have Ny228 := Aside0.mk hy228; clear hy228; obtain ⟨y231, hy231⟩ : ∃ y_ : List (S163), y_ = (([] : List (S163))) := ⟨_, rfl⟩
 replace H : (if a0.toList = ([] : List UInt8) then (some (y231, true)) else ((spec_Split.f k a0 47).bind fun t234 => (if 0 < (t234.length : Int) then (if (rdOf ByteArray.empty t234 0).toList = ([] : List UInt8) then (spec_Steps.j0 k y228 y231 t234 (decide ((t234.length : Int) > 31))) else (spec_Steps.j0 k y228 y231 t234 true)) else (none)))) = some (r1, r2) := by first | (rw [hy231]; with_reducible exact H) | (rw [hy231]; with_reducible exact (Option.bind_some _ _).symm.trans H) | (rw [hy231]; exact H) | exact H
 have Ny231 := Aside0.mk hy231; clear hy231
 by_cases c2 : a0.toList = ([] : List UInt8)
 ·
  rw [if_pos c2] at H
  have c2b0 : (a0.toList == ([] : List UInt8)) = true := beq_iff_eq.mpr c2; have c2b1 : (a0.toList != ([] : List UInt8)) = false := bne_eq_false_iff_eq.mpr c2; clear c2
  simp only [Option.some.injEq, Prod.mk.injEq] at H
  obtain ⟨rfl, rfl⟩ := H
  go_enter Tryz.func152, Tryz.ntmps152
  go_wp2_with (first | ((with_reducible refine gate_dst (N := 16) rfl ?_); (try (refine gate_guard (by rfl) ?_; dsimp only)); refine Kd.S_lit k163 _ 163 ?hg (N := 16) ?hd (xs := ([] : List (S163))) (inner := []) (ok := fun _ => True) (okp := fun _ => True) ?hr ?hp (fun _ hk => hk) trivial (Below.refl _ _) (Nat.le_refl _) (by simp) ?_; (case hd => rfl); (case hg => rfl); (case hr => first | (go_simp; done) | (go_simp; rfl)); (case hp => exact (Reps.none _ _)); intro v229 w3 ho4 hb hg_ hnew_; clear hg_ hnew_; (first | rw [← Ny228.out] at ho4 | (simp only [Int.reduceToNat] at ho4; rw [← Ny228.out] at ho4)); have HO230 := Aside0.mk (Kd.S_lower ho4 (below_size (bI HB.out))); replace HB := bs HB hb; clear hb ho4) | ((with_reducible refine gate_dst (N := 17) rfl ?_); (try (refine gate_guard (by rfl) ?_; dsimp only)); refine Kd.S_lit k163 _ 163 ?hg (N := 17) ?hd (xs := ([] : List (S163))) (inner := []) (ok := fun _ => True) (okp := fun _ => True) ?hr ?hp (fun _ hk => hk) trivial (Below.refl _ _) (Nat.le_refl _) (by simp) ?_; (case hd => rfl); (case hg => rfl); (case hr => first | (go_simp; done) | (go_simp; rfl)); (case hp => exact (Reps.none _ _)); intro v232 w5 ho6 hb hg_ hnew_; clear hg_ hnew_; (first | rw [← Ny231.out] at ho6 | (simp only [Int.reduceToNat] at ho6; rw [← Ny231.out] at ho6)); have HO233 := Aside0.mk (Kd.S_lower (Kd.S_new' ho6 (Kd.S_lt (sI HO230.out))) (below_size (bI HB.out))); replace HO230 := Aside0.mk (Kd.S_elder' (sI HO230.out) (Kd.S_base ho6) hb); replace HB := bs HB hb; clear hb ho6))
  go_ret2
  exact ⟨_, y0_12, by (with_reducible repeat (first | apply Kd.S_alloc | apply Kd.S_drewN | apply Kd.S_drew)); exact Kd.S_mono HO233.out (fun _ hk => trivial), bI HB.out⟩
 rw [if_neg c2] at H
 have c2b0 : (a0.toList == ([] : List UInt8)) = false := beq_eq_false_iff_ne.mpr c2; have c2b1 : (a0.toList != ([] : List UInt8)) = true := bne_iff_ne.mpr c2; obtain ⟨t234, A7, H⟩ := oB H; (try dsimp only at H); have HC8 := Aside0.mk H; clear H
 go_enter Tryz.func152, Tryz.ntmps152
 go_upto_region 6 with (first | ((with_reducible refine gate_dst (N := 16) rfl ?_); (try (refine gate_guard (by rfl) ?_; dsimp only)); refine Kd.S_lit k163 _ 163 ?hg (N := 16) ?hd (xs := ([] : List (S163))) (inner := []) (ok := fun _ => True) (okp := fun _ => True) ?hr ?hp (fun _ hk => hk) trivial (Below.refl _ _) (Nat.le_refl _) (by simp) ?_; (case hd => rfl); (case hg => rfl); (case hr => first | (go_simp; done) | (go_simp; rfl)); (case hp => exact (Reps.none _ _)); intro v229 w9 ho10 hb hg_ hnew_; clear hg_ hnew_; (first | rw [← Ny228.out] at ho10 | (simp only [Int.reduceToNat] at ho10; rw [← Ny228.out] at ho10)); have HO230 := Aside0.mk (Kd.S_lower ho10 (below_size (bI HB.out))); replace HB := bs HB hb; clear hb ho10) | ((with_reducible refine gate_dst (N := 17) rfl ?_); (try (refine gate_guard (by rfl) ?_; dsimp only)); refine Kd.S_lit k163 _ 163 ?hg (N := 17) ?hd (xs := ([] : List (S163))) (inner := []) (ok := fun _ => True) (okp := fun _ => True) ?hr ?hp (fun _ hk => hk) trivial (Below.refl _ _) (Nat.le_refl _) (by simp) ?_; (case hd => rfl); (case hg => rfl); (case hr => first | (go_simp; done) | (go_simp; rfl)); (case hp => exact (Reps.none _ _)); intro v232 w11 ho12 hb hg_ hnew_; clear hg_ hnew_; (first | rw [← Ny231.out] at ho12 | (simp only [Int.reduceToNat] at ho12; rw [← Ny231.out] at ho12)); have HO233 := Aside0.mk (Kd.S_lower (Kd.S_new' ho12 (Kd.S_lt (sI HO230.out))) (below_size (bI HB.out))); replace HO230 := Aside0.mk (Kd.S_elder' (sI HO230.out) (Kd.S_base ho12) hb); replace HB := bs HB hb; clear hb ho12) | ((with_reducible refine gate_callee (f := 178) rfl ?_); refine gB (some 22) Tryz.func178 #[.string a0, .int .u8 47] ?_; (with_reducible refine (spec_Split.calls k a0 47 t234 _ A7.out).mono ?_); rintro e w13 ⟨v235, rfl, ho0, hb⟩; refine ⟨_, rfl, ?_⟩; replace HO230 := sb HO230 hb; replace HO233 := sb HO233 hb; have HO236 := Aside0.mk (Kd.R_lower ho0 (below_size (bI HB.out))); replace HB := bs HB hb; (try clear hb); (try clear ho0)))
 (try simp only [Act.put, List.setIfInBounds_toArray, List.set_cons_zero, List.set_cons_succ])
 go_cut [31] (fun v31 wc => ∃ (kq : Nat) (x31_7 : Bool), v31 = .bool x31_7 ∧ Aside0 (spec_Steps.j0 kq y228 y231 t234 x31_7 = some (r1, r2)) ∧ Aside0 (kq ≤ k) ∧ Aside0 (Kd.S k163 163 wc w.heap.size (fun k_ => some k_ ≠ (v232 : Value).ownBlock) v229 y228) ∧ Aside0 (Kd.S k163 163 wc w.heap.size (fun k_ => some k_ ≠ (v229 : Value).ownBlock) v232 y231) ∧ Aside0 (Kd.R Kd.string 9 wc w.heap.size (fun _ => True) v235 t234) ∧ Aside0 (Below w.heap.size w wc))
 case first =>
  have H := HC8.out; clear HC8
  by_cases c14 : 0 < (t234.length : Int)
  rotate_left
  ·
   rw [if_neg c14] at H
   exact absurd H (by simp)
  rw [if_pos c14] at H
  have c14b0 : decide (0 < (t234.length : Int)) = true := decide_eq_true c14
  have c14b1 : decide (0 < t234.length) = true := decide_eq_true (by omega)
  clear c14
  (first | rw [c14b0] | (simp only [i64_w, i32_w]; rw [c14b0]) | skip)
  by_cases c15 : (rdOf ByteArray.empty t234 0).toList = ([] : List UInt8)
  ·
   rw [if_pos c15] at H
   have c15b0 : ((rdOf ByteArray.empty t234 0).toList == ([] : List UInt8)) = true := beq_iff_eq.mpr c15; have c15b1 : ((rdOf ByteArray.empty t234 0).toList != ([] : List UInt8)) = false := bne_eq_false_iff_eq.mpr c15; clear c15; have H' := Aside0.mk H; clear H; obtain ⟨Ao16, co16, eo16⟩ := Kd.R_slice HO236.out; subst eo16
   have p237 : 0 ≤ (0 : Int) := (by omega)
   have q237 : 0 < (t234.length : Int) := of_decide_eq_true y0_16; obtain ⟨ad237, e237, hx237_0⟩ := Kd.at_string (Kd.R_reads' HO236.out).2.2 0 p237 q237; cases e237
   have qi237 : (0 < t234.length) = True := eq_true (by omega)
   (try rw [show ((0 : Int)).toNat = 0 from rfl] at hx237_0)
   (try rw [Addr.add_zero'] at hx237_0)
   replace p237 := eq_true p237; replace q237 := eq_true q237
   go_wp2
   go_meet
   case rel => exact ⟨_, (decide ((t234.length : Int) > 31)), y0_17, H', ⟨y0_18⟩, ⟨by (with_reducible repeat (first | apply Kd.S_alloc | apply Kd.S_drewN | apply Kd.S_drew)); exact Kd.S_mono HO230.out (fun _ hk => hk.2)⟩, ⟨by (with_reducible repeat (first | apply Kd.S_alloc | apply Kd.S_drewN | apply Kd.S_drew)); exact Kd.S_mono HO233.out (fun _ hk => hk.2)⟩, ⟨by (with_reducible repeat (first | apply Kd.R_alloc | apply Kd.R_drewN | apply Kd.R_drew)); exact HO236.out⟩, ⟨bI HB.out⟩⟩
  rw [if_neg c15] at H
  have c15b0 : ((rdOf ByteArray.empty t234 0).toList == ([] : List UInt8)) = false := beq_eq_false_iff_ne.mpr c15; have c15b1 : ((rdOf ByteArray.empty t234 0).toList != ([] : List UInt8)) = true := bne_iff_ne.mpr c15; have H' := Aside0.mk H; clear H; obtain ⟨Ao17, co17, eo17⟩ := Kd.R_slice HO236.out; subst eo17
  have p237 : 0 ≤ (0 : Int) := (by omega)
  have q237 : 0 < (t234.length : Int) := of_decide_eq_true y0_16; obtain ⟨ad237, e237, hx237_0⟩ := Kd.at_string (Kd.R_reads' HO236.out).2.2 0 p237 q237; cases e237
  have qi237 : (0 < t234.length) = True := eq_true (by omega)
  (try rw [show ((0 : Int)).toNat = 0 from rfl] at hx237_0)
  (try rw [Addr.add_zero'] at hx237_0)
  replace p237 := eq_true p237; replace q237 := eq_true q237
  go_wp2
  go_meet
  case rel => exact ⟨_, (true), y0_17, H', ⟨y0_18⟩, ⟨by (with_reducible repeat (first | apply Kd.S_alloc | apply Kd.S_drewN | apply Kd.S_drew)); exact Kd.S_mono HO230.out (fun _ hk => hk.2)⟩, ⟨by (with_reducible repeat (first | apply Kd.S_alloc | apply Kd.S_drewN | apply Kd.S_drew)); exact Kd.S_mono HO233.out (fun _ hk => hk.2)⟩, ⟨by (with_reducible repeat (first | apply Kd.R_alloc | apply Kd.R_drewN | apply Kd.R_drew)); exact HO236.out⟩, ⟨bI HB.out⟩⟩
 case rest =>
  clear HC8
  try clear c1
  try clear c2
  try clear c2b0
  try clear c2b1
  try clear p2
  try clear q2
  try clear hx2
  try clear qi2
  try clear c14
  try clear c14b0
  try clear c14b1
  try clear c15
  try clear c15b0
  try clear c15b1
  try clear c17
  try clear hx237_0
  try clear p237
  try clear q237
  obtain ⟨kq, x31_7, rfl, HA, HJ7, HO_4, HO_5, HO_6, HB⟩ := hcut; cases kq with
  | zero => exact absurd HA.out (by simp [spec_Steps.j0])
  | succ kj7 =>
   have H := HA.out; clear HA
   simp only [spec_Steps.j0] at H
   by_cases c18 : x31_7 = true
   ·
    subst c18
    rw [if_pos rfl] at H
    simp only [Option.some.injEq, Prod.mk.injEq] at H
    obtain ⟨rfl, rfl⟩ := H
    go_wp2
    go_ret2
    exact ⟨_, y0_12, y0_11, bI HB.out⟩
   replace c18 := Bool.eq_false_iff.mpr c18; subst c18
   rw [if_neg Bool.false_ne_true] at H
   have H' := Aside0.mk H; clear H
   go_wp2
   go_loopg [5, 7, 8] kj7 (fun kq v5 v7 v8 w' => ∃ (x5_2 : List (S163)) (x7_2 : Int) (x8_2 : Int), v7 = .int .i64 x7_2 ∧ v8 = .int .i64 x8_2 ∧ Aside0 (spec_Steps.l0 kq y228 x5_2 t234 x7_2 x8_2 = some (r1, r2)) ∧ Aside0 (kq ≤ kj7) ∧ Aside0 (Kd.S k163 163 w' w.heap.size (fun k_ => some k_ ≠ (v5 : Value).ownBlock) v229 y228) ∧ Aside0 (Kd.S k163 163 w' w.heap.size (fun k_ => some k_ ≠ (v229 : Value).ownBlock) v5 x5_2) ∧ Aside0 (Kd.R Kd.string 9 w' w.heap.size (fun _ => True) v235 t234) ∧ Aside0 (Below w.heap.size w w'))
   case atStart => exact ⟨(y231), (0), (1), y0_17, y0_17, H', ⟨Nat.le_refl _⟩, ⟨by (with_reducible repeat (first | apply Kd.S_alloc | apply Kd.S_drewN | apply Kd.S_drew)); exact HO_4.out⟩, ⟨by (with_reducible repeat (first | apply Kd.S_alloc | apply Kd.S_drewN | apply Kd.S_drew)); exact HO_5.out⟩, ⟨by (with_reducible repeat (first | apply Kd.R_alloc | apply Kd.R_drewN | apply Kd.R_drew)); exact HO_6.out⟩, ⟨bI HB.out⟩⟩
   case round =>
    clear H'
    try clear c1
    try clear c2
    try clear c2b0
    try clear c2b1
    try clear p2
    try clear q2
    try clear hx2
    try clear qi2
    try clear c14
    try clear c14b0
    try clear c14b1
    try clear c15
    try clear c15b0
    try clear c15b1
    try clear c17
    try clear c18
    try clear hx237_0
    try clear p2
    try clear p237
    try clear q2
    try clear q237
    obtain ⟨x5_2, x7_2, x8_2, rfl, rfl, HA, HK2, HO_4, HO_5, HO_6, HB⟩ := hrel; cases gk with
    | zero => exact absurd HA.out (by simp [spec_Steps.l0])
    | succ k2 =>
     have H := HA.out; clear HA
     simp only [spec_Steps.l0] at H
     by_cases c19 : x8_2 < (t234.length : Int)
     ·
      rw [if_pos c19] at H
      have c19b0 : decide (x8_2 < (t234.length : Int)) = true := decide_eq_true c19; clear c19
      by_cases c20 : 0 ≤ x8_2
      rotate_left
      ·
       rw [if_neg c20] at H
       exact absurd H (by simp)
      rw [if_pos c20] at H
      have c20b0 : decide (0 ≤ x8_2) = true := decide_eq_true c20; clear c20; obtain ⟨⟨t239, t240, t241⟩, A21, H⟩ := oB H; (try dsimp only at H); obtain ⟨⟨t242, t243⟩, A22, H⟩ := oB H; (try dsimp only at H); obtain ⟨⟨t244, t245⟩, A23, H⟩ := oB H; (try dsimp only at H)
      by_cases c24 : t241 = true
      ·
       subst c24
       rw [if_pos rfl] at H
       by_cases c25 : t243 = true
       ·
        subst c25
        rw [if_pos rfl] at H
        by_cases c26 : t245 = true
        ·
         subst c26
         rw [if_pos rfl] at H
         by_cases c27 : t242 ≤ x7_2
         ·
          rw [if_pos c27] at H
          have c27b0 : decide (t242 ≤ x7_2) = true := decide_eq_true c27; clear c27
          simp only [Option.some.injEq, Prod.mk.injEq] at H
          obtain ⟨rfl, rfl⟩ := H; obtain ⟨Ao28, co28, eo28⟩ := Kd.R_slice HO_6.out; subst eo28; have p238 : 0 ≤ (x8_2 : Int) := of_decide_eq_true y0_16; have q238 : x8_2 < (t234.length : Int) := of_decide_eq_true y0_16; obtain ⟨ad238, e238, hx238_0⟩ := Kd.at_string (Kd.R_reads' HO_6.out).2.2 x8_2 p238 q238; cases e238; replace p238 := eq_true p238; replace q238 := eq_true q238
          go_wp2_with (first | ((with_reducible refine gate_callee (f := 179) rfl ?_); refine gB (some 44) Tryz.func179 #[.string (rdOf ByteArray.empty t234 x8_2), .int .u8 124] ?_; (with_reducible refine (spec_l2Cut.calls k2 (rdOf ByteArray.empty t234 x8_2) 124 t239 t240 true _ A21.out).mono ?_); rintro e w' ⟨rfl, ⟨nd, rfl⟩⟩; refine ⟨_, rfl, ?_⟩) | ((with_reducible refine gate_callee (f := 180) rfl ?_); refine gB (some 50) Tryz.func180 #[.string t239] ?_; (with_reducible refine (spec_Number.calls k2 t239 t242 true _ A22.out).mono ?_); rintro e w29 ⟨rfl, hb⟩; refine ⟨_, rfl, ?_⟩; replace HO_4 := sb HO_4 hb; replace HO_5 := sb HO_5 hb; replace HO_6 := rb HO_6 hb; replace HB := bs HB hb; (try clear hb); (try clear hb2); (try clear hk); (try clear hi)) | ((with_reducible refine gate_callee (f := 181) rfl ?_); refine gB (some 55) Tryz.func181 #[.string t240] ?_; (with_reducible refine (spec_TxsOf.calls k2 t240 t244 true _ A23.out).mono ?_); rintro e w30 ⟨v246, rfl, ho0, hb⟩; refine ⟨_, rfl, ?_⟩; replace HO_4 := Aside0.mk (Kd.S_elder' (sI HO_4.out) (Kd.R_base ho0) hb); replace HO_5 := Aside0.mk (Kd.S_elder' (sI HO_5.out) (Kd.R_base ho0) hb); replace HO_6 := rb HO_6 hb; have HO247 := Aside0.mk (Kd.R_lower ho0 (below_size (bI HB.out))); replace HB := bs HB hb; (try clear hb)))
          go_ret2
          exact ⟨_, y0_12, y0_11, bI HB.out⟩
         rw [if_neg c27] at H
         have c27b0 : decide (t242 ≤ x7_2) = false := decide_eq_false c27; clear c27
         by_cases c31 : t242 > 60
         ·
          rw [if_pos c31] at H
          have c31b0 : decide (60 < t242) = true := decide_eq_true c31; clear c31
          simp only [Option.some.injEq, Prod.mk.injEq] at H
          obtain ⟨rfl, rfl⟩ := H; obtain ⟨Ao32, co32, eo32⟩ := Kd.R_slice HO_6.out; subst eo32; have p238 : 0 ≤ (x8_2 : Int) := of_decide_eq_true y0_16; have q238 : x8_2 < (t234.length : Int) := of_decide_eq_true y0_16; obtain ⟨ad238, e238, hx238_0⟩ := Kd.at_string (Kd.R_reads' HO_6.out).2.2 x8_2 p238 q238; cases e238; replace p238 := eq_true p238; replace q238 := eq_true q238
          go_wp2_with (first | ((with_reducible refine gate_callee (f := 179) rfl ?_); refine gB (some 44) Tryz.func179 #[.string (rdOf ByteArray.empty t234 x8_2), .int .u8 124] ?_; (with_reducible refine (spec_l2Cut.calls k2 (rdOf ByteArray.empty t234 x8_2) 124 t239 t240 true _ A21.out).mono ?_); rintro e w' ⟨rfl, ⟨nd, rfl⟩⟩; refine ⟨_, rfl, ?_⟩) | ((with_reducible refine gate_callee (f := 180) rfl ?_); refine gB (some 50) Tryz.func180 #[.string t239] ?_; (with_reducible refine (spec_Number.calls k2 t239 t242 true _ A22.out).mono ?_); rintro e w33 ⟨rfl, hb⟩; refine ⟨_, rfl, ?_⟩; replace HO_4 := sb HO_4 hb; replace HO_5 := sb HO_5 hb; replace HO_6 := rb HO_6 hb; replace HB := bs HB hb; (try clear hb); (try clear hb2); (try clear hk); (try clear hi)) | ((with_reducible refine gate_callee (f := 181) rfl ?_); refine gB (some 55) Tryz.func181 #[.string t240] ?_; (with_reducible refine (spec_TxsOf.calls k2 t240 t244 true _ A23.out).mono ?_); rintro e w34 ⟨v246, rfl, ho0, hb⟩; refine ⟨_, rfl, ?_⟩; replace HO_4 := Aside0.mk (Kd.S_elder' (sI HO_4.out) (Kd.R_base ho0) hb); replace HO_5 := Aside0.mk (Kd.S_elder' (sI HO_5.out) (Kd.R_base ho0) hb); replace HO_6 := rb HO_6 hb; have HO247 := Aside0.mk (Kd.R_lower ho0 (below_size (bI HB.out))); replace HB := bs HB hb; (try clear hb)))
          go_ret2
          exact ⟨_, y0_12, y0_11, bI HB.out⟩
         rw [if_neg c31] at H
         have c31b0 : decide (60 < t242) = false := decide_eq_false c31; clear c31
         by_cases c35 : (t244.length : Int) > 2
         ·
          rw [if_pos c35] at H
          have c35b0 : decide (2 < (t244.length : Int)) = true := decide_eq_true c35
          have c35b1 : decide (2 < t244.length) = true := decide_eq_true (by omega)
          clear c35
          simp only [Option.some.injEq, Prod.mk.injEq] at H
          obtain ⟨rfl, rfl⟩ := H; obtain ⟨Ao36, co36, eo36⟩ := Kd.R_slice HO_6.out; subst eo36; have p238 : 0 ≤ (x8_2 : Int) := of_decide_eq_true y0_16; have q238 : x8_2 < (t234.length : Int) := of_decide_eq_true y0_16; obtain ⟨ad238, e238, hx238_0⟩ := Kd.at_string (Kd.R_reads' HO_6.out).2.2 x8_2 p238 q238; cases e238; replace p238 := eq_true p238; replace q238 := eq_true q238
          go_wp2_with (first | ((with_reducible refine gate_callee (f := 179) rfl ?_); refine gB (some 44) Tryz.func179 #[.string (rdOf ByteArray.empty t234 x8_2), .int .u8 124] ?_; (with_reducible refine (spec_l2Cut.calls k2 (rdOf ByteArray.empty t234 x8_2) 124 t239 t240 true _ A21.out).mono ?_); rintro e w' ⟨rfl, ⟨nd, rfl⟩⟩; refine ⟨_, rfl, ?_⟩) | ((with_reducible refine gate_callee (f := 180) rfl ?_); refine gB (some 50) Tryz.func180 #[.string t239] ?_; (with_reducible refine (spec_Number.calls k2 t239 t242 true _ A22.out).mono ?_); rintro e w37 ⟨rfl, hb⟩; refine ⟨_, rfl, ?_⟩; replace HO_4 := sb HO_4 hb; replace HO_5 := sb HO_5 hb; replace HO_6 := rb HO_6 hb; replace HB := bs HB hb; (try clear hb); (try clear hb2); (try clear hk); (try clear hi)) | ((with_reducible refine gate_callee (f := 181) rfl ?_); refine gB (some 55) Tryz.func181 #[.string t240] ?_; (with_reducible refine (spec_TxsOf.calls k2 t240 t244 true _ A23.out).mono ?_); rintro e w38 ⟨v246, rfl, ho0, hb⟩; refine ⟨_, rfl, ?_⟩; replace HO_4 := Aside0.mk (Kd.S_elder' (sI HO_4.out) (Kd.R_base ho0) hb); replace HO_5 := Aside0.mk (Kd.S_elder' (sI HO_5.out) (Kd.R_base ho0) hb); replace HO_6 := rb HO_6 hb; have HO247 := Aside0.mk (Kd.R_lower ho0 (below_size (bI HB.out))); replace HB := bs HB hb; (try clear hb); obtain ⟨Ao39, co39, eo39⟩ := Kd.R_slice HO247.out; subst eo39))
          go_ret2
          exact ⟨_, y0_12, y0_11, bI HB.out⟩
         rw [if_neg c35] at H
         have c35b0 : decide (2 < (t244.length : Int)) = false := decide_eq_false c35
         have c35b1 : decide (2 < t244.length) = false := decide_eq_false (by omega)
         clear c35
         by_cases c40 : x5_2.length < 4398046511104
         rotate_left
         ·
          rw [if_neg c40] at H
          exact absurd H (by simp)
         rw [if_pos c40] at H
         have LMc40 := Aside0.mk c40; clear c40; obtain ⟨y248, hy248⟩ : ∃ y_ : List (S163), y_ = (x5_2 ++ [(⟨t242, t244⟩ : S163)]) := ⟨_, rfl⟩
         replace H : (spec_Steps.l0 k2 y228 y248 t234 t242 (wrap64 (x8_2 + 1))) = some (r1, r2) := by first | (rw [hy248]; with_reducible exact H) | (rw [hy248]; with_reducible exact (Option.bind_some _ _).symm.trans H) | (rw [hy248]; exact H) | exact H
         have Ny248 := Aside0.mk hy248; clear hy248; have H' := Aside0.mk H; clear H; obtain ⟨Ao41, co41, eo41⟩ := Kd.R_slice HO_6.out; subst eo41; have p238 : 0 ≤ (x8_2 : Int) := of_decide_eq_true y0_16; have q238 : x8_2 < (t234.length : Int) := of_decide_eq_true y0_16; obtain ⟨ad238, e238, hx238_0⟩ := Kd.at_string (Kd.R_reads' HO_6.out).2.2 x8_2 p238 q238; cases e238; replace p238 := eq_true p238; replace q238 := eq_true q238
         go_wp2_with (first | ((with_reducible refine gate_callee (f := 179) rfl ?_); refine gB (some 44) Tryz.func179 #[.string (rdOf ByteArray.empty t234 x8_2), .int .u8 124] ?_; (with_reducible refine (spec_l2Cut.calls k2 (rdOf ByteArray.empty t234 x8_2) 124 t239 t240 true _ A21.out).mono ?_); rintro e w' ⟨rfl, ⟨nd, rfl⟩⟩; refine ⟨_, rfl, ?_⟩) | ((with_reducible refine gate_callee (f := 180) rfl ?_); refine gB (some 50) Tryz.func180 #[.string t239] ?_; (with_reducible refine (spec_Number.calls k2 t239 t242 true _ A22.out).mono ?_); rintro e w42 ⟨rfl, hb⟩; refine ⟨_, rfl, ?_⟩; replace HO_4 := sb HO_4 hb; replace HO_5 := sb HO_5 hb; replace HO_6 := rb HO_6 hb; replace HB := bs HB hb; (try clear hb); (try clear hb2); (try clear hk); (try clear hi)) | ((with_reducible refine gate_callee (f := 181) rfl ?_); refine gB (some 55) Tryz.func181 #[.string t240] ?_; (with_reducible refine (spec_TxsOf.calls k2 t240 t244 true _ A23.out).mono ?_); rintro e w43 ⟨v246, rfl, ho0, hb⟩; refine ⟨_, rfl, ?_⟩; replace HO_4 := Aside0.mk (Kd.S_elder' (sI HO_4.out) (Kd.R_base ho0) hb); replace HO_5 := Aside0.mk (Kd.S_elder' (sI HO_5.out) (Kd.R_base ho0) hb); replace HO_6 := rb HO_6 hb; have HO247 := Aside0.mk (Kd.R_lower ho0 (below_size (bI HB.out))); replace HB := bs HB hb; (try clear hb); obtain ⟨Ao44, co44, eo44⟩ := Kd.R_slice HO247.out; subst eo44) | ((with_reducible refine gate_builtin (b := .append) (xs := #[.tmp 84, .tmp 88]) rfl ?_); (try (refine gate_guard (by rfl) ?_; dsimp only)); at_builtin; refine Kd.S_append k163 (w0 := w) w.heap.size rfl (.tmp 84) (.tmp 88) 159 163 (.agg #[(.int .i64 0), (.slice none 0 0)]) 32 rfl Tryz.underlying159 info163 rfl (by decide) (by omega) u5 x5_2 (⟨t242, t244⟩ : S163) [.int .i64 t242, .slice Ao44 t244.length co44] (fun k_ => some k_ ≠ (v229 : Value).ownBlock) (fun k_ => some k_ = (.slice Ao44 t244.length co44 : Value).ownBlock) rfl rfl ?aP (fun k_ hk_ => ((Kd.R_mono (ok' := fun k_ => ((fun k_ => some k_ ≠ (v229 : Value).ownBlock)) k_ ∧ some k_ ≠ (u5 : Value).ownBlock) (Kd.R_apart' (Kd.R_apart' (HO247.out) (Kd.S_typed HO_4.out) (by decide)) (Kd.S_typed HO_5.out) (by decide)) (fun k_ hk => ⟨hk.1.2, hk.2⟩))).1 k_ hk_.symm) ?aF ?aO ?aB ?aS ?aL ?_; (case aP => exact k163_mkM _ _ _ (⟨t242, t244⟩ : S163) (Kd.R_mono (Kd.R_tight rfl (Kd.R_mono (ok' := fun k_ => ((fun k_ => some k_ ≠ (v229 : Value).ownBlock)) k_ ∧ some k_ ≠ (u5 : Value).ownBlock) (Kd.R_apart' (Kd.R_apart' (HO247.out) (Kd.S_typed HO_4.out) (by decide)) (Kd.S_typed HO_5.out) (by decide)) (fun k_ hk => ⟨hk.1.2, hk.2⟩))) (fun _ h_ => h_))); (case aB => exact (bI HB.out)); (case aF => exact (fun k_ hk => Kd.fresh' (Kd.S_lt (sI HO_4.out)) k_ hk)); (case aO => exact (sI (Kd.S_mono HO_5.out (fun k_ hk => ⟨hk.1, fun e_ => hk.2 e_⟩)))); (case aS => exact (below_size (bI HB.out))); (case aL => have := LMc40.out; omega); intro v249 w45 ho hb hg hat; rw [← Ny248.out] at ho; have n0_ := Aside0.mk (Kd.S_after (ok := (fun k_ => some k_ ≠ (.slice Ao44 t244.length co44 : Value).ownBlock)) (sI (Kd.S_mono HO_4.out (fun _ hk => ⟨hk.2, hk.1⟩))) hg hat); have n1_ := Aside0.mk (Kd.R_over' (rI HO_6.out) (Kd.S_typed (sI HO_5.out)) (by decide) hg); have n2_ := Aside0.mk (hb); have n3_ := Aside0.mk (ho); clear HO_4; clear HO_6; clear HB; clear HO_5; clear HO247; have HO_4 := n0_; have HO_6 := n1_; have HB := n2_; have HO250 := n3_; clear n0_ n1_ n2_ n3_; clear ho hb hg hat))
         go_roundg k2
         case measure => have := HJ7.out; have := HK2.out; omega
         case rel => exact ⟨(y248), (t242), (wrap64 (x8_2 + 1)), y0_17, y0_17, H', ⟨by have := HJ7.out; have := HK2.out; omega⟩, ⟨by (with_reducible repeat (first | apply Kd.S_alloc | apply Kd.S_drewN | apply Kd.S_drew)); exact Kd.S_mono HO_4.out (fun _ hk => hk.2)⟩, ⟨by (with_reducible repeat (first | apply Kd.S_alloc | apply Kd.S_drewN | apply Kd.S_drew)); exact HO250.out⟩, ⟨by (with_reducible repeat (first | apply Kd.R_alloc | apply Kd.R_drewN | apply Kd.R_drew)); exact HO_6.out⟩, ⟨bI HB.out⟩⟩
        replace c26 := Bool.eq_false_iff.mpr c26; subst c26
        rw [if_neg Bool.false_ne_true] at H
        simp only [Option.some.injEq, Prod.mk.injEq] at H
        obtain ⟨rfl, rfl⟩ := H; obtain ⟨Ao46, co46, eo46⟩ := Kd.R_slice HO_6.out; subst eo46; have p238 : 0 ≤ (x8_2 : Int) := of_decide_eq_true y0_16; have q238 : x8_2 < (t234.length : Int) := of_decide_eq_true y0_16; obtain ⟨ad238, e238, hx238_0⟩ := Kd.at_string (Kd.R_reads' HO_6.out).2.2 x8_2 p238 q238; cases e238; replace p238 := eq_true p238; replace q238 := eq_true q238
        go_wp2_with (first | ((with_reducible refine gate_callee (f := 179) rfl ?_); refine gB (some 44) Tryz.func179 #[.string (rdOf ByteArray.empty t234 x8_2), .int .u8 124] ?_; (with_reducible refine (spec_l2Cut.calls k2 (rdOf ByteArray.empty t234 x8_2) 124 t239 t240 true _ A21.out).mono ?_); rintro e w' ⟨rfl, ⟨nd, rfl⟩⟩; refine ⟨_, rfl, ?_⟩) | ((with_reducible refine gate_callee (f := 180) rfl ?_); refine gB (some 50) Tryz.func180 #[.string t239] ?_; (with_reducible refine (spec_Number.calls k2 t239 t242 true _ A22.out).mono ?_); rintro e w47 ⟨rfl, hb⟩; refine ⟨_, rfl, ?_⟩; replace HO_4 := sb HO_4 hb; replace HO_5 := sb HO_5 hb; replace HO_6 := rb HO_6 hb; replace HB := bs HB hb; (try clear hb); (try clear hb2); (try clear hk); (try clear hi)) | ((with_reducible refine gate_callee (f := 181) rfl ?_); refine gB (some 55) Tryz.func181 #[.string t240] ?_; (with_reducible refine (spec_TxsOf.calls k2 t240 t244 false _ A23.out).mono ?_); rintro e w48 ⟨v246, rfl, ho0, hb⟩; refine ⟨_, rfl, ?_⟩; replace HO_4 := Aside0.mk (Kd.S_elder' (sI HO_4.out) (Kd.R_base ho0) hb); replace HO_5 := Aside0.mk (Kd.S_elder' (sI HO_5.out) (Kd.R_base ho0) hb); replace HO_6 := rb HO_6 hb; have HO247 := Aside0.mk (Kd.R_lower ho0 (below_size (bI HB.out))); replace HB := bs HB hb; (try clear hb)))
        go_ret2
        exact ⟨_, y0_12, y0_11, bI HB.out⟩
       replace c25 := Bool.eq_false_iff.mpr c25; subst c25
       rw [if_neg Bool.false_ne_true] at H
       simp only [Option.some.injEq, Prod.mk.injEq] at H
       obtain ⟨rfl, rfl⟩ := H; obtain ⟨Ao49, co49, eo49⟩ := Kd.R_slice HO_6.out; subst eo49; have p238 : 0 ≤ (x8_2 : Int) := of_decide_eq_true y0_16; have q238 : x8_2 < (t234.length : Int) := of_decide_eq_true y0_16; obtain ⟨ad238, e238, hx238_0⟩ := Kd.at_string (Kd.R_reads' HO_6.out).2.2 x8_2 p238 q238; cases e238; replace p238 := eq_true p238; replace q238 := eq_true q238
       go_wp2_with (first | ((with_reducible refine gate_callee (f := 179) rfl ?_); refine gB (some 44) Tryz.func179 #[.string (rdOf ByteArray.empty t234 x8_2), .int .u8 124] ?_; (with_reducible refine (spec_l2Cut.calls k2 (rdOf ByteArray.empty t234 x8_2) 124 t239 t240 true _ A21.out).mono ?_); rintro e w' ⟨rfl, ⟨nd, rfl⟩⟩; refine ⟨_, rfl, ?_⟩) | ((with_reducible refine gate_callee (f := 180) rfl ?_); refine gB (some 50) Tryz.func180 #[.string t239] ?_; (with_reducible refine (spec_Number.calls k2 t239 t242 false _ A22.out).mono ?_); rintro e w50 ⟨rfl, hb⟩; refine ⟨_, rfl, ?_⟩; replace HO_4 := sb HO_4 hb; replace HO_5 := sb HO_5 hb; replace HO_6 := rb HO_6 hb; replace HB := bs HB hb; (try clear hb); (try clear hb2); (try clear hk); (try clear hi)) | ((with_reducible refine gate_callee (f := 181) rfl ?_); refine gB (some 55) Tryz.func181 #[.string t240] ?_; (with_reducible refine (spec_TxsOf.calls k2 t240 t244 t245 _ A23.out).mono ?_); rintro e w51 ⟨v246, rfl, ho0, hb⟩; refine ⟨_, rfl, ?_⟩; replace HO_4 := Aside0.mk (Kd.S_elder' (sI HO_4.out) (Kd.R_base ho0) hb); replace HO_5 := Aside0.mk (Kd.S_elder' (sI HO_5.out) (Kd.R_base ho0) hb); replace HO_6 := rb HO_6 hb; have HO247 := Aside0.mk (Kd.R_lower ho0 (below_size (bI HB.out))); replace HB := bs HB hb; (try clear hb)))
       go_ret2
       exact ⟨_, y0_12, y0_11, bI HB.out⟩
      replace c24 := Bool.eq_false_iff.mpr c24; subst c24
      rw [if_neg Bool.false_ne_true] at H
      simp only [Option.some.injEq, Prod.mk.injEq] at H
      obtain ⟨rfl, rfl⟩ := H; obtain ⟨Ao52, co52, eo52⟩ := Kd.R_slice HO_6.out; subst eo52; have p238 : 0 ≤ (x8_2 : Int) := of_decide_eq_true y0_16; have q238 : x8_2 < (t234.length : Int) := of_decide_eq_true y0_16; obtain ⟨ad238, e238, hx238_0⟩ := Kd.at_string (Kd.R_reads' HO_6.out).2.2 x8_2 p238 q238; cases e238; replace p238 := eq_true p238; replace q238 := eq_true q238
      go_wp2_with (first | ((with_reducible refine gate_callee (f := 179) rfl ?_); refine gB (some 44) Tryz.func179 #[.string (rdOf ByteArray.empty t234 x8_2), .int .u8 124] ?_; (with_reducible refine (spec_l2Cut.calls k2 (rdOf ByteArray.empty t234 x8_2) 124 t239 t240 false _ A21.out).mono ?_); rintro e w' ⟨rfl, ⟨nd, rfl⟩⟩; refine ⟨_, rfl, ?_⟩) | ((with_reducible refine gate_callee (f := 180) rfl ?_); refine gB (some 50) Tryz.func180 #[.string t239] ?_; (with_reducible refine (spec_Number.calls k2 t239 t242 t243 _ A22.out).mono ?_); rintro e w53 ⟨rfl, hb⟩; refine ⟨_, rfl, ?_⟩; replace HO_4 := sb HO_4 hb; replace HO_5 := sb HO_5 hb; replace HO_6 := rb HO_6 hb; replace HB := bs HB hb; (try clear hb); (try clear hb2); (try clear hk); (try clear hi)) | ((with_reducible refine gate_callee (f := 181) rfl ?_); refine gB (some 55) Tryz.func181 #[.string t240] ?_; (with_reducible refine (spec_TxsOf.calls k2 t240 t244 t245 _ A23.out).mono ?_); rintro e w54 ⟨v246, rfl, ho0, hb⟩; refine ⟨_, rfl, ?_⟩; replace HO_4 := Aside0.mk (Kd.S_elder' (sI HO_4.out) (Kd.R_base ho0) hb); replace HO_5 := Aside0.mk (Kd.S_elder' (sI HO_5.out) (Kd.R_base ho0) hb); replace HO_6 := rb HO_6 hb; have HO247 := Aside0.mk (Kd.R_lower ho0 (below_size (bI HB.out))); replace HB := bs HB hb; (try clear hb)))
      go_ret2
      exact ⟨_, y0_12, y0_11, bI HB.out⟩
     rw [if_neg c19] at H
     have c19b0 : decide (x8_2 < (t234.length : Int)) = false := decide_eq_false c19; clear c19
     simp only [Option.some.injEq, Prod.mk.injEq] at H
     obtain ⟨rfl, rfl⟩ := H; obtain ⟨Ao55, co55, eo55⟩ := Kd.R_slice HO_6.out; subst eo55
     go_wp2
     go_ret2
     exact ⟨_, y0_12, by (with_reducible repeat (first | apply Kd.S_alloc | apply Kd.S_drewN | apply Kd.S_drew)); exact Kd.S_mono HO_5.out (fun _ hk => trivial), bI HB.out⟩
def spec_NameOk.f (k : Nat) (a0 : ByteArray) : Option (Bool) := (spec_Steps.f k a0).bind fun bt251 => (some bt251.2)
theorem spec_NameOk.calls (k : Nat) (a0 : ByteArray) (r : Bool) (w : World) (h : spec_NameOk.f k a0 = some r) :
  Calls Tryz.prog 112 #[.string a0] w fun e w' => e = .returned (.bool r) ∧ Below w.heap.size w w' := by
 have HB := Aside0.mk (Below.refl w.heap.size w)
 have H := h; unfold spec_NameOk.f at H
 clear h; obtain ⟨⟨t251, t252⟩, A2, H⟩ := oB H; (try dsimp only at H); obtain rfl := Option.some.inj H
 go_enter Tryz.func112, Tryz.ntmps112
 go_wp2_with (first | ((with_reducible refine gate_callee (f := 152) rfl ?_); refine gS1 (some 7) Tryz.func152 (spec_Steps.calls (w := _) (h := A2.out)) ?_; intro Ao253 co253 w3 _ HO254))
 go_ret
 exact ⟨y0_17, UpW.out⟩
def spec_ViewOf.f (k : Nat) (a0 : ByteArray) : Option (Int) := (spec_Steps.f k a0).bind fun bt255 => (if bt255.2 = true then (if (bt255.1.length : Int) = 0 then (some 0) else (if 0 ≤ (wrap64 ((bt255.1.length : Int) - 1)) then (if (wrap64 ((bt255.1.length : Int) - 1)) < (bt255.1.length : Int) then (some ((rd_T163 bt255.1 (wrap64 ((bt255.1.length : Int) - 1))).f0)) else (none)) else (none))) else (some 0))
theorem spec_ViewOf.calls (k : Nat) (a0 : ByteArray) (r : Int) (w : World) (h : spec_ViewOf.f k a0 = some r) :
  Calls Tryz.prog 113 #[.string a0] w fun e w' => e = .returned (.int .i64 r) ∧ Below w.heap.size w w' := by
 have HB := Aside0.mk (Below.refl w.heap.size w)
 have H := h; unfold spec_ViewOf.f at H
 clear h; obtain ⟨⟨t255, t256⟩, A2, H⟩ := oB H; (try dsimp only at H)
 go_enter Tryz.func113, Tryz.ntmps113
 have H' := Aside0.mk H; clear H
 go_upto_region 2 with (first | ((with_reducible refine gate_callee (f := 152) rfl ?_); refine gS1 (some 7) Tryz.func152 (spec_Steps.calls (w := _) (h := A2.out)) ?_; intro Ao257 co257 w3 _ HO258))
 have H := H'.out; clear H'
 by_cases c4 : t256 = true
 ·
  subst c4
  rw [if_pos rfl] at H
  have H' := Aside0.mk H; clear H
  go_upto_if 16 with fail
  have H := H'.out; clear H'
  by_cases c5 : (t255.length : Int) = 0
  ·
   rw [if_pos c5] at H
   have c5b0 : ((t255.length : Int) == 0) = true := beq_iff_eq.mpr c5; have c5b1 : ((t255.length : Int) != 0) = false := bne_eq_false_iff_eq.mpr c5; clear c5
   (first | rw [c5b0] | (simp only [i64_w, i32_w]; rw [c5b0]) | skip)
   obtain rfl := Option.some.inj H
   go_wp2
   go_ret
   exact ⟨y0_17, UpW.out⟩
  rw [if_neg c5] at H
  have c5b0 : ((t255.length : Int) == 0) = false := beq_eq_false_iff_ne.mpr c5; have c5b1 : ((t255.length : Int) != 0) = true := bne_iff_ne.mpr c5
  have c5b2 : ¬ (t255 = []) := fun h_ => c5 (by rw [h_]; rfl)
  (first | rw [c5b0] | (simp only [i64_w, i32_w]; rw [c5b0]) | skip)
  obtain ⟨ji6, hji6⟩ : ∃ j_ : Int, (wrap64 ((t255.length : Int) - 1)) = j_ := ⟨_, rfl⟩
  replace H : (if 0 ≤ (ji6) then (if (ji6) < (t255.length : Int) then (some ((rd_T163 t255 (ji6)).f0)) else (none)) else (none)) = some r := by first | (rw [hji6] at H; exact H) | (simp only [hji6] at H ⊢; exact H)
  have hji6w : (IntKind.i64.wrap ((t255.length : Int) - 1)) = ji6 := (i64_w _).trans hji6
  by_cases c7 : 0 ≤ (ji6)
  rotate_left
  ·
   rw [if_neg c7] at H
   exact absurd H (by simp)
  rw [if_pos c7] at H
  have c7b0 : decide (0 ≤ (ji6)) = true := decide_eq_true c7; clear c7
  by_cases c8 : (ji6) < (t255.length : Int)
  rotate_left
  ·
   rw [if_neg c8] at H
   exact absurd H (by simp)
  rw [if_pos c8] at H
  have c8b0 : decide ((ji6) < (t255.length : Int)) = true := decide_eq_true c8; clear c8; obtain rfl := Option.some.inj H; have p259 : 0 ≤ ((ji6) : Int) := of_decide_eq_true y0_16; have q259 : (ji6) < (t255.length : Int) := of_decide_eq_true y0_16
  obtain ⟨go259, cc259, eo259, hb259, _, hg259⟩ := Kd.S_form HO258.out (by omega)
  have bo259 : BornI go259 _ := ⟨hb259⟩
  injection eo259 with ea_ en_ ec_
  subst ea_; subst ec_; clear en_; have sb259 : StB go259 w3 163 := ⟨hg259⟩; obtain ⟨ok259, ce259, _, hM259, hcc259, _, _, _⟩ := Kd.S_elem HO258.out z163 (ji6) p259 q259; obtain ⟨ve259_1, rfl, ge259_1⟩ := k163_openM hM259; obtain ⟨A259_1, c259_1, ev259_1⟩ := Kd.R_slice ge259_1; subst ev259_1; have i259_0_ : RdG go259 (((ji6) : Int).toNat * 2) w3 (.int .i64 ((rd_T163 t255 (ji6)).f0)) := RdG.of hg259 (hcc259 0 _ rfl); have i259_1_ : RdG go259 (((ji6) : Int).toNat * 2 + 1) w3 (.slice A259_1 ((rd_T163 t255 (ji6)).f1).length c259_1) := RdG.of hg259 (hcc259 1 _ rfl)
  have HR259_1 := Aside0.mk (show Kd.R k156 156 w3 _ ok259 (.slice A259_1 ((rd_T163 t255 (ji6)).f1).length c259_1) ((rd_T163 t255 (ji6)).f1) from ge259_1)
  replace p259 := eq_true p259; replace q259 := eq_true q259
  go_wp2
  go_ret
  exact ⟨by first | rfl | (simp; done) | (simp only [← hji6] <;> (first | rfl | simp)) | (simp [*]; done), UpW.out⟩
 replace c4 := Bool.eq_false_iff.mpr c4; subst c4
 rw [if_neg Bool.false_ne_true] at H
 obtain rfl := Option.some.inj H
 go_wp2
 go_ret
 exact ⟨y0_17, UpW.out⟩
def spec_PartOk.f (k : Nat) (a0_0 : Int) (a0_1 : Int) (a1_0 : Int) (a1_1 : ByteArray) (l1_2 : List Int) : Option (Bool) := (spec_ConfOk.f a0_0 a0_1).bind fun t262 => (if t262 = true then ((spec_l1In.f a1_0 1 60).bind fun t263 => (if t263 = true then ((spec_SetOk.f k a0_0 l1_2).bind fun t264 => (if t264 = true then (if (l1_2.length : Int) = 0 then (some false) else (if a1_1.toList = ([] : List UInt8) then (some true) else ((spec_NameOk.f k a1_1).bind fun t265 => (if t265 = true then ((spec_ViewOf.f k a1_1).bind fun t266 => (some (t266 == a1_0))) else (some false))))) else (some false))) else (some false))) else (some false))
def spec_PartOk.T3 : Bool × List (List Nat × List Nat) := (true, [([], []), ([0], [0]), ([1], [1]), ([2], [2]), ([3], [3]), ([4, 3], [3, 4]), ([5, 3, 3], [3, 5]), ([6, 6, 3], [3, 6]), ([7], [7]), ([8, 7], [7, 8]), ([9, 7, 7], [7, 9]), ([7], [7]), ([11, 7], [7, 11]), ([10, 12, 7], [7, 10, 12]), ([7, 13, 3], [3, 7, 13]), ([3, 14], [3, 14]), ([15, 10, 0, 1, 2, 3, 4, 5, 6, 7, 8, 9, 10, 11, 12, 13, 14, 15], [15])])
def spec_PartOk.B3 : List Nat := [0, 1, 3, 7, 15, 31, 63, 127, 255, 511, 1023, 255, 2303, 8191, 16383, 32767, 65535]
theorem spec_PartOk.tab3 : rtab .any (opsOf Tryz.f49 3) = spec_PartOk.T3 := by kernel_rfl
theorem spec_PartOk.bits3 : waitsOk spec_PartOk.T3.2 spec_PartOk.B3 = true := by kernel_rfl
theorem spec_PartOk.calls (k : Nat) (a0_0 : Int) (a0_1 : Int) (a1_0 : Int) (a1_1 : ByteArray) (A1_2 : Option Addr) (c1_2 : Nat) (l1_2 : List Int) (r : Bool) (w : World) (hr1_2 : Kd.C (Kd.int .i64) w A1_2 l1_2.length l1_2) (hc1_2 : l1_2.length ≤ c1_2) (h : spec_PartOk.f k a0_0 a0_1 a1_0 a1_1 l1_2 = some r) :
  Calls Tryz.prog 49 #[.agg #[.int .i64 a0_0, .int .i64 a0_1], .agg #[.int .i64 a1_0, .string a1_1, .slice A1_2 l1_2.length c1_2]] w fun e w' => e = .returned (.bool r) ∧ Below w.heap.size w w' := by
 have hu32 := Tryz.underlying32; have hu48 := Tryz.underlying48; have HR1_2 := Aside0.mk hr1_2; have HC1_2 := Aside0.mk hc1_2; clear hr1_2 hc1_2; have HB := Aside0.mk (Below.refl w.heap.size w)
 have H := h; unfold spec_PartOk.f at H
 clear h
 go_enter Tryz.func49, Tryz.ntmps49
 have H' := Aside0.mk H; clear H
 go_upto_region 1 with (first | ((with_reducible refine gd 2 ?_); refine bL 2 #[.int .i64 a0_0, .int .i64 a0_1] 32 ?_; intro gb260 w3 _ _ _) | ((with_reducible refine gd 3 ?_); refine bL 3 #[.int .i64 a1_0, .string a1_1, .slice A1_2 l1_2.length c1_2] 48 ?_; intro gb261 w4 _ _ _))
 have H := H'.out; clear H'; obtain ⟨t262, A5, H⟩ := oB H; (try dsimp only at H)
 by_cases c6 : t262 = true
 ·
  subst c6
  rw [if_pos rfl] at H
  obtain ⟨t263, A7, H⟩ := oB H; (try dsimp only at H)
  by_cases c8 : t263 = true
  ·
   subst c8
   rw [if_pos rfl] at H
   obtain ⟨t264, A9, H⟩ := oB H; (try dsimp only at H)
   by_cases c10 : t264 = true
   ·
    subst c10
    rw [if_pos rfl] at H
    have H' := Aside0.mk H; clear H
    go_upto_if 27 with (first | ((with_reducible refine gate_callee (f := 109) rfl ?_); refine gC (some 6) Tryz.func109 (spec_ConfOk.calls (w := _) (h := A5.out)) ?_; intro w11 _) | (go_at_call 110; refine aD (spec_l1In.calls (w := _) (h := A7.out)) ?_; intro w12 _) | (go_at_call 111; refine aD (spec_SetOk.calls (hr1 := pC HR1_2) (hc1 := HC1_2.out) (w := _) (h := A9.out)) ?_; intro w13 _))
    have H := H'.out; clear H'
    by_cases c14 : (l1_2.length : Int) = 0
    ·
     rw [if_pos c14] at H
     have c14b0 : ((l1_2.length : Int) == 0) = true := beq_iff_eq.mpr c14; have c14b1 : ((l1_2.length : Int) != 0) = false := bne_eq_false_iff_eq.mpr c14; clear c14
     (first | rw [c14b0] | (simp only [i64_w, i32_w]; rw [c14b0]) | skip)
     obtain rfl := Option.some.inj H
     go_wp2
     go_ret
     exact ⟨y0_17, UpW.out⟩
    rw [if_neg c14] at H
    have c14b0 : ((l1_2.length : Int) == 0) = false := beq_eq_false_iff_ne.mpr c14; have c14b1 : ((l1_2.length : Int) != 0) = true := bne_iff_ne.mpr c14
    have c14b2 : ¬ (l1_2 = []) := fun h_ => c14 (by rw [h_]; rfl)
    (first | rw [c14b0] | (simp only [i64_w, i32_w]; rw [c14b0]) | skip)
    by_cases c15 : a1_1.toList = ([] : List UInt8)
    ·
     rw [if_pos c15] at H
     have c15b0 : (a1_1.toList == ([] : List UInt8)) = true := beq_iff_eq.mpr c15; have c15b1 : (a1_1.toList != ([] : List UInt8)) = false := bne_eq_false_iff_eq.mpr c15; clear c15; obtain rfl := Option.some.inj H
     try go_wp2
     refine sB [] spec_PartOk.tab3 spec_PartOk.bits3 ?_; intro w16 _ HT_ HW_
     refine pA 0 (some 28) (bz 17 1) HT_ ?_
     refine tB 1 (some 29) (bz 17 3) HT_ HW_ ?_
     refine pA 2 (some 30) (bz 17 7) HT_ ?_
     refine pA 3 (some 31) (bz 17 15) HT_ ?_
     refine pU 4 (some 32) (bz 17 31) HT_ ?_
     refine pU 5 (some 33) (bz 17 63) HT_ ?_
     refine pU 6 (some 34) (bz 17 127) HT_ ?_
     refine pU 7 (some 35) (bz 17 255) HT_ ?_
     refine pU 8 (some 36) (bz 17 511) HT_ ?_
     refine pU 9 (some 37) (bz 17 1023) HT_ ?_
     refine pU 10 (some 38) (bz 17 2047) HT_ ?_
     refine pU 11 (some 39) (bz 17 4095) HT_ ?_
     refine pU 12 (some 40) (bz 17 0x1fff) HT_ ?_
     refine pU 13 (some 41) (bz 17 0x3fff) HT_ ?_
     refine pU 14 (some 42) (bz 17 0x7fff) HT_ ?_
     refine pA 15 (some 43) (bz 17 0xffff) HT_ ?_
     refine pA 16 (some 4) (bz 17 0x1ffff) HT_ ?_
     refine done_ (done_of HT_.out (by kernel_rfl)) ?_
     try go_wp2
     go_ret
     exact ⟨y0_17, UpW.out⟩
    rw [if_neg c15] at H
    have c15b0 : (a1_1.toList == ([] : List UInt8)) = false := beq_eq_false_iff_ne.mpr c15; have c15b1 : (a1_1.toList != ([] : List UInt8)) = true := bne_iff_ne.mpr c15; obtain ⟨t265, A17, H⟩ := oB H; (try dsimp only at H)
    by_cases c18 : t265 = true
    ·
     subst c18
     rw [if_pos rfl] at H
     obtain ⟨t266, A19, H⟩ := oB H; (try dsimp only at H); obtain rfl := Option.some.inj H
     try go_wp2
     refine sB [] spec_PartOk.tab3 spec_PartOk.bits3 ?_; intro w20 _ HT_ HW_
     refine pA 0 (some 28) (bz 17 1) HT_ ?_
     refine tB 1 (some 29) (bz 17 3) HT_ HW_ ?_
     refine pA 2 (some 30) (bz 17 7) HT_ ?_
     refine pA 3 (some 31) (bz 17 15) HT_ ?_
     refine pA 4 (some 32) (bz 17 31) HT_ ?_
     refine tB 5 (some 33) (bz 17 63) HT_ HW_ ?_
     refine o1 6 (some 34) (bz 17 127) HT_ rfl (kC Tryz.func112 (spec_NameOk.calls (w := _) (h := A17.out)) ?_); intro w21 _
     refine nA (some 34) ?_
     refine pA 7 (some 35) (bz 17 255) HT_ ?_
     refine pA 8 (some 36) (bz 17 511) HT_ ?_
     refine tB 9 (some 37) (bz 17 1023) HT_ HW_ ?_
     refine pA 11 (some 39) (bz 17 3071) HT_ ?_
     refine tB 12 (some 40) (bz 17 0x1bff) HT_ HW_ ?_
     refine o1 10 (some 38) (bz 17 0x1fff) HT_ rfl (kC Tryz.func113 (spec_ViewOf.calls (w := _) (h := A19.out)) ?_); intro w22 _
     refine nA (some 38) ?_
     refine pA 13 (some 41) (bz 17 0x3fff) HT_ ?_
     refine pA 14 (some 42) (bz 17 0x7fff) HT_ ?_
     refine pA 15 (some 43) (bz 17 0xffff) HT_ ?_
     refine pA 16 (some 4) (bz 17 0x1ffff) HT_ ?_
     refine done_ (done_of HT_.out (by kernel_rfl)) ?_
     try go_wp2
     go_ret
     exact ⟨y0_17, UpW.out⟩
    replace c18 := Bool.eq_false_iff.mpr c18; subst c18
    rw [if_neg Bool.false_ne_true] at H
    obtain rfl := Option.some.inj H
    try go_wp2
    refine sB [] spec_PartOk.tab3 spec_PartOk.bits3 ?_; intro w23 _ HT_ HW_
    refine pA 0 (some 28) (bz 17 1) HT_ ?_
    refine tB 1 (some 29) (bz 17 3) HT_ HW_ ?_
    refine pA 2 (some 30) (bz 17 7) HT_ ?_
    refine pA 3 (some 31) (bz 17 15) HT_ ?_
    refine pA 4 (some 32) (bz 17 31) HT_ ?_
    refine tB 5 (some 33) (bz 17 63) HT_ HW_ ?_
    refine o1 6 (some 34) (bz 17 127) HT_ rfl (kC Tryz.func112 (spec_NameOk.calls (w := _) (h := A17.out)) ?_); intro w24 _
    refine nA (some 34) ?_
    refine pA 7 (some 35) (bz 17 255) HT_ ?_
    refine pU 8 (some 36) (bz 17 511) HT_ ?_
    refine pU 9 (some 37) (bz 17 1023) HT_ ?_
    refine pU 10 (some 38) (bz 17 2047) HT_ ?_
    refine pU 11 (some 39) (bz 17 4095) HT_ ?_
    refine pU 12 (some 40) (bz 17 0x1fff) HT_ ?_
    refine pU 13 (some 41) (bz 17 0x3fff) HT_ ?_
    refine pA 14 (some 42) (bz 17 0x7fff) HT_ ?_
    refine pA 15 (some 43) (bz 17 0xffff) HT_ ?_
    refine pA 16 (some 4) (bz 17 0x1ffff) HT_ ?_
    refine done_ (done_of HT_.out (by kernel_rfl)) ?_
    try go_wp2
    go_ret
    exact ⟨y0_17, UpW.out⟩
   replace c10 := Bool.eq_false_iff.mpr c10; subst c10
   rw [if_neg Bool.false_ne_true] at H
   have H' := Aside0.mk H; clear H
   go_upto_if 27 with (first | ((with_reducible refine gate_callee (f := 109) rfl ?_); refine gC (some 6) Tryz.func109 (spec_ConfOk.calls (w := _) (h := A5.out)) ?_; intro w25 _) | (go_at_call 110; refine aD (spec_l1In.calls (w := _) (h := A7.out)) ?_; intro w26 _) | (go_at_call 111; refine aD (spec_SetOk.calls (hr1 := pC HR1_2) (hc1 := HC1_2.out) (w := _) (h := A9.out)) ?_; intro w27 _))
   have H := H'.out; clear H'; obtain rfl := Option.some.inj H
   go_wp2
   go_ret
   exact ⟨y0_17, UpW.out⟩
  replace c8 := Bool.eq_false_iff.mpr c8; subst c8
  rw [if_neg Bool.false_ne_true] at H
  have H' := Aside0.mk H; clear H
  go_upto_if 27 with (first | ((with_reducible refine gate_callee (f := 109) rfl ?_); refine gC (some 6) Tryz.func109 (spec_ConfOk.calls (w := _) (h := A5.out)) ?_; intro w28 _) | (go_at_call 110; refine aD (spec_l1In.calls (w := _) (h := A7.out)) ?_; intro w29 _))
  have H := H'.out; clear H'; obtain rfl := Option.some.inj H
  go_wp2
  go_ret
  exact ⟨y0_17, UpW.out⟩
 replace c6 := Bool.eq_false_iff.mpr c6; subst c6
 rw [if_neg Bool.false_ne_true] at H
 have H' := Aside0.mk H; clear H
 go_upto_if 27 with (first | ((with_reducible refine gate_callee (f := 109) rfl ?_); refine gC (some 6) Tryz.func109 (spec_ConfOk.calls (w := _) (h := A5.out)) ?_; intro w30 _))
 have H := H'.out; clear H'; obtain rfl := Option.some.inj H
 go_wp2
 go_ret
 exact ⟨y0_17, UpW.out⟩
def spec_l10Before.f (a0_0 : Int) (a0_1 : ByteArray) (l0_2 : List Int) (a1_0 : Int) (a1_1 : ByteArray) (l1_2 : List Int) : Option (Bool) := if a0_0 < a1_0 then (some true) else (if a0_0 = a1_0 then (some (Op.bytesLess a0_1.toList a1_1.toList)) else (some false))
theorem spec_l10Before.calls (a0_0 : Int) (a0_1 : ByteArray) (A0_2 : Option Addr) (c0_2 : Nat) (l0_2 : List Int) (a1_0 : Int) (a1_1 : ByteArray) (A1_2 : Option Addr) (c1_2 : Nat) (l1_2 : List Int) (r : Bool) (w : World) (hr0_2 : Kd.C (Kd.int .i64) w A0_2 l0_2.length l0_2) (hc0_2 : l0_2.length ≤ c0_2) (hr1_2 : Kd.C (Kd.int .i64) w A1_2 l1_2.length l1_2) (hc1_2 : l1_2.length ≤ c1_2) (h : spec_l10Before.f a0_0 a0_1 l0_2 a1_0 a1_1 l1_2 = some r) :
  Calls Tryz.prog 79 #[.agg #[.int .i64 a0_0, .string a0_1, .slice A0_2 l0_2.length c0_2], .agg #[.int .i64 a1_0, .string a1_1, .slice A1_2 l1_2.length c1_2]] w fun e w' => e = .returned (.bool r) ∧ Below w.heap.size w w' := by
 have hu48 := Tryz.underlying48; have HR0_2 := Aside0.mk hr0_2; have HC0_2 := Aside0.mk hc0_2; clear hr0_2 hc0_2; have HR1_2 := Aside0.mk hr1_2; have HC1_2 := Aside0.mk hc1_2; clear hr1_2 hc1_2; have HB := Aside0.mk (Below.refl w.heap.size w); have H := h; unfold spec_l10Before.f at H; clear h
 go_enter Tryz.func79, Tryz.ntmps79
 have H' := Aside0.mk H; clear H
 go_upto_region 1 with (first | ((with_reducible refine gd 2 ?_); refine bL 2 #[.int .i64 a0_0, .string a0_1, .slice A0_2 l0_2.length c0_2] 48 ?_; intro gb267 w3 _ _ _) | ((with_reducible refine gd 3 ?_); refine bL 3 #[.int .i64 a1_0, .string a1_1, .slice A1_2 l1_2.length c1_2] 48 ?_; intro gb268 w4 _ _ _))
 have H := H'.out; clear H'
 by_cases c5 : a0_0 < a1_0
 ·
  rw [if_pos c5] at H
  have c5b0 : decide (a0_0 < a1_0) = true := decide_eq_true c5; clear c5
  (first | rw [c5b0] | (simp only [i64_w, i32_w]; rw [c5b0]) | skip)
  obtain rfl := Option.some.inj H
  go_wp2
  go_ret
  exact ⟨y0_17, UpW.out⟩
 rw [if_neg c5] at H
 have c5b0 : decide (a0_0 < a1_0) = false := decide_eq_false c5; clear c5
 (first | rw [c5b0] | (simp only [i64_w, i32_w]; rw [c5b0]) | skip)
 by_cases c6 : a0_0 = a1_0
 ·
  rw [if_pos c6] at H
  have c6b0 : (a0_0 == a1_0) = true := beq_iff_eq.mpr c6; have c6b1 : (a0_0 != a1_0) = false := bne_eq_false_iff_eq.mpr c6; clear c6; obtain rfl := Option.some.inj H
  go_wp2
  go_ret
  exact ⟨y0_17, UpW.out⟩
 rw [if_neg c6] at H
 have c6b0 : (a0_0 == a1_0) = false := beq_eq_false_iff_ne.mpr c6; have c6b1 : (a0_0 != a1_0) = true := bne_iff_ne.mpr c6; obtain rfl := Option.some.inj H
 go_wp2
 go_ret
 exact ⟨y0_17, UpW.out⟩
def spec_TableOk.l0 : Nat → List (S48) → Int → Int → Int → Option (Bool)
 | 0, _, _, _, _ => none
 | k + 1, x1, x5, x270000, x270001 => if x5 < (x1.length : Int) then (if 0 ≤ x5 then ((spec_PartOk.f k x270000 x270001 ((rd_T48 x1 x5).f0) ((rd_T48 x1 x5).f1) ((rd_T48 x1 x5).f2)).bind fun t271 => (if t271 = true then (if x5 > 0 then (if 0 ≤ (wrap64 (x5 - 1)) then (if (wrap64 (x5 - 1)) < (x1.length : Int) then ((spec_l10Before.f ((rd_T48 x1 (wrap64 (x5 - 1))).f0) ((rd_T48 x1 (wrap64 (x5 - 1))).f1) ((rd_T48 x1 (wrap64 (x5 - 1))).f2) ((rd_T48 x1 x5).f0) ((rd_T48 x1 x5).f1) ((rd_T48 x1 x5).f2)).bind fun t274 => (if t274 = true then (spec_TableOk.l0 k x1 (wrap64 (x5 + 1)) x270000 x270001) else (some false))) else (none)) else (none)) else (spec_TableOk.l0 k x1 (wrap64 (x5 + 1)) x270000 x270001)) else (some false))) else (none)) else (some (decide ((x1.length : Int) ≤ 20)))
def spec_TableOk.f (k : Nat) (a0_0 : Int) (a0_1 : Int) (l1 : List (S48)) : Option (Bool) := spec_TableOk.l0 k l1 0 a0_0 a0_1
def spec_TableOk.T4 : Bool × List (List Nat × List Nat) := (true, [([], []), ([], []), ([], []), ([1, 2], [1, 2]), ([3], [3]), ([0, 4], [0, 4]), ([5], [5]), ([6, 5], [6]), ([7], [7]), ([8, 7], [7, 8]), ([9, 7, 7], [7, 9]), ([10], [10]), ([10], [10]), ([12, 10], [10, 12]), ([11, 13, 10], [10, 11, 13]), ([14, 10], [10, 14]), ([10], [10]), ([10], [10]), ([16, 17, 10], [10, 16, 17]), ([18, 10], [10, 18]), ([15, 19, 10, 10], [10, 15, 19]), ([20, 10], [10, 20]), ([10, 21, 7], [7, 10, 21]), ([7, 22], [7, 22])])
def spec_TableOk.B4 : List Nat := [0, 0, 0, 6, 14, 31, 63, 127, 255, 511, 1023, 2047, 2047, 6143, 16383, 32767, 2047, 2047, 198655, 460799, 1048575, 2097151, 4194303, 8388607]
theorem spec_TableOk.tab4 : rtab .any (opsOf Tryz.f47 4) = spec_TableOk.T4 := by kernel_rfl
theorem spec_TableOk.bits4 : waitsOk spec_TableOk.T4.2 spec_TableOk.B4 = true := by kernel_rfl
theorem spec_TableOk.calls (k : Nat) (a0_0 : Int) (a0_1 : Int) (A1 : Option Addr) (c1 : Nat) (l1 : List (S48)) (r : Bool) (w : World) (hr1 : Kd.C k48 w A1 l1.length l1) (hc1 : l1.length ≤ c1) (h : spec_TableOk.f k a0_0 a0_1 l1 = some r) :
  Calls Tryz.prog 47 #[.agg #[.int .i64 a0_0, .int .i64 a0_1], .slice A1 l1.length c1] w fun e w' => e = .returned (.bool r) ∧ Below w.heap.size w w' := by
 have hu32 := Tryz.underlying32; have hu48 := Tryz.underlying48; have HR1 := Aside0.mk hr1; have HC1 := Aside0.mk hc1; clear hr1 hc1; have HB := Aside0.mk (Below.refl w.heap.size w); have H := h; unfold spec_TableOk.f at H; clear h
 go_enter Tryz.func47, Tryz.ntmps47
 have H' := Aside0.mk H; clear H
 go_wp2_with (first | ((with_reducible refine gd 2 ?_); refine bL 2 #[.int .i64 a0_0, .int .i64 a0_1] 32 ?_; intro gb269 w3 _ _ _))
 refine wC ?_; intro w4 _
 go_loopg [5] k (fun kq v5 w' => ∃ (x5_1 : Int), v5 = .int .i64 x5_1 ∧ Aside0 (spec_TableOk.l0 kq l1 x5_1 a0_0 a0_1 = some r) ∧ Aside0 (kq ≤ k) ∧ UB w4 w')
 case atStart => exact ⟨(0), y0_17, H', ⟨Nat.le_refl _⟩, ⟨UpW.out⟩⟩
 case round =>
  clear H'; obtain ⟨x5_1, rfl, HA, HK1, _⟩ := hrel; cases gk with
  | zero => exact absurd HA.out (by simp [spec_TableOk.l0])
  | succ k1 =>
   have H := HA.out; clear HA
   simp only [spec_TableOk.l0] at H
   by_cases c5 : x5_1 < (l1.length : Int)
   ·
    rw [if_pos c5] at H
    have c5b0 : decide (x5_1 < (l1.length : Int)) = true := decide_eq_true c5; clear c5
    by_cases c6 : 0 ≤ x5_1
    rotate_left
    ·
     rw [if_neg c6] at H
     exact absurd H (by simp)
    rw [if_pos c6] at H
    have c6b0 : decide (0 ≤ x5_1) = true := decide_eq_true c6; clear c6; obtain ⟨t271, A7, H⟩ := oB H; (try dsimp only at H)
    by_cases c8 : t271 = true
    ·
     subst c8
     rw [if_pos rfl] at H
     by_cases c9 : x5_1 > 0
     ·
      rw [if_pos c9] at H
      have c9b0 : decide (0 < x5_1) = true := decide_eq_true c9; clear c9; obtain ⟨ji10, hji10⟩ : ∃ j_ : Int, (wrap64 (x5_1 - 1)) = j_ := ⟨_, rfl⟩
      replace H : (if 0 ≤ (ji10) then (if (ji10) < (l1.length : Int) then ((spec_l10Before.f ((rd_T48 l1 (ji10)).f0) ((rd_T48 l1 (ji10)).f1) ((rd_T48 l1 (ji10)).f2) ((rd_T48 l1 x5_1).f0) ((rd_T48 l1 x5_1).f1) ((rd_T48 l1 x5_1).f2)).bind fun t274 => (if t274 = true then (spec_TableOk.l0 k1 l1 (wrap64 (x5_1 + 1)) a0_0 a0_1) else (some false))) else (none)) else (none)) = some r := by first | (rw [hji10] at H; exact H) | (simp only [hji10] at H ⊢; exact H)
      (try rw [hji10] at A7)
      have hji10w : (IntKind.i64.wrap (x5_1 - 1)) = ji10 := (i64_w _).trans hji10
      by_cases c11 : 0 ≤ (ji10)
      rotate_left
      ·
       rw [if_neg c11] at H
       exact absurd H (by simp)
      rw [if_pos c11] at H
      have c11b0 : decide (0 ≤ (ji10)) = true := decide_eq_true c11; clear c11
      by_cases c12 : (ji10) < (l1.length : Int)
      rotate_left
      ·
       rw [if_neg c12] at H
       exact absurd H (by simp)
      rw [if_pos c12] at H
      have c12b0 : decide ((ji10) < (l1.length : Int)) = true := decide_eq_true c12; clear c12; obtain ⟨t274, A13, H⟩ := oB H; (try dsimp only at H); have H' := Aside0.mk H; clear H
      try go_wp2
      have p270 : 0 ≤ (x5_1 : Int) := of_decide_eq_true y0_16; have q270 : x5_1 < (l1.length : Int) := of_decide_eq_true y0_16; obtain ⟨ad270, A270_2, c270_2, e270, hx270_0, hx270_1, hx270_2, hl270_2, hi270_2⟩ := at_T48 HR1.out x5_1 p270 q270; have hr270_2 := hx270_2; cases e270; have i270_0_ := RdP.mk hx270_0; have i270_1_ := RdP.mk hx270_1; have i270_2_ := RdP.mk hx270_2; have HR270_2 := Aside0.mk hi270_2; have HC270_2 := Aside0.mk hl270_2; clear hi270_2 hl270_2; clear hx270_0 hx270_1 hx270_2; replace p270 := eq_true p270; replace q270 := eq_true q270; have p272 : 0 ≤ ((ji10) : Int) := of_decide_eq_true y0_16; have q272 : (ji10) < (l1.length : Int) := of_decide_eq_true y0_16; obtain ⟨ad272, A272_2, c272_2, e272, hx272_0, hx272_1, hx272_2, hl272_2, hi272_2⟩ := at_T48 HR1.out (ji10) p272 q272; have hr272_2 := hx272_2
      obtain rfl : ad270 = ad272 := (by injection e272)
      have i272_0_ := RdP.mk hx272_0; have i272_1_ := RdP.mk hx272_1; have i272_2_ := RdP.mk hx272_2; have HR272_2 := Aside0.mk hi272_2; have HC272_2 := Aside0.mk hl272_2; clear hi272_2 hl272_2; clear hx272_0 hx272_1 hx272_2; replace p272 := eq_true p272; replace q272 := eq_true q272; have p273 : 0 ≤ (x5_1 : Int) := of_decide_eq_true y0_16; have q273 : x5_1 < (l1.length : Int) := of_decide_eq_true y0_16; obtain ⟨ad273, A273_2, c273_2, e273, hx273_0, hx273_1, hx273_2, hl273_2, hi273_2⟩ := at_T48 HR1.out x5_1 p273 q273
      obtain rfl : ad270 = ad273 := (by injection e273); obtain ⟨rfl, rfl⟩ : A270_2 = A273_2 ∧ c270_2 = c273_2 := (by have h_ := Option.some.inj (hr270_2.symm.trans hx273_2); injection h_ with h1_ _ h3_; exact ⟨h1_, h3_⟩)
      have i273_0_ := RdP.mk hx273_0; have i273_1_ := RdP.mk hx273_1; have i273_2_ := RdP.mk hx273_2; have HR273_2 := Aside0.mk hi273_2; have HC273_2 := Aside0.mk hl273_2; clear hi273_2 hl273_2; clear hx273_0 hx273_1 hx273_2; replace p273 := eq_true p273; replace q273 := eq_true q273
      refine sB [] spec_TableOk.tab4 spec_TableOk.bits4 ?_; intro w14 _ HT_ HW_
      refine tB 0 (some 12) (bz 24 1) HT_ HW_ ?_
      refine pA 1 (some 13) (bz 24 3) HT_ ?_
      refine pA 2 (some 14) (bz 24 7) HT_ ?_
      refine pA 3 (some 15) (bz 24 15) HT_ ?_
      refine tB 4 (some 16) (bz 24 31) HT_ HW_ ?_
      refine o1 5 (some 17) (bz 24 63) HT_ rfl (kC Tryz.func49 (spec_PartOk.calls (hr1_2 := pC HR270_2) (hc1_2 := HC270_2.out) (w := _) (h := A7.out)) ?_); intro w15 _
      refine nA (some 17) ?_
      refine pA 6 (some 18) (bz 24 127) HT_ ?_
      refine pA 7 (some 19) (bz 24 255) HT_ ?_
      refine pA 8 (some 20) (bz 24 511) HT_ ?_
      refine pA 9 (some 21) (bz 24 1023) HT_ ?_
      refine pA 10 (some 22) (bz 24 2047) HT_ ?_
      refine pA 11 (some 23) (bz 24 4095) HT_ ?_
      refine pA 12 (some 24) (bz 24 0x1fff) HT_ ?_
      refine pA 13 (some 25) (bz 24 0x3fff) HT_ ?_
      refine pA 14 (some 26) (bz 24 0x7fff) HT_ ?_
      refine tB 15 (some 27) (bz 24 0xffff) HT_ HW_ ?_
      refine pA 16 (some 28) (bz 24 0x1ffff) HT_ ?_
      refine pA 17 (some 29) (bz 24 0x3ffff) HT_ ?_
      refine pA 18 (some 30) (bz 24 0x7ffff) HT_ ?_
      refine tB 19 (some 31) (bz 24 0xfffff) HT_ HW_ ?_
      refine o1 20 (some 32) (bz 24 0x1fffff) HT_ rfl (kC Tryz.func79 (spec_l10Before.calls (hr0_2 := pC HR272_2) (hc0_2 := HC272_2.out) (hr1_2 := pC HR273_2) (hc1_2 := HC273_2.out) (w := _) (h := A13.out)) ?_); intro w16 _
      refine nA (some 32) ?_
      refine pA 21 (some 33) (bz 24 0x3fffff) HT_ ?_
      refine pA 22 (some 34) (bz 24 0x7fffff) HT_ ?_
      refine pA 23 (some 35) (bz 24 0xffffff) HT_ ?_
      refine done_ (done_of HT_.out (by kernel_rfl)) ?_
      go_upto_if 35 with fail
      have H := H'.out; clear H'
      by_cases c17 : t274 = true
      ·
       subst c17
       rw [if_pos rfl] at H
       have H' := Aside0.mk H; clear H
       go_wp2
       go_roundg k1
       case measure => have := HK1.out; omega
       case rel => exact ⟨(wrap64 (x5_1 + 1)), y0_17, H', ⟨y0_20⟩, ⟨UpW.out⟩⟩
      replace c17 := Bool.eq_false_iff.mpr c17; subst c17
      rw [if_neg Bool.false_ne_true] at H
      obtain rfl := Option.some.inj H
      go_wp2
      go_ret
      exact ⟨by first | rfl | (simp; done) | (simp only [← hji10] <;> (first | rfl | simp)) | (simp [*]; done), UpW.out⟩
     rw [if_neg c9] at H
     have c9b0 : decide (0 < x5_1) = false := decide_eq_false c9; clear c9; have H' := Aside0.mk H; clear H
     try go_wp2
     have p270 : 0 ≤ (x5_1 : Int) := of_decide_eq_true y0_16; have q270 : x5_1 < (l1.length : Int) := of_decide_eq_true y0_16; obtain ⟨ad270, A270_2, c270_2, e270, hx270_0, hx270_1, hx270_2, hl270_2, hi270_2⟩ := at_T48 HR1.out x5_1 p270 q270; have hr270_2 := hx270_2; cases e270; have i270_0_ := RdP.mk hx270_0; have i270_1_ := RdP.mk hx270_1; have i270_2_ := RdP.mk hx270_2; have HR270_2 := Aside0.mk hi270_2; have HC270_2 := Aside0.mk hl270_2; clear hi270_2 hl270_2; clear hx270_0 hx270_1 hx270_2; replace p270 := eq_true p270; replace q270 := eq_true q270
     refine sB [] spec_TableOk.tab4 spec_TableOk.bits4 ?_; intro w18 _ HT_ HW_
     refine tB 0 (some 12) (bz 24 1) HT_ HW_ ?_
     refine pA 1 (some 13) (bz 24 3) HT_ ?_
     refine pA 2 (some 14) (bz 24 7) HT_ ?_
     refine pA 3 (some 15) (bz 24 15) HT_ ?_
     refine tB 4 (some 16) (bz 24 31) HT_ HW_ ?_
     refine o1 5 (some 17) (bz 24 63) HT_ rfl (kC Tryz.func49 (spec_PartOk.calls (hr1_2 := pC HR270_2) (hc1_2 := HC270_2.out) (w := _) (h := A7.out)) ?_); intro w19 _
     refine nA (some 17) ?_
     refine pA 6 (some 18) (bz 24 127) HT_ ?_
     refine pA 7 (some 19) (bz 24 255) HT_ ?_
     refine pA 8 (some 20) (bz 24 511) HT_ ?_
     refine pA 9 (some 21) (bz 24 1023) HT_ ?_
     refine pA 10 (some 22) (bz 24 2047) HT_ ?_
     refine pU 11 (some 23) (bz 24 4095) HT_ ?_
     refine pU 12 (some 24) (bz 24 0x1fff) HT_ ?_
     refine pU 13 (some 25) (bz 24 0x3fff) HT_ ?_
     refine pU 14 (some 26) (bz 24 0x7fff) HT_ ?_
     refine pU 15 (some 27) (bz 24 0xffff) HT_ ?_
     refine pU 16 (some 28) (bz 24 0x1ffff) HT_ ?_
     refine pU 17 (some 29) (bz 24 0x3ffff) HT_ ?_
     refine pU 18 (some 30) (bz 24 0x7ffff) HT_ ?_
     refine pU 19 (some 31) (bz 24 0xfffff) HT_ ?_
     refine pU 20 (some 32) (bz 24 0x1fffff) HT_ ?_
     refine pU 21 (some 33) (bz 24 0x3fffff) HT_ ?_
     refine pA 22 (some 34) (bz 24 0x7fffff) HT_ ?_
     refine pA 23 (some 35) (bz 24 0xffffff) HT_ ?_
     refine done_ (done_of HT_.out (by kernel_rfl)) ?_
     go_upto_if 35 with fail
     have H := H'.out; clear H'; have H' := Aside0.mk H; clear H
     go_wp2
     go_roundg k1
     case measure => have := HK1.out; omega
     case rel => exact ⟨(wrap64 (x5_1 + 1)), y0_17, H', ⟨y0_20⟩, ⟨UpW.out⟩⟩
    replace c8 := Bool.eq_false_iff.mpr c8; subst c8
    rw [if_neg Bool.false_ne_true] at H
    have H' := Aside0.mk H; clear H
    try go_wp2
    have p270 : 0 ≤ (x5_1 : Int) := of_decide_eq_true y0_16; have q270 : x5_1 < (l1.length : Int) := of_decide_eq_true y0_16; obtain ⟨ad270, A270_2, c270_2, e270, hx270_0, hx270_1, hx270_2, hl270_2, hi270_2⟩ := at_T48 HR1.out x5_1 p270 q270; have hr270_2 := hx270_2; cases e270; have i270_0_ := RdP.mk hx270_0; have i270_1_ := RdP.mk hx270_1; have i270_2_ := RdP.mk hx270_2; have HR270_2 := Aside0.mk hi270_2; have HC270_2 := Aside0.mk hl270_2; clear hi270_2 hl270_2; clear hx270_0 hx270_1 hx270_2; replace p270 := eq_true p270; replace q270 := eq_true q270
    refine sB [] spec_TableOk.tab4 spec_TableOk.bits4 ?_; intro w20 _ HT_ HW_
    refine tB 0 (some 12) (bz 24 1) HT_ HW_ ?_
    refine pA 1 (some 13) (bz 24 3) HT_ ?_
    refine pA 2 (some 14) (bz 24 7) HT_ ?_
    refine pA 3 (some 15) (bz 24 15) HT_ ?_
    refine tB 4 (some 16) (bz 24 31) HT_ HW_ ?_
    refine o1 5 (some 17) (bz 24 63) HT_ rfl (kC Tryz.func49 (spec_PartOk.calls (hr1_2 := pC HR270_2) (hc1_2 := HC270_2.out) (w := _) (h := A7.out)) ?_); intro w21 _
    refine nA (some 17) ?_
    refine pA 6 (some 18) (bz 24 127) HT_ ?_
    refine pA 7 (some 19) (bz 24 255) HT_ ?_
    refine pU 8 (some 20) (bz 24 511) HT_ ?_
    refine pU 9 (some 21) (bz 24 1023) HT_ ?_
    refine pU 10 (some 22) (bz 24 2047) HT_ ?_
    refine pU 11 (some 23) (bz 24 4095) HT_ ?_
    refine pU 12 (some 24) (bz 24 0x1fff) HT_ ?_
    refine pU 13 (some 25) (bz 24 0x3fff) HT_ ?_
    refine pU 14 (some 26) (bz 24 0x7fff) HT_ ?_
    refine pU 15 (some 27) (bz 24 0xffff) HT_ ?_
    refine pU 16 (some 28) (bz 24 0x1ffff) HT_ ?_
    refine pU 17 (some 29) (bz 24 0x3ffff) HT_ ?_
    refine pU 18 (some 30) (bz 24 0x7ffff) HT_ ?_
    refine pU 19 (some 31) (bz 24 0xfffff) HT_ ?_
    refine pU 20 (some 32) (bz 24 0x1fffff) HT_ ?_
    refine pU 21 (some 33) (bz 24 0x3fffff) HT_ ?_
    refine pU 22 (some 34) (bz 24 0x7fffff) HT_ ?_
    refine pA 23 (some 35) (bz 24 0xffffff) HT_ ?_
    refine done_ (done_of HT_.out (by kernel_rfl)) ?_
    go_upto_if 35 with fail
    have H := H'.out; clear H'; obtain rfl := Option.some.inj H
    go_wp2
    go_ret
    exact ⟨y0_17, UpW.out⟩
   rw [if_neg c5] at H
   have c5b0 : decide (x5_1 < (l1.length : Int)) = false := decide_eq_false c5; clear c5; obtain rfl := Option.some.inj H
   go_wp2
   go_ret
   exact ⟨y0_17, UpW.out⟩
def spec_l10Copy.f (a0_0 : Int) (a0_1 : ByteArray) (l0_2 : List Int) : Option (Int × ByteArray × List Int) := (some (([] : List Int) : List Int)).bind fun y277 => (if y277.length + l0_2.length < 17592186044416 then (some (a0_0, a0_1, (y277 ++ l0_2))) else (none))
theorem spec_l10Copy.calls (a0_0 : Int) (a0_1 : ByteArray) (A0_2 : Option Addr) (c0_2 : Nat) (l0_2 : List Int) (r1 : Int) (r2 : ByteArray) (r3 : List Int) (w : World) (hr0_2 : Kd.C (Kd.int .i64) w A0_2 l0_2.length l0_2) (hc0_2 : l0_2.length ≤ c0_2) (h : spec_l10Copy.f a0_0 a0_1 l0_2 = some (r1, r2, r3)) :
  Calls Tryz.prog 78 #[.agg #[.int .i64 a0_0, .string a0_1, .slice A0_2 l0_2.length c0_2]] w fun e w' => ∃ v2_ : Value, e = .returned (.agg #[.int .i64 r1, .string r2, v2_]) ∧ Kd.R (Kd.int .i64) 3 w' w.heap.size (fun _ => True) v2_ r3 ∧ Below w.heap.size w w' := by
 have hu48 := Tryz.underlying48; have HR0_2 := Aside0.mk hr0_2; have HC0_2 := Aside0.mk hc0_2; clear hr0_2 hc0_2; have HB := Aside0.mk (Below.refl w.heap.size w)
 have H := h; unfold spec_l10Copy.f at H
 clear h; obtain ⟨y277, hy277⟩ : ∃ y_ : List Int, y_ = (([] : List Int)) := ⟨_, rfl⟩
 replace H : (if y277.length + l0_2.length < 17592186044416 then (some (a0_0, a0_1, (y277 ++ l0_2))) else (none)) = some (r1, r2, r3) := by first | (rw [hy277]; with_reducible exact H) | (rw [hy277]; with_reducible exact (Option.bind_some _ _).symm.trans H) | (rw [hy277]; exact H) | exact H
 have Ny277 := Aside0.mk hy277; clear hy277
 by_cases c2 : y277.length + l0_2.length < 17592186044416
 ·
  rw [if_pos c2] at H
  have LMc2 := Aside0.mk c2; clear c2; obtain ⟨y280, hy280⟩ : ∃ y_ : List Int, y_ = (y277 ++ l0_2) := ⟨_, rfl⟩
  replace H : (some (a0_0, a0_1, y280)) = some (r1, r2, r3) := by first | (rw [hy280]; with_reducible exact H) | (rw [hy280]; with_reducible exact (Option.bind_some _ _).symm.trans H) | (rw [hy280]; exact H) | exact H
  have Ny280 := Aside0.mk hy280; clear hy280
  simp only [Option.some.injEq, Prod.mk.injEq] at H
  obtain ⟨rfl, rfl, rfl⟩ := H
  go_enter Tryz.func78, Tryz.ntmps78
  go_wp2_with (first | ((with_reducible refine gd 1 ?_); refine bL 1 #[.int .i64 a0_0, .string a0_1, .slice A0_2 l0_2.length c0_2] 48 ?_; intro gb275 w3 _ _ _) | ((with_reducible refine gd 2 ?_); refine bL 2 #[.int .i64 0, .string (⟨#[]⟩ : ByteArray), .slice none 0 0] 48 ?_; intro gb276 w4 _ _ _) | ((with_reducible refine gate_dst (N := 3) rfl ?_); refine lL 3 3 (Kd.int .i64) rfl Ny277 ?_; intro Ao278 co278 w5 _ HO279) | ((with_reducible refine gate_builtin (b := .append) (xs := #[.tmp 3, .tmp 5]) rfl ?_); at_builtin; refine gR (Kd.int .i64) (.tmp 3) (.tmp 5) 25 3 (.int .i64 0) 8 w4 Ny280 HO279 (pC HR0_2) (by have := LMc2.out; omega) ?_ (ht := Tryz.underlying25) (hinfo := info3); intro Ao281 co281 w6 _ _ HO282))
  refine bodyPost_ret (results_cell_row rfl _ _ gb276 48 #[.int .i64 a0_0, .string a0_1, .slice Ao281 y280.length co281] (0, 0) _ rfl xB Tryz.underlying48 rfl (by kernel_rfl)) rfl ?_
  exact ⟨_, y0_17, rR HO282, UpW.out⟩
 rw [if_neg c2] at H
 exact absurd H (by simp)
def spec_l10Table.l0 : Nat → List (S48) → List (S48) → Int → Option ((List (S48)))
 | 0, _, _, _ => none
 | k + 1, x0, x3, x4 => if x4 < (x0.length : Int) then (if 0 ≤ x4 then ((spec_l10Copy.f ((rd_T48 x0 x4).f0) ((rd_T48 x0 x4).f1) ((rd_T48 x0 x4).f2)).bind fun bt287 => (if x3.length < 2932031007402 then (spec_l10Table.l0 k x0 (x3 ++ [(⟨bt287.1, bt287.2.1, bt287.2.2⟩ : S48)]) (wrap64 (x4 + 1))) else (none))) else (none)) else (some x3)
def spec_l10Table.f (k : Nat) (l0 : List (S48)) : Option ((List (S48))) := spec_l10Table.l0 k l0 (([] : List (S48))) 0
theorem spec_l10Table.calls (k : Nat) (A0 : Option Addr) (c0 : Nat) (l0 : List (S48)) (r : List (S48)) (w : World) (hr0 : Kd.C k48 w A0 l0.length l0) (hc0 : l0.length ≤ c0) (h : spec_l10Table.f k l0 = some r) :
  Calls Tryz.prog 80 #[.slice A0 l0.length c0] w fun e w' => ∃ v0_ : Value, e = .returned (v0_) ∧ Kd.S k48 48 w' w.heap.size (fun _ => True) v0_ r ∧ Below w.heap.size w w' := by
 have hu48 := Tryz.underlying48; have HR0 := Aside0.mk hr0; have HC0 := Aside0.mk hc0; clear hr0 hc0; have HB := Aside0.mk (Below.refl w.heap.size w); have H := h; unfold spec_l10Table.f at H; clear h; obtain ⟨y283, hy283⟩ : ∃ y_ : List (S48), y_ = (([] : List (S48))) := ⟨_, rfl⟩
 replace H : (spec_l10Table.l0 k l0 y283 0) = some r := by first | (rw [hy283]; with_reducible exact H) | (rw [hy283]; with_reducible exact (Option.bind_some _ _).symm.trans H) | (rw [hy283]; exact H) | exact H
 have Ny283 := Aside0.mk hy283; clear hy283
 go_enter Tryz.func80, Tryz.ntmps80
 have H' := Aside0.mk H; clear H
 go_wp2_with (first | ((with_reducible refine gate_dst (N := 5) rfl ?_); refine lES 5 48 k48 Ny283 ?_; intro Ao284 co284 w2 _ HO285))
 refine wC ?_; intro w3 _
 go_loopg [3, 4] k (fun kq v3 v4 w' => ∃ (x3_1 : List (S48)) (x4_1 : Int) (Ao3_1 : Option Addr) (co3_1 : Nat), v3 = .slice Ao3_1 x3_1.length co3_1 ∧ v4 = .int .i64 x4_1 ∧ Aside0 (spec_l10Table.l0 kq l0 x3_1 x4_1 = some r) ∧ Aside0 (kq ≤ k) ∧ Aside0 (Kd.S k48 48 w' w.heap.size (iv w w') (.slice Ao3_1 x3_1.length co3_1) x3_1) ∧ KT w3 [] w _ k48 48 w' ∧ LB w w')
 case atStart => exact ⟨(y283), (0), (Ao284), (co284), y0_17, y0_17, H', ⟨Nat.le_refl _⟩, ⟨sJ HO285⟩, ⟨UpT.out⟩, ⟨UpW.out⟩⟩
 case round =>
  clear H'; obtain ⟨x3_1, x4_1, Ao3_1, co3_1, rfl, rfl, HA, HK1, HO_3, _, _⟩ := hrel; have HO_5 := HO285; cases gk with
  | zero => exact absurd HA.out (by simp [spec_l10Table.l0])
  | succ k1 =>
   have H := HA.out; clear HA
   simp only [spec_l10Table.l0] at H
   by_cases c4 : x4_1 < (l0.length : Int)
   ·
    rw [if_pos c4] at H
    have c4b0 : decide (x4_1 < (l0.length : Int)) = true := decide_eq_true c4; clear c4
    by_cases c5 : 0 ≤ x4_1
    rotate_left
    ·
     rw [if_neg c5] at H
     exact absurd H (by simp)
    rw [if_pos c5] at H
    have c5b0 : decide (0 ≤ x4_1) = true := decide_eq_true c5; clear c5; obtain ⟨⟨t287, t288, t289⟩, A6, H⟩ := oB H; (try dsimp only at H)
    by_cases c7 : x3_1.length < 2932031007402
    rotate_left
    ·
     rw [if_neg c7] at H
     exact absurd H (by simp)
    rw [if_pos c7] at H
    have LMc7 := Aside0.mk c7; clear c7; obtain ⟨y292, hy292⟩ : ∃ y_ : List (S48), y_ = (x3_1 ++ [(⟨t287, t288, t289⟩ : S48)]) := ⟨_, rfl⟩
    replace H : (spec_l10Table.l0 k1 l0 y292 (wrap64 (x4_1 + 1))) = some r := by first | (rw [hy292]; with_reducible exact H) | (rw [hy292]; with_reducible exact (Option.bind_some _ _).symm.trans H) | (rw [hy292]; exact H) | exact H
    have Ny292 := Aside0.mk hy292; clear hy292; have H' := Aside0.mk H; clear H; have p286 : 0 ≤ (x4_1 : Int) := of_decide_eq_true y0_16; have q286 : x4_1 < (l0.length : Int) := of_decide_eq_true y0_16; obtain ⟨ad286, A286_2, c286_2, e286, hx286_0, hx286_1, hx286_2, hl286_2, hi286_2⟩ := at_T48 HR0.out x4_1 p286 q286; cases e286; have i286_0_ := RdP.mk hx286_0; have i286_1_ := RdP.mk hx286_1; have i286_2_ := RdP.mk hx286_2; have HR286_2 := Aside0.mk hi286_2; have HC286_2 := Aside0.mk hl286_2; clear hi286_2 hl286_2; clear hx286_0 hx286_1 hx286_2; replace p286 := eq_true p286; replace q286 := eq_true q286
    go_wp2_with (first | ((with_reducible refine gate_callee (f := 78) rfl ?_); refine gC1 (some 17) Tryz.func78 (spec_l10Copy.calls (hr0_2 := pC HR286_2) (hc0_2 := HC286_2.out) (w := _) (h := A6.out)) ?_; intro Ao290 co290 w8 _ HO291) | ((with_reducible refine gate_builtin (b := .append) (xs := #[.tmp 12, .tmp 18]) rfl ?_); at_builtin; refine gAS k48 (.tmp 12) (.tmp 18) 44 48 (.agg #[(.int .i64 0), (.string ⟨#[]⟩), (.slice none 0 0)]) 48 (⟨t287, t288, t289⟩ : S48) [.int .i64 t287, .string t288, .slice Ao290 t289.length co290] w Ny292 HO_3 (k48_mkM _ _ _ (⟨t287, t288, t289⟩ : S48) (oR (w := w) HO291)) (by have := LMc7.out; omega) ?_ (ht := Tryz.underlying44) (hinfo := info48); intro Ao293 co293 w9 _ _ _ HO294))
    go_roundg k1
    case measure => have := HK1.out; omega
    case rel => exact ⟨(y292), (wrap64 (x4_1 + 1)), (Ao293), (co293), y0_17, y0_17, H', ⟨y0_20⟩, ⟨sJ HO294⟩, ⟨UpT.out⟩, ⟨UpW.out⟩⟩
   rw [if_neg c4] at H
   have c4b0 : decide (x4_1 < (l0.length : Int)) = false := decide_eq_false c4; clear c4; obtain rfl := Option.some.inj H
   go_wp2
   go_ret
   exact ⟨_, y0_17, rS HO_3, UpW.out⟩
def spec_TableAdd.l0 : Nat → List (S48) → List (S48) → Bool → Int → Int → Int → Int → ByteArray → List Int → Option ((List (S48)) × Bool)
 | 0, _, _, _, _, _, _, _, _, _ => none
 | k + 1, x1, x8, x9, x10, x296000, x296001, x297000, x297001, x297002 => if x10 < (x1.length : Int) then (if 0 ≤ x10 then ((spec_l10Copy.f ((rd_T48 x1 x10).f0) ((rd_T48 x1 x10).f1) ((rd_T48 x1 x10).f2)).bind fun bt301 => (if x9 = true then (if x8.length < 2932031007402 then (spec_TableAdd.l0 k x1 (x8 ++ [(⟨bt301.1, bt301.2.1, bt301.2.2⟩ : S48)]) x9 (wrap64 (x10 + 1)) x296000 x296001 x297000 x297001 x297002) else (none)) else ((spec_l10Before.f bt301.1 bt301.2.1 bt301.2.2 x297000 x297001 x297002).bind fun t310 => (if t310 = true then (if x8.length < 2932031007402 then (spec_TableAdd.l0 k x1 (x8 ++ [(⟨bt301.1, bt301.2.1, bt301.2.2⟩ : S48)]) x9 (wrap64 (x10 + 1)) x296000 x296001 x297000 x297001 x297002) else (none)) else ((spec_PartJoin.f k bt301.1 bt301.2.1 bt301.2.2 x297000 x297001 x297002).bind fun bt314 => (if bt314.2.2.2 = true then (if x8.length < 2932031007402 then (spec_TableAdd.l0 k x1 (x8 ++ [(⟨bt314.1, bt314.2.1, bt314.2.2.1⟩ : S48)]) true (wrap64 (x10 + 1)) x296000 x296001 x297000 x297001 x297002) else (none)) else ((spec_l10Copy.f x297000 x297001 x297002).bind fun bt324 => (if x8.length < 2932031007402 then ((some (x8 ++ [(⟨bt324.1, bt324.2.1, bt324.2.2⟩ : S48)] : List (S48))).bind fun y329 => (if y329.length < 2932031007402 then (spec_TableAdd.l0 k x1 (y329 ++ [(⟨bt301.1, bt301.2.1, bt301.2.2⟩ : S48)]) true (wrap64 (x10 + 1)) x296000 x296001 x297000 x297001 x297002) else (none))) else (none))))))))) else (none)) else (if x9 = true then ((spec_TableOk.f k x296000 x296001 x8).bind fun t335 => (if t335 = true then ((spec_PartOk.f k x296000 x296001 x297000 x297001 x297002).bind fun t336 => (if t336 = true then (some (x8, true)) else ((spec_l10Table.f k x1).bind fun t337 => (some (t337, false))))) else ((spec_l10Table.f k x1).bind fun t340 => (some (t340, false))))) else ((spec_l10Copy.f x297000 x297001 x297002).bind fun bt343 => (if x8.length < 2932031007402 then ((some (x8 ++ [(⟨bt343.1, bt343.2.1, bt343.2.2⟩ : S48)] : List (S48))).bind fun y348 => ((spec_TableOk.f k x296000 x296001 y348).bind fun t351 => (if t351 = true then ((spec_PartOk.f k x296000 x296001 x297000 x297001 x297002).bind fun t352 => (if t352 = true then (some (y348, true)) else ((spec_l10Table.f k x1).bind fun t353 => (some (t353, false))))) else ((spec_l10Table.f k x1).bind fun t356 => (some (t356, false)))))) else (none))))
def spec_TableAdd.f (k : Nat) (a0_0 : Int) (a0_1 : Int) (l1 : List (S48)) (a2_0 : Int) (a2_1 : ByteArray) (l2_2 : List Int) : Option ((List (S48)) × Bool) := spec_TableAdd.l0 k l1 (([] : List (S48))) false 0 a0_0 a0_1 a2_0 a2_1 l2_2
theorem spec_TableAdd.calls (k : Nat) (a0_0 : Int) (a0_1 : Int) (A1 : Option Addr) (c1 : Nat) (l1 : List (S48)) (a2_0 : Int) (a2_1 : ByteArray) (A2_2 : Option Addr) (c2_2 : Nat) (l2_2 : List Int) (r1 : List (S48)) (r2 : Bool) (w : World) (hr1 : Kd.C k48 w A1 l1.length l1) (hc1 : l1.length ≤ c1) (hr2_2 : Kd.C (Kd.int .i64) w A2_2 l2_2.length l2_2) (hc2_2 : l2_2.length ≤ c2_2) (h : spec_TableAdd.f k a0_0 a0_1 l1 a2_0 a2_1 l2_2 = some (r1, r2)) :
  Calls Tryz.prog 18 #[.agg #[.int .i64 a0_0, .int .i64 a0_1], .slice A1 l1.length c1, .agg #[.int .i64 a2_0, .string a2_1, .slice A2_2 l2_2.length c2_2]] w fun e w' => ∃ v0_ : Value, e = .returned (.tuple #[v0_, .bool r2]) ∧ Kd.S k48 48 w' w.heap.size (fun _ => True) v0_ r1 ∧ Below w.heap.size w w' := by
 have hu32 := Tryz.underlying32; have hu48 := Tryz.underlying48; have HR1 := Aside0.mk hr1; have HC1 := Aside0.mk hc1; clear hr1 hc1; have HR2_2 := Aside0.mk hr2_2; have HC2_2 := Aside0.mk hc2_2; clear hr2_2 hc2_2; have HB := Aside0.mk (Below.refl w.heap.size w); have H := h; unfold spec_TableAdd.f at H; clear h; obtain ⟨y297, hy297⟩ : ∃ y_ : List (S48), y_ = (([] : List (S48))) := ⟨_, rfl⟩
 replace H : (spec_TableAdd.l0 k l1 y297 false 0 a0_0 a0_1 a2_0 a2_1 l2_2) = some (r1, r2) := by first | (rw [hy297]; with_reducible exact H) | (rw [hy297]; with_reducible exact (Option.bind_some _ _).symm.trans H) | (rw [hy297]; exact H) | exact H
 have Ny297 := Aside0.mk hy297; clear hy297
 go_enter Tryz.func18, Tryz.ntmps18
 have H' := Aside0.mk H; clear H
 go_wp2_with (first | ((with_reducible refine gd 3 ?_); refine bL 3 #[.int .i64 a0_0, .int .i64 a0_1] 32 ?_; intro gb295 w4 _ _ _) | ((with_reducible refine gd 5 ?_); refine bL 5 #[.int .i64 a2_0, .string a2_1, .slice A2_2 l2_2.length c2_2] 48 ?_; intro gb296 w5 _ _ _) | ((with_reducible refine gate_dst (N := 14) rfl ?_); refine lES 14 48 k48 Ny297 ?_; intro Ao298 co298 w6 _ HO299))
 refine wC ?_; intro w7 _
 go_loopg [8, 9, 10] k (fun kq v8 v9 v10 w' => ∃ (x8_1 : List (S48)) (x9_1 : Bool) (x10_1 : Int) (Ao8_1 : Option Addr) (co8_1 : Nat), v8 = .slice Ao8_1 x8_1.length co8_1 ∧ v9 = .bool x9_1 ∧ v10 = .int .i64 x10_1 ∧ Aside0 (spec_TableAdd.l0 kq l1 x8_1 x9_1 x10_1 a0_0 a0_1 a2_0 a2_1 l2_2 = some (r1, r2)) ∧ Aside0 (kq ≤ k) ∧ Aside0 (Kd.S k48 48 w' w5.heap.size (iv w5 w') (.slice Ao8_1 x8_1.length co8_1) x8_1) ∧ KT w7 [] w5 _ k48 48 w' ∧ LB w w')
 case atStart => exact ⟨(y297), (false), (0), (Ao298), (co298), y0_17, y0_17, y0_17, H', ⟨Nat.le_refl _⟩, ⟨sJ HO299⟩, ⟨UpT.out⟩, ⟨UpW.out⟩⟩
 case round =>
  clear H'; obtain ⟨x8_1, x9_1, x10_1, Ao8_1, co8_1, rfl, rfl, rfl, HA, HK1, HO_8, _, _⟩ := hrel; have HO_14 := HO299; cases gk with
  | zero => exact absurd HA.out (by simp [spec_TableAdd.l0])
  | succ k1 =>
   have H := HA.out; clear HA
   simp only [spec_TableAdd.l0] at H
   by_cases c8 : x10_1 < (l1.length : Int)
   ·
    rw [if_pos c8] at H
    have c8b0 : decide (x10_1 < (l1.length : Int)) = true := decide_eq_true c8; clear c8
    by_cases c9 : 0 ≤ x10_1
    rotate_left
    ·
     rw [if_neg c9] at H
     exact absurd H (by simp)
    rw [if_pos c9] at H
    have c9b0 : decide (0 ≤ x10_1) = true := decide_eq_true c9; clear c9; obtain ⟨⟨t301, t302, t303⟩, A10, H⟩ := oB H; (try dsimp only at H); have H' := Aside0.mk H; clear H; have p300 : 0 ≤ (x10_1 : Int) := of_decide_eq_true y0_16; have q300 : x10_1 < (l1.length : Int) := of_decide_eq_true y0_16; obtain ⟨ad300, A300_2, c300_2, e300, hx300_0, hx300_1, hx300_2, hl300_2, hi300_2⟩ := at_T48 HR1.out x10_1 p300 q300; cases e300; have i300_0_ := RdP.mk hx300_0; have i300_1_ := RdP.mk hx300_1; have i300_2_ := RdP.mk hx300_2; have HR300_2 := Aside0.mk hi300_2; have HC300_2 := Aside0.mk hl300_2; clear hi300_2 hl300_2; clear hx300_0 hx300_1 hx300_2; replace p300 := eq_true p300; replace q300 := eq_true q300
    go_upto_region 7 with (first | ((with_reducible refine gate_callee (f := 78) rfl ?_); refine gC1 (some 25) Tryz.func78 (spec_l10Copy.calls (hr0_2 := pC HR300_2) (hc0_2 := HC300_2.out) (w := _) (h := A10.out)) ?_; intro Ao304 co304 w11 _ HO305) | ((with_reducible refine gd 11 ?_); refine bL 11 #[.int .i64 0, .string (⟨#[]⟩ : ByteArray), .slice none 0 0] 48 ?_; intro gb306 w12 _ _ _))
    have H := H'.out; clear H'
    by_cases c13 : x9_1 = true
    ·
     subst c13
     rw [if_pos rfl] at H
     by_cases c14 : x8_1.length < 2932031007402
     rotate_left
     ·
      rw [if_neg c14] at H
      exact absurd H (by simp)
     rw [if_pos c14] at H
     have LMc14 := Aside0.mk c14; clear c14; obtain ⟨y307, hy307⟩ : ∃ y_ : List (S48), y_ = (x8_1 ++ [(⟨t301, t302, t303⟩ : S48)]) := ⟨_, rfl⟩
     replace H : (spec_TableAdd.l0 k1 l1 y307 true (wrap64 (x10_1 + 1)) a0_0 a0_1 a2_0 a2_1 l2_2) = some (r1, r2) := by first | (rw [hy307]; with_reducible exact H) | (rw [hy307]; with_reducible exact (Option.bind_some _ _).symm.trans H) | (rw [hy307]; exact H) | exact H
     have Ny307 := Aside0.mk hy307; clear hy307; have H' := Aside0.mk H; clear H
     go_wp2_with (first | ((with_reducible refine gate_builtin (b := .append) (xs := #[.tmp 50, .tmp 52]) rfl ?_); at_builtin; refine gAS k48 (.tmp 50) (.tmp 52) 44 48 (.agg #[(.int .i64 0), (.string ⟨#[]⟩), (.slice none 0 0)]) 48 (⟨t301, t302, t303⟩ : S48) [.int .i64 t301, .string t302, .slice Ao304 t303.length co304] w5 Ny307 HO_8 (k48_mkM _ _ _ (⟨t301, t302, t303⟩ : S48) (oR (w := w5) HO305)) (by have := LMc14.out; omega) ?_ (ht := Tryz.underlying44) (hinfo := info48); intro Ao308 co308 w15 _ _ _ HO309))
     go_roundg k1
     case measure => have := HK1.out; omega
     case rel => exact ⟨(y307), (true), (wrap64 (x10_1 + 1)), (Ao308), (co308), y0_17, y0_17, y0_17, H', ⟨y0_20⟩, ⟨sJ HO309⟩, ⟨UpT.out⟩, ⟨UpW.out⟩⟩
    replace c13 := Bool.eq_false_iff.mpr c13; subst c13
    rw [if_neg Bool.false_ne_true] at H
    obtain ⟨t310, A16, H⟩ := oB H; (try dsimp only at H); have H' := Aside0.mk H; clear H
    go_upto_if 33 with (first | (go_at_call 79; refine aC (spec_l10Before.calls (hr0_2 := rC HO305) (hc0_2 := rL HO305) (hr1_2 := pC HR2_2) (hc1_2 := HC2_2.out) (w := _) (h := A16.out)) ?_; intro w17 _))
    have H := H'.out; clear H'
    by_cases c18 : t310 = true
    ·
     subst c18
     rw [if_pos rfl] at H
     by_cases c19 : x8_1.length < 2932031007402
     rotate_left
     ·
      rw [if_neg c19] at H
      exact absurd H (by simp)
     rw [if_pos c19] at H
     have LMc19 := Aside0.mk c19; clear c19; obtain ⟨y311, hy311⟩ : ∃ y_ : List (S48), y_ = (x8_1 ++ [(⟨t301, t302, t303⟩ : S48)]) := ⟨_, rfl⟩
     replace H : (spec_TableAdd.l0 k1 l1 y311 false (wrap64 (x10_1 + 1)) a0_0 a0_1 a2_0 a2_1 l2_2) = some (r1, r2) := by first | (rw [hy311]; with_reducible exact H) | (rw [hy311]; with_reducible exact (Option.bind_some _ _).symm.trans H) | (rw [hy311]; exact H) | exact H
     have Ny311 := Aside0.mk hy311; clear hy311; have H' := Aside0.mk H; clear H
     go_wp2_with (first | ((with_reducible refine gate_builtin (b := .append) (xs := #[.tmp 50, .tmp 52]) rfl ?_); at_builtin; refine gAS k48 (.tmp 50) (.tmp 52) 44 48 (.agg #[(.int .i64 0), (.string ⟨#[]⟩), (.slice none 0 0)]) 48 (⟨t301, t302, t303⟩ : S48) [.int .i64 t301, .string t302, .slice Ao304 t303.length co304] w5 Ny311 HO_8 (k48_mkM _ _ _ (⟨t301, t302, t303⟩ : S48) (oR (w := w5) HO305)) (by have := LMc19.out; omega) ?_ (ht := Tryz.underlying44) (hinfo := info48); intro Ao312 co312 w20 _ _ _ HO313))
     go_roundg k1
     case measure => have := HK1.out; omega
     case rel => exact ⟨(y311), (false), (wrap64 (x10_1 + 1)), (Ao312), (co312), y0_17, y0_17, y0_17, H', ⟨y0_20⟩, ⟨sJ HO313⟩, ⟨UpT.out⟩, ⟨UpW.out⟩⟩
    replace c18 := Bool.eq_false_iff.mpr c18; subst c18
    rw [if_neg Bool.false_ne_true] at H
    obtain ⟨⟨t314, t315, t316, t319⟩, A21, H⟩ := oB H; (try dsimp only at H); have H' := Aside0.mk H; clear H
    go_upto_if 40 with (first | ((with_reducible refine gate_callee (f := 30) rfl ?_); refine gC1 (some 37) Tryz.func30 (spec_PartJoin.calls (hr0_2 := rC HO305) (hc0_2 := rL HO305) (hr1_2 := pC HR2_2) (hc1_2 := HC2_2.out) (w := _) (h := A21.out)) ?_; intro Ao317 co317 w22 _ HO318) | ((with_reducible refine gd 12 ?_); refine bL 12 #[.int .i64 0, .string (⟨#[]⟩ : ByteArray), .slice none 0 0] 48 ?_; intro gb320 w23 _ _ _))
    have H := H'.out; clear H'
    by_cases c24 : t319 = true
    ·
     subst c24
     rw [if_pos rfl] at H
     by_cases c25 : x8_1.length < 2932031007402
     rotate_left
     ·
      rw [if_neg c25] at H
      exact absurd H (by simp)
     rw [if_pos c25] at H
     have LMc25 := Aside0.mk c25; clear c25; obtain ⟨y321, hy321⟩ : ∃ y_ : List (S48), y_ = (x8_1 ++ [(⟨t314, t315, t316⟩ : S48)]) := ⟨_, rfl⟩
     replace H : (spec_TableAdd.l0 k1 l1 y321 true (wrap64 (x10_1 + 1)) a0_0 a0_1 a2_0 a2_1 l2_2) = some (r1, r2) := by first | (rw [hy321]; with_reducible exact H) | (rw [hy321]; with_reducible exact (Option.bind_some _ _).symm.trans H) | (rw [hy321]; exact H) | exact H
     have Ny321 := Aside0.mk hy321; clear hy321; have H' := Aside0.mk H; clear H
     go_wp2_with (first | ((with_reducible refine gate_builtin (b := .append) (xs := #[.tmp 41, .tmp 43]) rfl ?_); at_builtin; refine gAS k48 (.tmp 41) (.tmp 43) 44 48 (.agg #[(.int .i64 0), (.string ⟨#[]⟩), (.slice none 0 0)]) 48 (⟨t314, t315, t316⟩ : S48) [.int .i64 t314, .string t315, .slice Ao317 t316.length co317] w5 Ny321 HO_8 (k48_mkM _ _ _ (⟨t314, t315, t316⟩ : S48) (oR (w := w5) HO318)) (by have := LMc25.out; omega) ?_ (ht := Tryz.underlying44) (hinfo := info48); intro Ao322 co322 w26 _ _ _ HO323))
     go_roundg k1
     case measure => have := HK1.out; omega
     case rel => exact ⟨(y321), (true), (wrap64 (x10_1 + 1)), (Ao322), (co322), y0_17, y0_17, y0_17, H', ⟨y0_20⟩, ⟨sJ HO323⟩, ⟨UpT.out⟩, ⟨UpW.out⟩⟩
    replace c24 := Bool.eq_false_iff.mpr c24; subst c24
    rw [if_neg Bool.false_ne_true] at H
    obtain ⟨⟨t324, t325, t326⟩, A27, H⟩ := oB H; (try dsimp only at H)
    by_cases c28 : x8_1.length < 2932031007402
    rotate_left
    ·
     rw [if_neg c28] at H
     exact absurd H (by simp)
    rw [if_pos c28] at H
    have LMc28 := Aside0.mk c28; clear c28; obtain ⟨y329, hy329⟩ : ∃ y_ : List (S48), y_ = (x8_1 ++ [(⟨t324, t325, t326⟩ : S48)]) := ⟨_, rfl⟩
    replace H : (if y329.length < 2932031007402 then (spec_TableAdd.l0 k1 l1 (y329 ++ [(⟨t301, t302, t303⟩ : S48)]) true (wrap64 (x10_1 + 1)) a0_0 a0_1 a2_0 a2_1 l2_2) else (none)) = some (r1, r2) := by first | (rw [hy329]; with_reducible exact H) | (rw [hy329]; with_reducible exact (Option.bind_some _ _).symm.trans H) | (rw [hy329]; exact H) | exact H
    have Ny329 := Aside0.mk hy329; clear hy329
    by_cases c29 : y329.length < 2932031007402
    rotate_left
    ·
     rw [if_neg c29] at H
     exact absurd H (by simp)
    rw [if_pos c29] at H
    have LMc29 := Aside0.mk c29; clear c29; obtain ⟨y332, hy332⟩ : ∃ y_ : List (S48), y_ = (y329 ++ [(⟨t301, t302, t303⟩ : S48)]) := ⟨_, rfl⟩
    replace H : (spec_TableAdd.l0 k1 l1 y332 true (wrap64 (x10_1 + 1)) a0_0 a0_1 a2_0 a2_1 l2_2) = some (r1, r2) := by first | (rw [hy332]; with_reducible exact H) | (rw [hy332]; with_reducible exact (Option.bind_some _ _).symm.trans H) | (rw [hy332]; exact H) | exact H
    have Ny332 := Aside0.mk hy332; clear hy332; have H' := Aside0.mk H; clear H
    go_wp2_with (first | ((with_reducible refine gate_callee (f := 78) rfl ?_); refine gC1 (some 47) Tryz.func78 (spec_l10Copy.calls (hr0_2 := pC HR2_2) (hc0_2 := HC2_2.out) (w := _) (h := A27.out)) ?_; intro Ao327 co327 w30 _ HO328) | ((with_reducible refine gate_builtin (b := .append) (xs := #[.tmp 45, .tmp 48]) rfl ?_); at_builtin; refine gASx HO305 k48 (.tmp 45) (.tmp 48) 44 48 (.agg #[(.int .i64 0), (.string ⟨#[]⟩), (.slice none 0 0)]) 48 (⟨t324, t325, t326⟩ : S48) [.int .i64 t324, .string t325, .slice Ao327 t326.length co327] w5 Ny329 HO_8 (k48_mkM _ _ _ (⟨t324, t325, t326⟩ : S48) (oR (w := w5) HO328)) (by have := LMc28.out; omega) ?_ (ht := Tryz.underlying44) (hinfo := info48); intro Ao330 co330 w31 _ _ _ HO331) | ((with_reducible refine gate_builtin (b := .append) (xs := #[.tmp 50, .tmp 52]) rfl ?_); at_builtin; refine gASy k48 (.tmp 50) (.tmp 52) 44 48 (.agg #[(.int .i64 0), (.string ⟨#[]⟩), (.slice none 0 0)]) 48 (⟨t301, t302, t303⟩ : S48) [.int .i64 t301, .string t302, .slice Ao304 t303.length co304] w5 Ny332 HO331 (k48_mkM _ _ _ (⟨t301, t302, t303⟩ : S48) (oR (w := w5) HO305)) (by have := LMc29.out; omega) ?_ (ht := Tryz.underlying44) (hinfo := info48); intro Ao333 co333 w32 _ _ _ HO334))
    go_roundg k1
    case measure => have := HK1.out; omega
    case rel => exact ⟨(y332), (true), (wrap64 (x10_1 + 1)), (Ao333), (co333), y0_17, y0_17, y0_17, H', ⟨y0_20⟩, ⟨sJ HO334⟩, ⟨UpT.out⟩, ⟨UpW.out⟩⟩
   rw [if_neg c8] at H
   have c8b0 : decide (x10_1 < (l1.length : Int)) = false := decide_eq_false c8; clear c8
   by_cases c33 : x9_1 = true
   ·
    subst c33
    rw [if_pos rfl] at H
    obtain ⟨t335, A34, H⟩ := oB H; (try dsimp only at H)
    by_cases c35 : t335 = true
    ·
     subst c35
     rw [if_pos rfl] at H
     obtain ⟨t336, A36, H⟩ := oB H; (try dsimp only at H); have H' := Aside0.mk H; clear H
     go_upto_if 70 with (first | ((with_reducible refine gate_callee (f := 47) rfl ?_); refine gC (some 63) Tryz.func47 (spec_TableOk.calls (hr1 := sC HO_8) (hc1 := sL HO_8) (w := _) (h := A34.out)) ?_; intro w37 _) | (go_at_call 49; refine aC (spec_PartOk.calls (hr1_2 := pC HR2_2) (hc1_2 := HC2_2.out) (w := _) (h := A36.out)) ?_; intro w38 _))
     have H := H'.out; clear H'
     by_cases c39 : t336 = true
     ·
      subst c39
      rw [if_pos rfl] at H
      simp only [Option.some.injEq, Prod.mk.injEq] at H
      obtain ⟨rfl, rfl⟩ := H
      go_wp2
      go_ret2
      exact ⟨_, y0_17, rSl [gb295, gb296] HO_8, UpW.out⟩
     replace c39 := Bool.eq_false_iff.mpr c39; subst c39
     rw [if_neg Bool.false_ne_true] at H
     obtain ⟨t337, A40, H⟩ := oB H; (try dsimp only at H)
     simp only [Option.some.injEq, Prod.mk.injEq] at H
     obtain ⟨rfl, rfl⟩ := H
     go_wp2_with (first | ((with_reducible refine gate_callee (f := 80) rfl ?_); refine gS1 (some 72) Tryz.func80 (spec_l10Table.calls (hr0 := pC HR1) (hc0 := HC1.out) (w := _) (h := A40.out)) ?_; intro Ao338 co338 w41 _ HO339))
     go_ret2
     exact ⟨_, y0_17, rSl [gb295, gb296] HO339, UpW.out⟩
    replace c35 := Bool.eq_false_iff.mpr c35; subst c35
    rw [if_neg Bool.false_ne_true] at H
    have H' := Aside0.mk H; clear H
    go_upto_if 70 with (first | ((with_reducible refine gate_callee (f := 47) rfl ?_); refine gC (some 63) Tryz.func47 (spec_TableOk.calls (hr1 := sC HO_8) (hc1 := sL HO_8) (w := _) (h := A34.out)) ?_; intro w42 _))
    have H := H'.out; clear H'; obtain ⟨t340, A43, H⟩ := oB H; (try dsimp only at H)
    simp only [Option.some.injEq, Prod.mk.injEq] at H
    obtain ⟨rfl, rfl⟩ := H
    go_wp2_with (first | ((with_reducible refine gate_callee (f := 80) rfl ?_); refine gS1 (some 72) Tryz.func80 (spec_l10Table.calls (hr0 := pC HR1) (hc0 := HC1.out) (w := _) (h := A43.out)) ?_; intro Ao341 co341 w44 _ HO342))
    go_ret2
    exact ⟨_, y0_17, rSl [gb295, gb296] HO342, UpW.out⟩
   replace c33 := Bool.eq_false_iff.mpr c33; subst c33
   rw [if_neg Bool.false_ne_true] at H
   obtain ⟨⟨t343, t344, t345⟩, A45, H⟩ := oB H; (try dsimp only at H)
   by_cases c46 : x8_1.length < 2932031007402
   ·
    rw [if_pos c46] at H
    have LMc46 := Aside0.mk c46; clear c46; obtain ⟨y348, hy348⟩ : ∃ y_ : List (S48), y_ = (x8_1 ++ [(⟨t343, t344, t345⟩ : S48)]) := ⟨_, rfl⟩
    replace H : ((spec_TableOk.f k1 a0_0 a0_1 y348).bind fun t351 => (if t351 = true then ((spec_PartOk.f k1 a0_0 a0_1 a2_0 a2_1 l2_2).bind fun t352 => (if t352 = true then (some (y348, true)) else ((spec_l10Table.f k1 l1).bind fun t353 => (some (t353, false))))) else ((spec_l10Table.f k1 l1).bind fun t356 => (some (t356, false))))) = some (r1, r2) := by first | (rw [hy348]; with_reducible exact H) | (rw [hy348]; with_reducible exact (Option.bind_some _ _).symm.trans H) | (rw [hy348]; exact H) | exact H
    have Ny348 := Aside0.mk hy348; clear hy348; have H' := Aside0.mk H; clear H
    go_upto_region 16 with (first | ((with_reducible refine gate_callee (f := 78) rfl ?_); refine gC1 (some 58) Tryz.func78 (spec_l10Copy.calls (hr0_2 := pC HR2_2) (hc0_2 := HC2_2.out) (w := _) (h := A45.out)) ?_; intro Ao346 co346 w47 _ HO347) | ((with_reducible refine gate_builtin (b := .append) (xs := #[.tmp 56, .tmp 59]) rfl ?_); at_builtin; refine gAS k48 (.tmp 56) (.tmp 59) 44 48 (.agg #[(.int .i64 0), (.string ⟨#[]⟩), (.slice none 0 0)]) 48 (⟨t343, t344, t345⟩ : S48) [.int .i64 t343, .string t344, .slice Ao346 t345.length co346] w5 Ny348 HO_8 (k48_mkM _ _ _ (⟨t343, t344, t345⟩ : S48) (oR (w := w5) HO347)) (by have := LMc46.out; omega) ?_ (ht := Tryz.underlying44) (hinfo := info48); intro Ao349 co349 w48 _ _ _ HO350))
    have H := H'.out; clear H'; obtain ⟨t351, A49, H⟩ := oB H; (try dsimp only at H)
    by_cases c50 : t351 = true
    ·
     subst c50
     rw [if_pos rfl] at H
     obtain ⟨t352, A51, H⟩ := oB H; (try dsimp only at H); have H' := Aside0.mk H; clear H
     go_upto_if 70 with (first | ((with_reducible refine gate_callee (f := 47) rfl ?_); refine gC (some 63) Tryz.func47 (spec_TableOk.calls (hr1 := sC HO350) (hc1 := sL HO350) (w := _) (h := A49.out)) ?_; intro w52 _) | (go_at_call 49; refine aC (spec_PartOk.calls (hr1_2 := pC HR2_2) (hc1_2 := HC2_2.out) (w := _) (h := A51.out)) ?_; intro w53 _))
     have H := H'.out; clear H'
     by_cases c54 : t352 = true
     ·
      subst c54
      rw [if_pos rfl] at H
      simp only [Option.some.injEq, Prod.mk.injEq] at H
      obtain ⟨rfl, rfl⟩ := H
      go_wp2
      go_ret2
      exact ⟨_, y0_17, rSl [gb295, gb296] HO350, UpW.out⟩
     replace c54 := Bool.eq_false_iff.mpr c54; subst c54
     rw [if_neg Bool.false_ne_true] at H
     obtain ⟨t353, A55, H⟩ := oB H; (try dsimp only at H)
     simp only [Option.some.injEq, Prod.mk.injEq] at H
     obtain ⟨rfl, rfl⟩ := H
     go_wp2_with (first | ((with_reducible refine gate_callee (f := 80) rfl ?_); refine gS1 (some 72) Tryz.func80 (spec_l10Table.calls (hr0 := pC HR1) (hc0 := HC1.out) (w := _) (h := A55.out)) ?_; intro Ao354 co354 w56 _ HO355))
     go_ret2
     exact ⟨_, y0_17, rSl [gb295, gb296] HO355, UpW.out⟩
    replace c50 := Bool.eq_false_iff.mpr c50; subst c50
    rw [if_neg Bool.false_ne_true] at H
    have H' := Aside0.mk H; clear H
    go_upto_if 70 with (first | ((with_reducible refine gate_callee (f := 47) rfl ?_); refine gC (some 63) Tryz.func47 (spec_TableOk.calls (hr1 := sC HO350) (hc1 := sL HO350) (w := _) (h := A49.out)) ?_; intro w57 _))
    have H := H'.out; clear H'; obtain ⟨t356, A58, H⟩ := oB H; (try dsimp only at H)
    simp only [Option.some.injEq, Prod.mk.injEq] at H
    obtain ⟨rfl, rfl⟩ := H
    go_wp2_with (first | ((with_reducible refine gate_callee (f := 80) rfl ?_); refine gS1 (some 72) Tryz.func80 (spec_l10Table.calls (hr0 := pC HR1) (hc0 := HC1.out) (w := _) (h := A58.out)) ?_; intro Ao357 co357 w59 _ HO358))
    go_ret2
    exact ⟨_, y0_17, rSl [gb295, gb296] HO358, UpW.out⟩
   rw [if_neg c46] at H
   exact absurd H (by simp)
end Go.Proofs.YtdmjhgogljhfkaaGreatDoor.PFnParts
