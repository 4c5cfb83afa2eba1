-- By a program of this session, out of the translation (the print of the kit, with turns of its own). Lean checks it.
import Derived.Test.YtnpbopadajbopaaGreatDoorPFnSafex0
import Derived.Test.YtnpbopadajbopaaGreatDoorPFnSafex1
import Derived.Test.YtnpbopadajbopaaGreatDoorPFnSafex2
namespace Go.Proofs.YtnpbopadajbopaaGreatDoor.PFnSafe
open Go.RowKit Go.Proofs.YtnpbopadajbopaaGreatDoorW.PrintWords Go.Proofs.YtnpbopadajbopaaGreatDoorW.PrintLast Go.Proofs.YtnpbopadajbopaaGreatDoorW.PrintMore
attribute [local go_sem] max2_int min2_int max_two min_two max_three min_three max_four min_four   -- for this text's walks alone
attribute [local go_sem] cell_in frozen_in
set_option synthInstance.maxSize 1000000
set_option synthInstance.maxHeartbeats 2000000
set_option linter.unusedVariables false
set_option linter.unusedSimpArgs false

/-! ### spec_Steps: function 131 -/
mutual
def spec_Steps.j0 : Nat → List (S150) → List (S150) → List ByteArray → Bool → Option ((List (S150)) × Bool)
 | 0, _, _, _, _ => none
 | k + 1, x4, x5, x6, x31 => if x31 = true then (some (x4, false)) else (spec_Steps.l0 k x4 x5 x6 0 1)
def spec_Steps.l0 : Nat → List (S150) → List (S150) → List ByteArray → Int → Int → Option ((List (S150)) × Bool)
 | 0, _, _, _, _, _ => none
 | k + 1, x4, x5, x6, x7, x8 => if x8 < (x6.length : Int) then (if 0 ≤ x8 then ((spec_l2Cut.f k (rdOf ByteArray.empty x6 x8) 124).bind fun bt207 => ((spec_Number.f k bt207.1).bind fun bt210 => ((spec_TxsOf.f k bt207.2.1).bind fun bt212 => (if bt207.2.2 = true then (if bt210.2 = true then (if bt212.2 = true then (if bt210.1 ≤ x7 then (some (x4, false)) else (if bt210.1 > 60 then (some (x4, false)) else (if (bt212.1.length : Int) > 2 then (some (x4, false)) else (if x5.length < 4398046511104 then (spec_Steps.l0 k x4 (x5 ++ [(⟨bt210.1, bt212.1⟩ : S150)]) x6 bt210.1 (wrap64 (x8 + 1))) else (none))))) else (some (x4, false))) else (some (x4, false))) else (some (x4, false)))))) else (none)) else (some (x5, true))
end
def spec_Steps.f (k : Nat) (a0 : ByteArray) : Option ((List (S150)) × Bool) := (some (([] : List (S150)) : List (S150))).bind fun y196 => ((some (([] : List (S150)) : List (S150))).bind fun y199 => (if a0.toList = ([] : List UInt8) then (some (y199, true)) else ((spec_Split.f k a0 47).bind fun t202 => (if 0 < (t202.length : Int) then (if (rdOf ByteArray.empty t202 0).toList = ([] : List UInt8) then (spec_Steps.j0 k y196 y199 t202 (decide ((t202.length : Int) > 31))) else (spec_Steps.j0 k y196 y199 t202 true)) else (none)))))
theorem spec_Steps.mono_l : ∀ k, (∀ y0 y1 y2 y3, LeO (spec_Steps.j0 k y0 y1 y2 y3) (spec_Steps.j0 (k + 1) y0 y1 y2 y3)) ∧ (∀ y0 y1 y2 y3 y4, LeO (spec_Steps.l0 k y0 y1 y2 y3 y4) (spec_Steps.l0 (k + 1) y0 y1 y2 y3 y4))
 | 0 => ⟨fun _ _ _ _ r h => by simp [spec_Steps.j0] at h, fun _ _ _ _ _ r h => by simp [spec_Steps.l0] at h⟩
 | k + 1 => by
  obtain ⟨ih0, ih1⟩ := spec_Steps.mono_l k
  refine ⟨?_, ?_⟩
  ·
   intro y0 y1 y2 y3
   unfold spec_Steps.j0
   repeat' first | (with_reducible exact ih0 _ _ _ _) | (with_reducible exact ih1 _ _ _ _ _) | (with_reducible exact spec_Number.mono _ _) | (with_reducible exact spec_Split.mono _ _ _) | (with_reducible exact spec_TxsOf.mono _ _) | (with_reducible exact spec_l2Cut.mono _ _ _) | (with_reducible exact LeO.refl _) | (with_reducible exact LeO.none _) | (with_reducible refine LeO.ite ?_ ?_) | (with_reducible refine LeO.bind ?_ (fun _ => ?_))
  intro y0 y1 y2 y3 y4
  unfold spec_Steps.l0
  repeat' first | (with_reducible exact ih0 _ _ _ _) | (with_reducible exact ih1 _ _ _ _ _) | (with_reducible exact spec_Number.mono _ _) | (with_reducible exact spec_Split.mono _ _ _) | (with_reducible exact spec_TxsOf.mono _ _) | (with_reducible exact spec_l2Cut.mono _ _ _) | (with_reducible exact LeO.refl _) | (with_reducible exact LeO.none _) | (with_reducible refine LeO.ite ?_ ?_) | (with_reducible refine LeO.bind ?_ (fun _ => ?_))
theorem spec_Steps.mono : ∀ a0 k, LeO (spec_Steps.f k a0) (spec_Steps.f (k + 1) a0) := by
 intro a0 k
 obtain ⟨ih0, ih1⟩ := spec_Steps.mono_l k
 unfold spec_Steps.f
 repeat' first | (with_reducible exact ih0 _ _ _ _) | (with_reducible exact ih1 _ _ _ _ _) | (with_reducible exact spec_Number.mono _ _) | (with_reducible exact spec_Split.mono _ _ _) | (with_reducible exact spec_TxsOf.mono _ _) | (with_reducible exact spec_l2Cut.mono _ _ _) | (with_reducible exact LeO.refl _) | (with_reducible exact LeO.none _) | (with_reducible refine LeO.ite ?_ ?_) | (with_reducible refine LeO.bind ?_ (fun _ => ?_))
set_option maxHeartbeats 8000000 in
set_option maxRecDepth 100000 in
theorem spec_Steps.calls (k : Nat) (a0 : ByteArray) (r1 : List (S150)) (r2 : Bool) (w : World) (h : spec_Steps.f k a0 = some (r1, r2)) :
  Calls Tryz.prog 131 #[.string a0] w fun e w' => ∃ v0_ : Value, e = .returned (.tuple #[v0_, .bool r2]) ∧ Kd.S k150 150 w' w.heap.size (fun _ => True) v0_ r1 ∧ Below w.heap.size w w' := by
 have hu150 := Tryz.underlying150; have HB := Aside0.mk (Below.refl w.heap.size w)
 have H := h; unfold spec_Steps.f at H
 clear h; obtain ⟨y196, hy196⟩ : ∃ y_ : List (S150), y_ = (([] : List (S150))) := ⟨_, rfl⟩
 replace H : ((some (([] : List (S150)) : List (S150))).bind fun y199 => (if a0.toList = ([] : List UInt8) then (some (y199, true)) else ((spec_Split.f k a0 47).bind fun t202 => (if 0 < (t202.length : Int) then (if (rdOf ByteArray.empty t202 0).toList = ([] : List UInt8) then (spec_Steps.j0 k y196 y199 t202 (decide ((t202.length : Int) > 31))) else (spec_Steps.j0 k y196 y199 t202 true)) else (none))))) = some (r1, r2) := by first | (rw [hy196]; with_reducible exact H) | (have H2_ := (Option.bind_some _ _).symm.trans H; rw [hy196]; with_reducible exact H2_) | (have H2_ := (Option.bind_some _ _).symm.trans H; with_reducible exact H2_) | with_reducible exact H | (rw [hy196]; exact H) | exact H
 have Ny196 := Aside0.mk hy196; clear hy196; obtain ⟨y199, hy199⟩ : ∃ y_ : List (S150), y_ = (([] : List (S150))) := ⟨_, rfl⟩
 replace H : (if a0.toList = ([] : List UInt8) then (some (y199, true)) else ((spec_Split.f k a0 47).bind fun t202 => (if 0 < (t202.length : Int) then (if (rdOf ByteArray.empty t202 0).toList = ([] : List UInt8) then (spec_Steps.j0 k y196 y199 t202 (decide ((t202.length : Int) > 31))) else (spec_Steps.j0 k y196 y199 t202 true)) else (none)))) = some (r1, r2) := by first | (rw [hy199]; with_reducible exact H) | (have H2_ := (Option.bind_some _ _).symm.trans H; rw [hy199]; with_reducible exact H2_) | (have H2_ := (Option.bind_some _ _).symm.trans H; with_reducible exact H2_) | with_reducible exact H | (rw [hy199]; exact H) | exact H
 have Ny199 := Aside0.mk hy199; clear hy199
 by_cases c2 : a0.toList = ([] : List UInt8)
 ·
  rw [if_pos c2] at H
  have c2b0 : (a0.toList == ([] : List UInt8)) = true := beq_iff_eq.mpr c2; have c2b1 : (a0.toList != ([] : List UInt8)) = false := bne_eq_false_iff_eq.mpr c2; clear c2
  simp only [Option.some.injEq, Prod.mk.injEq] at H
  obtain ⟨rfl, rfl⟩ := H
  go_enter Tryz.func131, Tryz.ntmps131
  go_wp2_with (first | ((with_reducible refine gate_dst (N := 16) rfl ?_); (try (refine gate_guard (by rfl) ?_; dsimp only)); refine Kd.S_lit k150 _ 150 ?hg (N := 16) ?hd (xs := ([] : List (S150))) (inner := []) (ok := fun _ => True) (okp := fun _ => True) ?hr ?hp (fun _ hk => hk) trivial (Below.refl _ _) (Nat.le_refl _) (by simp) ?_; (case hd => rfl); (case hg => rfl); (case hr => first | (go_simp; done) | (go_simp; rfl)); (case hp => exact (Reps.none _ _)); intro v197 w3 ho4 hb hg_ hnew_; clear hg_ hnew_; (first | rw [← Ny196.out] at ho4 | (simp only [Int.reduceToNat] at ho4; rw [← Ny196.out] at ho4)); have HO198 := Aside0.mk (Kd.S_lower ho4 (below_size (bI HB.out))); replace HB := bs HB hb; clear hb ho4) | ((with_reducible refine gate_dst (N := 17) rfl ?_); (try (refine gate_guard (by rfl) ?_; dsimp only)); refine Kd.S_lit k150 _ 150 ?hg (N := 17) ?hd (xs := ([] : List (S150))) (inner := []) (ok := fun _ => True) (okp := fun _ => True) ?hr ?hp (fun _ hk => hk) trivial (Below.refl _ _) (Nat.le_refl _) (by simp) ?_; (case hd => rfl); (case hg => rfl); (case hr => first | (go_simp; done) | (go_simp; rfl)); (case hp => exact (Reps.none _ _)); intro v200 w5 ho6 hb hg_ hnew_; clear hg_ hnew_; (first | rw [← Ny199.out] at ho6 | (simp only [Int.reduceToNat] at ho6; rw [← Ny199.out] at ho6)); have HO201 := Aside0.mk (Kd.S_lower (Kd.S_new' ho6 (Kd.S_lt (sI HO198.out))) (below_size (bI HB.out))); replace HO198 := Aside0.mk (Kd.S_elder' (sI HO198.out) (Kd.S_base ho6) hb); replace HB := bs HB hb; clear hb ho6))
  go_ret2
  exact ⟨_, y0_11, by (with_reducible repeat (first | apply Kd.S_alloc | apply Kd.S_drewN | apply Kd.S_drew)); exact Kd.S_mono HO201.out (fun _ hk => trivial), bI HB.out⟩
 rw [if_neg c2] at H
 have c2b0 : (a0.toList == ([] : List UInt8)) = false := beq_eq_false_iff_ne.mpr c2; have c2b1 : (a0.toList != ([] : List UInt8)) = true := bne_iff_ne.mpr c2; obtain ⟨t202, A7, H⟩ := oB H; (try dsimp only at H); have HC8 := Aside0.mk H; clear H
 go_enter Tryz.func131, Tryz.ntmps131
 go_upto_region 6 with (first | ((with_reducible refine gate_dst (N := 16) rfl ?_); (try (refine gate_guard (by rfl) ?_; dsimp only)); refine Kd.S_lit k150 _ 150 ?hg (N := 16) ?hd (xs := ([] : List (S150))) (inner := []) (ok := fun _ => True) (okp := fun _ => True) ?hr ?hp (fun _ hk => hk) trivial (Below.refl _ _) (Nat.le_refl _) (by simp) ?_; (case hd => rfl); (case hg => rfl); (case hr => first | (go_simp; done) | (go_simp; rfl)); (case hp => exact (Reps.none _ _)); intro v197 w9 ho10 hb hg_ hnew_; clear hg_ hnew_; (first | rw [← Ny196.out] at ho10 | (simp only [Int.reduceToNat] at ho10; rw [← Ny196.out] at ho10)); have HO198 := Aside0.mk (Kd.S_lower ho10 (below_size (bI HB.out))); replace HB := bs HB hb; clear hb ho10) | ((with_reducible refine gate_dst (N := 17) rfl ?_); (try (refine gate_guard (by rfl) ?_; dsimp only)); refine Kd.S_lit k150 _ 150 ?hg (N := 17) ?hd (xs := ([] : List (S150))) (inner := []) (ok := fun _ => True) (okp := fun _ => True) ?hr ?hp (fun _ hk => hk) trivial (Below.refl _ _) (Nat.le_refl _) (by simp) ?_; (case hd => rfl); (case hg => rfl); (case hr => first | (go_simp; done) | (go_simp; rfl)); (case hp => exact (Reps.none _ _)); intro v200 w11 ho12 hb hg_ hnew_; clear hg_ hnew_; (first | rw [← Ny199.out] at ho12 | (simp only [Int.reduceToNat] at ho12; rw [← Ny199.out] at ho12)); have HO201 := Aside0.mk (Kd.S_lower (Kd.S_new' ho12 (Kd.S_lt (sI HO198.out))) (below_size (bI HB.out))); replace HO198 := Aside0.mk (Kd.S_elder' (sI HO198.out) (Kd.S_base ho12) hb); replace HB := bs HB hb; clear hb ho12) | ((with_reducible refine gate_callee (f := 197) rfl ?_); refine gB (some 22) Tryz.func197 #[.string a0, .int .u8 47] ?_; (with_reducible refine (spec_Split.calls k a0 47 t202 _ A7.out).mono ?_); rintro e w13 ⟨v203, rfl, ho0, hb⟩; refine ⟨_, rfl, ?_⟩; replace HO198 := sb HO198 hb; replace HO201 := sb HO201 hb; have HO204 := Aside0.mk (Kd.R_lower ho0 (below_size (bI HB.out))); replace HB := bs HB hb; (try clear hb); (try clear ho0)))
 (try simp only [Act.put, List.setIfInBounds_toArray, List.set_cons_zero, List.set_cons_succ])
 go_cut [31] (fun v31 wc => ∃ (kq : Nat) (x31_7 : Bool), v31 = .bool x31_7 ∧ Aside0 (spec_Steps.j0 kq y196 y199 t202 x31_7 = some (r1, r2)) ∧ Aside0 (kq ≤ k) ∧ Aside0 (Kd.S k150 150 wc w.heap.size (fun k_ => some k_ ≠ (v200 : Value).ownBlock) v197 y196) ∧ Aside0 (Kd.S k150 150 wc w.heap.size (fun k_ => some k_ ≠ (v197 : Value).ownBlock) v200 y199) ∧ Aside0 (Kd.R Kd.string 9 wc w.heap.size (fun _ => True) v203 t202) ∧ Aside0 (Below w.heap.size w wc))
 case first =>
  have H := HC8.out; clear HC8
  by_cases c14 : 0 < (t202.length : Int)
  rotate_left
  ·
   rw [if_neg c14] at H
   exact absurd H (by simp)
  rw [if_pos c14] at H
  have c14b0 : decide (0 < (t202.length : Int)) = true := decide_eq_true c14
  have c14b1 : decide (0 < t202.length) = true := decide_eq_true (by omega)
  clear c14
  (first | rw [c14b0] | (simp only [i64_w, i32_w]; rw [c14b0]) | skip)
  by_cases c15 : (rdOf ByteArray.empty t202 0).toList = ([] : List UInt8)
  ·
   rw [if_pos c15] at H
   have c15b0 : ((rdOf ByteArray.empty t202 0).toList == ([] : List UInt8)) = true := beq_iff_eq.mpr c15; have c15b1 : ((rdOf ByteArray.empty t202 0).toList != ([] : List UInt8)) = false := bne_eq_false_iff_eq.mpr c15; clear c15; have H' := Aside0.mk H; clear H; obtain ⟨Ao16, co16, eo16⟩ := Kd.R_slice HO204.out; subst eo16
   have p205 : 0 ≤ (0 : Int) := (by omega)
   have q205 : 0 < (t202.length : Int) := of_decide_eq_true y0_15; obtain ⟨ad205, e205, hx205_0⟩ := Kd.at_string (Kd.R_reads' HO204.out).2.2 0 p205 q205; cases e205
   have qi205 : (0 < t202.length) = True := eq_true (by omega)
   (try rw [show ((0 : Int)).toNat = 0 from rfl] at hx205_0)
   (try rw [Addr.add_zero'] at hx205_0)
   replace p205 := eq_true p205; replace q205 := eq_true q205
   go_wp2
   go_meet
   case rel => exact ⟨_, (decide ((t202.length : Int) > 31)), y0_16, H', ⟨y0_17⟩, ⟨by (with_reducible repeat (first | apply Kd.S_alloc | apply Kd.S_drewN | apply Kd.S_drew)); exact Kd.S_mono HO198.out (fun _ hk => hk.2)⟩, ⟨by (with_reducible repeat (first | apply Kd.S_alloc | apply Kd.S_drewN | apply Kd.S_drew)); exact Kd.S_mono HO201.out (fun _ hk => hk.2)⟩, ⟨by (with_reducible repeat (first | apply Kd.R_alloc | apply Kd.R_drewN | apply Kd.R_drew)); exact HO204.out⟩, ⟨bI HB.out⟩⟩
  rw [if_neg c15] at H
  have c15b0 : ((rdOf ByteArray.empty t202 0).toList == ([] : List UInt8)) = false := beq_eq_false_iff_ne.mpr c15; have c15b1 : ((rdOf ByteArray.empty t202 0).toList != ([] : List UInt8)) = true := bne_iff_ne.mpr c15; have H' := Aside0.mk H; clear H; obtain ⟨Ao17, co17, eo17⟩ := Kd.R_slice HO204.out; subst eo17
  have p205 : 0 ≤ (0 : Int) := (by omega)
  have q205 : 0 < (t202.length : Int) := of_decide_eq_true y0_15; obtain ⟨ad205, e205, hx205_0⟩ := Kd.at_string (Kd.R_reads' HO204.out).2.2 0 p205 q205; cases e205
  have qi205 : (0 < t202.length) = True := eq_true (by omega)
  (try rw [show ((0 : Int)).toNat = 0 from rfl] at hx205_0)
  (try rw [Addr.add_zero'] at hx205_0)
  replace p205 := eq_true p205; replace q205 := eq_true q205
  go_wp2
  go_meet
  case rel => exact ⟨_, (true), y0_16, H', ⟨y0_17⟩, ⟨by (with_reducible repeat (first | apply Kd.S_alloc | apply Kd.S_drewN | apply Kd.S_drew)); exact Kd.S_mono HO198.out (fun _ hk => hk.2)⟩, ⟨by (with_reducible repeat (first | apply Kd.S_alloc | apply Kd.S_drewN | apply Kd.S_drew)); exact Kd.S_mono HO201.out (fun _ hk => hk.2)⟩, ⟨by (with_reducible repeat (first | apply Kd.R_alloc | apply Kd.R_drewN | apply Kd.R_drew)); exact HO204.out⟩, ⟨bI HB.out⟩⟩
 case rest =>
  clear HC8
  try clear c1
  try clear c2
  try clear c2b0
  try clear c2b1
  try clear p2
  try clear q2
  try clear hx2
  try clear qi2
  try clear c13
  try clear c14
  try clear c14b0
  try clear c14b1
  try clear c15
  try clear c15b0
  try clear c15b1
  try clear hx205_0
  try clear p205
  try clear q205
  obtain ⟨kq, x31_7, rfl, HA, HJ7, HO_4, HO_5, HO_6, HB⟩ := hcut; cases kq with
  | zero => exact absurd HA.out (by simp [spec_Steps.j0])
  | succ kj7 =>
   have H := HA.out; clear HA
   simp only [spec_Steps.j0] at H
   by_cases c18 : x31_7 = true
   ·
    subst c18
    rw [if_pos rfl] at H
    simp only [Option.some.injEq, Prod.mk.injEq] at H
    obtain ⟨rfl, rfl⟩ := H
    go_wp2
    go_ret2
    exact ⟨_, y0_11, y0_9, bI HB.out⟩
   replace c18 := Bool.eq_false_iff.mpr c18; subst c18
   rw [if_neg (show ¬ (false = true) by decide)] at H
   have H' := Aside0.mk H; clear H
   go_wp2
   go_loopg [5, 7, 8] kj7 (fun kq v5 v7 v8 w' => ∃ (x5_2 : List (S150)) (x7_2 : Int) (x8_2 : Int), v7 = .int .i64 x7_2 ∧ v8 = .int .i64 x8_2 ∧ Aside0 (spec_Steps.l0 kq y196 x5_2 t202 x7_2 x8_2 = some (r1, r2)) ∧ Aside0 (kq ≤ kj7) ∧ Aside0 (Kd.S k150 150 w' w.heap.size (fun k_ => some k_ ≠ (v5 : Value).ownBlock) v197 y196) ∧ Aside0 (Kd.S k150 150 w' w.heap.size (fun k_ => some k_ ≠ (v197 : Value).ownBlock) v5 x5_2) ∧ Aside0 (Kd.R Kd.string 9 w' w.heap.size (fun _ => True) v203 t202) ∧ Aside0 (Below w.heap.size w w'))
   case atStart => exact ⟨(y199), (0), (1), y0_16, y0_16, H', ⟨Nat.le_refl _⟩, ⟨by (with_reducible repeat (first | apply Kd.S_alloc | apply Kd.S_drewN | apply Kd.S_drew)); exact HO_4.out⟩, ⟨by (with_reducible repeat (first | apply Kd.S_alloc | apply Kd.S_drewN | apply Kd.S_drew)); exact HO_5.out⟩, ⟨by (with_reducible repeat (first | apply Kd.R_alloc | apply Kd.R_drewN | apply Kd.R_drew)); exact HO_6.out⟩, ⟨bI HB.out⟩⟩
   case round =>
    clear H'
    try clear c1
    try clear c2
    try clear c2b0
    try clear c2b1
    try clear p2
    try clear q2
    try clear hx2
    try clear qi2
    try clear c13
    try clear c14
    try clear c14b0
    try clear c14b1
    try clear c15
    try clear c15b0
    try clear c15b1
    try clear c18
    try clear hx205_0
    try clear p2
    try clear p205
    try clear q2
    try clear q205
    obtain ⟨x5_2, x7_2, x8_2, rfl, rfl, HA, HK2, HO_4, HO_5, HO_6, HB⟩ := hrel; cases gk with
    | zero => exact absurd HA.out (by simp [spec_Steps.l0])
    | succ k2 =>
     have H := HA.out; clear HA
     simp only [spec_Steps.l0] at H
     by_cases c19 : x8_2 < (t202.length : Int)
     ·
      rw [if_pos c19] at H
      have c19b0 : decide (x8_2 < (t202.length : Int)) = true := decide_eq_true c19; clear c19
      by_cases c20 : 0 ≤ x8_2
      rotate_left
      ·
       rw [if_neg c20] at H
       exact absurd H (by simp)
      rw [if_pos c20] at H
      have c20b0 : decide (0 ≤ x8_2) = true := decide_eq_true c20; clear c20; obtain ⟨⟨t207, t208, t209⟩, A21, H⟩ := oB H; (try dsimp only at H); obtain ⟨⟨t210, t211⟩, A22, H⟩ := oB H; (try dsimp only at H); obtain ⟨⟨t212, t213⟩, A23, H⟩ := oB H; (try dsimp only at H)
      by_cases c24 : t209 = true
      ·
       subst c24
       rw [if_pos rfl] at H
       by_cases c25 : t211 = true
       ·
        subst c25
        rw [if_pos rfl] at H
        by_cases c26 : t213 = true
        ·
         subst c26
         rw [if_pos rfl] at H
         by_cases c27 : t210 ≤ x7_2
         ·
          rw [if_pos c27] at H
          have c27b0 : decide (t210 ≤ x7_2) = true := decide_eq_true c27; clear c27
          simp only [Option.some.injEq, Prod.mk.injEq] at H
          obtain ⟨rfl, rfl⟩ := H; obtain ⟨Ao28, co28, eo28⟩ := Kd.R_slice HO_6.out; subst eo28; have p206 : 0 ≤ (x8_2 : Int) := of_decide_eq_true y0_15; have q206 : x8_2 < (t202.length : Int) := of_decide_eq_true y0_15; obtain ⟨ad206, e206, hx206_0⟩ := Kd.at_string (Kd.R_reads' HO_6.out).2.2 x8_2 p206 q206; cases e206; replace p206 := eq_true p206; replace q206 := eq_true q206
          go_wp2_with (first | ((with_reducible refine gate_callee (f := 198) rfl ?_); refine gB (some 44) Tryz.func198 #[.string (rdOf ByteArray.empty t202 x8_2), .int .u8 124] ?_; (with_reducible refine (spec_l2Cut.calls k2 (rdOf ByteArray.empty t202 x8_2) 124 t207 t208 true _ A21.out).mono ?_); rintro e w' ⟨rfl, ⟨nd, rfl⟩⟩; refine ⟨_, rfl, ?_⟩) | ((with_reducible refine gate_callee (f := 199) rfl ?_); refine gB (some 50) Tryz.func199 #[.string t207] ?_; (with_reducible refine (spec_Number.calls k2 t207 t210 true _ A22.out).mono ?_); rintro e w29 ⟨rfl, hb⟩; refine ⟨_, rfl, ?_⟩; replace HO_4 := sb HO_4 hb; replace HO_5 := sb HO_5 hb; replace HO_6 := rb HO_6 hb; replace HB := bs HB hb; (try clear hb); (try clear hb2); (try clear hk); (try clear hi)) | ((with_reducible refine gate_callee (f := 200) rfl ?_); refine gB (some 55) Tryz.func200 #[.string t208] ?_; (with_reducible refine (spec_TxsOf.calls k2 t208 t212 true _ A23.out).mono ?_); rintro e w30 ⟨v214, rfl, ho0, hb⟩; refine ⟨_, rfl, ?_⟩; replace HO_4 := Aside0.mk (Kd.S_elder' (sI HO_4.out) (Kd.R_base ho0) hb); replace HO_5 := Aside0.mk (Kd.S_elder' (sI HO_5.out) (Kd.R_base ho0) hb); replace HO_6 := rb HO_6 hb; have HO215 := Aside0.mk (Kd.R_lower ho0 (below_size (bI HB.out))); replace HB := bs HB hb; (try clear hb)))
          go_ret2
          exact ⟨_, y0_11, y0_9, bI HB.out⟩
         rw [if_neg c27] at H
         have c27b0 : decide (t210 ≤ x7_2) = false := decide_eq_false c27; clear c27
         by_cases c31 : t210 > 60
         ·
          rw [if_pos c31] at H
          have c31b0 : decide (60 < t210) = true := decide_eq_true c31; clear c31
          simp only [Option.some.injEq, Prod.mk.injEq] at H
          obtain ⟨rfl, rfl⟩ := H; obtain ⟨Ao32, co32, eo32⟩ := Kd.R_slice HO_6.out; subst eo32; have p206 : 0 ≤ (x8_2 : Int) := of_decide_eq_true y0_15; have q206 : x8_2 < (t202.length : Int) := of_decide_eq_true y0_15; obtain ⟨ad206, e206, hx206_0⟩ := Kd.at_string (Kd.R_reads' HO_6.out).2.2 x8_2 p206 q206; cases e206; replace p206 := eq_true p206; replace q206 := eq_true q206
          go_wp2_with (first | ((with_reducible refine gate_callee (f := 198) rfl ?_); refine gB (some 44) Tryz.func198 #[.string (rdOf ByteArray.empty t202 x8_2), .int .u8 124] ?_; (with_reducible refine (spec_l2Cut.calls k2 (rdOf ByteArray.empty t202 x8_2) 124 t207 t208 true _ A21.out).mono ?_); rintro e w' ⟨rfl, ⟨nd, rfl⟩⟩; refine ⟨_, rfl, ?_⟩) | ((with_reducible refine gate_callee (f := 199) rfl ?_); refine gB (some 50) Tryz.func199 #[.string t207] ?_; (with_reducible refine (spec_Number.calls k2 t207 t210 true _ A22.out).mono ?_); rintro e w33 ⟨rfl, hb⟩; refine ⟨_, rfl, ?_⟩; replace HO_4 := sb HO_4 hb; replace HO_5 := sb HO_5 hb; replace HO_6 := rb HO_6 hb; replace HB := bs HB hb; (try clear hb); (try clear hb2); (try clear hk); (try clear hi)) | ((with_reducible refine gate_callee (f := 200) rfl ?_); refine gB (some 55) Tryz.func200 #[.string t208] ?_; (with_reducible refine (spec_TxsOf.calls k2 t208 t212 true _ A23.out).mono ?_); rintro e w34 ⟨v214, rfl, ho0, hb⟩; refine ⟨_, rfl, ?_⟩; replace HO_4 := Aside0.mk (Kd.S_elder' (sI HO_4.out) (Kd.R_base ho0) hb); replace HO_5 := Aside0.mk (Kd.S_elder' (sI HO_5.out) (Kd.R_base ho0) hb); replace HO_6 := rb HO_6 hb; have HO215 := Aside0.mk (Kd.R_lower ho0 (below_size (bI HB.out))); replace HB := bs HB hb; (try clear hb)))
          go_ret2
          exact ⟨_, y0_11, y0_9, bI HB.out⟩
         rw [if_neg c31] at H
         have c31b0 : decide (60 < t210) = false := decide_eq_false c31; clear c31
         by_cases c35 : (t212.length : Int) > 2
         ·
          rw [if_pos c35] at H
          have c35b0 : decide (2 < (t212.length : Int)) = true := decide_eq_true c35
          have c35b1 : decide (2 < t212.length) = true := decide_eq_true (by omega)
          clear c35
          simp only [Option.some.injEq, Prod.mk.injEq] at H
          obtain ⟨rfl, rfl⟩ := H; obtain ⟨Ao36, co36, eo36⟩ := Kd.R_slice HO_6.out; subst eo36; have p206 : 0 ≤ (x8_2 : Int) := of_decide_eq_true y0_15; have q206 : x8_2 < (t202.length : Int) := of_decide_eq_true y0_15; obtain ⟨ad206, e206, hx206_0⟩ := Kd.at_string (Kd.R_reads' HO_6.out).2.2 x8_2 p206 q206; cases e206; replace p206 := eq_true p206; replace q206 := eq_true q206
          go_wp2_with (first | ((with_reducible refine gate_callee (f := 198) rfl ?_); refine gB (some 44) Tryz.func198 #[.string (rdOf ByteArray.empty t202 x8_2), .int .u8 124] ?_; (with_reducible refine (spec_l2Cut.calls k2 (rdOf ByteArray.empty t202 x8_2) 124 t207 t208 true _ A21.out).mono ?_); rintro e w' ⟨rfl, ⟨nd, rfl⟩⟩; refine ⟨_, rfl, ?_⟩) | ((with_reducible refine gate_callee (f := 199) rfl ?_); refine gB (some 50) Tryz.func199 #[.string t207] ?_; (with_reducible refine (spec_Number.calls k2 t207 t210 true _ A22.out).mono ?_); rintro e w37 ⟨rfl, hb⟩; refine ⟨_, rfl, ?_⟩; replace HO_4 := sb HO_4 hb; replace HO_5 := sb HO_5 hb; replace HO_6 := rb HO_6 hb; replace HB := bs HB hb; (try clear hb); (try clear hb2); (try clear hk); (try clear hi)) | ((with_reducible refine gate_callee (f := 200) rfl ?_); refine gB (some 55) Tryz.func200 #[.string t208] ?_; (with_reducible refine (spec_TxsOf.calls k2 t208 t212 true _ A23.out).mono ?_); rintro e w38 ⟨v214, rfl, ho0, hb⟩; refine ⟨_, rfl, ?_⟩; replace HO_4 := Aside0.mk (Kd.S_elder' (sI HO_4.out) (Kd.R_base ho0) hb); replace HO_5 := Aside0.mk (Kd.S_elder' (sI HO_5.out) (Kd.R_base ho0) hb); replace HO_6 := rb HO_6 hb; have HO215 := Aside0.mk (Kd.R_lower ho0 (below_size (bI HB.out))); replace HB := bs HB hb; (try clear hb); obtain ⟨Ao39, co39, eo39⟩ := Kd.R_slice HO215.out; subst eo39))
          go_ret2
          exact ⟨_, y0_11, y0_9, bI HB.out⟩
         rw [if_neg c35] at H
         have c35b0 : decide (2 < (t212.length : Int)) = false := decide_eq_false c35
         have c35b1 : decide (2 < t212.length) = false := decide_eq_false (by omega)
         clear c35
         by_cases c40 : x5_2.length < 4398046511104
         rotate_left
         ·
          rw [if_neg c40] at H
          exact absurd H (by simp)
         rw [if_pos c40] at H
         have LMc40 := Aside0.mk c40; clear c40; obtain ⟨y216, hy216⟩ : ∃ y_ : List (S150), y_ = (x5_2 ++ [(⟨t210, t212⟩ : S150)]) := ⟨_, rfl⟩
         replace H : (spec_Steps.l0 k2 y196 y216 t202 t210 (wrap64 (x8_2 + 1))) = some (r1, r2) := by first | (rw [hy216]; with_reducible exact H) | (have H2_ := (Option.bind_some _ _).symm.trans H; rw [hy216]; with_reducible exact H2_) | (have H2_ := (Option.bind_some _ _).symm.trans H; with_reducible exact H2_) | with_reducible exact H | (rw [hy216]; exact H) | exact H
         have Ny216 := Aside0.mk hy216; clear hy216; have H' := Aside0.mk H; clear H; obtain ⟨Ao41, co41, eo41⟩ := Kd.R_slice HO_6.out; subst eo41; have p206 : 0 ≤ (x8_2 : Int) := of_decide_eq_true y0_15; have q206 : x8_2 < (t202.length : Int) := of_decide_eq_true y0_15; obtain ⟨ad206, e206, hx206_0⟩ := Kd.at_string (Kd.R_reads' HO_6.out).2.2 x8_2 p206 q206; cases e206; replace p206 := eq_true p206; replace q206 := eq_true q206
         go_wp2_with (first | ((with_reducible refine gate_callee (f := 198) rfl ?_); refine gB (some 44) Tryz.func198 #[.string (rdOf ByteArray.empty t202 x8_2), .int .u8 124] ?_; (with_reducible refine (spec_l2Cut.calls k2 (rdOf ByteArray.empty t202 x8_2) 124 t207 t208 true _ A21.out).mono ?_); rintro e w' ⟨rfl, ⟨nd, rfl⟩⟩; refine ⟨_, rfl, ?_⟩) | ((with_reducible refine gate_callee (f := 199) rfl ?_); refine gB (some 50) Tryz.func199 #[.string t207] ?_; (with_reducible refine (spec_Number.calls k2 t207 t210 true _ A22.out).mono ?_); rintro e w42 ⟨rfl, hb⟩; refine ⟨_, rfl, ?_⟩; replace HO_4 := sb HO_4 hb; replace HO_5 := sb HO_5 hb; replace HO_6 := rb HO_6 hb; replace HB := bs HB hb; (try clear hb); (try clear hb2); (try clear hk); (try clear hi)) | ((with_reducible refine gate_callee (f := 200) rfl ?_); refine gB (some 55) Tryz.func200 #[.string t208] ?_; (with_reducible refine (spec_TxsOf.calls k2 t208 t212 true _ A23.out).mono ?_); rintro e w43 ⟨v214, rfl, ho0, hb⟩; refine ⟨_, rfl, ?_⟩; replace HO_4 := Aside0.mk (Kd.S_elder' (sI HO_4.out) (Kd.R_base ho0) hb); replace HO_5 := Aside0.mk (Kd.S_elder' (sI HO_5.out) (Kd.R_base ho0) hb); replace HO_6 := rb HO_6 hb; have HO215 := Aside0.mk (Kd.R_lower ho0 (below_size (bI HB.out))); replace HB := bs HB hb; (try clear hb); obtain ⟨Ao44, co44, eo44⟩ := Kd.R_slice HO215.out; subst eo44) | ((with_reducible refine gate_builtin (b := .append) (xs := #[.tmp 84, .tmp 88]) rfl ?_); (try (refine gate_guard (by rfl) ?_; dsimp only)); at_builtin; refine Kd.S_append k150 (w0 := w) w.heap.size rfl (.tmp 84) (.tmp 88) 146 150 (.agg #[(.int .i64 0), (.slice none 0 0)]) 32 rfl Tryz.underlying146 info150 rfl (by decide) (by omega) u5 x5_2 (⟨t210, t212⟩ : S150) [.int .i64 t210, .slice Ao44 t212.length co44] (fun k_ => some k_ ≠ (v197 : Value).ownBlock) (fun k_ => some k_ = (.slice Ao44 t212.length co44 : Value).ownBlock) rfl rfl ?aP (fun k_ hk_ => ((Kd.R_mono (ok' := fun k_ => ((fun k_ => some k_ ≠ (v197 : Value).ownBlock)) k_ ∧ some k_ ≠ (u5 : Value).ownBlock) (Kd.R_apart' (Kd.R_apart' (HO215.out) (Kd.S_typed HO_4.out) (by decide)) (Kd.S_typed HO_5.out) (by decide)) (fun k_ hk => ⟨hk.1.2, hk.2⟩))).1 k_ hk_.symm) ?aF ?aO ?aB ?aS ?aL ?_; (case aP => exact k150_mkM _ _ _ (⟨t210, t212⟩ : S150) (Kd.R_mono (Kd.R_tight rfl (Kd.R_mono (ok' := fun k_ => ((fun k_ => some k_ ≠ (v197 : Value).ownBlock)) k_ ∧ some k_ ≠ (u5 : Value).ownBlock) (Kd.R_apart' (Kd.R_apart' (HO215.out) (Kd.S_typed HO_4.out) (by decide)) (Kd.S_typed HO_5.out) (by decide)) (fun k_ hk => ⟨hk.1.2, hk.2⟩))) (fun _ h_ => h_))); (case aB => exact (bI HB.out)); (case aF => exact (fun k_ hk => Kd.fresh' (Kd.S_lt (sI HO_4.out)) k_ hk)); (case aO => exact (sI (Kd.S_mono HO_5.out (fun k_ hk => ⟨hk.1, fun e_ => hk.2 e_⟩)))); (case aS => exact (below_size (bI HB.out))); (case aL => have := LMc40.out; omega); intro v217 w45 ho hb hg hat; rw [← Ny216.out] at ho; have n0_ := Aside0.mk (Kd.S_after (ok := (fun k_ => some k_ ≠ (.slice Ao44 t212.length co44 : Value).ownBlock)) (sI (Kd.S_mono HO_4.out (fun _ hk => ⟨hk.2, hk.1⟩))) hg hat); have n1_ := Aside0.mk (Kd.R_over' (rI HO_6.out) (Kd.S_typed (sI HO_5.out)) (by decide) hg); have n2_ := Aside0.mk (hb); have n3_ := Aside0.mk (ho); clear HO_4; clear HO_6; clear HB; clear HO_5; clear HO215; have HO_4 := n0_; have HO_6 := n1_; have HB := n2_; have HO218 := n3_; clear n0_ n1_ n2_ n3_; clear ho hb hg hat))
         go_roundg k2
         case measure => have := HJ7.out; have := HK2.out; omega
         case rel => exact ⟨(y216), (t210), (wrap64 (x8_2 + 1)), y0_16, y0_16, H', ⟨by have := HJ7.out; have := HK2.out; omega⟩, ⟨by (with_reducible repeat (first | apply Kd.S_alloc | apply Kd.S_drewN | apply Kd.S_drew)); exact Kd.S_mono HO_4.out (fun _ hk => hk.2)⟩, ⟨by (with_reducible repeat (first | apply Kd.S_alloc | apply Kd.S_drewN | apply Kd.S_drew)); exact HO218.out⟩, ⟨by (with_reducible repeat (first | apply Kd.R_alloc | apply Kd.R_drewN | apply Kd.R_drew)); exact HO_6.out⟩, ⟨bI HB.out⟩⟩
        replace c26 := Bool.eq_false_iff.mpr c26; subst c26
        rw [if_neg (show ¬ (false = true) by decide)] at H
        simp only [Option.some.injEq, Prod.mk.injEq] at H
        obtain ⟨rfl, rfl⟩ := H; obtain ⟨Ao46, co46, eo46⟩ := Kd.R_slice HO_6.out; subst eo46; have p206 : 0 ≤ (x8_2 : Int) := of_decide_eq_true y0_15; have q206 : x8_2 < (t202.length : Int) := of_decide_eq_true y0_15; obtain ⟨ad206, e206, hx206_0⟩ := Kd.at_string (Kd.R_reads' HO_6.out).2.2 x8_2 p206 q206; cases e206; replace p206 := eq_true p206; replace q206 := eq_true q206
        go_wp2_with (first | ((with_reducible refine gate_callee (f := 198) rfl ?_); refine gB (some 44) Tryz.func198 #[.string (rdOf ByteArray.empty t202 x8_2), .int .u8 124] ?_; (with_reducible refine (spec_l2Cut.calls k2 (rdOf ByteArray.empty t202 x8_2) 124 t207 t208 true _ A21.out).mono ?_); rintro e w' ⟨rfl, ⟨nd, rfl⟩⟩; refine ⟨_, rfl, ?_⟩) | ((with_reducible refine gate_callee (f := 199) rfl ?_); refine gB (some 50) Tryz.func199 #[.string t207] ?_; (with_reducible refine (spec_Number.calls k2 t207 t210 true _ A22.out).mono ?_); rintro e w47 ⟨rfl, hb⟩; refine ⟨_, rfl, ?_⟩; replace HO_4 := sb HO_4 hb; replace HO_5 := sb HO_5 hb; replace HO_6 := rb HO_6 hb; replace HB := bs HB hb; (try clear hb); (try clear hb2); (try clear hk); (try clear hi)) | ((with_reducible refine gate_callee (f := 200) rfl ?_); refine gB (some 55) Tryz.func200 #[.string t208] ?_; (with_reducible refine (spec_TxsOf.calls k2 t208 t212 false _ A23.out).mono ?_); rintro e w48 ⟨v214, rfl, ho0, hb⟩; refine ⟨_, rfl, ?_⟩; replace HO_4 := Aside0.mk (Kd.S_elder' (sI HO_4.out) (Kd.R_base ho0) hb); replace HO_5 := Aside0.mk (Kd.S_elder' (sI HO_5.out) (Kd.R_base ho0) hb); replace HO_6 := rb HO_6 hb; have HO215 := Aside0.mk (Kd.R_lower ho0 (below_size (bI HB.out))); replace HB := bs HB hb; (try clear hb)))
        go_ret2
        exact ⟨_, y0_11, y0_9, bI HB.out⟩
       replace c25 := Bool.eq_false_iff.mpr c25; subst c25
       rw [if_neg (show ¬ (false = true) by decide)] at H
       simp only [Option.some.injEq, Prod.mk.injEq] at H
       obtain ⟨rfl, rfl⟩ := H; obtain ⟨Ao49, co49, eo49⟩ := Kd.R_slice HO_6.out; subst eo49; have p206 : 0 ≤ (x8_2 : Int) := of_decide_eq_true y0_15; have q206 : x8_2 < (t202.length : Int) := of_decide_eq_true y0_15; obtain ⟨ad206, e206, hx206_0⟩ := Kd.at_string (Kd.R_reads' HO_6.out).2.2 x8_2 p206 q206; cases e206; replace p206 := eq_true p206; replace q206 := eq_true q206
       go_wp2_with (first | ((with_reducible refine gate_callee (f := 198) rfl ?_); refine gB (some 44) Tryz.func198 #[.string (rdOf ByteArray.empty t202 x8_2), .int .u8 124] ?_; (with_reducible refine (spec_l2Cut.calls k2 (rdOf ByteArray.empty t202 x8_2) 124 t207 t208 true _ A21.out).mono ?_); rintro e w' ⟨rfl, ⟨nd, rfl⟩⟩; refine ⟨_, rfl, ?_⟩) | ((with_reducible refine gate_callee (f := 199) rfl ?_); refine gB (some 50) Tryz.func199 #[.string t207] ?_; (with_reducible refine (spec_Number.calls k2 t207 t210 false _ A22.out).mono ?_); rintro e w50 ⟨rfl, hb⟩; refine ⟨_, rfl, ?_⟩; replace HO_4 := sb HO_4 hb; replace HO_5 := sb HO_5 hb; replace HO_6 := rb HO_6 hb; replace HB := bs HB hb; (try clear hb); (try clear hb2); (try clear hk); (try clear hi)) | ((with_reducible refine gate_callee (f := 200) rfl ?_); refine gB (some 55) Tryz.func200 #[.string t208] ?_; (with_reducible refine (spec_TxsOf.calls k2 t208 t212 t213 _ A23.out).mono ?_); rintro e w51 ⟨v214, rfl, ho0, hb⟩; refine ⟨_, rfl, ?_⟩; replace HO_4 := Aside0.mk (Kd.S_elder' (sI HO_4.out) (Kd.R_base ho0) hb); replace HO_5 := Aside0.mk (Kd.S_elder' (sI HO_5.out) (Kd.R_base ho0) hb); replace HO_6 := rb HO_6 hb; have HO215 := Aside0.mk (Kd.R_lower ho0 (below_size (bI HB.out))); replace HB := bs HB hb; (try clear hb)))
       go_ret2
       exact ⟨_, y0_11, y0_9, bI HB.out⟩
      replace c24 := Bool.eq_false_iff.mpr c24; subst c24
      rw [if_neg (show ¬ (false = true) by decide)] at H
      simp only [Option.some.injEq, Prod.mk.injEq] at H
      obtain ⟨rfl, rfl⟩ := H; obtain ⟨Ao52, co52, eo52⟩ := Kd.R_slice HO_6.out; subst eo52; have p206 : 0 ≤ (x8_2 : Int) := of_decide_eq_true y0_15; have q206 : x8_2 < (t202.length : Int) := of_decide_eq_true y0_15; obtain ⟨ad206, e206, hx206_0⟩ := Kd.at_string (Kd.R_reads' HO_6.out).2.2 x8_2 p206 q206; cases e206; replace p206 := eq_true p206; replace q206 := eq_true q206
      go_wp2_with (first | ((with_reducible refine gate_callee (f := 198) rfl ?_); refine gB (some 44) Tryz.func198 #[.string (rdOf ByteArray.empty t202 x8_2), .int .u8 124] ?_; (with_reducible refine (spec_l2Cut.calls k2 (rdOf ByteArray.empty t202 x8_2) 124 t207 t208 false _ A21.out).mono ?_); rintro e w' ⟨rfl, ⟨nd, rfl⟩⟩; refine ⟨_, rfl, ?_⟩) | ((with_reducible refine gate_callee (f := 199) rfl ?_); refine gB (some 50) Tryz.func199 #[.string t207] ?_; (with_reducible refine (spec_Number.calls k2 t207 t210 t211 _ A22.out).mono ?_); rintro e w53 ⟨rfl, hb⟩; refine ⟨_, rfl, ?_⟩; replace HO_4 := sb HO_4 hb; replace HO_5 := sb HO_5 hb; replace HO_6 := rb HO_6 hb; replace HB := bs HB hb; (try clear hb); (try clear hb2); (try clear hk); (try clear hi)) | ((with_reducible refine gate_callee (f := 200) rfl ?_); refine gB (some 55) Tryz.func200 #[.string t208] ?_; (with_reducible refine (spec_TxsOf.calls k2 t208 t212 t213 _ A23.out).mono ?_); rintro e w54 ⟨v214, rfl, ho0, hb⟩; refine ⟨_, rfl, ?_⟩; replace HO_4 := Aside0.mk (Kd.S_elder' (sI HO_4.out) (Kd.R_base ho0) hb); replace HO_5 := Aside0.mk (Kd.S_elder' (sI HO_5.out) (Kd.R_base ho0) hb); replace HO_6 := rb HO_6 hb; have HO215 := Aside0.mk (Kd.R_lower ho0 (below_size (bI HB.out))); replace HB := bs HB hb; (try clear hb)))
      go_ret2
      exact ⟨_, y0_11, y0_9, bI HB.out⟩
     rw [if_neg c19] at H
     have c19b0 : decide (x8_2 < (t202.length : Int)) = false := decide_eq_false c19; clear c19
     simp only [Option.some.injEq, Prod.mk.injEq] at H
     obtain ⟨rfl, rfl⟩ := H; obtain ⟨Ao55, co55, eo55⟩ := Kd.R_slice HO_6.out; subst eo55
     go_wp2
     go_ret2
     exact ⟨_, y0_11, by (with_reducible repeat (first | apply Kd.S_alloc | apply Kd.S_drewN | apply Kd.S_drew)); exact Kd.S_mono HO_5.out (fun _ hk => trivial), bI HB.out⟩

/-! ### spec_NameOk: function 141 -/
def spec_NameOk.f (k : Nat) (a0 : ByteArray) : Option (Bool) := (spec_Steps.f k a0).bind fun bt219 => (some bt219.2)
theorem spec_NameOk.mono : ∀ a0 k, LeO (spec_NameOk.f k a0) (spec_NameOk.f (k + 1) a0) := by
 intro a0 k
 unfold spec_NameOk.f
 repeat' first | (with_reducible exact spec_Steps.mono _ _) | (with_reducible exact LeO.refl _) | (with_reducible exact LeO.none _) | (with_reducible refine LeO.ite ?_ ?_) | (with_reducible refine LeO.bind ?_ (fun _ => ?_))
set_option maxHeartbeats 8000000 in
set_option maxRecDepth 100000 in
theorem spec_NameOk.calls (k : Nat) (a0 : ByteArray) (r : Bool) (w : World) (h : spec_NameOk.f k a0 = some r) :
  Calls Tryz.prog 141 #[.string a0] w fun e w' => e = .returned (.bool r) ∧ Below w.heap.size w w' := by
 have HB := Aside0.mk (Below.refl w.heap.size w)
 have H := h; unfold spec_NameOk.f at H
 clear h; obtain ⟨⟨t219, t220⟩, A2, H⟩ := oB H; (try dsimp only at H); obtain rfl := Option.some.inj H
 go_enter Tryz.func141, Tryz.ntmps141
 go_wp2_with (first | ((with_reducible refine gate_callee (f := 131) rfl ?_); refine gS1 (some 7) Tryz.func131 (spec_Steps.calls (w := _) (h := A2.out)) ?_; intro Ao221 co221 w3 _ HO222))
 go_ret
 exact ⟨y0_16, UpW.out⟩

/-! ### spec_TxsText: function 217 -/
def spec_TxsText.l0 : Nat → List (S204) → ByteArray → Int → Option (ByteArray)
 | 0, _, _, _ => none
 | k + 1, x0, x3, x4 => if x4 < (x0.length : Int) then (if 0 ≤ x4 then ((spec_TxOk.f ((rd_T204 x0 x4).f0) ((rd_T204 x0 x4).f1) ((rd_T204 x0 x4).f2) ((rd_T204 x0 x4).f3)).bind fun t224 => (if t224 = true then (if x4 > 0 then (if x3.size + 1 ≤ 9223372036854775807 then ((spec_TxText.f k ((rd_T204 x0 x4).f0) ((rd_T204 x0 x4).f1) ((rd_T204 x0 x4).f2) ((rd_T204 x0 x4).f3)).bind fun t226 => (if (x3 ++ (⟨#[44]⟩ : ByteArray)).size + t226.size ≤ 9223372036854775807 then (spec_TxsText.l0 k x0 ((x3 ++ (⟨#[44]⟩ : ByteArray)) ++ t226) (wrap64 (x4 + 1))) else (none))) else (none)) else ((spec_TxText.f k ((rd_T204 x0 x4).f0) ((rd_T204 x0 x4).f1) ((rd_T204 x0 x4).f2) ((rd_T204 x0 x4).f3)).bind fun t228 => (if x3.size + t228.size ≤ 9223372036854775807 then (spec_TxsText.l0 k x0 (x3 ++ t228) (wrap64 (x4 + 1))) else (none)))) else (some (⟨#[]⟩ : ByteArray)))) else (none)) else (some x3)
def spec_TxsText.f (k : Nat) (l0 : List (S204)) : Option (ByteArray) := spec_TxsText.l0 k l0 (⟨#[]⟩ : ByteArray) 0
theorem spec_TxsText.mono_l : ∀ k, (∀ y0 y1 y2, LeO (spec_TxsText.l0 k y0 y1 y2) (spec_TxsText.l0 (k + 1) y0 y1 y2))
 | 0 => fun _ _ _ r h => by simp [spec_TxsText.l0] at h
 | k + 1 => by
  have ih0 := spec_TxsText.mono_l k
  intro y0 y1 y2
  unfold spec_TxsText.l0
  repeat' first | (with_reducible exact ih0 _ _ _) | (with_reducible exact spec_TxText.mono _ _ _ _ _) | (with_reducible exact LeO.refl _) | (with_reducible exact LeO.none _) | (with_reducible refine LeO.ite ?_ ?_) | (with_reducible refine LeO.bind ?_ (fun _ => ?_))
theorem spec_TxsText.mono : ∀ a0 k, LeO (spec_TxsText.f k a0) (spec_TxsText.f (k + 1) a0) := by
 intro a0 k
 have ih0 := spec_TxsText.mono_l k
 unfold spec_TxsText.f
 repeat' first | (with_reducible exact ih0 _ _ _) | (with_reducible exact spec_TxText.mono _ _ _ _ _) | (with_reducible exact LeO.refl _) | (with_reducible exact LeO.none _) | (with_reducible refine LeO.ite ?_ ?_) | (with_reducible refine LeO.bind ?_ (fun _ => ?_))
set_option maxHeartbeats 8000000 in
set_option maxRecDepth 100000 in
theorem spec_TxsText.calls (k : Nat) (A0 : Option Addr) (c0 : Nat) (l0 : List (S204)) (r : ByteArray) (w : World) (hr0 : Kd.C k204 w A0 l0.length l0) (hc0 : l0.length ≤ c0) (h : spec_TxsText.f k l0 = some r) :
  Calls Tryz.prog 217 #[.slice A0 l0.length c0] w fun e w' => e = .returned (.string r) ∧ Below w.heap.size w w' := by
 have hu204 := Tryz.underlying204; have HR0 := Aside0.mk hr0; have HC0 := Aside0.mk hc0; clear hr0 hc0; have HB := Aside0.mk (Below.refl w.heap.size w); have H := h; unfold spec_TxsText.f at H; clear h; have H' := Aside0.mk H; clear H
 go_enter Tryz.func217, Tryz.ntmps217
 go_wp2
 go_loopg [3, 4] k (fun kq v3 v4 w' => ∃ (x3_1 : ByteArray) (x4_1 : Int), v3 = .string x3_1 ∧ v4 = .int .i64 x4_1 ∧ Aside0 (spec_TxsText.l0 kq l0 x3_1 x4_1 = some r) ∧ Aside0 (kq ≤ k) ∧ Aside0 (Below w.heap.size w w'))
 case atStart => exact ⟨((⟨#[]⟩ : ByteArray)), (0), y0_16, y0_16, H', ⟨Nat.le_refl _⟩, ⟨bI HB.out⟩⟩
 case round =>
  clear H'; obtain ⟨x3_1, x4_1, rfl, rfl, HA, HK1, HB⟩ := hrel; cases gk with
  | zero => exact absurd HA.out (by simp [spec_TxsText.l0])
  | succ k1 =>
   have H := HA.out; clear HA
   simp only [spec_TxsText.l0] at H
   by_cases c2 : x4_1 < (l0.length : Int)
   ·
    rw [if_pos c2] at H
    have c2b0 : decide (x4_1 < (l0.length : Int)) = true := decide_eq_true c2; clear c2
    by_cases c3 : 0 ≤ x4_1
    rotate_left
    ·
     rw [if_neg c3] at H
     exact absurd H (by simp)
    rw [if_pos c3] at H
    have c3b0 : decide (0 ≤ x4_1) = true := decide_eq_true c3; clear c3; obtain ⟨t224, A4, H⟩ := oB H; (try dsimp only at H)
    by_cases c5 : t224 = true
    ·
     subst c5
     rw [if_pos rfl] at H
     by_cases c6 : x4_1 > 0
     ·
      rw [if_pos c6] at H
      have c6b0 : decide (0 < x4_1) = true := decide_eq_true c6; clear c6
      by_cases c7 : x3_1.size + 1 ≤ 9223372036854775807
      rotate_left
      ·
       rw [if_neg c7] at H
       exact absurd H (by simp)
      rw [if_pos c7] at H
      have c7b0 := eq_true c7; have c7b1 : decide (x3_1.size + 1 ≤ 9223372036854775807) = true := decide_eq_true c7
      try have c7b2 : (9223372036854775807 < x3_1.size + 1) = False := eq_false (Nat.not_lt.2 c7)
      obtain ⟨t226, A8, H⟩ := oB H; (try dsimp only at H)
      by_cases c9 : (x3_1 ++ (⟨#[44]⟩ : ByteArray)).size + t226.size ≤ 9223372036854775807
      rotate_left
      ·
       rw [if_neg c9] at H
       exact absurd H (by simp)
      rw [if_pos c9] at H
      have c9b0 := eq_true c9; have c9b1 : decide ((x3_1 ++ (⟨#[44]⟩ : ByteArray)).size + t226.size ≤ 9223372036854775807) = true := decide_eq_true c9
      try have c9b2 : (9223372036854775807 < (x3_1 ++ (⟨#[44]⟩ : ByteArray)).size + t226.size) = False := eq_false (Nat.not_lt.2 c9)
      (try have c9b3 : (9223372036854775807 < x3_1.size + 1 + t226.size) = False := eq_false (by have h_ := c9; simp only [ByteArray.size_append, ByteArray.size_extract, show (⟨#[44]⟩ : ByteArray).size = 1 from rfl] at h_; omega))
      have H' := Aside0.mk H; clear H; have p223 : 0 ≤ (x4_1 : Int) := of_decide_eq_true y0_15; have q223 : x4_1 < (l0.length : Int) := of_decide_eq_true y0_15; obtain ⟨ad223, e223, hx223_0, hx223_1, hx223_2, hx223_3⟩ := at_T204 HR0.out x4_1 p223 q223; cases e223; replace hx223_0 := bx HB hx223_0; replace hx223_1 := bx HB hx223_1; replace hx223_2 := bx HB hx223_2; replace hx223_3 := bx HB hx223_3; replace p223 := eq_true p223; replace q223 := eq_true q223
      go_wp2_with (first | ((with_reducible refine gate_callee (f := 216) rfl ?_); refine gB (some 15) Tryz.func216 #[.agg #[.int .i64 ((rd_T204 l0 x4_1).f0), .int .i64 ((rd_T204 l0 x4_1).f1), .int .i64 ((rd_T204 l0 x4_1).f2), .int .i64 ((rd_T204 l0 x4_1).f3)]] ?_; (with_reducible refine (spec_TxOk.calls ((rd_T204 l0 x4_1).f0) ((rd_T204 l0 x4_1).f1) ((rd_T204 l0 x4_1).f2) ((rd_T204 l0 x4_1).f3) true _ A4.out).mono ?_); rintro e w10 ⟨rfl, hb⟩; refine ⟨_, rfl, ?_⟩; replace HB := bs HB hb; (try clear hb); (try clear hb2); (try clear hk); (try clear hi); have p225 : 0 ≤ (x4_1 : Int) := of_decide_eq_true y0_15; have q225 : x4_1 < (l0.length : Int) := of_decide_eq_true y0_15; obtain ⟨ad225, e225, hx225_0, hx225_1, hx225_2, hx225_3⟩ := at_T204 HR0.out x4_1 p225 q225; obtain rfl : ad223 = ad225 := (by injection e225); replace hx225_0 := bx HB hx225_0; replace hx225_1 := bx HB hx225_1; replace hx225_2 := bx HB hx225_2; replace hx225_3 := bx HB hx225_3; replace p225 := eq_true p225; replace q225 := eq_true q225) | ((with_reducible refine gate_callee (f := 238) rfl ?_); refine gB (some 26) Tryz.func238 #[.agg #[.int .i64 ((rd_T204 l0 x4_1).f0), .int .i64 ((rd_T204 l0 x4_1).f1), .int .i64 ((rd_T204 l0 x4_1).f2), .int .i64 ((rd_T204 l0 x4_1).f3)]] ?_; (with_reducible refine (spec_TxText.calls k1 ((rd_T204 l0 x4_1).f0) ((rd_T204 l0 x4_1).f1) ((rd_T204 l0 x4_1).f2) ((rd_T204 l0 x4_1).f3) t226 _ A8.out).mono ?_); rintro e w11 ⟨rfl, hb⟩; refine ⟨_, rfl, ?_⟩; replace HB := bs HB hb; (try clear hb); (try clear hb2); (try clear hk); (try clear hi)))
      go_roundg k1
      case measure => have := HK1.out; omega
      case rel => exact ⟨((x3_1 ++ (⟨#[44]⟩ : ByteArray)) ++ t226), (wrap64 (x4_1 + 1)), y0_16, y0_16, H', ⟨y0_18⟩, ⟨bI HB.out⟩⟩
     rw [if_neg c6] at H
     have c6b0 : decide (0 < x4_1) = false := decide_eq_false c6; clear c6; obtain ⟨t228, A12, H⟩ := oB H; (try dsimp only at H)
     by_cases c13 : x3_1.size + t228.size ≤ 9223372036854775807
     rotate_left
     ·
      rw [if_neg c13] at H
      exact absurd H (by simp)
     rw [if_pos c13] at H
     have c13b0 := eq_true c13; have c13b1 : decide (x3_1.size + t228.size ≤ 9223372036854775807) = true := decide_eq_true c13
     try have c13b2 : (9223372036854775807 < x3_1.size + t228.size) = False := eq_false (Nat.not_lt.2 c13)
     have H' := Aside0.mk H; clear H; have p223 : 0 ≤ (x4_1 : Int) := of_decide_eq_true y0_15; have q223 : x4_1 < (l0.length : Int) := of_decide_eq_true y0_15; obtain ⟨ad223, e223, hx223_0, hx223_1, hx223_2, hx223_3⟩ := at_T204 HR0.out x4_1 p223 q223; cases e223; replace hx223_0 := bx HB hx223_0; replace hx223_1 := bx HB hx223_1; replace hx223_2 := bx HB hx223_2; replace hx223_3 := bx HB hx223_3; replace p223 := eq_true p223; replace q223 := eq_true q223
     go_wp2_with (first | ((with_reducible refine gate_callee (f := 216) rfl ?_); refine gB (some 15) Tryz.func216 #[.agg #[.int .i64 ((rd_T204 l0 x4_1).f0), .int .i64 ((rd_T204 l0 x4_1).f1), .int .i64 ((rd_T204 l0 x4_1).f2), .int .i64 ((rd_T204 l0 x4_1).f3)]] ?_; (with_reducible refine (spec_TxOk.calls ((rd_T204 l0 x4_1).f0) ((rd_T204 l0 x4_1).f1) ((rd_T204 l0 x4_1).f2) ((rd_T204 l0 x4_1).f3) true _ A4.out).mono ?_); rintro e w14 ⟨rfl, hb⟩; refine ⟨_, rfl, ?_⟩; replace HB := bs HB hb; (try clear hb); (try clear hb2); (try clear hk); (try clear hi); have p227 : 0 ≤ (x4_1 : Int) := of_decide_eq_true y0_15; have q227 : x4_1 < (l0.length : Int) := of_decide_eq_true y0_15; obtain ⟨ad227, e227, hx227_0, hx227_1, hx227_2, hx227_3⟩ := at_T204 HR0.out x4_1 p227 q227; obtain rfl : ad223 = ad227 := (by injection e227); replace hx227_0 := bx HB hx227_0; replace hx227_1 := bx HB hx227_1; replace hx227_2 := bx HB hx227_2; replace hx227_3 := bx HB hx227_3; replace p227 := eq_true p227; replace q227 := eq_true q227) | ((with_reducible refine gate_callee (f := 238) rfl ?_); refine gB (some 26) Tryz.func238 #[.agg #[.int .i64 ((rd_T204 l0 x4_1).f0), .int .i64 ((rd_T204 l0 x4_1).f1), .int .i64 ((rd_T204 l0 x4_1).f2), .int .i64 ((rd_T204 l0 x4_1).f3)]] ?_; (with_reducible refine (spec_TxText.calls k1 ((rd_T204 l0 x4_1).f0) ((rd_T204 l0 x4_1).f1) ((rd_T204 l0 x4_1).f2) ((rd_T204 l0 x4_1).f3) t228 _ A12.out).mono ?_); rintro e w15 ⟨rfl, hb⟩; refine ⟨_, rfl, ?_⟩; replace HB := bs HB hb; (try clear hb); (try clear hb2); (try clear hk); (try clear hi)))
     go_roundg k1
     case measure => have := HK1.out; omega
     case rel => exact ⟨(x3_1 ++ t228), (wrap64 (x4_1 + 1)), y0_16, y0_16, H', ⟨y0_18⟩, ⟨bI HB.out⟩⟩
    replace c5 := Bool.eq_false_iff.mpr c5; subst c5
    rw [if_neg (show ¬ (false = true) by decide)] at H
    obtain rfl := Option.some.inj H; have p223 : 0 ≤ (x4_1 : Int) := of_decide_eq_true y0_15; have q223 : x4_1 < (l0.length : Int) := of_decide_eq_true y0_15; obtain ⟨ad223, e223, hx223_0, hx223_1, hx223_2, hx223_3⟩ := at_T204 HR0.out x4_1 p223 q223; cases e223; replace hx223_0 := bx HB hx223_0; replace hx223_1 := bx HB hx223_1; replace hx223_2 := bx HB hx223_2; replace hx223_3 := bx HB hx223_3; replace p223 := eq_true p223; replace q223 := eq_true q223
    go_wp2_with (first | ((with_reducible refine gate_callee (f := 216) rfl ?_); refine gB (some 15) Tryz.func216 #[.agg #[.int .i64 ((rd_T204 l0 x4_1).f0), .int .i64 ((rd_T204 l0 x4_1).f1), .int .i64 ((rd_T204 l0 x4_1).f2), .int .i64 ((rd_T204 l0 x4_1).f3)]] ?_; (with_reducible refine (spec_TxOk.calls ((rd_T204 l0 x4_1).f0) ((rd_T204 l0 x4_1).f1) ((rd_T204 l0 x4_1).f2) ((rd_T204 l0 x4_1).f3) false _ A4.out).mono ?_); rintro e w16 ⟨rfl, hb⟩; refine ⟨_, rfl, ?_⟩; replace HB := bs HB hb; (try clear hb); (try clear hb2); (try clear hk); (try clear hi)))
    go_ret
    exact ⟨y0_11, bI HB.out⟩
   rw [if_neg c2] at H
   have c2b0 : decide (x4_1 < (l0.length : Int)) = false := decide_eq_false c2; clear c2; obtain rfl := Option.some.inj H
   go_wp2
   go_ret
   exact ⟨y0_11, bI HB.out⟩

/-! ### spec_NameOf: function 163 -/
def spec_NameOf.l0 : Nat → ByteArray → Int → List (S204) → Int → Option (ByteArray)
 | 0, _, _, _, _ => none
 | k + 1, x0, x1, x2, x7 => if x7 < (x2.length : Int) then (if 0 ≤ x7 then ((spec_TxOk.f ((rd_T204 x2 x7).f0) ((rd_T204 x2 x7).f1) ((rd_T204 x2 x7).f2) ((rd_T204 x2 x7).f3)).bind fun t230 => (if t230 = true then (spec_NameOf.l0 k x0 x1 x2 (wrap64 (x7 + 1))) else (some (⟨#[]⟩ : ByteArray)))) else (none)) else (if x0.size + 1 ≤ 9223372036854775807 then ((spec_Digits.f k x1).bind fun t231 => (if (x0 ++ (⟨#[47]⟩ : ByteArray)).size + t231.size ≤ 9223372036854775807 then (if ((x0 ++ (⟨#[47]⟩ : ByteArray)) ++ t231).size + 1 ≤ 9223372036854775807 then ((spec_TxsText.f k x2).bind fun t232 => (if (((x0 ++ (⟨#[47]⟩ : ByteArray)) ++ t231) ++ (⟨#[124]⟩ : ByteArray)).size + t232.size ≤ 9223372036854775807 then ((spec_NameOk.f k ((((x0 ++ (⟨#[47]⟩ : ByteArray)) ++ t231) ++ (⟨#[124]⟩ : ByteArray)) ++ t232)).bind fun t233 => (if t233 = true then (some ((((x0 ++ (⟨#[47]⟩ : ByteArray)) ++ t231) ++ (⟨#[124]⟩ : ByteArray)) ++ t232)) else (some (⟨#[]⟩ : ByteArray)))) else (none))) else (none)) else (none))) else (none))
def spec_NameOf.f (k : Nat) (a0 : ByteArray) (a1 : Int) (l2 : List (S204)) : Option (ByteArray) := spec_NameOf.l0 k a0 a1 l2 0
theorem spec_NameOf.mono_l : ∀ k, (∀ y0 y1 y2 y3, LeO (spec_NameOf.l0 k y0 y1 y2 y3) (spec_NameOf.l0 (k + 1) y0 y1 y2 y3))
 | 0 => fun _ _ _ _ r h => by simp [spec_NameOf.l0] at h
 | k + 1 => by
  have ih0 := spec_NameOf.mono_l k
  intro y0 y1 y2 y3
  unfold spec_NameOf.l0
  repeat' first | (with_reducible exact ih0 _ _ _ _) | (with_reducible exact spec_Digits.mono _ _) | (with_reducible exact spec_NameOk.mono _ _) | (with_reducible exact spec_TxsText.mono _ _) | (with_reducible exact LeO.refl _) | (with_reducible exact LeO.none _) | (with_reducible refine LeO.ite ?_ ?_) | (with_reducible refine LeO.bind ?_ (fun _ => ?_))
theorem spec_NameOf.mono : ∀ a0 a1 a2 k, LeO (spec_NameOf.f k a0 a1 a2) (spec_NameOf.f (k + 1) a0 a1 a2) := by
 intro a0 a1 a2 k
 have ih0 := spec_NameOf.mono_l k
 unfold spec_NameOf.f
 repeat' first | (with_reducible exact ih0 _ _ _ _) | (with_reducible exact spec_Digits.mono _ _) | (with_reducible exact spec_NameOk.mono _ _) | (with_reducible exact spec_TxsText.mono _ _) | (with_reducible exact LeO.refl _) | (with_reducible exact LeO.none _) | (with_reducible refine LeO.ite ?_ ?_) | (with_reducible refine LeO.bind ?_ (fun _ => ?_))
set_option maxHeartbeats 8000000 in
set_option maxRecDepth 100000 in
theorem spec_NameOf.calls (k : Nat) (a0 : ByteArray) (a1 : Int) (A2 : Option Addr) (c2 : Nat) (l2 : List (S204)) (r : ByteArray) (w : World) (hr2 : Kd.C k204 w A2 l2.length l2) (hc2 : l2.length ≤ c2) (h : spec_NameOf.f k a0 a1 l2 = some r) :
  Calls Tryz.prog 163 #[.string a0, .int .i64 a1, .slice A2 l2.length c2] w fun e w' => e = .returned (.string r) ∧ Below w.heap.size w w' := by
 have hu204 := Tryz.underlying204; have HR2 := Aside0.mk hr2; have HC2 := Aside0.mk hc2; clear hr2 hc2; have HB := Aside0.mk (Below.refl w.heap.size w); have H := h; unfold spec_NameOf.f at H; clear h; have H' := Aside0.mk H; clear H
 go_enter Tryz.func163, Tryz.ntmps163
 go_wp2
 go_loopg [7] k (fun kq v7 w' => ∃ (x7_1 : Int), v7 = .int .i64 x7_1 ∧ Aside0 (spec_NameOf.l0 kq a0 a1 l2 x7_1 = some r) ∧ Aside0 (kq ≤ k) ∧ Aside0 (Below w.heap.size w w'))
 case atStart => exact ⟨(0), y0_16, H', ⟨Nat.le_refl _⟩, ⟨bI HB.out⟩⟩
 case round =>
  clear H'
  try clear c1
  try clear c2
  try clear p2
  obtain ⟨x7_1, rfl, HA, HK1, HB⟩ := hrel; cases gk with
  | zero => exact absurd HA.out (by simp [spec_NameOf.l0])
  | succ k1 =>
   have H := HA.out; clear HA
   simp only [spec_NameOf.l0] at H
   by_cases c4 : x7_1 < (l2.length : Int)
   ·
    rw [if_pos c4] at H
    have c4b0 : decide (x7_1 < (l2.length : Int)) = true := decide_eq_true c4; clear c4
    by_cases c5 : 0 ≤ x7_1
    rotate_left
    ·
     rw [if_neg c5] at H
     exact absurd H (by simp)
    rw [if_pos c5] at H
    have c5b0 : decide (0 ≤ x7_1) = true := decide_eq_true c5; clear c5; obtain ⟨t230, A6, H⟩ := oB H; (try dsimp only at H)
    by_cases c7 : t230 = true
    ·
     subst c7
     rw [if_pos rfl] at H
     have H' := Aside0.mk H; clear H; have p229 : 0 ≤ (x7_1 : Int) := of_decide_eq_true y0_15; have q229 : x7_1 < (l2.length : Int) := of_decide_eq_true y0_15; obtain ⟨ad229, e229, hx229_0, hx229_1, hx229_2, hx229_3⟩ := at_T204 HR2.out x7_1 p229 q229; cases e229; replace hx229_0 := bx HB hx229_0; replace hx229_1 := bx HB hx229_1; replace hx229_2 := bx HB hx229_2; replace hx229_3 := bx HB hx229_3; replace p229 := eq_true p229; replace q229 := eq_true q229
     go_wp2_with (first | ((with_reducible refine gate_callee (f := 216) rfl ?_); refine gB (some 19) Tryz.func216 #[.agg #[.int .i64 ((rd_T204 l2 x7_1).f0), .int .i64 ((rd_T204 l2 x7_1).f1), .int .i64 ((rd_T204 l2 x7_1).f2), .int .i64 ((rd_T204 l2 x7_1).f3)]] ?_; (with_reducible refine (spec_TxOk.calls ((rd_T204 l2 x7_1).f0) ((rd_T204 l2 x7_1).f1) ((rd_T204 l2 x7_1).f2) ((rd_T204 l2 x7_1).f3) true _ A6.out).mono ?_); rintro e w8 ⟨rfl, hb⟩; refine ⟨_, rfl, ?_⟩; replace HB := bs HB hb; (try clear hb); (try clear hb2); (try clear hk); (try clear hi)))
     go_roundg k1
     case measure => have := HK1.out; omega
     case rel => exact ⟨(wrap64 (x7_1 + 1)), y0_16, H', ⟨y0_18⟩, ⟨bI HB.out⟩⟩
    replace c7 := Bool.eq_false_iff.mpr c7; subst c7
    rw [if_neg (show ¬ (false = true) by decide)] at H
    obtain rfl := Option.some.inj H; have p229 : 0 ≤ (x7_1 : Int) := of_decide_eq_true y0_15; have q229 : x7_1 < (l2.length : Int) := of_decide_eq_true y0_15; obtain ⟨ad229, e229, hx229_0, hx229_1, hx229_2, hx229_3⟩ := at_T204 HR2.out x7_1 p229 q229; cases e229; replace hx229_0 := bx HB hx229_0; replace hx229_1 := bx HB hx229_1; replace hx229_2 := bx HB hx229_2; replace hx229_3 := bx HB hx229_3; replace p229 := eq_true p229; replace q229 := eq_true q229
    go_wp2_with (first | ((with_reducible refine gate_callee (f := 216) rfl ?_); refine gB (some 19) Tryz.func216 #[.agg #[.int .i64 ((rd_T204 l2 x7_1).f0), .int .i64 ((rd_T204 l2 x7_1).f1), .int .i64 ((rd_T204 l2 x7_1).f2), .int .i64 ((rd_T204 l2 x7_1).f3)]] ?_; (with_reducible refine (spec_TxOk.calls ((rd_T204 l2 x7_1).f0) ((rd_T204 l2 x7_1).f1) ((rd_T204 l2 x7_1).f2) ((rd_T204 l2 x7_1).f3) false _ A6.out).mono ?_); rintro e w9 ⟨rfl, hb⟩; refine ⟨_, rfl, ?_⟩; replace HB := bs HB hb; (try clear hb); (try clear hb2); (try clear hk); (try clear hi)))
    go_ret
    exact ⟨y0_11, bI HB.out⟩
   rw [if_neg c4] at H
   have c4b0 : decide (x7_1 < (l2.length : Int)) = false := decide_eq_false c4; clear c4
   by_cases c10 : a0.size + 1 ≤ 9223372036854775807
   ·
    rw [if_pos c10] at H
    have c10b0 := eq_true c10; have c10b1 : decide (a0.size + 1 ≤ 9223372036854775807) = true := decide_eq_true c10
    try have c10b2 : (9223372036854775807 < a0.size + 1) = False := eq_false (Nat.not_lt.2 c10)
    obtain ⟨t231, A11, H⟩ := oB H; (try dsimp only at H)
    by_cases c12 : (a0 ++ (⟨#[47]⟩ : ByteArray)).size + t231.size ≤ 9223372036854775807
    rotate_left
    ·
     rw [if_neg c12] at H
     exact absurd H (by simp)
    rw [if_pos c12] at H
    have c12b0 := eq_true c12; have c12b1 : decide ((a0 ++ (⟨#[47]⟩ : ByteArray)).size + t231.size ≤ 9223372036854775807) = true := decide_eq_true c12
    try have c12b2 : (9223372036854775807 < (a0 ++ (⟨#[47]⟩ : ByteArray)).size + t231.size) = False := eq_false (Nat.not_lt.2 c12)
    (try have c12b3 : (9223372036854775807 < a0.size + 1 + t231.size) = False := eq_false (by have h_ := c12; simp only [ByteArray.size_append, ByteArray.size_extract, show (⟨#[47]⟩ : ByteArray).size = 1 from rfl] at h_; omega))
    by_cases c13 : ((a0 ++ (⟨#[47]⟩ : ByteArray)) ++ t231).size + 1 ≤ 9223372036854775807
    rotate_left
    ·
     rw [if_neg c13] at H
     exact absurd H (by simp)
    rw [if_pos c13] at H
    have c13b0 := eq_true c13; have c13b1 : decide (((a0 ++ (⟨#[47]⟩ : ByteArray)) ++ t231).size + 1 ≤ 9223372036854775807) = true := decide_eq_true c13
    try have c13b2 : (9223372036854775807 < ((a0 ++ (⟨#[47]⟩ : ByteArray)) ++ t231).size + 1) = False := eq_false (Nat.not_lt.2 c13)
    (try have c13b3 : (9223372036854775807 < a0.size + 1 + t231.size + 1) = False := eq_false (by have h_ := c13; simp only [ByteArray.size_append, ByteArray.size_extract, show (⟨#[47]⟩ : ByteArray).size = 1 from rfl] at h_; omega))
    obtain ⟨t232, A14, H⟩ := oB H; (try dsimp only at H)
    by_cases c15 : (((a0 ++ (⟨#[47]⟩ : ByteArray)) ++ t231) ++ (⟨#[124]⟩ : ByteArray)).size + t232.size ≤ 9223372036854775807
    rotate_left
    ·
     rw [if_neg c15] at H
     exact absurd H (by simp)
    rw [if_pos c15] at H
    have c15b0 := eq_true c15; have c15b1 : decide ((((a0 ++ (⟨#[47]⟩ : ByteArray)) ++ t231) ++ (⟨#[124]⟩ : ByteArray)).size + t232.size ≤ 9223372036854775807) = true := decide_eq_true c15
    try have c15b2 : (9223372036854775807 < (((a0 ++ (⟨#[47]⟩ : ByteArray)) ++ t231) ++ (⟨#[124]⟩ : ByteArray)).size + t232.size) = False := eq_false (Nat.not_lt.2 c15)
    (try have c15b3 : (9223372036854775807 < a0.size + 1 + t231.size + 1 + t232.size) = False := eq_false (by have h_ := c15; simp only [ByteArray.size_append, ByteArray.size_extract, show (⟨#[124]⟩ : ByteArray).size = 1 from rfl, show (⟨#[47]⟩ : ByteArray).size = 1 from rfl] at h_; omega))
    obtain ⟨t233, A16, H⟩ := oB H; (try dsimp only at H)
    by_cases c17 : t233 = true
    ·
     subst c17
     rw [if_pos rfl] at H
     obtain rfl := Option.some.inj H
     go_wp2_with (first | ((with_reducible refine gate_callee (f := 191) rfl ?_); refine gB (some 24) Tryz.func191 #[.int .i64 a1] ?_; (with_reducible refine (spec_Digits.calls k1 a1 t231 _ A11.out).mono ?_); rintro e w18 ⟨rfl, hb⟩; refine ⟨_, rfl, ?_⟩; replace HB := bs HB hb; (try clear hb); (try clear hb2); (try clear hk); (try clear hi)) | ((with_reducible refine gate_callee (f := 217) rfl ?_); refine gB (some 28) Tryz.func217 #[.slice A2 l2.length c2] ?_; (with_reducible refine (spec_TxsText.calls k1 _ _ l2 t232 _ ?side1 ?side2 A14.out).mono ?_); (case side1 => exact ch HR2 HB); (case side2 => exact HC2.out); rintro e w19 ⟨rfl, hb⟩; refine ⟨_, rfl, ?_⟩; replace HB := bs HB hb; (try clear hb); (try clear hb2); (try clear hk); (try clear hi)) | ((with_reducible refine gate_callee (f := 141) rfl ?_); refine gB (some 31) Tryz.func141 #[.string ((((a0 ++ (⟨#[47]⟩ : ByteArray)) ++ t231) ++ (⟨#[124]⟩ : ByteArray)) ++ t232)] ?_; (with_reducible refine (spec_NameOk.calls k1 ((((a0 ++ (⟨#[47]⟩ : ByteArray)) ++ t231) ++ (⟨#[124]⟩ : ByteArray)) ++ t232) true _ A16.out).mono ?_); rintro e w20 ⟨rfl, hb⟩; refine ⟨_, rfl, ?_⟩; replace HB := bs HB hb; (try clear hb); (try clear hb2); (try clear hk); (try clear hi)))
     go_ret
     exact ⟨y0_11, bI HB.out⟩
    replace c17 := Bool.eq_false_iff.mpr c17; subst c17
    rw [if_neg (show ¬ (false = true) by decide)] at H
    obtain rfl := Option.some.inj H
    go_wp2_with (first | ((with_reducible refine gate_callee (f := 191) rfl ?_); refine gB (some 24) Tryz.func191 #[.int .i64 a1] ?_; (with_reducible refine (spec_Digits.calls k1 a1 t231 _ A11.out).mono ?_); rintro e w21 ⟨rfl, hb⟩; refine ⟨_, rfl, ?_⟩; replace HB := bs HB hb; (try clear hb); (try clear hb2); (try clear hk); (try clear hi)) | ((with_reducible refine gate_callee (f := 217) rfl ?_); refine gB (some 28) Tryz.func217 #[.slice A2 l2.length c2] ?_; (with_reducible refine (spec_TxsText.calls k1 _ _ l2 t232 _ ?side1 ?side2 A14.out).mono ?_); (case side1 => exact ch HR2 HB); (case side2 => exact HC2.out); rintro e w22 ⟨rfl, hb⟩; refine ⟨_, rfl, ?_⟩; replace HB := bs HB hb; (try clear hb); (try clear hb2); (try clear hk); (try clear hi)) | ((with_reducible refine gate_callee (f := 141) rfl ?_); refine gB (some 31) Tryz.func141 #[.string ((((a0 ++ (⟨#[47]⟩ : ByteArray)) ++ t231) ++ (⟨#[124]⟩ : ByteArray)) ++ t232)] ?_; (with_reducible refine (spec_NameOk.calls k1 ((((a0 ++ (⟨#[47]⟩ : ByteArray)) ++ t231) ++ (⟨#[124]⟩ : ByteArray)) ++ t232) false _ A16.out).mono ?_); rintro e w23 ⟨rfl, hb⟩; refine ⟨_, rfl, ?_⟩; replace HB := bs HB hb; (try clear hb); (try clear hb2); (try clear hk); (try clear hi)))
    go_ret
    exact ⟨y0_11, bI HB.out⟩
   rw [if_neg c10] at H
   exact absurd H (by simp)

end Go.Proofs.YtnpbopadajbopaaGreatDoor.PFnSafe
