-- By a program of this session, out of the translation (the print of the kit, with turns of its own). Lean checks it.
import Derived.Test.YtemjmefacifdeaaGreatDoorPFnSettlesThreex0
import Derived.Test.YtemjmefacifdeaaGreatDoorPFnSettlesThreex1
import Derived.Test.YtemjmefacifdeaaGreatDoorPFnSettlesThreex2
namespace Go.Proofs.YtemjmefacifdeaaGreatDoor.PFnSettlesThree
open Go.RowKit Go.Proofs.YtemjmefacifdeaaGreatDoorW.PrintWords Go.Proofs.YtemjmefacifdeaaGreatDoorW.PrintLast Go.Proofs.YtemjmefacifdeaaGreatDoorW.PrintMore
attribute [local go_sem] max2_int min2_int max_two min_two max_three min_three max_four min_four   -- for this text's walks alone
set_option linter.unusedVariables false
set_option linter.unusedSimpArgs false

/-! ### spec_Steps: function 103 -/
mutual
def spec_Steps.j0 : Nat → List (S112) → List (S112) → List ByteArray → Bool → Option ((List (S112)) × Bool)
 | 0, _, _, _, _ => none
 | k + 1, x4, x5, x6, x31 => if x31 = true then (some (x4, false)) else (spec_Steps.l0 k x4 x5 x6 0 1)
def spec_Steps.l0 : Nat → List (S112) → List (S112) → List ByteArray → Int → Int → Option ((List (S112)) × Bool)
 | 0, _, _, _, _, _ => none
 | k + 1, x4, x5, x6, x7, x8 => if x8 < (x6.length : Int) then (if 0 ≤ x8 then ((spec_l2Cut.f k (rdOf ByteArray.empty x6 x8) 124).bind fun bt183 => ((spec_Number.f k bt183.1).bind fun bt186 => ((spec_TxsOf.f k bt183.2.1).bind fun bt188 => (if bt183.2.2 = true then (if bt186.2 = true then (if bt188.2 = true then (if bt186.1 ≤ x7 then (some (x4, false)) else (if bt186.1 > 60 then (some (x4, false)) else (if (bt188.1.length : Int) > 2 then (some (x4, false)) else (if x5.length < 4398046511104 then (spec_Steps.l0 k x4 (x5 ++ [(⟨bt186.1, bt188.1⟩ : S112)]) x6 bt186.1 (wrap64 (x8 + 1))) else (none))))) else (some (x4, false))) else (some (x4, false))) else (some (x4, false)))))) else (none)) else (some (x5, true))
end
def spec_Steps.f (k : Nat) (a0 : ByteArray) : Option ((List (S112)) × Bool) := (some (([] : List (S112)) : List (S112))).bind fun y172 => ((some (([] : List (S112)) : List (S112))).bind fun y175 => (if a0.toList = ([] : List UInt8) then (some (y175, true)) else ((spec_Split.f k a0 47).bind fun t178 => (if 0 < (t178.length : Int) then (if (rdOf ByteArray.empty t178 0).toList = ([] : List UInt8) then (spec_Steps.j0 k y172 y175 t178 (decide ((t178.length : Int) > 31))) else (spec_Steps.j0 k y172 y175 t178 true)) else (none)))))
theorem spec_Steps.mono_l : ∀ k, (∀ y0 y1 y2 y3, LeO (spec_Steps.j0 k y0 y1 y2 y3) (spec_Steps.j0 (k + 1) y0 y1 y2 y3)) ∧ (∀ y0 y1 y2 y3 y4, LeO (spec_Steps.l0 k y0 y1 y2 y3 y4) (spec_Steps.l0 (k + 1) y0 y1 y2 y3 y4))
 | 0 => ⟨fun _ _ _ _ r h => by simp [spec_Steps.j0] at h, fun _ _ _ _ _ r h => by simp [spec_Steps.l0] at h⟩
 | k + 1 => by
  obtain ⟨ih0, ih1⟩ := spec_Steps.mono_l k
  refine ⟨?_, ?_⟩
  ·
   intro y0 y1 y2 y3
   unfold spec_Steps.j0
   repeat' first | (with_reducible exact ih0 _ _ _ _) | (with_reducible exact ih1 _ _ _ _ _) | (with_reducible exact spec_Number.mono _ _) | (with_reducible exact spec_Split.mono _ _ _) | (with_reducible exact spec_TxsOf.mono _ _) | (with_reducible exact spec_l2Cut.mono _ _ _) | (with_reducible exact LeO.refl _) | (with_reducible exact LeO.none _) | (with_reducible refine LeO.ite ?_ ?_) | (with_reducible refine LeO.bind ?_ (fun _ => ?_))
  intro y0 y1 y2 y3 y4
  unfold spec_Steps.l0
  repeat' first | (with_reducible exact ih0 _ _ _ _) | (with_reducible exact ih1 _ _ _ _ _) | (with_reducible exact spec_Number.mono _ _) | (with_reducible exact spec_Split.mono _ _ _) | (with_reducible exact spec_TxsOf.mono _ _) | (with_reducible exact spec_l2Cut.mono _ _ _) | (with_reducible exact LeO.refl _) | (with_reducible exact LeO.none _) | (with_reducible refine LeO.ite ?_ ?_) | (with_reducible refine LeO.bind ?_ (fun _ => ?_))
theorem spec_Steps.mono : ∀ a0 k, LeO (spec_Steps.f k a0) (spec_Steps.f (k + 1) a0) := by
 intro a0 k
 obtain ⟨ih0, ih1⟩ := spec_Steps.mono_l k
 unfold spec_Steps.f
 repeat' first | (with_reducible exact ih0 _ _ _ _) | (with_reducible exact ih1 _ _ _ _ _) | (with_reducible exact spec_Number.mono _ _) | (with_reducible exact spec_Split.mono _ _ _) | (with_reducible exact spec_TxsOf.mono _ _) | (with_reducible exact spec_l2Cut.mono _ _ _) | (with_reducible exact LeO.refl _) | (with_reducible exact LeO.none _) | (with_reducible refine LeO.ite ?_ ?_) | (with_reducible refine LeO.bind ?_ (fun _ => ?_))
set_option maxHeartbeats 8000000 in
set_option maxRecDepth 100000 in
theorem spec_Steps.calls (k : Nat) (a0 : ByteArray) (r1 : List (S112)) (r2 : Bool) (w : World) (h : spec_Steps.f k a0 = some (r1, r2)) :
  Calls Tryz.prog 103 #[.string a0] w fun e w' => ∃ v0_ : Value, e = .returned (.tuple #[v0_, .bool r2]) ∧ Kd.S k112 112 w' w.heap.size (fun _ => True) v0_ r1 ∧ Below w.heap.size w w' := by
 have hu112 := Tryz.underlying112; have HB := Aside0.mk (Below.refl w.heap.size w)
 have H : ((some (([] : List (S112)) : List (S112))).bind fun y172 => ((some (([] : List (S112)) : List (S112))).bind fun y175 => (if a0.toList = ([] : List UInt8) then (some (y175, true)) else ((spec_Split.f k a0 47).bind fun t178 => (if 0 < (t178.length : Int) then (if (rdOf ByteArray.empty t178 0).toList = ([] : List UInt8) then (spec_Steps.j0 k y172 y175 t178 (decide ((t178.length : Int) > 31))) else (spec_Steps.j0 k y172 y175 t178 true)) else (none)))))) = some (r1, r2) := h
 clear h; obtain ⟨y172, hy172⟩ : ∃ y_ : List (S112), y_ = (([] : List (S112))) := ⟨_, rfl⟩
 replace H : ((some (([] : List (S112)) : List (S112))).bind fun y175 => (if a0.toList = ([] : List UInt8) then (some (y175, true)) else ((spec_Split.f k a0 47).bind fun t178 => (if 0 < (t178.length : Int) then (if (rdOf ByteArray.empty t178 0).toList = ([] : List UInt8) then (spec_Steps.j0 k y172 y175 t178 (decide ((t178.length : Int) > 31))) else (spec_Steps.j0 k y172 y175 t178 true)) else (none))))) = some (r1, r2) := by first | (rw [hy172]; with_reducible exact H) | (have H2_ := (Option.bind_some _ _).symm.trans H; rw [hy172]; with_reducible exact H2_) | (have H2_ := (Option.bind_some _ _).symm.trans H; with_reducible exact H2_) | with_reducible exact H | (rw [hy172]; exact H) | exact H
 have Ny172 := Aside0.mk hy172; clear hy172; obtain ⟨y175, hy175⟩ : ∃ y_ : List (S112), y_ = (([] : List (S112))) := ⟨_, rfl⟩
 replace H : (if a0.toList = ([] : List UInt8) then (some (y175, true)) else ((spec_Split.f k a0 47).bind fun t178 => (if 0 < (t178.length : Int) then (if (rdOf ByteArray.empty t178 0).toList = ([] : List UInt8) then (spec_Steps.j0 k y172 y175 t178 (decide ((t178.length : Int) > 31))) else (spec_Steps.j0 k y172 y175 t178 true)) else (none)))) = some (r1, r2) := by first | (rw [hy175]; with_reducible exact H) | (have H2_ := (Option.bind_some _ _).symm.trans H; rw [hy175]; with_reducible exact H2_) | (have H2_ := (Option.bind_some _ _).symm.trans H; with_reducible exact H2_) | with_reducible exact H | (rw [hy175]; exact H) | exact H
 have Ny175 := Aside0.mk hy175; clear hy175
 by_cases c2 : a0.toList = ([] : List UInt8)
 ·
  rw [if_pos c2] at H
  have c2b0 : (a0.toList == ([] : List UInt8)) = true := beq_iff_eq.mpr c2; have c2b1 : (a0.toList != ([] : List UInt8)) = false := bne_eq_false_iff_eq.mpr c2; clear c2
  simp only [Option.some.injEq, Prod.mk.injEq] at H
  obtain ⟨rfl, rfl⟩ := H
  go_enter Tryz.func103, Tryz.ntmps103
  go_wp2_with (first | ((with_reducible refine gate_dst (N := 16) rfl ?_); (try (refine gate_guard (by rfl) ?_; dsimp only)); refine Kd.S_lit k112 _ 112 ?hg (N := 16) ?hd (xs := ([] : List (S112))) (inner := []) (ok := fun _ => True) (okp := fun _ => True) ?hr ?hp (fun _ hk => hk) trivial (Below.refl _ _) (Nat.le_refl _) (by simp) ?_; (case hd => rfl); (case hg => rfl); (case hr => first | (go_simp; done) | (go_simp; rfl)); (case hp => exact (Reps.none _ _)); intro v173 w3 ho4 hb hg_ hnew_; clear hg_ hnew_; (first | rw [← Ny172.out] at ho4 | (simp only [Int.reduceToNat] at ho4; rw [← Ny172.out] at ho4)); have HO174 := Aside0.mk (Kd.S_lower ho4 (below_size (bI HB.out))); replace HB := bs HB hb; clear hb ho4) | ((with_reducible refine gate_dst (N := 17) rfl ?_); (try (refine gate_guard (by rfl) ?_; dsimp only)); refine Kd.S_lit k112 _ 112 ?hg (N := 17) ?hd (xs := ([] : List (S112))) (inner := []) (ok := fun _ => True) (okp := fun _ => True) ?hr ?hp (fun _ hk => hk) trivial (Below.refl _ _) (Nat.le_refl _) (by simp) ?_; (case hd => rfl); (case hg => rfl); (case hr => first | (go_simp; done) | (go_simp; rfl)); (case hp => exact (Reps.none _ _)); intro v176 w5 ho6 hb hg_ hnew_; clear hg_ hnew_; (first | rw [← Ny175.out] at ho6 | (simp only [Int.reduceToNat] at ho6; rw [← Ny175.out] at ho6)); have HO177 := Aside0.mk (Kd.S_lower (Kd.S_new' ho6 (Kd.S_lt (sI HO174.out))) (below_size (bI HB.out))); replace HO174 := Aside0.mk (Kd.S_elder' (sI HO174.out) (Kd.S_base ho6) hb); replace HB := bs HB hb; clear hb ho6))
  go_ret2
  exact ⟨_, y0_6, by (with_reducible repeat (first | apply Kd.S_alloc | apply Kd.S_drewN | apply Kd.S_drew)); exact Kd.S_mono HO177.out (fun _ hk => trivial), bI HB.out⟩
 rw [if_neg c2] at H
 have c2b0 : (a0.toList == ([] : List UInt8)) = false := beq_eq_false_iff_ne.mpr c2; have c2b1 : (a0.toList != ([] : List UInt8)) = true := bne_iff_ne.mpr c2; obtain ⟨t178, A70, H⟩ := Option.bind_eq_some_iff.mp H
 try dsimp only at H
 have A7 := Aside0.mk A70; clear A70; have HC8 := Aside0.mk H; clear H
 go_enter Tryz.func103, Tryz.ntmps103
 go_upto_region 6 with (first | ((with_reducible refine gate_dst (N := 16) rfl ?_); (try (refine gate_guard (by rfl) ?_; dsimp only)); refine Kd.S_lit k112 _ 112 ?hg (N := 16) ?hd (xs := ([] : List (S112))) (inner := []) (ok := fun _ => True) (okp := fun _ => True) ?hr ?hp (fun _ hk => hk) trivial (Below.refl _ _) (Nat.le_refl _) (by simp) ?_; (case hd => rfl); (case hg => rfl); (case hr => first | (go_simp; done) | (go_simp; rfl)); (case hp => exact (Reps.none _ _)); intro v173 w9 ho10 hb hg_ hnew_; clear hg_ hnew_; (first | rw [← Ny172.out] at ho10 | (simp only [Int.reduceToNat] at ho10; rw [← Ny172.out] at ho10)); have HO174 := Aside0.mk (Kd.S_lower ho10 (below_size (bI HB.out))); replace HB := bs HB hb; clear hb ho10) | ((with_reducible refine gate_dst (N := 17) rfl ?_); (try (refine gate_guard (by rfl) ?_; dsimp only)); refine Kd.S_lit k112 _ 112 ?hg (N := 17) ?hd (xs := ([] : List (S112))) (inner := []) (ok := fun _ => True) (okp := fun _ => True) ?hr ?hp (fun _ hk => hk) trivial (Below.refl _ _) (Nat.le_refl _) (by simp) ?_; (case hd => rfl); (case hg => rfl); (case hr => first | (go_simp; done) | (go_simp; rfl)); (case hp => exact (Reps.none _ _)); intro v176 w11 ho12 hb hg_ hnew_; clear hg_ hnew_; (first | rw [← Ny175.out] at ho12 | (simp only [Int.reduceToNat] at ho12; rw [← Ny175.out] at ho12)); have HO177 := Aside0.mk (Kd.S_lower (Kd.S_new' ho12 (Kd.S_lt (sI HO174.out))) (below_size (bI HB.out))); replace HO174 := Aside0.mk (Kd.S_elder' (sI HO174.out) (Kd.S_base ho12) hb); replace HB := bs HB hb; clear hb ho12) | ((with_reducible refine gate_callee (f := 127) rfl ?_); refine gB (some 22) Tryz.func127 #[.string a0, .int .u8 47] ?_; (with_reducible refine (spec_Split.calls k a0 47 t178 _ A7.out).mono ?_); rintro e w13 ⟨v179, rfl, ho0, hb⟩; refine ⟨_, rfl, ?_⟩; replace HO174 := sb HO174 hb; replace HO177 := sb HO177 hb; have HO180 := Aside0.mk (Kd.R_lower ho0 (below_size (bI HB.out))); replace HB := bs HB hb; (try clear hb); (try clear ho0)))
 (try simp only [Act.put, List.setIfInBounds_toArray, List.set_cons_zero, List.set_cons_succ])
 go_cut [31] (fun v31 wc => ∃ (kq : Nat) (x31_7 : Bool), v31 = .bool x31_7 ∧ Aside0 (spec_Steps.j0 kq y172 y175 t178 x31_7 = some (r1, r2)) ∧ Aside0 (kq ≤ k) ∧ Aside0 (Kd.S k112 112 wc w.heap.size (fun k_ => some k_ ≠ (v176 : Value).ownBlock) v173 y172) ∧ Aside0 (Kd.S k112 112 wc w.heap.size (fun k_ => some k_ ≠ (v173 : Value).ownBlock) v176 y175) ∧ Aside0 (Kd.R Kd.string 9 wc w.heap.size (fun _ => True) v179 t178) ∧ Aside0 (Below w.heap.size w wc))
 case first =>
  have H := HC8.out; clear HC8
  by_cases c14 : 0 < (t178.length : Int)
  rotate_left
  ·
   rw [if_neg c14] at H
   exact absurd H (by simp)
  rw [if_pos c14] at H
  have c14b0 : decide (0 < (t178.length : Int)) = true := decide_eq_true c14
  have c14b1 : decide (0 < t178.length) = true := decide_eq_true (by omega)
  clear c14
  (first | rw [c14b0] | (simp only [i64_w, i32_w]; rw [c14b0]) | skip)
  by_cases c15 : (rdOf ByteArray.empty t178 0).toList = ([] : List UInt8)
  ·
   rw [if_pos c15] at H
   have c15b0 : ((rdOf ByteArray.empty t178 0).toList == ([] : List UInt8)) = true := beq_iff_eq.mpr c15; have c15b1 : ((rdOf ByteArray.empty t178 0).toList != ([] : List UInt8)) = false := bne_eq_false_iff_eq.mpr c15; clear c15; have H' := Aside0.mk H; clear H; obtain ⟨Ao16, co16, eo16⟩ := Kd.R_slice HO180.out; subst eo16
   have p181 : 0 ≤ (0 : Int) := (by omega)
   have q181 : 0 < (t178.length : Int) := of_decide_eq_true y0_8; obtain ⟨ad181, e181, hx181_0⟩ := Kd.at_string (Kd.R_reads' HO180.out).2.2 0 p181 q181; cases e181
   have qi181 : (0 < t178.length) = True := eq_true (by omega)
   (try rw [show ((0 : Int)).toNat = 0 from rfl] at hx181_0)
   (try rw [Addr.add_zero'] at hx181_0)
   replace p181 := eq_true p181; replace q181 := eq_true q181
   go_wp2
   go_meet
   case rel => exact ⟨_, (decide ((t178.length : Int) > 31)), y0_9, H', ⟨y0_10⟩, ⟨by (with_reducible repeat (first | apply Kd.S_alloc | apply Kd.S_drewN | apply Kd.S_drew)); exact Kd.S_mono HO174.out (fun _ hk => hk.2)⟩, ⟨by (with_reducible repeat (first | apply Kd.S_alloc | apply Kd.S_drewN | apply Kd.S_drew)); exact Kd.S_mono HO177.out (fun _ hk => hk.2)⟩, ⟨by (with_reducible repeat (first | apply Kd.R_alloc | apply Kd.R_drewN | apply Kd.R_drew)); exact HO180.out⟩, ⟨bI HB.out⟩⟩
  rw [if_neg c15] at H
  have c15b0 : ((rdOf ByteArray.empty t178 0).toList == ([] : List UInt8)) = false := beq_eq_false_iff_ne.mpr c15; have c15b1 : ((rdOf ByteArray.empty t178 0).toList != ([] : List UInt8)) = true := bne_iff_ne.mpr c15; have H' := Aside0.mk H; clear H; obtain ⟨Ao17, co17, eo17⟩ := Kd.R_slice HO180.out; subst eo17
  have p181 : 0 ≤ (0 : Int) := (by omega)
  have q181 : 0 < (t178.length : Int) := of_decide_eq_true y0_8; obtain ⟨ad181, e181, hx181_0⟩ := Kd.at_string (Kd.R_reads' HO180.out).2.2 0 p181 q181; cases e181
  have qi181 : (0 < t178.length) = True := eq_true (by omega)
  (try rw [show ((0 : Int)).toNat = 0 from rfl] at hx181_0)
  (try rw [Addr.add_zero'] at hx181_0)
  replace p181 := eq_true p181; replace q181 := eq_true q181
  go_wp2
  go_meet
  case rel => exact ⟨_, (true), y0_9, H', ⟨y0_10⟩, ⟨by (with_reducible repeat (first | apply Kd.S_alloc | apply Kd.S_drewN | apply Kd.S_drew)); exact Kd.S_mono HO174.out (fun _ hk => hk.2)⟩, ⟨by (with_reducible repeat (first | apply Kd.S_alloc | apply Kd.S_drewN | apply Kd.S_drew)); exact Kd.S_mono HO177.out (fun _ hk => hk.2)⟩, ⟨by (with_reducible repeat (first | apply Kd.R_alloc | apply Kd.R_drewN | apply Kd.R_drew)); exact HO180.out⟩, ⟨bI HB.out⟩⟩
 case rest =>
  clear HC8
  try clear c1
  try clear p1
  try clear q1
  try clear hx1
  try clear qi1
  try clear c2
  try clear c2b0
  try clear c2b1
  try clear p2
  try clear c10
  try clear c12
  try clear c14
  try clear c14b0
  try clear c14b1
  try clear c15
  try clear c15b0
  try clear c15b1
  try clear hx181_0
  try clear p181
  try clear q181
  obtain ⟨kq, x31_7, rfl, HA, HJ7, HO_4, HO_5, HO_6, HB⟩ := hcut; cases kq with
  | zero => exact absurd HA.out (by simp [spec_Steps.j0])
  | succ kj7 =>
   have H := HA.out; clear HA
   simp only [spec_Steps.j0] at H
   by_cases c18 : x31_7 = true
   ·
    subst c18
    rw [if_pos rfl] at H
    simp only [Option.some.injEq, Prod.mk.injEq] at H
    obtain ⟨rfl, rfl⟩ := H
    go_wp2
    go_ret2
    exact ⟨_, y0_6, y0_3, bI HB.out⟩
   replace c18 := Bool.eq_false_iff.mpr c18; subst c18
   rw [if_neg (show ¬ (false = true) by decide)] at H
   have H' := Aside0.mk H; clear H
   go_wp2
   go_loopg [5, 7, 8] kj7 (fun kq v5 v7 v8 w' => ∃ (x5_2 : List (S112)) (x7_2 : Int) (x8_2 : Int), v7 = .int .i64 x7_2 ∧ v8 = .int .i64 x8_2 ∧ Aside0 (spec_Steps.l0 kq y172 x5_2 t178 x7_2 x8_2 = some (r1, r2)) ∧ Aside0 (kq ≤ kj7) ∧ Aside0 (Kd.S k112 112 w' w.heap.size (fun k_ => some k_ ≠ (v5 : Value).ownBlock) v173 y172) ∧ Aside0 (Kd.S k112 112 w' w.heap.size (fun k_ => some k_ ≠ (v173 : Value).ownBlock) v5 x5_2) ∧ Aside0 (Kd.R Kd.string 9 w' w.heap.size (fun _ => True) v179 t178) ∧ Aside0 (Below w.heap.size w w'))
   case atStart => exact ⟨(y175), (0), (1), y0_9, y0_9, H', ⟨Nat.le_refl _⟩, ⟨by (with_reducible repeat (first | apply Kd.S_alloc | apply Kd.S_drewN | apply Kd.S_drew)); exact HO_4.out⟩, ⟨by (with_reducible repeat (first | apply Kd.S_alloc | apply Kd.S_drewN | apply Kd.S_drew)); exact HO_5.out⟩, ⟨by (with_reducible repeat (first | apply Kd.R_alloc | apply Kd.R_drewN | apply Kd.R_drew)); exact HO_6.out⟩, ⟨bI HB.out⟩⟩
   case round =>
    clear H'
    try clear c1
    try clear p1
    try clear q1
    try clear hx1
    try clear qi1
    try clear c2
    try clear c2b0
    try clear c2b1
    try clear p2
    try clear c10
    try clear c12
    try clear c14
    try clear c14b0
    try clear c14b1
    try clear c15
    try clear c15b0
    try clear c15b1
    try clear c18
    try clear p18
    try clear q18
    try clear hx18
    try clear qi18
    try clear hx181_0
    try clear p1
    try clear p181
    try clear p2
    try clear q1
    try clear q181
    obtain ⟨x5_2, x7_2, x8_2, rfl, rfl, HA, HK2, HO_4, HO_5, HO_6, HB⟩ := hrel; cases gk with
    | zero => exact absurd HA.out (by simp [spec_Steps.l0])
    | succ k2 =>
     have H := HA.out; clear HA
     simp only [spec_Steps.l0] at H
     by_cases c19 : x8_2 < (t178.length : Int)
     ·
      rw [if_pos c19] at H
      have c19b0 : decide (x8_2 < (t178.length : Int)) = true := decide_eq_true c19; clear c19
      by_cases c20 : 0 ≤ x8_2
      rotate_left
      ·
       rw [if_neg c20] at H
       exact absurd H (by simp)
      rw [if_pos c20] at H
      have c20b0 : decide (0 ≤ x8_2) = true := decide_eq_true c20; clear c20; obtain ⟨⟨t183, t184, t185⟩, A210, H⟩ := Option.bind_eq_some_iff.mp H
      try dsimp only at H
      have A21 := Aside0.mk A210; clear A210; obtain ⟨⟨t186, t187⟩, A220, H⟩ := Option.bind_eq_some_iff.mp H
      try dsimp only at H
      have A22 := Aside0.mk A220; clear A220; obtain ⟨⟨t188, t189⟩, A230, H⟩ := Option.bind_eq_some_iff.mp H
      try dsimp only at H
      have A23 := Aside0.mk A230; clear A230
      by_cases c24 : t185 = true
      ·
       subst c24
       rw [if_pos rfl] at H
       by_cases c25 : t187 = true
       ·
        subst c25
        rw [if_pos rfl] at H
        by_cases c26 : t189 = true
        ·
         subst c26
         rw [if_pos rfl] at H
         by_cases c27 : t186 ≤ x7_2
         ·
          rw [if_pos c27] at H
          have c27b0 : decide (t186 ≤ x7_2) = true := decide_eq_true c27; clear c27
          simp only [Option.some.injEq, Prod.mk.injEq] at H
          obtain ⟨rfl, rfl⟩ := H; obtain ⟨Ao28, co28, eo28⟩ := Kd.R_slice HO_6.out; subst eo28; have p182 : 0 ≤ (x8_2 : Int) := of_decide_eq_true y0_8; have q182 : x8_2 < (t178.length : Int) := of_decide_eq_true y0_8; obtain ⟨ad182, e182, hx182_0⟩ := Kd.at_string (Kd.R_reads' HO_6.out).2.2 x8_2 p182 q182; cases e182; replace p182 := eq_true p182; replace q182 := eq_true q182
          go_wp2_with (first | ((with_reducible refine gate_callee (f := 128) rfl ?_); refine gB (some 44) Tryz.func128 #[.string (rdOf ByteArray.empty t178 x8_2), .int .u8 124] ?_; (with_reducible refine (spec_l2Cut.calls k2 (rdOf ByteArray.empty t178 x8_2) 124 t183 t184 true _ A21.out).mono ?_); rintro e w' ⟨rfl, ⟨nd, rfl⟩⟩; refine ⟨_, rfl, ?_⟩) | ((with_reducible refine gate_callee (f := 129) rfl ?_); refine gB (some 50) Tryz.func129 #[.string t183] ?_; (with_reducible refine (spec_Number.calls k2 t183 t186 true _ A22.out).mono ?_); rintro e w29 ⟨rfl, hb⟩; refine ⟨_, rfl, ?_⟩; replace HO_4 := sb HO_4 hb; replace HO_5 := sb HO_5 hb; replace HO_6 := rb HO_6 hb; replace HB := bs HB hb; (try clear hb); (try clear hb2); (try clear hk); (try clear hi)) | ((with_reducible refine gate_callee (f := 130) rfl ?_); refine gB (some 55) Tryz.func130 #[.string t184] ?_; (with_reducible refine (spec_TxsOf.calls k2 t184 t188 true _ A23.out).mono ?_); rintro e w30 ⟨v190, rfl, ho0, hb⟩; refine ⟨_, rfl, ?_⟩; replace HO_4 := Aside0.mk (Kd.S_elder' (sI HO_4.out) (Kd.R_base ho0) hb); replace HO_5 := Aside0.mk (Kd.S_elder' (sI HO_5.out) (Kd.R_base ho0) hb); replace HO_6 := rb HO_6 hb; have HO191 := Aside0.mk (Kd.R_lower ho0 (below_size (bI HB.out))); replace HB := bs HB hb; (try clear hb)))
          go_ret2
          exact ⟨_, y0_6, y0_3, bI HB.out⟩
         rw [if_neg c27] at H
         have c27b0 : decide (t186 ≤ x7_2) = false := decide_eq_false c27; clear c27
         by_cases c31 : t186 > 60
         ·
          rw [if_pos c31] at H
          have c31b0 : decide (60 < t186) = true := decide_eq_true c31; clear c31
          simp only [Option.some.injEq, Prod.mk.injEq] at H
          obtain ⟨rfl, rfl⟩ := H; obtain ⟨Ao32, co32, eo32⟩ := Kd.R_slice HO_6.out; subst eo32; have p182 : 0 ≤ (x8_2 : Int) := of_decide_eq_true y0_8; have q182 : x8_2 < (t178.length : Int) := of_decide_eq_true y0_8; obtain ⟨ad182, e182, hx182_0⟩ := Kd.at_string (Kd.R_reads' HO_6.out).2.2 x8_2 p182 q182; cases e182; replace p182 := eq_true p182; replace q182 := eq_true q182
          go_wp2_with (first | ((with_reducible refine gate_callee (f := 128) rfl ?_); refine gB (some 44) Tryz.func128 #[.string (rdOf ByteArray.empty t178 x8_2), .int .u8 124] ?_; (with_reducible refine (spec_l2Cut.calls k2 (rdOf ByteArray.empty t178 x8_2) 124 t183 t184 true _ A21.out).mono ?_); rintro e w' ⟨rfl, ⟨nd, rfl⟩⟩; refine ⟨_, rfl, ?_⟩) | ((with_reducible refine gate_callee (f := 129) rfl ?_); refine gB (some 50) Tryz.func129 #[.string t183] ?_; (with_reducible refine (spec_Number.calls k2 t183 t186 true _ A22.out).mono ?_); rintro e w33 ⟨rfl, hb⟩; refine ⟨_, rfl, ?_⟩; replace HO_4 := sb HO_4 hb; replace HO_5 := sb HO_5 hb; replace HO_6 := rb HO_6 hb; replace HB := bs HB hb; (try clear hb); (try clear hb2); (try clear hk); (try clear hi)) | ((with_reducible refine gate_callee (f := 130) rfl ?_); refine gB (some 55) Tryz.func130 #[.string t184] ?_; (with_reducible refine (spec_TxsOf.calls k2 t184 t188 true _ A23.out).mono ?_); rintro e w34 ⟨v190, rfl, ho0, hb⟩; refine ⟨_, rfl, ?_⟩; replace HO_4 := Aside0.mk (Kd.S_elder' (sI HO_4.out) (Kd.R_base ho0) hb); replace HO_5 := Aside0.mk (Kd.S_elder' (sI HO_5.out) (Kd.R_base ho0) hb); replace HO_6 := rb HO_6 hb; have HO191 := Aside0.mk (Kd.R_lower ho0 (below_size (bI HB.out))); replace HB := bs HB hb; (try clear hb)))
          go_ret2
          exact ⟨_, y0_6, y0_3, bI HB.out⟩
         rw [if_neg c31] at H
         have c31b0 : decide (60 < t186) = false := decide_eq_false c31; clear c31
         by_cases c35 : (t188.length : Int) > 2
         ·
          rw [if_pos c35] at H
          have c35b0 : decide (2 < (t188.length : Int)) = true := decide_eq_true c35
          have c35b1 : decide (2 < t188.length) = true := decide_eq_true (by omega)
          clear c35
          simp only [Option.some.injEq, Prod.mk.injEq] at H
          obtain ⟨rfl, rfl⟩ := H; obtain ⟨Ao36, co36, eo36⟩ := Kd.R_slice HO_6.out; subst eo36; have p182 : 0 ≤ (x8_2 : Int) := of_decide_eq_true y0_8; have q182 : x8_2 < (t178.length : Int) := of_decide_eq_true y0_8; obtain ⟨ad182, e182, hx182_0⟩ := Kd.at_string (Kd.R_reads' HO_6.out).2.2 x8_2 p182 q182; cases e182; replace p182 := eq_true p182; replace q182 := eq_true q182
          go_wp2_with (first | ((with_reducible refine gate_callee (f := 128) rfl ?_); refine gB (some 44) Tryz.func128 #[.string (rdOf ByteArray.empty t178 x8_2), .int .u8 124] ?_; (with_reducible refine (spec_l2Cut.calls k2 (rdOf ByteArray.empty t178 x8_2) 124 t183 t184 true _ A21.out).mono ?_); rintro e w' ⟨rfl, ⟨nd, rfl⟩⟩; refine ⟨_, rfl, ?_⟩) | ((with_reducible refine gate_callee (f := 129) rfl ?_); refine gB (some 50) Tryz.func129 #[.string t183] ?_; (with_reducible refine (spec_Number.calls k2 t183 t186 true _ A22.out).mono ?_); rintro e w37 ⟨rfl, hb⟩; refine ⟨_, rfl, ?_⟩; replace HO_4 := sb HO_4 hb; replace HO_5 := sb HO_5 hb; replace HO_6 := rb HO_6 hb; replace HB := bs HB hb; (try clear hb); (try clear hb2); (try clear hk); (try clear hi)) | ((with_reducible refine gate_callee (f := 130) rfl ?_); refine gB (some 55) Tryz.func130 #[.string t184] ?_; (with_reducible refine (spec_TxsOf.calls k2 t184 t188 true _ A23.out).mono ?_); rintro e w38 ⟨v190, rfl, ho0, hb⟩; refine ⟨_, rfl, ?_⟩; replace HO_4 := Aside0.mk (Kd.S_elder' (sI HO_4.out) (Kd.R_base ho0) hb); replace HO_5 := Aside0.mk (Kd.S_elder' (sI HO_5.out) (Kd.R_base ho0) hb); replace HO_6 := rb HO_6 hb; have HO191 := Aside0.mk (Kd.R_lower ho0 (below_size (bI HB.out))); replace HB := bs HB hb; (try clear hb); obtain ⟨Ao39, co39, eo39⟩ := Kd.R_slice HO191.out; subst eo39))
          go_ret2
          exact ⟨_, y0_6, y0_3, bI HB.out⟩
         rw [if_neg c35] at H
         have c35b0 : decide (2 < (t188.length : Int)) = false := decide_eq_false c35
         have c35b1 : decide (2 < t188.length) = false := decide_eq_false (by omega)
         clear c35
         by_cases c40 : x5_2.length < 4398046511104
         rotate_left
         ·
          rw [if_neg c40] at H
          exact absurd H (by simp)
         rw [if_pos c40] at H
         have LMc40 := Aside0.mk c40; clear c40; obtain ⟨y192, hy192⟩ : ∃ y_ : List (S112), y_ = (x5_2 ++ [(⟨t186, t188⟩ : S112)]) := ⟨_, rfl⟩
         replace H : (spec_Steps.l0 k2 y172 y192 t178 t186 (wrap64 (x8_2 + 1))) = some (r1, r2) := by first | (rw [hy192]; with_reducible exact H) | (have H2_ := (Option.bind_some _ _).symm.trans H; rw [hy192]; with_reducible exact H2_) | (have H2_ := (Option.bind_some _ _).symm.trans H; with_reducible exact H2_) | with_reducible exact H | (rw [hy192]; exact H) | exact H
         have Ny192 := Aside0.mk hy192; clear hy192; have H' := Aside0.mk H; clear H; obtain ⟨Ao41, co41, eo41⟩ := Kd.R_slice HO_6.out; subst eo41; have p182 : 0 ≤ (x8_2 : Int) := of_decide_eq_true y0_8; have q182 : x8_2 < (t178.length : Int) := of_decide_eq_true y0_8; obtain ⟨ad182, e182, hx182_0⟩ := Kd.at_string (Kd.R_reads' HO_6.out).2.2 x8_2 p182 q182; cases e182; replace p182 := eq_true p182; replace q182 := eq_true q182
         go_wp2_with (first | ((with_reducible refine gate_callee (f := 128) rfl ?_); refine gB (some 44) Tryz.func128 #[.string (rdOf ByteArray.empty t178 x8_2), .int .u8 124] ?_; (with_reducible refine (spec_l2Cut.calls k2 (rdOf ByteArray.empty t178 x8_2) 124 t183 t184 true _ A21.out).mono ?_); rintro e w' ⟨rfl, ⟨nd, rfl⟩⟩; refine ⟨_, rfl, ?_⟩) | ((with_reducible refine gate_callee (f := 129) rfl ?_); refine gB (some 50) Tryz.func129 #[.string t183] ?_; (with_reducible refine (spec_Number.calls k2 t183 t186 true _ A22.out).mono ?_); rintro e w42 ⟨rfl, hb⟩; refine ⟨_, rfl, ?_⟩; replace HO_4 := sb HO_4 hb; replace HO_5 := sb HO_5 hb; replace HO_6 := rb HO_6 hb; replace HB := bs HB hb; (try clear hb); (try clear hb2); (try clear hk); (try clear hi)) | ((with_reducible refine gate_callee (f := 130) rfl ?_); refine gB (some 55) Tryz.func130 #[.string t184] ?_; (with_reducible refine (spec_TxsOf.calls k2 t184 t188 true _ A23.out).mono ?_); rintro e w43 ⟨v190, rfl, ho0, hb⟩; refine ⟨_, rfl, ?_⟩; replace HO_4 := Aside0.mk (Kd.S_elder' (sI HO_4.out) (Kd.R_base ho0) hb); replace HO_5 := Aside0.mk (Kd.S_elder' (sI HO_5.out) (Kd.R_base ho0) hb); replace HO_6 := rb HO_6 hb; have HO191 := Aside0.mk (Kd.R_lower ho0 (below_size (bI HB.out))); replace HB := bs HB hb; (try clear hb); obtain ⟨Ao44, co44, eo44⟩ := Kd.R_slice HO191.out; subst eo44) | ((with_reducible refine gate_builtin (b := .append) (xs := #[.tmp 84, .tmp 88]) rfl ?_); (try (refine gate_guard (by rfl) ?_; dsimp only)); at_builtin; refine Kd.S_append k112 (w0 := w) w.heap.size rfl (.tmp 84) (.tmp 88) 108 112 (.agg #[(.int .i64 0), (.slice none 0 0)]) 32 rfl Tryz.underlying108 info112 rfl (by decide) (by omega) u5 x5_2 (⟨t186, t188⟩ : S112) [.int .i64 t186, .slice Ao44 t188.length co44] (fun k_ => some k_ ≠ (v173 : Value).ownBlock) (fun k_ => some k_ = (.slice Ao44 t188.length co44 : Value).ownBlock) rfl rfl ?aP (fun k_ hk_ => ((Kd.R_mono (ok' := fun k_ => ((fun k_ => some k_ ≠ (v173 : Value).ownBlock)) k_ ∧ some k_ ≠ (u5 : Value).ownBlock) (Kd.R_apart' (Kd.R_apart' (HO191.out) (Kd.S_typed HO_4.out) (by decide)) (Kd.S_typed HO_5.out) (by decide)) (fun k_ hk => ⟨hk.1.2, hk.2⟩))).1 k_ hk_.symm) ?aF ?aO ?aB ?aS ?aL ?_; (case aP => exact k112_mkM _ _ _ (⟨t186, t188⟩ : S112) (Kd.R_mono (Kd.R_tight rfl (Kd.R_mono (ok' := fun k_ => ((fun k_ => some k_ ≠ (v173 : Value).ownBlock)) k_ ∧ some k_ ≠ (u5 : Value).ownBlock) (Kd.R_apart' (Kd.R_apart' (HO191.out) (Kd.S_typed HO_4.out) (by decide)) (Kd.S_typed HO_5.out) (by decide)) (fun k_ hk => ⟨hk.1.2, hk.2⟩))) (fun _ h_ => h_))); (case aB => exact (bI HB.out)); (case aF => exact (fun k_ hk => Kd.fresh' (Kd.S_lt (sI HO_4.out)) k_ hk)); (case aO => exact (sI (Kd.S_mono HO_5.out (fun k_ hk => ⟨hk.1, fun e_ => hk.2 e_⟩)))); (case aS => exact (below_size (bI HB.out))); (case aL => have := LMc40.out; omega); intro v193 w45 ho hb hg hat; rw [← Ny192.out] at ho; have n0_ := Aside0.mk (Kd.S_after (ok := (fun k_ => some k_ ≠ (.slice Ao44 t188.length co44 : Value).ownBlock)) (sI (Kd.S_mono HO_4.out (fun _ hk => ⟨hk.2, hk.1⟩))) hg hat); have n1_ := Aside0.mk (Kd.R_over' (rI HO_6.out) (Kd.S_typed (sI HO_5.out)) (by decide) hg); have n2_ := Aside0.mk (hb); have n3_ := Aside0.mk (ho); clear HO_4; clear HO_6; clear HB; clear HO_5; clear HO191; have HO_4 := n0_; have HO_6 := n1_; have HB := n2_; have HO194 := n3_; clear n0_ n1_ n2_ n3_; clear ho hb hg hat))
         go_roundg k2
         case measure => have := HJ7.out; have := HK2.out; omega
         case rel => exact ⟨(y192), (t186), (wrap64 (x8_2 + 1)), y0_9, y0_9, H', ⟨by have := HJ7.out; have := HK2.out; omega⟩, ⟨by (with_reducible repeat (first | apply Kd.S_alloc | apply Kd.S_drewN | apply Kd.S_drew)); exact Kd.S_mono HO_4.out (fun _ hk => hk.2)⟩, ⟨by (with_reducible repeat (first | apply Kd.S_alloc | apply Kd.S_drewN | apply Kd.S_drew)); exact HO194.out⟩, ⟨by (with_reducible repeat (first | apply Kd.R_alloc | apply Kd.R_drewN | apply Kd.R_drew)); exact HO_6.out⟩, ⟨bI HB.out⟩⟩
        replace c26 := Bool.eq_false_iff.mpr c26; subst c26
        rw [if_neg (show ¬ (false = true) by decide)] at H
        simp only [Option.some.injEq, Prod.mk.injEq] at H
        obtain ⟨rfl, rfl⟩ := H; obtain ⟨Ao46, co46, eo46⟩ := Kd.R_slice HO_6.out; subst eo46; have p182 : 0 ≤ (x8_2 : Int) := of_decide_eq_true y0_8; have q182 : x8_2 < (t178.length : Int) := of_decide_eq_true y0_8; obtain ⟨ad182, e182, hx182_0⟩ := Kd.at_string (Kd.R_reads' HO_6.out).2.2 x8_2 p182 q182; cases e182; replace p182 := eq_true p182; replace q182 := eq_true q182
        go_wp2_with (first | ((with_reducible refine gate_callee (f := 128) rfl ?_); refine gB (some 44) Tryz.func128 #[.string (rdOf ByteArray.empty t178 x8_2), .int .u8 124] ?_; (with_reducible refine (spec_l2Cut.calls k2 (rdOf ByteArray.empty t178 x8_2) 124 t183 t184 true _ A21.out).mono ?_); rintro e w' ⟨rfl, ⟨nd, rfl⟩⟩; refine ⟨_, rfl, ?_⟩) | ((with_reducible refine gate_callee (f := 129) rfl ?_); refine gB (some 50) Tryz.func129 #[.string t183] ?_; (with_reducible refine (spec_Number.calls k2 t183 t186 true _ A22.out).mono ?_); rintro e w47 ⟨rfl, hb⟩; refine ⟨_, rfl, ?_⟩; replace HO_4 := sb HO_4 hb; replace HO_5 := sb HO_5 hb; replace HO_6 := rb HO_6 hb; replace HB := bs HB hb; (try clear hb); (try clear hb2); (try clear hk); (try clear hi)) | ((with_reducible refine gate_callee (f := 130) rfl ?_); refine gB (some 55) Tryz.func130 #[.string t184] ?_; (with_reducible refine (spec_TxsOf.calls k2 t184 t188 false _ A23.out).mono ?_); rintro e w48 ⟨v190, rfl, ho0, hb⟩; refine ⟨_, rfl, ?_⟩; replace HO_4 := Aside0.mk (Kd.S_elder' (sI HO_4.out) (Kd.R_base ho0) hb); replace HO_5 := Aside0.mk (Kd.S_elder' (sI HO_5.out) (Kd.R_base ho0) hb); replace HO_6 := rb HO_6 hb; have HO191 := Aside0.mk (Kd.R_lower ho0 (below_size (bI HB.out))); replace HB := bs HB hb; (try clear hb)))
        go_ret2
        exact ⟨_, y0_6, y0_3, bI HB.out⟩
       replace c25 := Bool.eq_false_iff.mpr c25; subst c25
       rw [if_neg (show ¬ (false = true) by decide)] at H
       simp only [Option.some.injEq, Prod.mk.injEq] at H
       obtain ⟨rfl, rfl⟩ := H; obtain ⟨Ao49, co49, eo49⟩ := Kd.R_slice HO_6.out; subst eo49; have p182 : 0 ≤ (x8_2 : Int) := of_decide_eq_true y0_8; have q182 : x8_2 < (t178.length : Int) := of_decide_eq_true y0_8; obtain ⟨ad182, e182, hx182_0⟩ := Kd.at_string (Kd.R_reads' HO_6.out).2.2 x8_2 p182 q182; cases e182; replace p182 := eq_true p182; replace q182 := eq_true q182
       go_wp2_with (first | ((with_reducible refine gate_callee (f := 128) rfl ?_); refine gB (some 44) Tryz.func128 #[.string (rdOf ByteArray.empty t178 x8_2), .int .u8 124] ?_; (with_reducible refine (spec_l2Cut.calls k2 (rdOf ByteArray.empty t178 x8_2) 124 t183 t184 true _ A21.out).mono ?_); rintro e w' ⟨rfl, ⟨nd, rfl⟩⟩; refine ⟨_, rfl, ?_⟩) | ((with_reducible refine gate_callee (f := 129) rfl ?_); refine gB (some 50) Tryz.func129 #[.string t183] ?_; (with_reducible refine (spec_Number.calls k2 t183 t186 false _ A22.out).mono ?_); rintro e w50 ⟨rfl, hb⟩; refine ⟨_, rfl, ?_⟩; replace HO_4 := sb HO_4 hb; replace HO_5 := sb HO_5 hb; replace HO_6 := rb HO_6 hb; replace HB := bs HB hb; (try clear hb); (try clear hb2); (try clear hk); (try clear hi)) | ((with_reducible refine gate_callee (f := 130) rfl ?_); refine gB (some 55) Tryz.func130 #[.string t184] ?_; (with_reducible refine (spec_TxsOf.calls k2 t184 t188 t189 _ A23.out).mono ?_); rintro e w51 ⟨v190, rfl, ho0, hb⟩; refine ⟨_, rfl, ?_⟩; replace HO_4 := Aside0.mk (Kd.S_elder' (sI HO_4.out) (Kd.R_base ho0) hb); replace HO_5 := Aside0.mk (Kd.S_elder' (sI HO_5.out) (Kd.R_base ho0) hb); replace HO_6 := rb HO_6 hb; have HO191 := Aside0.mk (Kd.R_lower ho0 (below_size (bI HB.out))); replace HB := bs HB hb; (try clear hb)))
       go_ret2
       exact ⟨_, y0_6, y0_3, bI HB.out⟩
      replace c24 := Bool.eq_false_iff.mpr c24; subst c24
      rw [if_neg (show ¬ (false = true) by decide)] at H
      simp only [Option.some.injEq, Prod.mk.injEq] at H
      obtain ⟨rfl, rfl⟩ := H; obtain ⟨Ao52, co52, eo52⟩ := Kd.R_slice HO_6.out; subst eo52; have p182 : 0 ≤ (x8_2 : Int) := of_decide_eq_true y0_8; have q182 : x8_2 < (t178.length : Int) := of_decide_eq_true y0_8; obtain ⟨ad182, e182, hx182_0⟩ := Kd.at_string (Kd.R_reads' HO_6.out).2.2 x8_2 p182 q182; cases e182; replace p182 := eq_true p182; replace q182 := eq_true q182
      go_wp2_with (first | ((with_reducible refine gate_callee (f := 128) rfl ?_); refine gB (some 44) Tryz.func128 #[.string (rdOf ByteArray.empty t178 x8_2), .int .u8 124] ?_; (with_reducible refine (spec_l2Cut.calls k2 (rdOf ByteArray.empty t178 x8_2) 124 t183 t184 false _ A21.out).mono ?_); rintro e w' ⟨rfl, ⟨nd, rfl⟩⟩; refine ⟨_, rfl, ?_⟩) | ((with_reducible refine gate_callee (f := 129) rfl ?_); refine gB (some 50) Tryz.func129 #[.string t183] ?_; (with_reducible refine (spec_Number.calls k2 t183 t186 t187 _ A22.out).mono ?_); rintro e w53 ⟨rfl, hb⟩; refine ⟨_, rfl, ?_⟩; replace HO_4 := sb HO_4 hb; replace HO_5 := sb HO_5 hb; replace HO_6 := rb HO_6 hb; replace HB := bs HB hb; (try clear hb); (try clear hb2); (try clear hk); (try clear hi)) | ((with_reducible refine gate_callee (f := 130) rfl ?_); refine gB (some 55) Tryz.func130 #[.string t184] ?_; (with_reducible refine (spec_TxsOf.calls k2 t184 t188 t189 _ A23.out).mono ?_); rintro e w54 ⟨v190, rfl, ho0, hb⟩; refine ⟨_, rfl, ?_⟩; replace HO_4 := Aside0.mk (Kd.S_elder' (sI HO_4.out) (Kd.R_base ho0) hb); replace HO_5 := Aside0.mk (Kd.S_elder' (sI HO_5.out) (Kd.R_base ho0) hb); replace HO_6 := rb HO_6 hb; have HO191 := Aside0.mk (Kd.R_lower ho0 (below_size (bI HB.out))); replace HB := bs HB hb; (try clear hb)))
      go_ret2
      exact ⟨_, y0_6, y0_3, bI HB.out⟩
     rw [if_neg c19] at H
     have c19b0 : decide (x8_2 < (t178.length : Int)) = false := decide_eq_false c19; clear c19
     simp only [Option.some.injEq, Prod.mk.injEq] at H
     obtain ⟨rfl, rfl⟩ := H; obtain ⟨Ao55, co55, eo55⟩ := Kd.R_slice HO_6.out; subst eo55
     go_wp2
     go_ret2
     exact ⟨_, y0_6, by (with_reducible repeat (first | apply Kd.S_alloc | apply Kd.S_drewN | apply Kd.S_drew)); exact Kd.S_mono HO_5.out (fun _ hk => trivial), bI HB.out⟩

/-! ### spec_ViewOf: function 62 -/
def spec_ViewOf.f (k : Nat) (a0 : ByteArray) : Option (Int) := (spec_Steps.f k a0).bind fun bt195 => (if bt195.2 = true then (if (bt195.1.length : Int) = 0 then (some 0) else (if 0 ≤ (wrap64 ((bt195.1.length : Int) - 1)) then (if (wrap64 ((bt195.1.length : Int) - 1)) < (bt195.1.length : Int) then (some ((rd_T112 bt195.1 (wrap64 ((bt195.1.length : Int) - 1))).f0)) else (none)) else (none))) else (some 0))
theorem spec_ViewOf.mono : ∀ a0 k, LeO (spec_ViewOf.f k a0) (spec_ViewOf.f (k + 1) a0) := by
 intro a0 k
 unfold spec_ViewOf.f
 repeat' first | (with_reducible exact spec_Steps.mono _ _) | (with_reducible exact LeO.refl _) | (with_reducible exact LeO.none _) | (with_reducible refine LeO.ite ?_ ?_) | (with_reducible refine LeO.bind ?_ (fun _ => ?_))
set_option maxHeartbeats 8000000 in
set_option maxRecDepth 100000 in
theorem spec_ViewOf.calls (k : Nat) (a0 : ByteArray) (r : Int) (w : World) (h : spec_ViewOf.f k a0 = some r) :
  Calls Tryz.prog 62 #[.string a0] w fun e w' => e = .returned (.int .i64 r) ∧ Below w.heap.size w w' := by
 have HB := Aside0.mk (Below.refl w.heap.size w)
 have H : ((spec_Steps.f k a0).bind fun bt195 => (if bt195.2 = true then (if (bt195.1.length : Int) = 0 then (some 0) else (if 0 ≤ (wrap64 ((bt195.1.length : Int) - 1)) then (if (wrap64 ((bt195.1.length : Int) - 1)) < (bt195.1.length : Int) then (some ((rd_T112 bt195.1 (wrap64 ((bt195.1.length : Int) - 1))).f0)) else (none)) else (none))) else (some 0))) = some r := h
 clear h; obtain ⟨⟨t195, t196⟩, A20, H⟩ := Option.bind_eq_some_iff.mp H
 try dsimp only at H
 have A2 := Aside0.mk A20; clear A20
 by_cases c3 : t196 = true
 ·
  subst c3
  rw [if_pos rfl] at H
  by_cases c4 : (t195.length : Int) = 0
  ·
   rw [if_pos c4] at H
   have c4b0 : ((t195.length : Int) == 0) = true := beq_iff_eq.mpr c4; have c4b1 : ((t195.length : Int) != 0) = false := bne_eq_false_iff_eq.mpr c4; clear c4; obtain rfl := Option.some.inj H
   go_enter Tryz.func62, Tryz.ntmps62
   go_wp2_with (first | ((with_reducible refine gate_callee (f := 103) rfl ?_); refine gB (some 7) Tryz.func103 #[.string a0] ?_; (with_reducible refine (spec_Steps.calls k a0 t195 true _ A2.out).mono ?_); rintro e w5 ⟨v197, rfl, ho0, hb⟩; refine ⟨_, rfl, ?_⟩; have HO198 := Aside0.mk (Kd.S_lower ho0 (below_size (bI HB.out))); replace HB := bs HB hb; (try clear hb); (try clear ho0); obtain ⟨Ao6, co6, eo6⟩ := Kd.S_slice HO198.out; subst eo6))
   go_ret
   exact ⟨y0_6, bI HB.out⟩
  rw [if_neg c4] at H
  have c4b0 : ((t195.length : Int) == 0) = false := beq_eq_false_iff_ne.mpr c4; have c4b1 : ((t195.length : Int) != 0) = true := bne_iff_ne.mpr c4
  have c4b2 : ¬ (t195 = []) := fun h_ => c4 (by rw [h_]; rfl)
  obtain ⟨ji7, hji7⟩ : ∃ j_ : Int, (wrap64 ((t195.length : Int) - 1)) = j_ := ⟨_, rfl⟩
  replace H : (if 0 ≤ (ji7) then (if (ji7) < (t195.length : Int) then (some ((rd_T112 t195 (ji7)).f0)) else (none)) else (none)) = some r := by first | (rw [hji7] at H; exact H) | (simp only [hji7] at H ⊢; exact H)
  (try rw [hji7] at A2)
  have hji7w : (IntKind.i64.wrap ((t195.length : Int) - 1)) = ji7 := (i64_w _).trans hji7
  by_cases c8 : 0 ≤ (ji7)
  rotate_left
  ·
   rw [if_neg c8] at H
   exact absurd H (by simp)
  rw [if_pos c8] at H
  have c8b0 : decide (0 ≤ (ji7)) = true := decide_eq_true c8; clear c8
  by_cases c9 : (ji7) < (t195.length : Int)
  rotate_left
  ·
   rw [if_neg c9] at H
   exact absurd H (by simp)
  rw [if_pos c9] at H
  have c9b0 : decide ((ji7) < (t195.length : Int)) = true := decide_eq_true c9; clear c9; obtain rfl := Option.some.inj H
  go_enter Tryz.func62, Tryz.ntmps62
  go_wp2_with (first | ((with_reducible refine gate_callee (f := 103) rfl ?_); refine gB (some 7) Tryz.func103 #[.string a0] ?_; (with_reducible refine (spec_Steps.calls k a0 t195 true _ A2.out).mono ?_); rintro e w10 ⟨v197, rfl, ho0, hb⟩; refine ⟨_, rfl, ?_⟩; have HO198 := Aside0.mk (Kd.S_lower ho0 (below_size (bI HB.out))); replace HB := bs HB hb; (try clear hb); (try clear ho0); obtain ⟨Ao11, co11, eo11⟩ := Kd.S_slice HO198.out; subst eo11; have p199 : 0 ≤ ((ji7) : Int) := of_decide_eq_true y0_8; have q199 : (ji7) < (t195.length : Int) := of_decide_eq_true y0_8; obtain ⟨ad199, A199_1, c199_1, e199, hx199_0, hx199_1, hl199_1, hi199_1⟩ := at_T112 (Kd.S_reads' HO198.out).2.2 (ji7) p199 q199; cases e199; obtain ⟨ce199, hce199, hMe199, hcc199⟩ := Kd.S_get HO198.out z112 (ji7) p199 (by first | exact q199 | exact of_decide_eq_true y0_8 | (have e_ := (Kd.S_reads' HO198.out).1; omega)); obtain ⟨ve199_1, rfl, ge199_1⟩ := k112_openM hMe199; have hv199_1 := hcc199 1 _ rfl; rw [add_field _ _ 1 (by omega)] at hv199_1; replace hv199_1 := Option.some.inj (hv199_1.symm.trans hx199_1); rw [hv199_1] at ge199_1; have HL199_1 := Aside0.mk (show Kd.R k99 99 _ _ _ _ ((rd_T112 t195 (ji7)).f1) from ge199_1); clear hv199_1 ge199_1; clear hcc199 hce199; have HR199_1 := Aside0.mk hi199_1; have HC199_1 := Aside0.mk hl199_1; clear hi199_1 hl199_1; replace p199 := eq_true p199; replace q199 := eq_true q199))
  go_ret
  exact ⟨by first | rfl | (simp [errW_none, errW_some] <;> rfl) | (simp only [← hji7]; first | rfl | (simp [errW_none, errW_some] <;> rfl)) | (simp [*, errW_none, errW_some] <;> rfl), bI HB.out⟩
 replace c3 := Bool.eq_false_iff.mpr c3; subst c3
 rw [if_neg (show ¬ (false = true) by decide)] at H
 obtain rfl := Option.some.inj H
 go_enter Tryz.func62, Tryz.ntmps62
 go_wp2_with (first | ((with_reducible refine gate_callee (f := 103) rfl ?_); refine gB (some 7) Tryz.func103 #[.string a0] ?_; (with_reducible refine (spec_Steps.calls k a0 t195 false _ A2.out).mono ?_); rintro e w12 ⟨v197, rfl, ho0, hb⟩; refine ⟨_, rfl, ?_⟩; have HO198 := Aside0.mk (Kd.S_lower ho0 (below_size (bI HB.out))); replace HB := bs HB hb; (try clear hb); (try clear ho0)))
 go_ret
 exact ⟨y0_6, bI HB.out⟩

/-! ### spec_NameOk: function 97 -/
def spec_NameOk.f (k : Nat) (a0 : ByteArray) : Option (Bool) := (spec_Steps.f k a0).bind fun bt200 => (some bt200.2)
theorem spec_NameOk.mono : ∀ a0 k, LeO (spec_NameOk.f k a0) (spec_NameOk.f (k + 1) a0) := by
 intro a0 k
 unfold spec_NameOk.f
 repeat' first | (with_reducible exact spec_Steps.mono _ _) | (with_reducible exact LeO.refl _) | (with_reducible exact LeO.none _) | (with_reducible refine LeO.ite ?_ ?_) | (with_reducible refine LeO.bind ?_ (fun _ => ?_))
set_option maxHeartbeats 8000000 in
set_option maxRecDepth 100000 in
theorem spec_NameOk.calls (k : Nat) (a0 : ByteArray) (r : Bool) (w : World) (h : spec_NameOk.f k a0 = some r) :
  Calls Tryz.prog 97 #[.string a0] w fun e w' => e = .returned (.bool r) ∧ Below w.heap.size w w' := by
 have HB := Aside0.mk (Below.refl w.heap.size w)
 have H : ((spec_Steps.f k a0).bind fun bt200 => (some bt200.2)) = some r := h
 clear h; obtain ⟨⟨t200, t201⟩, A20, H⟩ := Option.bind_eq_some_iff.mp H
 try dsimp only at H
 have A2 := Aside0.mk A20; clear A20; obtain rfl := Option.some.inj H
 go_enter Tryz.func97, Tryz.ntmps97
 go_wp2_with (first | ((with_reducible refine gate_callee (f := 103) rfl ?_); refine gB (some 7) Tryz.func103 #[.string a0] ?_; (with_reducible refine (spec_Steps.calls k a0 t200 t201 _ A2.out).mono ?_); rintro e w3 ⟨v202, rfl, ho0, hb⟩; refine ⟨_, rfl, ?_⟩; have HO203 := Aside0.mk (Kd.S_lower ho0 (below_size (bI HB.out))); replace HB := bs HB hb; (try clear hb); (try clear ho0)))
 go_ret
 exact ⟨y0_6, bI HB.out⟩

/-! ### spec_SetOk: function 98 -/
def spec_SetOk.l0 : Nat → Int → List Int → Int → Option (Bool)
 | 0, _, _, _ => none
 | k + 1, x0, x1, x5 => if x5 < (x1.length : Int) then (if 0 ≤ x5 then (if (rd x1 x5) < 0 then (some false) else (if (rd x1 x5) ≥ x0 then (some false) else (if x5 > 0 then (if 0 ≤ (wrap64 (x5 - 1)) then (if (wrap64 (x5 - 1)) < (x1.length : Int) then (if (rd x1 (wrap64 (x5 - 1))) ≥ (rd x1 x5) then (some false) else (spec_SetOk.l0 k x0 x1 (wrap64 (x5 + 1)))) else (none)) else (none)) else (spec_SetOk.l0 k x0 x1 (wrap64 (x5 + 1)))))) else (none)) else (some true)
def spec_SetOk.f (k : Nat) (a0 : Int) (l1 : List Int) : Option (Bool) := spec_SetOk.l0 k a0 l1 0
theorem spec_SetOk.mono_l : ∀ k, (∀ y0 y1 y2, LeO (spec_SetOk.l0 k y0 y1 y2) (spec_SetOk.l0 (k + 1) y0 y1 y2))
 | 0 => fun _ _ _ r h => by simp [spec_SetOk.l0] at h
 | k + 1 => by
  have ih0 := spec_SetOk.mono_l k
  intro y0 y1 y2
  unfold spec_SetOk.l0
  repeat' first | (with_reducible exact ih0 _ _ _) | (with_reducible exact LeO.refl _) | (with_reducible exact LeO.none _) | (with_reducible refine LeO.ite ?_ ?_) | (with_reducible refine LeO.bind ?_ (fun _ => ?_))
theorem spec_SetOk.mono : ∀ a0 a1 k, LeO (spec_SetOk.f k a0 a1) (spec_SetOk.f (k + 1) a0 a1) := by
 intro a0 a1 k
 have ih0 := spec_SetOk.mono_l k
 unfold spec_SetOk.f
 repeat' first | (with_reducible exact ih0 _ _ _) | (with_reducible exact LeO.refl _) | (with_reducible exact LeO.none _) | (with_reducible refine LeO.ite ?_ ?_) | (with_reducible refine LeO.bind ?_ (fun _ => ?_))
set_option maxHeartbeats 8000000 in
set_option maxRecDepth 100000 in
theorem spec_SetOk.calls (k : Nat) (a0 : Int) (A1 : Option Addr) (c1 : Nat) (l1 : List Int) (r : Bool) (w : World) (hr1 : Kd.C (Kd.int .i64) w A1 l1.length l1) (hc1 : l1.length ≤ c1) (h : spec_SetOk.f k a0 l1 = some r) :
  Calls Tryz.prog 98 #[.int .i64 a0, .slice A1 l1.length c1] w fun e w' => e = .returned (.bool r) ∧ Drawn0 w w' := by
 have HR1 := Aside0.mk hr1; have HC1 := Aside0.mk hc1; clear hr1 hc1; have H : (spec_SetOk.l0 k a0 l1 0) = some r := h; clear h; have H' := Aside0.mk H; clear H
 go_enter Tryz.func98, Tryz.ntmps98
 go_wp2
 repeat (go_quiet (fail); try go_wp2)
 go_loopg [5] k (fun kq v5 w' => ∃ (x5_1 : Int), v5 = .int .i64 x5_1 ∧ Aside0 (spec_SetOk.l0 kq a0 l1 x5_1 = some r) ∧ Aside0 (kq ≤ k) ∧ Drawn0 w w')
 case atStart => exact ⟨(0), y0_9, H', ⟨Nat.le_refl _⟩, y0_7⟩
 case round =>
  clear H'
  try clear c1
  try clear p2
  obtain ⟨x5_1, rfl, HA, HK1, ⟨m1, rfl⟩⟩ := hrel; cases gk with
  | zero => exact absurd HA.out (by simp [spec_SetOk.l0])
  | succ k1 =>
   have H := HA.out; clear HA
   simp only [spec_SetOk.l0] at H
   by_cases c3 : x5_1 < (l1.length : Int)
   ·
    rw [if_pos c3] at H
    have c3b0 : decide (x5_1 < (l1.length : Int)) = true := decide_eq_true c3; clear c3
    by_cases c4 : 0 ≤ x5_1
    rotate_left
    ·
     rw [if_neg c4] at H
     exact absurd H (by simp)
    rw [if_pos c4] at H
    have c4b0 : decide (0 ≤ x5_1) = true := decide_eq_true c4; clear c4
    by_cases c5 : (rd l1 x5_1) < 0
    ·
     rw [if_pos c5] at H
     have c5b0 : decide ((rd l1 x5_1) < 0) = true := decide_eq_true c5; clear c5; obtain rfl := Option.some.inj H; have p204 : 0 ≤ (x5_1 : Int) := of_decide_eq_true y0_8; have q204 : x5_1 < (l1.length : Int) := of_decide_eq_true y0_8; obtain ⟨ad204, e204, hx204_0⟩ := Kd.at_int HR1.out x5_1 p204 q204; cases e204; replace p204 := eq_true p204; replace q204 := eq_true q204
     go_wp2
     repeat (go_quiet (fail); try go_wp2)
     go_ret
     exact ⟨y0_9, y0_7⟩
    rw [if_neg c5] at H
    have c5b0 : decide ((rd l1 x5_1) < 0) = false := decide_eq_false c5; clear c5
    by_cases c6 : (rd l1 x5_1) ≥ a0
    ·
     rw [if_pos c6] at H
     have c6b0 : decide (a0 ≤ (rd l1 x5_1)) = true := decide_eq_true c6; clear c6; obtain rfl := Option.some.inj H; have p204 : 0 ≤ (x5_1 : Int) := of_decide_eq_true y0_8; have q204 : x5_1 < (l1.length : Int) := of_decide_eq_true y0_8; obtain ⟨ad204, e204, hx204_0⟩ := Kd.at_int HR1.out x5_1 p204 q204; cases e204; replace p204 := eq_true p204; replace q204 := eq_true q204; have p205 : 0 ≤ (x5_1 : Int) := of_decide_eq_true y0_8; have q205 : x5_1 < (l1.length : Int) := of_decide_eq_true y0_8; obtain ⟨ad205, e205, hx205_0⟩ := Kd.at_int HR1.out x5_1 p205 q205
     obtain rfl : ad204 = ad205 := (by injection e205)
     replace p205 := eq_true p205; replace q205 := eq_true q205
     go_wp2
     repeat (go_quiet (fail); try go_wp2)
     go_ret
     exact ⟨y0_9, y0_7⟩
    rw [if_neg c6] at H
    have c6b0 : decide (a0 ≤ (rd l1 x5_1)) = false := decide_eq_false c6; clear c6
    by_cases c7 : x5_1 > 0
    ·
     rw [if_pos c7] at H
     have c7b0 : decide (0 < x5_1) = true := decide_eq_true c7; clear c7; obtain ⟨ji8, hji8⟩ : ∃ j_ : Int, (wrap64 (x5_1 - 1)) = j_ := ⟨_, rfl⟩
     replace H : (if 0 ≤ (ji8) then (if (ji8) < (l1.length : Int) then (if (rd l1 (ji8)) ≥ (rd l1 x5_1) then (some false) else (spec_SetOk.l0 k1 a0 l1 (wrap64 (x5_1 + 1)))) else (none)) else (none)) = some r := by first | (rw [hji8] at H; exact H) | (simp only [hji8] at H ⊢; exact H)
     have hji8w : (IntKind.i64.wrap (x5_1 - 1)) = ji8 := (i64_w _).trans hji8
     by_cases c9 : 0 ≤ (ji8)
     rotate_left
     ·
      rw [if_neg c9] at H
      exact absurd H (by simp)
     rw [if_pos c9] at H
     have c9b0 : decide (0 ≤ (ji8)) = true := decide_eq_true c9; clear c9
     by_cases c10 : (ji8) < (l1.length : Int)
     rotate_left
     ·
      rw [if_neg c10] at H
      exact absurd H (by simp)
     rw [if_pos c10] at H
     have c10b0 : decide ((ji8) < (l1.length : Int)) = true := decide_eq_true c10; clear c10
     by_cases c11 : (rd l1 (ji8)) ≥ (rd l1 x5_1)
     ·
      rw [if_pos c11] at H
      have c11b0 : decide ((rd l1 x5_1) ≤ (rd l1 (ji8))) = true := decide_eq_true c11; clear c11; obtain rfl := Option.some.inj H; have p204 : 0 ≤ (x5_1 : Int) := of_decide_eq_true y0_8; have q204 : x5_1 < (l1.length : Int) := of_decide_eq_true y0_8; obtain ⟨ad204, e204, hx204_0⟩ := Kd.at_int HR1.out x5_1 p204 q204; cases e204; replace p204 := eq_true p204; replace q204 := eq_true q204; have p205 : 0 ≤ (x5_1 : Int) := of_decide_eq_true y0_8; have q205 : x5_1 < (l1.length : Int) := of_decide_eq_true y0_8; obtain ⟨ad205, e205, hx205_0⟩ := Kd.at_int HR1.out x5_1 p205 q205
      obtain rfl : ad204 = ad205 := (by injection e205)
      replace p205 := eq_true p205; replace q205 := eq_true q205; have p206 : 0 ≤ ((ji8) : Int) := of_decide_eq_true y0_8; have q206 : (ji8) < (l1.length : Int) := of_decide_eq_true y0_8; obtain ⟨ad206, e206, hx206_0⟩ := Kd.at_int HR1.out (ji8) p206 q206
      obtain rfl : ad204 = ad206 := (by injection e206)
      replace p206 := eq_true p206; replace q206 := eq_true q206; have p207 : 0 ≤ (x5_1 : Int) := of_decide_eq_true y0_8; have q207 : x5_1 < (l1.length : Int) := of_decide_eq_true y0_8; obtain ⟨ad207, e207, hx207_0⟩ := Kd.at_int HR1.out x5_1 p207 q207
      obtain rfl : ad204 = ad207 := (by injection e207)
      replace p207 := eq_true p207; replace q207 := eq_true q207
      go_wp2
      repeat (go_quiet (fail); try go_wp2)
      go_ret
      exact ⟨by first | rfl | (simp; done) | (simp only [← hji8] <;> (first | rfl | simp)) | (simp [*]; done), y0_7⟩
     rw [if_neg c11] at H
     have c11b0 : decide ((rd l1 x5_1) ≤ (rd l1 (ji8))) = false := decide_eq_false c11; clear c11; have H' := Aside0.mk H; clear H; have p204 : 0 ≤ (x5_1 : Int) := of_decide_eq_true y0_8; have q204 : x5_1 < (l1.length : Int) := of_decide_eq_true y0_8; obtain ⟨ad204, e204, hx204_0⟩ := Kd.at_int HR1.out x5_1 p204 q204; cases e204; replace p204 := eq_true p204; replace q204 := eq_true q204; have p205 : 0 ≤ (x5_1 : Int) := of_decide_eq_true y0_8; have q205 : x5_1 < (l1.length : Int) := of_decide_eq_true y0_8; obtain ⟨ad205, e205, hx205_0⟩ := Kd.at_int HR1.out x5_1 p205 q205
     obtain rfl : ad204 = ad205 := (by injection e205)
     replace p205 := eq_true p205; replace q205 := eq_true q205; have p206 : 0 ≤ ((ji8) : Int) := of_decide_eq_true y0_8; have q206 : (ji8) < (l1.length : Int) := of_decide_eq_true y0_8; obtain ⟨ad206, e206, hx206_0⟩ := Kd.at_int HR1.out (ji8) p206 q206
     obtain rfl : ad204 = ad206 := (by injection e206)
     replace p206 := eq_true p206; replace q206 := eq_true q206; have p207 : 0 ≤ (x5_1 : Int) := of_decide_eq_true y0_8; have q207 : x5_1 < (l1.length : Int) := of_decide_eq_true y0_8; obtain ⟨ad207, e207, hx207_0⟩ := Kd.at_int HR1.out x5_1 p207 q207
     obtain rfl : ad204 = ad207 := (by injection e207)
     replace p207 := eq_true p207; replace q207 := eq_true q207
     go_wp2
     repeat (go_quiet (fail); try go_wp2)
     go_roundg k1
     case measure => have := HK1.out; omega
     case rel => exact ⟨(wrap64 (x5_1 + 1)), y0_9, H', ⟨y0_13⟩, y0_7⟩
    rw [if_neg c7] at H
    have c7b0 : decide (0 < x5_1) = false := decide_eq_false c7; clear c7; have H' := Aside0.mk H; clear H; have p204 : 0 ≤ (x5_1 : Int) := of_decide_eq_true y0_8; have q204 : x5_1 < (l1.length : Int) := of_decide_eq_true y0_8; obtain ⟨ad204, e204, hx204_0⟩ := Kd.at_int HR1.out x5_1 p204 q204; cases e204; replace p204 := eq_true p204; replace q204 := eq_true q204; have p205 : 0 ≤ (x5_1 : Int) := of_decide_eq_true y0_8; have q205 : x5_1 < (l1.length : Int) := of_decide_eq_true y0_8; obtain ⟨ad205, e205, hx205_0⟩ := Kd.at_int HR1.out x5_1 p205 q205
    obtain rfl : ad204 = ad205 := (by injection e205)
    replace p205 := eq_true p205; replace q205 := eq_true q205
    go_wp2
    repeat (go_quiet (fail); try go_wp2)
    go_roundg k1
    case measure => have := HK1.out; omega
    case rel => exact ⟨(wrap64 (x5_1 + 1)), y0_9, H', ⟨y0_13⟩, y0_7⟩
   rw [if_neg c3] at H
   have c3b0 : decide (x5_1 < (l1.length : Int)) = false := decide_eq_false c3; clear c3; obtain rfl := Option.some.inj H
   go_wp2
   repeat (go_quiet (fail); try go_wp2)
   go_ret
   exact ⟨y0_9, y0_7⟩

end Go.Proofs.YtemjmefacifdeaaGreatDoor.PFnSettlesThree
