-- By a program of this session, out of the translation (the print of the kit, with turns of its own). Lean checks it.
import Derived.Test.YtcmldmlmhpfjhaaDoorPFnExactSettlesx0
import Derived.Test.YtcmldmlmhpfjhaaDoorPFnExactSettlesx1
import Derived.Test.YtcmldmlmhpfjhaaDoorPFnExactSettlesx2
namespace Go.Proofs.YtcmldmlmhpfjhaaDoor.PFnExactSettles
open Go.RowKit Go.Proofs.YtcmldmlmhpfjhaaDoorW.PrintWords Go.Proofs.YtcmldmlmhpfjhaaDoorW.PrintLast Go.Proofs.YtcmldmlmhpfjhaaDoorW.PrintMore
attribute [local go_sem] max2_int min2_int max_two min_two max_three min_three max_four min_four   -- for this text's walks alone
set_option linter.unusedVariables false
set_option linter.unusedSimpArgs false

/-! ### spec_Steps: function 65 -/
mutual
def spec_Steps.j0 : Nat → List (S95) → List (S95) → List ByteArray → Bool → Option ((List (S95)) × Bool)
  | 0, _, _, _, _ => none
  | k + 1, x4, x5, x6, x31 => if x31 = true then (some (x4, false)) else (spec_Steps.l0 k x4 x5 x6 0 1)
def spec_Steps.l0 : Nat → List (S95) → List (S95) → List ByteArray → Int → Int → Option ((List (S95)) × Bool)
  | 0, _, _, _, _, _ => none
  | k + 1, x4, x5, x6, x7, x8 => if x8 < (x6.length : Int) then (if 0 ≤ x8 then ((spec_l2Cut.f k (rdOf ByteArray.empty x6 x8) 124).bind fun bt178 => ((spec_Number.f k bt178.1).bind fun bt181 => ((spec_TxsOf.f k bt178.2.1).bind fun bt183 => (if bt178.2.2 = true then (if bt181.2 = true then (if bt183.2 = true then (if bt181.1 ≤ x7 then (some (x4, false)) else (if bt181.1 > 60 then (some (x4, false)) else (if (bt183.1.length : Int) > 2 then (some (x4, false)) else (if x5.length < 4398046511104 then (spec_Steps.l0 k x4 (x5 ++ [(⟨bt181.1, bt183.1⟩ : S95)]) x6 bt181.1 (wrap64 (x8 + 1))) else (none))))) else (some (x4, false))) else (some (x4, false))) else (some (x4, false)))))) else (none)) else (some (x5, true))
end
def spec_Steps.f (k : Nat) (a0 : ByteArray) : Option ((List (S95)) × Bool) := (some (([] : List (S95)) : List (S95))).bind fun y167 => ((some (([] : List (S95)) : List (S95))).bind fun y170 => (if a0.toList = ([] : List UInt8) then (some (y170, true)) else ((spec_Split.f k a0 47).bind fun t173 => (if 0 < (t173.length : Int) then (if (rdOf ByteArray.empty t173 0).toList = ([] : List UInt8) then (spec_Steps.j0 k y167 y170 t173 (decide ((t173.length : Int) > 31))) else (spec_Steps.j0 k y167 y170 t173 true)) else (none)))))
theorem spec_Steps.mono_l : ∀ k, (∀ y0 y1 y2 y3, LeO (spec_Steps.j0 k y0 y1 y2 y3) (spec_Steps.j0 (k + 1) y0 y1 y2 y3)) ∧ (∀ y0 y1 y2 y3 y4, LeO (spec_Steps.l0 k y0 y1 y2 y3 y4) (spec_Steps.l0 (k + 1) y0 y1 y2 y3 y4))
  | 0 => ⟨fun _ _ _ _ r h => by simp [spec_Steps.j0] at h, fun _ _ _ _ _ r h => by simp [spec_Steps.l0] at h⟩
  | k + 1 => by
    obtain ⟨ih0, ih1⟩ := spec_Steps.mono_l k
    refine ⟨?_, ?_⟩
    · intro y0 y1 y2 y3
      unfold spec_Steps.j0
      repeat' first
      | (with_reducible exact ih0 _ _ _ _)
      | (with_reducible exact ih1 _ _ _ _ _)
      | (with_reducible exact spec_Number.mono _ _)
      | (with_reducible exact spec_Split.mono _ _ _)
      | (with_reducible exact spec_TxsOf.mono _ _)
      | (with_reducible exact spec_l2Cut.mono _ _ _)
      | (with_reducible exact LeO.refl _)
      | (with_reducible exact LeO.none _)
      | (with_reducible refine LeO.ite ?_ ?_)
      | (with_reducible refine LeO.bind ?_ (fun _ => ?_))
      | exact ih0 _ _ _ _
      | exact ih1 _ _ _ _ _
      | exact spec_Number.mono _ _
      | exact spec_Split.mono _ _ _
      | exact spec_TxsOf.mono _ _
      | exact spec_l2Cut.mono _ _ _
      | exact LeO.none _
      | refine LeO.ite ?_ ?_
      | refine LeO.bind ?_ (fun _ => ?_)
    · intro y0 y1 y2 y3 y4
      unfold spec_Steps.l0
      repeat' first
      | (with_reducible exact ih0 _ _ _ _)
      | (with_reducible exact ih1 _ _ _ _ _)
      | (with_reducible exact spec_Number.mono _ _)
      | (with_reducible exact spec_Split.mono _ _ _)
      | (with_reducible exact spec_TxsOf.mono _ _)
      | (with_reducible exact spec_l2Cut.mono _ _ _)
      | (with_reducible exact LeO.refl _)
      | (with_reducible exact LeO.none _)
      | (with_reducible refine LeO.ite ?_ ?_)
      | (with_reducible refine LeO.bind ?_ (fun _ => ?_))
      | exact ih0 _ _ _ _
      | exact ih1 _ _ _ _ _
      | exact spec_Number.mono _ _
      | exact spec_Split.mono _ _ _
      | exact spec_TxsOf.mono _ _
      | exact spec_l2Cut.mono _ _ _
      | exact LeO.none _
      | refine LeO.ite ?_ ?_
      | refine LeO.bind ?_ (fun _ => ?_)
theorem spec_Steps.mono : ∀ a0 k, LeO (spec_Steps.f k a0) (spec_Steps.f (k + 1) a0) := by
  intro a0 k
  obtain ⟨ih0, ih1⟩ := spec_Steps.mono_l k
  unfold spec_Steps.f
  repeat' first
      | (with_reducible exact ih0 _ _ _ _)
      | (with_reducible exact ih1 _ _ _ _ _)
      | (with_reducible exact spec_Number.mono _ _)
      | (with_reducible exact spec_Split.mono _ _ _)
      | (with_reducible exact spec_TxsOf.mono _ _)
      | (with_reducible exact spec_l2Cut.mono _ _ _)
      | (with_reducible exact LeO.refl _)
      | (with_reducible exact LeO.none _)
      | (with_reducible refine LeO.ite ?_ ?_)
      | (with_reducible refine LeO.bind ?_ (fun _ => ?_))
      | exact ih0 _ _ _ _
      | exact ih1 _ _ _ _ _
      | exact spec_Number.mono _ _
      | exact spec_Split.mono _ _ _
      | exact spec_TxsOf.mono _ _
      | exact spec_l2Cut.mono _ _ _
      | exact LeO.none _
      | refine LeO.ite ?_ ?_
      | refine LeO.bind ?_ (fun _ => ?_)
set_option maxHeartbeats 8000000 in
set_option maxRecDepth 100000 in
theorem spec_Steps.calls (k : Nat) (a0 : ByteArray) (r1 : List (S95)) (r2 : Bool) (w : World) (h : spec_Steps.f k a0 = some (r1, r2)) :
    Calls Tryd.prog 65 #[.string a0] w fun e w' => ∃ v0_ : Value, e = .returned (.tuple #[v0_, .bool r2]) ∧ Kd.S k95 95 w' w.heap.size (fun _ => True) v0_ r1 ∧ Below w.heap.size w w' := by
  have hu95 := Tryd.underlying95
  have HB := Aside0.mk (Below.refl w.heap.size w)
  have H : ((some (([] : List (S95)) : List (S95))).bind fun y167 => ((some (([] : List (S95)) : List (S95))).bind fun y170 => (if a0.toList = ([] : List UInt8) then (some (y170, true)) else ((spec_Split.f k a0 47).bind fun t173 => (if 0 < (t173.length : Int) then (if (rdOf ByteArray.empty t173 0).toList = ([] : List UInt8) then (spec_Steps.j0 k y167 y170 t173 (decide ((t173.length : Int) > 31))) else (spec_Steps.j0 k y167 y170 t173 true)) else (none)))))) = some (r1, r2) := h
  clear h
  obtain ⟨y167, hy167⟩ : ∃ y_ : List (S95), y_ = (([] : List (S95))) := ⟨_, rfl⟩
  replace H : ((some (([] : List (S95)) : List (S95))).bind fun y170 => (if a0.toList = ([] : List UInt8) then (some (y170, true)) else ((spec_Split.f k a0 47).bind fun t173 => (if 0 < (t173.length : Int) then (if (rdOf ByteArray.empty t173 0).toList = ([] : List UInt8) then (spec_Steps.j0 k y167 y170 t173 (decide ((t173.length : Int) > 31))) else (spec_Steps.j0 k y167 y170 t173 true)) else (none))))) = some (r1, r2) := by first | (rw [hy167]; with_reducible exact H) | (have H2_ := (Option.bind_some _ _).symm.trans H; rw [hy167]; with_reducible exact H2_) | (have H2_ := (Option.bind_some _ _).symm.trans H; with_reducible exact H2_) | with_reducible exact H | (rw [hy167]; exact H) | exact H
  have Ny167 := Aside0.mk hy167
  clear hy167
  obtain ⟨y170, hy170⟩ : ∃ y_ : List (S95), y_ = (([] : List (S95))) := ⟨_, rfl⟩
  replace H : (if a0.toList = ([] : List UInt8) then (some (y170, true)) else ((spec_Split.f k a0 47).bind fun t173 => (if 0 < (t173.length : Int) then (if (rdOf ByteArray.empty t173 0).toList = ([] : List UInt8) then (spec_Steps.j0 k y167 y170 t173 (decide ((t173.length : Int) > 31))) else (spec_Steps.j0 k y167 y170 t173 true)) else (none)))) = some (r1, r2) := by first | (rw [hy170]; with_reducible exact H) | (have H2_ := (Option.bind_some _ _).symm.trans H; rw [hy170]; with_reducible exact H2_) | (have H2_ := (Option.bind_some _ _).symm.trans H; with_reducible exact H2_) | with_reducible exact H | (rw [hy170]; exact H) | exact H
  have Ny170 := Aside0.mk hy170
  clear hy170
  by_cases c2 : a0.toList = ([] : List UInt8)
  · rw [if_pos c2] at H
    have c2b0 : (a0.toList == ([] : List UInt8)) = true := beq_iff_eq.mpr c2
    have c2b1 : (a0.toList != ([] : List UInt8)) = false := bne_eq_false_iff_eq.mpr c2
    clear c2
    simp only [Option.some.injEq, Prod.mk.injEq] at H
    obtain ⟨rfl, rfl⟩ := H
    go_enter Tryd.func65, Tryd.ntmps65
    go_wp2_with (first | ((with_reducible refine gate_dst (N := 16) rfl ?_); (try (refine gate_guard (by rfl) ?_; dsimp only)); refine Kd.S_lit k95 _ 95 ?hg (N := 16) ?hd (xs := ([] : List (S95))) (inner := []) (ok := fun _ => True) (okp := fun _ => True) ?hr ?hp (fun _ hk => hk) trivial (Below.refl _ _) (Nat.le_refl _) (by simp) ?_; (case hd => rfl); (case hg => rfl); (case hr => first | (go_simp; done) | (go_simp; rfl)); (case hp => exact (Reps.none _ _)); intro v168 w3 ho4 hb hg_ hnew_; clear hg_ hnew_; (first | rw [← Ny167.out] at ho4 | (simp only [Int.reduceToNat] at ho4; rw [← Ny167.out] at ho4)); have HO169 := Aside0.mk (Kd.S_lower ho4 (below_size (bI HB.out))); replace HB := bs HB hb; clear hb ho4) | ((with_reducible refine gate_dst (N := 17) rfl ?_); (try (refine gate_guard (by rfl) ?_; dsimp only)); refine Kd.S_lit k95 _ 95 ?hg (N := 17) ?hd (xs := ([] : List (S95))) (inner := []) (ok := fun _ => True) (okp := fun _ => True) ?hr ?hp (fun _ hk => hk) trivial (Below.refl _ _) (Nat.le_refl _) (by simp) ?_; (case hd => rfl); (case hg => rfl); (case hr => first | (go_simp; done) | (go_simp; rfl)); (case hp => exact (Reps.none _ _)); intro v171 w5 ho6 hb hg_ hnew_; clear hg_ hnew_; (first | rw [← Ny170.out] at ho6 | (simp only [Int.reduceToNat] at ho6; rw [← Ny170.out] at ho6)); have HO172 := Aside0.mk (Kd.S_lower (Kd.S_new' ho6 (Kd.S_lt (sI HO169.out))) (below_size (bI HB.out))); replace HO169 := Aside0.mk (Kd.S_elder' (sI HO169.out) (Kd.S_base ho6) hb); replace HB := bs HB hb; clear hb ho6))
    go_ret2
    exact ⟨_, y0_4, by (with_reducible repeat (first | apply Kd.S_alloc | apply Kd.S_drewN | apply Kd.S_drew)); exact Kd.S_mono HO172.out (fun _ hk => trivial), bI HB.out⟩
  · rw [if_neg c2] at H
    have c2b0 : (a0.toList == ([] : List UInt8)) = false := beq_eq_false_iff_ne.mpr c2
    have c2b1 : (a0.toList != ([] : List UInt8)) = true := bne_iff_ne.mpr c2
    obtain ⟨t173, A70, H⟩ := Option.bind_eq_some_iff.mp H
    try dsimp only at H
    have A7 := Aside0.mk A70
    clear A70
    have HC8 := Aside0.mk H
    clear H
    go_enter Tryd.func65, Tryd.ntmps65
    go_upto_region 6 with (first | ((with_reducible refine gate_dst (N := 16) rfl ?_); (try (refine gate_guard (by rfl) ?_; dsimp only)); refine Kd.S_lit k95 _ 95 ?hg (N := 16) ?hd (xs := ([] : List (S95))) (inner := []) (ok := fun _ => True) (okp := fun _ => True) ?hr ?hp (fun _ hk => hk) trivial (Below.refl _ _) (Nat.le_refl _) (by simp) ?_; (case hd => rfl); (case hg => rfl); (case hr => first | (go_simp; done) | (go_simp; rfl)); (case hp => exact (Reps.none _ _)); intro v168 w9 ho10 hb hg_ hnew_; clear hg_ hnew_; (first | rw [← Ny167.out] at ho10 | (simp only [Int.reduceToNat] at ho10; rw [← Ny167.out] at ho10)); have HO169 := Aside0.mk (Kd.S_lower ho10 (below_size (bI HB.out))); replace HB := bs HB hb; clear hb ho10) | ((with_reducible refine gate_dst (N := 17) rfl ?_); (try (refine gate_guard (by rfl) ?_; dsimp only)); refine Kd.S_lit k95 _ 95 ?hg (N := 17) ?hd (xs := ([] : List (S95))) (inner := []) (ok := fun _ => True) (okp := fun _ => True) ?hr ?hp (fun _ hk => hk) trivial (Below.refl _ _) (Nat.le_refl _) (by simp) ?_; (case hd => rfl); (case hg => rfl); (case hr => first | (go_simp; done) | (go_simp; rfl)); (case hp => exact (Reps.none _ _)); intro v171 w11 ho12 hb hg_ hnew_; clear hg_ hnew_; (first | rw [← Ny170.out] at ho12 | (simp only [Int.reduceToNat] at ho12; rw [← Ny170.out] at ho12)); have HO172 := Aside0.mk (Kd.S_lower (Kd.S_new' ho12 (Kd.S_lt (sI HO169.out))) (below_size (bI HB.out))); replace HO169 := Aside0.mk (Kd.S_elder' (sI HO169.out) (Kd.S_base ho12) hb); replace HB := bs HB hb; clear hb ho12) | ((with_reducible refine gate_callee (f := 102) rfl ?_); refine gB (some 22) Tryd.func102 #[.string a0, .int .u8 47] ?_; (with_reducible refine (spec_Split.calls k a0 47 t173 _ A7.out).mono ?_); rintro e w13 ⟨v174, rfl, ho0, hb⟩; refine ⟨_, rfl, ?_⟩; replace HO169 := sb HO169 hb; replace HO172 := sb HO172 hb; have HO175 := Aside0.mk (Kd.R_lower ho0 (below_size (bI HB.out))); replace HB := bs HB hb; (try clear hb); (try clear ho0)))
    (try simp only [Act.put, List.setIfInBounds_toArray, List.set_cons_zero, List.set_cons_succ])
    go_cut [31] (fun v31 wc => ∃ (kq : Nat) (x31_7 : Bool), v31 = .bool x31_7 ∧ Aside0 (spec_Steps.j0 kq y167 y170 t173 x31_7 = some (r1, r2)) ∧ Aside0 (kq ≤ k) ∧ Aside0 (Kd.S k95 95 wc w.heap.size (fun k_ => some k_ ≠ (v171 : Value).ownBlock) v168 y167) ∧ Aside0 (Kd.S k95 95 wc w.heap.size (fun k_ => some k_ ≠ (v168 : Value).ownBlock) v171 y170) ∧ Aside0 (Kd.R Kd.string 9 wc w.heap.size (fun _ => True) v174 t173) ∧ Aside0 (Below w.heap.size w wc))
    case first =>
      have H := HC8.out
      clear HC8
      by_cases c14 : 0 < (t173.length : Int)
      rotate_left
      · rw [if_neg c14] at H
        exact absurd H (by simp)
      rw [if_pos c14] at H
      have c14b0 : decide (0 < (t173.length : Int)) = true := decide_eq_true c14
      have c14b1 : decide (0 < t173.length) = true := decide_eq_true (by omega)
      clear c14
      (first | rw [c14b0] | (simp only [i64_w, i32_w]; rw [c14b0]) | skip)
      by_cases c15 : (rdOf ByteArray.empty t173 0).toList = ([] : List UInt8)
      · rw [if_pos c15] at H
        have c15b0 : ((rdOf ByteArray.empty t173 0).toList == ([] : List UInt8)) = true := beq_iff_eq.mpr c15
        have c15b1 : ((rdOf ByteArray.empty t173 0).toList != ([] : List UInt8)) = false := bne_eq_false_iff_eq.mpr c15
        clear c15
        have H' := Aside0.mk H
        clear H
        obtain ⟨Ao16, co16, eo16⟩ := Kd.R_slice HO175.out
        subst eo16
        have p176 : 0 ≤ (0 : Int) := (by omega)
        have q176 : 0 < (t173.length : Int) := of_decide_eq_true y0_6
        obtain ⟨ad176, e176, hx176_0⟩ := Kd.at_string (Kd.R_reads' HO175.out).2.2 0 p176 q176
        cases e176
        have qi176 : (0 < t173.length) = True := eq_true (by omega)
        (try rw [show ((0 : Int)).toNat = 0 from rfl] at hx176_0)
        (try rw [Addr.add_zero'] at hx176_0)
        replace p176 := eq_true p176
        replace q176 := eq_true q176
        go_wp2
        go_meet
        case rel => exact ⟨_, (decide ((t173.length : Int) > 31)), y0_7, H', ⟨y0_8⟩, ⟨by (with_reducible repeat (first | apply Kd.S_alloc | apply Kd.S_drewN | apply Kd.S_drew)); exact Kd.S_mono HO169.out (fun _ hk => hk.2)⟩, ⟨by (with_reducible repeat (first | apply Kd.S_alloc | apply Kd.S_drewN | apply Kd.S_drew)); exact Kd.S_mono HO172.out (fun _ hk => hk.2)⟩, ⟨by (with_reducible repeat (first | apply Kd.R_alloc | apply Kd.R_drewN | apply Kd.R_drew)); exact HO175.out⟩, ⟨bI HB.out⟩⟩
      · rw [if_neg c15] at H
        have c15b0 : ((rdOf ByteArray.empty t173 0).toList == ([] : List UInt8)) = false := beq_eq_false_iff_ne.mpr c15
        have c15b1 : ((rdOf ByteArray.empty t173 0).toList != ([] : List UInt8)) = true := bne_iff_ne.mpr c15
        have H' := Aside0.mk H
        clear H
        obtain ⟨Ao17, co17, eo17⟩ := Kd.R_slice HO175.out
        subst eo17
        have p176 : 0 ≤ (0 : Int) := (by omega)
        have q176 : 0 < (t173.length : Int) := of_decide_eq_true y0_6
        obtain ⟨ad176, e176, hx176_0⟩ := Kd.at_string (Kd.R_reads' HO175.out).2.2 0 p176 q176
        cases e176
        have qi176 : (0 < t173.length) = True := eq_true (by omega)
        (try rw [show ((0 : Int)).toNat = 0 from rfl] at hx176_0)
        (try rw [Addr.add_zero'] at hx176_0)
        replace p176 := eq_true p176
        replace q176 := eq_true q176
        go_wp2
        go_meet
        case rel => exact ⟨_, (true), y0_7, H', ⟨y0_8⟩, ⟨by (with_reducible repeat (first | apply Kd.S_alloc | apply Kd.S_drewN | apply Kd.S_drew)); exact Kd.S_mono HO169.out (fun _ hk => hk.2)⟩, ⟨by (with_reducible repeat (first | apply Kd.S_alloc | apply Kd.S_drewN | apply Kd.S_drew)); exact Kd.S_mono HO172.out (fun _ hk => hk.2)⟩, ⟨by (with_reducible repeat (first | apply Kd.R_alloc | apply Kd.R_drewN | apply Kd.R_drew)); exact HO175.out⟩, ⟨bI HB.out⟩⟩
    case rest =>
      clear HC8
      try clear c1
      try clear p1
      try clear q1
      try clear hx1
      try clear qi1
      try clear c2
      try clear c2b0
      try clear c2b1
      try clear p2
      try clear c6
      try clear c10
      try clear c14
      try clear c14b0
      try clear c14b1
      try clear c15
      try clear c15b0
      try clear c15b1
      try clear p17
      try clear q17
      try clear hx17
      try clear qi17
      try clear hx176_0
      try clear p176
      try clear q176
      obtain ⟨kq, x31_7, rfl, HA, HJ7, HO_4, HO_5, HO_6, HB⟩ := hcut
      cases kq with
      | zero => exact absurd HA.out (by simp [spec_Steps.j0])
      | succ kj7 =>
        have H := HA.out
        clear HA
        simp only [spec_Steps.j0] at H
        by_cases c18 : x31_7 = true
        · subst c18
          rw [if_pos rfl] at H
          simp only [Option.some.injEq, Prod.mk.injEq] at H
          obtain ⟨rfl, rfl⟩ := H
          go_wp2
          go_ret2
          exact ⟨_, y0_4, y0_2, bI HB.out⟩
        · replace c18 := Bool.eq_false_iff.mpr c18
          subst c18
          rw [if_neg (show ¬ (false = true) by decide)] at H
          have H' := Aside0.mk H
          clear H
          go_wp2
          go_loopg [5, 7, 8] kj7 (fun kq v5 v7 v8 w' => ∃ (x5_2 : List (S95)) (x7_2 : Int) (x8_2 : Int), v7 = .int .i64 x7_2 ∧ v8 = .int .i64 x8_2 ∧ Aside0 (spec_Steps.l0 kq y167 x5_2 t173 x7_2 x8_2 = some (r1, r2)) ∧ Aside0 (kq ≤ kj7) ∧ Aside0 (Kd.S k95 95 w' w.heap.size (fun k_ => some k_ ≠ (v5 : Value).ownBlock) v168 y167) ∧ Aside0 (Kd.S k95 95 w' w.heap.size (fun k_ => some k_ ≠ (v168 : Value).ownBlock) v5 x5_2) ∧ Aside0 (Kd.R Kd.string 9 w' w.heap.size (fun _ => True) v174 t173) ∧ Aside0 (Below w.heap.size w w'))
          case atStart => exact ⟨(y170), (0), (1), y0_7, y0_7, H', ⟨Nat.le_refl _⟩, ⟨by (with_reducible repeat (first | apply Kd.S_alloc | apply Kd.S_drewN | apply Kd.S_drew)); exact HO_4.out⟩, ⟨by (with_reducible repeat (first | apply Kd.S_alloc | apply Kd.S_drewN | apply Kd.S_drew)); exact HO_5.out⟩, ⟨by (with_reducible repeat (first | apply Kd.R_alloc | apply Kd.R_drewN | apply Kd.R_drew)); exact HO_6.out⟩, ⟨bI HB.out⟩⟩
          case round =>
            clear H'
            try clear c1
            try clear p1
            try clear q1
            try clear hx1
            try clear qi1
            try clear c2
            try clear c2b0
            try clear c2b1
            try clear p2
            try clear c6
            try clear c10
            try clear c14
            try clear c14b0
            try clear c14b1
            try clear c15
            try clear c15b0
            try clear c15b1
            try clear p17
            try clear q17
            try clear hx17
            try clear qi17
            try clear c18
            try clear hx176_0
            try clear p1
            try clear p17
            try clear p176
            try clear p2
            try clear q1
            try clear q17
            try clear q176
            obtain ⟨x5_2, x7_2, x8_2, rfl, rfl, HA, HK2, HO_4, HO_5, HO_6, HB⟩ := hrel
            cases gk with
            | zero => exact absurd HA.out (by simp [spec_Steps.l0])
            | succ k2 =>
              have H := HA.out
              clear HA
              simp only [spec_Steps.l0] at H
              by_cases c19 : x8_2 < (t173.length : Int)
              · rw [if_pos c19] at H
                have c19b0 : decide (x8_2 < (t173.length : Int)) = true := decide_eq_true c19
                clear c19
                by_cases c20 : 0 ≤ x8_2
                rotate_left
                · rw [if_neg c20] at H
                  exact absurd H (by simp)
                rw [if_pos c20] at H
                have c20b0 : decide (0 ≤ x8_2) = true := decide_eq_true c20
                clear c20
                obtain ⟨⟨t178, t179, t180⟩, A210, H⟩ := Option.bind_eq_some_iff.mp H
                try dsimp only at H
                have A21 := Aside0.mk A210
                clear A210
                obtain ⟨⟨t181, t182⟩, A220, H⟩ := Option.bind_eq_some_iff.mp H
                try dsimp only at H
                have A22 := Aside0.mk A220
                clear A220
                obtain ⟨⟨t183, t184⟩, A230, H⟩ := Option.bind_eq_some_iff.mp H
                try dsimp only at H
                have A23 := Aside0.mk A230
                clear A230
                by_cases c24 : t180 = true
                · subst c24
                  rw [if_pos rfl] at H
                  by_cases c25 : t182 = true
                  · subst c25
                    rw [if_pos rfl] at H
                    by_cases c26 : t184 = true
                    · subst c26
                      rw [if_pos rfl] at H
                      by_cases c27 : t181 ≤ x7_2
                      · rw [if_pos c27] at H
                        have c27b0 : decide (t181 ≤ x7_2) = true := decide_eq_true c27
                        clear c27
                        simp only [Option.some.injEq, Prod.mk.injEq] at H
                        obtain ⟨rfl, rfl⟩ := H
                        obtain ⟨Ao28, co28, eo28⟩ := Kd.R_slice HO_6.out
                        subst eo28
                        have p177 : 0 ≤ (x8_2 : Int) := of_decide_eq_true y0_6
                        have q177 : x8_2 < (t173.length : Int) := of_decide_eq_true y0_6
                        obtain ⟨ad177, e177, hx177_0⟩ := Kd.at_string (Kd.R_reads' HO_6.out).2.2 x8_2 p177 q177
                        cases e177
                        replace p177 := eq_true p177
                        replace q177 := eq_true q177
                        go_wp2_with (first | ((with_reducible refine gate_callee (f := 103) rfl ?_); refine gB (some 44) Tryd.func103 #[.string (rdOf ByteArray.empty t173 x8_2), .int .u8 124] ?_; (with_reducible refine (spec_l2Cut.calls k2 (rdOf ByteArray.empty t173 x8_2) 124 t178 t179 true _ A21.out).mono ?_); rintro e w' ⟨rfl, ⟨nd, rfl⟩⟩; refine ⟨_, rfl, ?_⟩) | ((with_reducible refine gate_callee (f := 104) rfl ?_); refine gB (some 50) Tryd.func104 #[.string t178] ?_; (with_reducible refine (spec_Number.calls k2 t178 t181 true _ A22.out).mono ?_); rintro e w29 ⟨rfl, hb⟩; refine ⟨_, rfl, ?_⟩; replace HO_4 := sb HO_4 hb; replace HO_5 := sb HO_5 hb; replace HO_6 := rb HO_6 hb; replace HB := bs HB hb; (try clear hb); (try clear hb2); (try clear hk); (try clear hi)) | ((with_reducible refine gate_callee (f := 105) rfl ?_); refine gB (some 55) Tryd.func105 #[.string t179] ?_; (with_reducible refine (spec_TxsOf.calls k2 t179 t183 true _ A23.out).mono ?_); rintro e w30 ⟨v185, rfl, ho0, hb⟩; refine ⟨_, rfl, ?_⟩; replace HO_4 := Aside0.mk (Kd.S_elder' (sI HO_4.out) (Kd.R_base ho0) hb); replace HO_5 := Aside0.mk (Kd.S_elder' (sI HO_5.out) (Kd.R_base ho0) hb); replace HO_6 := rb HO_6 hb; have HO186 := Aside0.mk (Kd.R_lower ho0 (below_size (bI HB.out))); replace HB := bs HB hb; (try clear hb)))
                        go_ret2
                        exact ⟨_, y0_4, y0_2, bI HB.out⟩
                      · rw [if_neg c27] at H
                        have c27b0 : decide (t181 ≤ x7_2) = false := decide_eq_false c27
                        clear c27
                        by_cases c31 : t181 > 60
                        · rw [if_pos c31] at H
                          have c31b0 : decide (60 < t181) = true := decide_eq_true c31
                          clear c31
                          simp only [Option.some.injEq, Prod.mk.injEq] at H
                          obtain ⟨rfl, rfl⟩ := H
                          obtain ⟨Ao32, co32, eo32⟩ := Kd.R_slice HO_6.out
                          subst eo32
                          have p177 : 0 ≤ (x8_2 : Int) := of_decide_eq_true y0_6
                          have q177 : x8_2 < (t173.length : Int) := of_decide_eq_true y0_6
                          obtain ⟨ad177, e177, hx177_0⟩ := Kd.at_string (Kd.R_reads' HO_6.out).2.2 x8_2 p177 q177
                          cases e177
                          replace p177 := eq_true p177
                          replace q177 := eq_true q177
                          go_wp2_with (first | ((with_reducible refine gate_callee (f := 103) rfl ?_); refine gB (some 44) Tryd.func103 #[.string (rdOf ByteArray.empty t173 x8_2), .int .u8 124] ?_; (with_reducible refine (spec_l2Cut.calls k2 (rdOf ByteArray.empty t173 x8_2) 124 t178 t179 true _ A21.out).mono ?_); rintro e w' ⟨rfl, ⟨nd, rfl⟩⟩; refine ⟨_, rfl, ?_⟩) | ((with_reducible refine gate_callee (f := 104) rfl ?_); refine gB (some 50) Tryd.func104 #[.string t178] ?_; (with_reducible refine (spec_Number.calls k2 t178 t181 true _ A22.out).mono ?_); rintro e w33 ⟨rfl, hb⟩; refine ⟨_, rfl, ?_⟩; replace HO_4 := sb HO_4 hb; replace HO_5 := sb HO_5 hb; replace HO_6 := rb HO_6 hb; replace HB := bs HB hb; (try clear hb); (try clear hb2); (try clear hk); (try clear hi)) | ((with_reducible refine gate_callee (f := 105) rfl ?_); refine gB (some 55) Tryd.func105 #[.string t179] ?_; (with_reducible refine (spec_TxsOf.calls k2 t179 t183 true _ A23.out).mono ?_); rintro e w34 ⟨v185, rfl, ho0, hb⟩; refine ⟨_, rfl, ?_⟩; replace HO_4 := Aside0.mk (Kd.S_elder' (sI HO_4.out) (Kd.R_base ho0) hb); replace HO_5 := Aside0.mk (Kd.S_elder' (sI HO_5.out) (Kd.R_base ho0) hb); replace HO_6 := rb HO_6 hb; have HO186 := Aside0.mk (Kd.R_lower ho0 (below_size (bI HB.out))); replace HB := bs HB hb; (try clear hb)))
                          go_ret2
                          exact ⟨_, y0_4, y0_2, bI HB.out⟩
                        · rw [if_neg c31] at H
                          have c31b0 : decide (60 < t181) = false := decide_eq_false c31
                          clear c31
                          by_cases c35 : (t183.length : Int) > 2
                          · rw [if_pos c35] at H
                            have c35b0 : decide (2 < (t183.length : Int)) = true := decide_eq_true c35
                            have c35b1 : decide (2 < t183.length) = true := decide_eq_true (by omega)
                            clear c35
                            simp only [Option.some.injEq, Prod.mk.injEq] at H
                            obtain ⟨rfl, rfl⟩ := H
                            obtain ⟨Ao36, co36, eo36⟩ := Kd.R_slice HO_6.out
                            subst eo36
                            have p177 : 0 ≤ (x8_2 : Int) := of_decide_eq_true y0_6
                            have q177 : x8_2 < (t173.length : Int) := of_decide_eq_true y0_6
                            obtain ⟨ad177, e177, hx177_0⟩ := Kd.at_string (Kd.R_reads' HO_6.out).2.2 x8_2 p177 q177
                            cases e177
                            replace p177 := eq_true p177
                            replace q177 := eq_true q177
                            go_wp2_with (first | ((with_reducible refine gate_callee (f := 103) rfl ?_); refine gB (some 44) Tryd.func103 #[.string (rdOf ByteArray.empty t173 x8_2), .int .u8 124] ?_; (with_reducible refine (spec_l2Cut.calls k2 (rdOf ByteArray.empty t173 x8_2) 124 t178 t179 true _ A21.out).mono ?_); rintro e w' ⟨rfl, ⟨nd, rfl⟩⟩; refine ⟨_, rfl, ?_⟩) | ((with_reducible refine gate_callee (f := 104) rfl ?_); refine gB (some 50) Tryd.func104 #[.string t178] ?_; (with_reducible refine (spec_Number.calls k2 t178 t181 true _ A22.out).mono ?_); rintro e w37 ⟨rfl, hb⟩; refine ⟨_, rfl, ?_⟩; replace HO_4 := sb HO_4 hb; replace HO_5 := sb HO_5 hb; replace HO_6 := rb HO_6 hb; replace HB := bs HB hb; (try clear hb); (try clear hb2); (try clear hk); (try clear hi)) | ((with_reducible refine gate_callee (f := 105) rfl ?_); refine gB (some 55) Tryd.func105 #[.string t179] ?_; (with_reducible refine (spec_TxsOf.calls k2 t179 t183 true _ A23.out).mono ?_); rintro e w38 ⟨v185, rfl, ho0, hb⟩; refine ⟨_, rfl, ?_⟩; replace HO_4 := Aside0.mk (Kd.S_elder' (sI HO_4.out) (Kd.R_base ho0) hb); replace HO_5 := Aside0.mk (Kd.S_elder' (sI HO_5.out) (Kd.R_base ho0) hb); replace HO_6 := rb HO_6 hb; have HO186 := Aside0.mk (Kd.R_lower ho0 (below_size (bI HB.out))); replace HB := bs HB hb; (try clear hb); obtain ⟨Ao39, co39, eo39⟩ := Kd.R_slice HO186.out; subst eo39))
                            go_ret2
                            exact ⟨_, y0_4, y0_2, bI HB.out⟩
                          · rw [if_neg c35] at H
                            have c35b0 : decide (2 < (t183.length : Int)) = false := decide_eq_false c35
                            have c35b1 : decide (2 < t183.length) = false := decide_eq_false (by omega)
                            clear c35
                            by_cases c40 : x5_2.length < 4398046511104
                            rotate_left
                            · rw [if_neg c40] at H
                              exact absurd H (by simp)
                            rw [if_pos c40] at H
                            have LMc40 := Aside0.mk c40
                            clear c40
                            obtain ⟨y187, hy187⟩ : ∃ y_ : List (S95), y_ = (x5_2 ++ [(⟨t181, t183⟩ : S95)]) := ⟨_, rfl⟩
                            replace H : (spec_Steps.l0 k2 y167 y187 t173 t181 (wrap64 (x8_2 + 1))) = some (r1, r2) := by first | (rw [hy187]; with_reducible exact H) | (have H2_ := (Option.bind_some _ _).symm.trans H; rw [hy187]; with_reducible exact H2_) | (have H2_ := (Option.bind_some _ _).symm.trans H; with_reducible exact H2_) | with_reducible exact H | (rw [hy187]; exact H) | exact H
                            have Ny187 := Aside0.mk hy187
                            clear hy187
                            have H' := Aside0.mk H
                            clear H
                            obtain ⟨Ao41, co41, eo41⟩ := Kd.R_slice HO_6.out
                            subst eo41
                            have p177 : 0 ≤ (x8_2 : Int) := of_decide_eq_true y0_6
                            have q177 : x8_2 < (t173.length : Int) := of_decide_eq_true y0_6
                            obtain ⟨ad177, e177, hx177_0⟩ := Kd.at_string (Kd.R_reads' HO_6.out).2.2 x8_2 p177 q177
                            cases e177
                            replace p177 := eq_true p177
                            replace q177 := eq_true q177
                            go_wp2_with (first | ((with_reducible refine gate_callee (f := 103) rfl ?_); refine gB (some 44) Tryd.func103 #[.string (rdOf ByteArray.empty t173 x8_2), .int .u8 124] ?_; (with_reducible refine (spec_l2Cut.calls k2 (rdOf ByteArray.empty t173 x8_2) 124 t178 t179 true _ A21.out).mono ?_); rintro e w' ⟨rfl, ⟨nd, rfl⟩⟩; refine ⟨_, rfl, ?_⟩) | ((with_reducible refine gate_callee (f := 104) rfl ?_); refine gB (some 50) Tryd.func104 #[.string t178] ?_; (with_reducible refine (spec_Number.calls k2 t178 t181 true _ A22.out).mono ?_); rintro e w42 ⟨rfl, hb⟩; refine ⟨_, rfl, ?_⟩; replace HO_4 := sb HO_4 hb; replace HO_5 := sb HO_5 hb; replace HO_6 := rb HO_6 hb; replace HB := bs HB hb; (try clear hb); (try clear hb2); (try clear hk); (try clear hi)) | ((with_reducible refine gate_callee (f := 105) rfl ?_); refine gB (some 55) Tryd.func105 #[.string t179] ?_; (with_reducible refine (spec_TxsOf.calls k2 t179 t183 true _ A23.out).mono ?_); rintro e w43 ⟨v185, rfl, ho0, hb⟩; refine ⟨_, rfl, ?_⟩; replace HO_4 := Aside0.mk (Kd.S_elder' (sI HO_4.out) (Kd.R_base ho0) hb); replace HO_5 := Aside0.mk (Kd.S_elder' (sI HO_5.out) (Kd.R_base ho0) hb); replace HO_6 := rb HO_6 hb; have HO186 := Aside0.mk (Kd.R_lower ho0 (below_size (bI HB.out))); replace HB := bs HB hb; (try clear hb); obtain ⟨Ao44, co44, eo44⟩ := Kd.R_slice HO186.out; subst eo44) | ((with_reducible refine gate_builtin (b := .append) (xs := #[.tmp 84, .tmp 88]) rfl ?_); (try (refine gate_guard (by rfl) ?_; dsimp only)); at_builtin; refine Kd.S_append k95 (w0 := w) w.heap.size rfl (.tmp 84) (.tmp 88) 90 95 (.agg #[(.int .i64 0), (.slice none 0 0)]) 32 rfl Tryd.underlying90 info95 rfl (by decide) (by omega) u5 x5_2 (⟨t181, t183⟩ : S95) [.int .i64 t181, .slice Ao44 t183.length co44] (fun k_ => some k_ ≠ (v168 : Value).ownBlock) (fun k_ => some k_ = (.slice Ao44 t183.length co44 : Value).ownBlock) rfl rfl ?aP (fun k_ hk_ => ((Kd.R_mono (ok' := fun k_ => ((fun k_ => some k_ ≠ (v168 : Value).ownBlock)) k_ ∧ some k_ ≠ (u5 : Value).ownBlock) (Kd.R_apart' (Kd.R_apart' (HO186.out) (Kd.S_typed HO_4.out) (by decide)) (Kd.S_typed HO_5.out) (by decide)) (fun k_ hk => ⟨hk.1.2, hk.2⟩))).1 k_ hk_.symm) ?aF ?aO ?aB ?aS ?aL ?_; (case aP => exact k95_mkM _ _ _ (⟨t181, t183⟩ : S95) (Kd.R_mono (Kd.R_tight rfl (Kd.R_mono (ok' := fun k_ => ((fun k_ => some k_ ≠ (v168 : Value).ownBlock)) k_ ∧ some k_ ≠ (u5 : Value).ownBlock) (Kd.R_apart' (Kd.R_apart' (HO186.out) (Kd.S_typed HO_4.out) (by decide)) (Kd.S_typed HO_5.out) (by decide)) (fun k_ hk => ⟨hk.1.2, hk.2⟩))) (fun _ h_ => h_))); (case aB => exact (bI HB.out)); (case aF => exact (fun k_ hk => Kd.fresh' (Kd.S_lt (sI HO_4.out)) k_ hk)); (case aO => exact (sI (Kd.S_mono HO_5.out (fun k_ hk => ⟨hk.1, fun e_ => hk.2 e_⟩)))); (case aS => exact (below_size (bI HB.out))); (case aL => have := LMc40.out; omega); intro v188 w45 ho hb hg hat; rw [← Ny187.out] at ho; have n0_ := Aside0.mk (Kd.S_after (ok := (fun k_ => some k_ ≠ (.slice Ao44 t183.length co44 : Value).ownBlock)) (sI (Kd.S_mono HO_4.out (fun _ hk => ⟨hk.2, hk.1⟩))) hg hat); have n1_ := Aside0.mk (Kd.R_over' (rI HO_6.out) (Kd.S_typed (sI HO_5.out)) (by decide) hg); have n2_ := Aside0.mk (hb); have n3_ := Aside0.mk (ho); clear HO_4; clear HO_6; clear HB; clear HO_5; clear HO186; have HO_4 := n0_; have HO_6 := n1_; have HB := n2_; have HO189 := n3_; clear n0_ n1_ n2_ n3_; clear ho hb hg hat))
                            go_roundg k2
                            case measure => have := HJ7.out; have := HK2.out; omega
                            case rel => exact ⟨(y187), (t181), (wrap64 (x8_2 + 1)), y0_7, y0_7, H', ⟨by have := HJ7.out; have := HK2.out; omega⟩, ⟨by (with_reducible repeat (first | apply Kd.S_alloc | apply Kd.S_drewN | apply Kd.S_drew)); exact Kd.S_mono HO_4.out (fun _ hk => hk.2)⟩, ⟨by (with_reducible repeat (first | apply Kd.S_alloc | apply Kd.S_drewN | apply Kd.S_drew)); exact HO189.out⟩, ⟨by (with_reducible repeat (first | apply Kd.R_alloc | apply Kd.R_drewN | apply Kd.R_drew)); exact HO_6.out⟩, ⟨bI HB.out⟩⟩
                    · replace c26 := Bool.eq_false_iff.mpr c26
                      subst c26
                      rw [if_neg (show ¬ (false = true) by decide)] at H
                      simp only [Option.some.injEq, Prod.mk.injEq] at H
                      obtain ⟨rfl, rfl⟩ := H
                      obtain ⟨Ao46, co46, eo46⟩ := Kd.R_slice HO_6.out
                      subst eo46
                      have p177 : 0 ≤ (x8_2 : Int) := of_decide_eq_true y0_6
                      have q177 : x8_2 < (t173.length : Int) := of_decide_eq_true y0_6
                      obtain ⟨ad177, e177, hx177_0⟩ := Kd.at_string (Kd.R_reads' HO_6.out).2.2 x8_2 p177 q177
                      cases e177
                      replace p177 := eq_true p177
                      replace q177 := eq_true q177
                      go_wp2_with (first | ((with_reducible refine gate_callee (f := 103) rfl ?_); refine gB (some 44) Tryd.func103 #[.string (rdOf ByteArray.empty t173 x8_2), .int .u8 124] ?_; (with_reducible refine (spec_l2Cut.calls k2 (rdOf ByteArray.empty t173 x8_2) 124 t178 t179 true _ A21.out).mono ?_); rintro e w' ⟨rfl, ⟨nd, rfl⟩⟩; refine ⟨_, rfl, ?_⟩) | ((with_reducible refine gate_callee (f := 104) rfl ?_); refine gB (some 50) Tryd.func104 #[.string t178] ?_; (with_reducible refine (spec_Number.calls k2 t178 t181 true _ A22.out).mono ?_); rintro e w47 ⟨rfl, hb⟩; refine ⟨_, rfl, ?_⟩; replace HO_4 := sb HO_4 hb; replace HO_5 := sb HO_5 hb; replace HO_6 := rb HO_6 hb; replace HB := bs HB hb; (try clear hb); (try clear hb2); (try clear hk); (try clear hi)) | ((with_reducible refine gate_callee (f := 105) rfl ?_); refine gB (some 55) Tryd.func105 #[.string t179] ?_; (with_reducible refine (spec_TxsOf.calls k2 t179 t183 false _ A23.out).mono ?_); rintro e w48 ⟨v185, rfl, ho0, hb⟩; refine ⟨_, rfl, ?_⟩; replace HO_4 := Aside0.mk (Kd.S_elder' (sI HO_4.out) (Kd.R_base ho0) hb); replace HO_5 := Aside0.mk (Kd.S_elder' (sI HO_5.out) (Kd.R_base ho0) hb); replace HO_6 := rb HO_6 hb; have HO186 := Aside0.mk (Kd.R_lower ho0 (below_size (bI HB.out))); replace HB := bs HB hb; (try clear hb)))
                      go_ret2
                      exact ⟨_, y0_4, y0_2, bI HB.out⟩
                  · replace c25 := Bool.eq_false_iff.mpr c25
                    subst c25
                    rw [if_neg (show ¬ (false = true) by decide)] at H
                    simp only [Option.some.injEq, Prod.mk.injEq] at H
                    obtain ⟨rfl, rfl⟩ := H
                    obtain ⟨Ao49, co49, eo49⟩ := Kd.R_slice HO_6.out
                    subst eo49
                    have p177 : 0 ≤ (x8_2 : Int) := of_decide_eq_true y0_6
                    have q177 : x8_2 < (t173.length : Int) := of_decide_eq_true y0_6
                    obtain ⟨ad177, e177, hx177_0⟩ := Kd.at_string (Kd.R_reads' HO_6.out).2.2 x8_2 p177 q177
                    cases e177
                    replace p177 := eq_true p177
                    replace q177 := eq_true q177
                    go_wp2_with (first | ((with_reducible refine gate_callee (f := 103) rfl ?_); refine gB (some 44) Tryd.func103 #[.string (rdOf ByteArray.empty t173 x8_2), .int .u8 124] ?_; (with_reducible refine (spec_l2Cut.calls k2 (rdOf ByteArray.empty t173 x8_2) 124 t178 t179 true _ A21.out).mono ?_); rintro e w' ⟨rfl, ⟨nd, rfl⟩⟩; refine ⟨_, rfl, ?_⟩) | ((with_reducible refine gate_callee (f := 104) rfl ?_); refine gB (some 50) Tryd.func104 #[.string t178] ?_; (with_reducible refine (spec_Number.calls k2 t178 t181 false _ A22.out).mono ?_); rintro e w50 ⟨rfl, hb⟩; refine ⟨_, rfl, ?_⟩; replace HO_4 := sb HO_4 hb; replace HO_5 := sb HO_5 hb; replace HO_6 := rb HO_6 hb; replace HB := bs HB hb; (try clear hb); (try clear hb2); (try clear hk); (try clear hi)) | ((with_reducible refine gate_callee (f := 105) rfl ?_); refine gB (some 55) Tryd.func105 #[.string t179] ?_; (with_reducible refine (spec_TxsOf.calls k2 t179 t183 t184 _ A23.out).mono ?_); rintro e w51 ⟨v185, rfl, ho0, hb⟩; refine ⟨_, rfl, ?_⟩; replace HO_4 := Aside0.mk (Kd.S_elder' (sI HO_4.out) (Kd.R_base ho0) hb); replace HO_5 := Aside0.mk (Kd.S_elder' (sI HO_5.out) (Kd.R_base ho0) hb); replace HO_6 := rb HO_6 hb; have HO186 := Aside0.mk (Kd.R_lower ho0 (below_size (bI HB.out))); replace HB := bs HB hb; (try clear hb)))
                    go_ret2
                    exact ⟨_, y0_4, y0_2, bI HB.out⟩
                · replace c24 := Bool.eq_false_iff.mpr c24
                  subst c24
                  rw [if_neg (show ¬ (false = true) by decide)] at H
                  simp only [Option.some.injEq, Prod.mk.injEq] at H
                  obtain ⟨rfl, rfl⟩ := H
                  obtain ⟨Ao52, co52, eo52⟩ := Kd.R_slice HO_6.out
                  subst eo52
                  have p177 : 0 ≤ (x8_2 : Int) := of_decide_eq_true y0_6
                  have q177 : x8_2 < (t173.length : Int) := of_decide_eq_true y0_6
                  obtain ⟨ad177, e177, hx177_0⟩ := Kd.at_string (Kd.R_reads' HO_6.out).2.2 x8_2 p177 q177
                  cases e177
                  replace p177 := eq_true p177
                  replace q177 := eq_true q177
                  go_wp2_with (first | ((with_reducible refine gate_callee (f := 103) rfl ?_); refine gB (some 44) Tryd.func103 #[.string (rdOf ByteArray.empty t173 x8_2), .int .u8 124] ?_; (with_reducible refine (spec_l2Cut.calls k2 (rdOf ByteArray.empty t173 x8_2) 124 t178 t179 false _ A21.out).mono ?_); rintro e w' ⟨rfl, ⟨nd, rfl⟩⟩; refine ⟨_, rfl, ?_⟩) | ((with_reducible refine gate_callee (f := 104) rfl ?_); refine gB (some 50) Tryd.func104 #[.string t178] ?_; (with_reducible refine (spec_Number.calls k2 t178 t181 t182 _ A22.out).mono ?_); rintro e w53 ⟨rfl, hb⟩; refine ⟨_, rfl, ?_⟩; replace HO_4 := sb HO_4 hb; replace HO_5 := sb HO_5 hb; replace HO_6 := rb HO_6 hb; replace HB := bs HB hb; (try clear hb); (try clear hb2); (try clear hk); (try clear hi)) | ((with_reducible refine gate_callee (f := 105) rfl ?_); refine gB (some 55) Tryd.func105 #[.string t179] ?_; (with_reducible refine (spec_TxsOf.calls k2 t179 t183 t184 _ A23.out).mono ?_); rintro e w54 ⟨v185, rfl, ho0, hb⟩; refine ⟨_, rfl, ?_⟩; replace HO_4 := Aside0.mk (Kd.S_elder' (sI HO_4.out) (Kd.R_base ho0) hb); replace HO_5 := Aside0.mk (Kd.S_elder' (sI HO_5.out) (Kd.R_base ho0) hb); replace HO_6 := rb HO_6 hb; have HO186 := Aside0.mk (Kd.R_lower ho0 (below_size (bI HB.out))); replace HB := bs HB hb; (try clear hb)))
                  go_ret2
                  exact ⟨_, y0_4, y0_2, bI HB.out⟩
              · rw [if_neg c19] at H
                have c19b0 : decide (x8_2 < (t173.length : Int)) = false := decide_eq_false c19
                clear c19
                simp only [Option.some.injEq, Prod.mk.injEq] at H
                obtain ⟨rfl, rfl⟩ := H
                obtain ⟨Ao55, co55, eo55⟩ := Kd.R_slice HO_6.out
                subst eo55
                go_wp2
                go_ret2
                exact ⟨_, y0_4, by (with_reducible repeat (first | apply Kd.S_alloc | apply Kd.S_drewN | apply Kd.S_drew)); exact Kd.S_mono HO_5.out (fun _ hk => trivial), bI HB.out⟩

/-! ### spec_NameOk: function 73 -/
def spec_NameOk.f (k : Nat) (a0 : ByteArray) : Option (Bool) := (spec_Steps.f k a0).bind fun bt190 => (some bt190.2)
theorem spec_NameOk.mono : ∀ a0 k, LeO (spec_NameOk.f k a0) (spec_NameOk.f (k + 1) a0) := by
  intro a0 k
  unfold spec_NameOk.f
  repeat' first
      | (with_reducible exact spec_Steps.mono _ _)
      | (with_reducible exact LeO.refl _)
      | (with_reducible exact LeO.none _)
      | (with_reducible refine LeO.ite ?_ ?_)
      | (with_reducible refine LeO.bind ?_ (fun _ => ?_))
      | exact spec_Steps.mono _ _
      | exact LeO.none _
      | refine LeO.ite ?_ ?_
      | refine LeO.bind ?_ (fun _ => ?_)
set_option maxHeartbeats 8000000 in
set_option maxRecDepth 100000 in
theorem spec_NameOk.calls (k : Nat) (a0 : ByteArray) (r : Bool) (w : World) (h : spec_NameOk.f k a0 = some r) :
    Calls Tryd.prog 73 #[.string a0] w fun e w' => e = .returned (.bool r) ∧ Below w.heap.size w w' := by
  have HB := Aside0.mk (Below.refl w.heap.size w)
  have H : ((spec_Steps.f k a0).bind fun bt190 => (some bt190.2)) = some r := h
  clear h
  obtain ⟨⟨t190, t191⟩, A20, H⟩ := Option.bind_eq_some_iff.mp H
  try dsimp only at H
  have A2 := Aside0.mk A20
  clear A20
  obtain rfl := Option.some.inj H
  go_enter Tryd.func73, Tryd.ntmps73
  go_wp2_with (first | ((with_reducible refine gate_callee (f := 65) rfl ?_); refine gB (some 7) Tryd.func65 #[.string a0] ?_; (with_reducible refine (spec_Steps.calls k a0 t190 t191 _ A2.out).mono ?_); rintro e w3 ⟨v192, rfl, ho0, hb⟩; refine ⟨_, rfl, ?_⟩; have HO193 := Aside0.mk (Kd.S_lower ho0 (below_size (bI HB.out))); replace HB := bs HB hb; (try clear hb); (try clear ho0)))
  go_ret
  exact ⟨y0_4, bI HB.out⟩

/-! ### spec_l1Max: function 106 -/
def spec_l1Max.f (a0 : Int) (a1 : Int) : Option (Int) := if a0 > a1 then (some a0) else (some a1)
set_option maxHeartbeats 8000000 in
set_option maxRecDepth 100000 in
theorem spec_l1Max.calls (a0 : Int) (a1 : Int) (r : Int) (w : World) (h : spec_l1Max.f a0 a1 = some r) :
    Calls Tryd.prog 106 #[.int .i64 a0, .int .i64 a1] w fun e w' => e = .returned (.int .i64 r) ∧ Drawn0 w w' := by
  have H : (if a0 > a1 then (some a0) else (some a1)) = some r := h
  clear h
  by_cases c3 : a0 > a1
  · rw [if_pos c3] at H
    have c3b0 : decide (a1 < a0) = true := decide_eq_true c3
    clear c3
    obtain rfl := Option.some.inj H
    go_enter Tryd.func106, Tryd.ntmps106
    go_wp2
    go_ret
    exact ⟨y0_7, y0_5⟩
  · rw [if_neg c3] at H
    have c3b0 : decide (a1 < a0) = false := decide_eq_false c3
    clear c3
    obtain rfl := Option.some.inj H
    go_enter Tryd.func106, Tryd.ntmps106
    go_wp2
    go_ret
    exact ⟨y0_7, y0_5⟩

/-! ### spec_UpOf: function 66 -/
def spec_UpOf.l0 : Nat → ByteArray → Int → Option (ByteArray)
  | 0, _, _ => none
  | k + 1, x0, x3 => if x3 > 0 then (if 0 ≤ (wrap64 (x3 - 1)) then (if (wrap64 (x3 - 1)) < (x0.size : Int) then (if (bt x0 (wrap64 (x3 - 1))) = 47 then ((spec_l1Max.f (wrap64 (x3 - 1)) 0).bind fun t195 => (if 0 ≤ t195 then (if t195 ≤ (x0.size : Int) then (some (x0.extract 0 (t195 : Int).toNat)) else (none)) else (none))) else (spec_UpOf.l0 k x0 (wrap64 (x3 - 1)))) else (none)) else (none)) else ((spec_l1Max.f (wrap64 (x3 - 1)) 0).bind fun t196 => (if 0 ≤ t196 then (if t196 ≤ (x0.size : Int) then (some (x0.extract 0 (t196 : Int).toNat)) else (none)) else (none)))
def spec_UpOf.f (k : Nat) (a0 : ByteArray) : Option (ByteArray) := (spec_NameOk.f k a0).bind fun t194 => (if t194 = true then (spec_UpOf.l0 k a0 (a0.size : Int)) else (some (⟨#[]⟩ : ByteArray)))
theorem spec_UpOf.mono_l : ∀ k, (∀ y0 y1, LeO (spec_UpOf.l0 k y0 y1) (spec_UpOf.l0 (k + 1) y0 y1))
  | 0 => fun _ _ r h => by simp [spec_UpOf.l0] at h
  | k + 1 => by
    have ih0 := spec_UpOf.mono_l k
    · intro y0 y1
      unfold spec_UpOf.l0
      repeat' first
      | (with_reducible exact ih0 _ _)
      | (with_reducible exact spec_NameOk.mono _ _)
      | (with_reducible exact LeO.refl _)
      | (with_reducible exact LeO.none _)
      | (with_reducible refine LeO.ite ?_ ?_)
      | (with_reducible refine LeO.bind ?_ (fun _ => ?_))
      | exact ih0 _ _
      | exact spec_NameOk.mono _ _
      | exact LeO.none _
      | refine LeO.ite ?_ ?_
      | refine LeO.bind ?_ (fun _ => ?_)
theorem spec_UpOf.mono : ∀ a0 k, LeO (spec_UpOf.f k a0) (spec_UpOf.f (k + 1) a0) := by
  intro a0 k
  have ih0 := spec_UpOf.mono_l k
  unfold spec_UpOf.f
  repeat' first
      | (with_reducible exact ih0 _ _)
      | (with_reducible exact spec_NameOk.mono _ _)
      | (with_reducible exact LeO.refl _)
      | (with_reducible exact LeO.none _)
      | (with_reducible refine LeO.ite ?_ ?_)
      | (with_reducible refine LeO.bind ?_ (fun _ => ?_))
      | exact ih0 _ _
      | exact spec_NameOk.mono _ _
      | exact LeO.none _
      | refine LeO.ite ?_ ?_
      | refine LeO.bind ?_ (fun _ => ?_)
set_option maxHeartbeats 8000000 in
set_option maxRecDepth 100000 in
theorem spec_UpOf.calls (k : Nat) (a0 : ByteArray) (r : ByteArray) (w : World) (h : spec_UpOf.f k a0 = some r) :
    Calls Tryd.prog 66 #[.string a0] w fun e w' => e = .returned (.string r) ∧ Below w.heap.size w w' := by
  have HB := Aside0.mk (Below.refl w.heap.size w)
  have H : ((spec_NameOk.f k a0).bind fun t194 => (if t194 = true then (spec_UpOf.l0 k a0 (a0.size : Int)) else (some (⟨#[]⟩ : ByteArray)))) = some r := h
  clear h
  obtain ⟨t194, A20, H⟩ := Option.bind_eq_some_iff.mp H
  try dsimp only at H
  have A2 := Aside0.mk A20
  clear A20
  by_cases c3 : t194 = true
  · subst c3
    rw [if_pos rfl] at H
    have H' := Aside0.mk H
    clear H
    go_enter Tryd.func66, Tryd.ntmps66
    go_wp2_with (first | ((with_reducible refine gate_callee (f := 73) rfl ?_); refine gB (some 5) Tryd.func73 #[.string a0] ?_; (with_reducible refine (spec_NameOk.calls k a0 true _ A2.out).mono ?_); rintro e w4 ⟨rfl, hb⟩; refine ⟨_, rfl, ?_⟩; replace HB := bs HB hb; (try clear hb); (try clear hb2); (try clear hk); (try clear hi)))
    go_loopg [3] k (fun kq v3 w' => ∃ (x3_1 : Int), v3 = .int .i64 x3_1 ∧ Aside0 (spec_UpOf.l0 kq a0 x3_1 = some r) ∧ Aside0 (kq ≤ k) ∧ Aside0 (Below w.heap.size w w'))
    case atStart => exact ⟨((a0.size : Int)), y0_7, H', ⟨Nat.le_refl _⟩, ⟨bI HB.out⟩⟩
    case round =>
      clear H'
      try clear p2
      try clear c3
      obtain ⟨x3_1, rfl, HA, HK1, HB⟩ := hrel
      cases gk with
      | zero => exact absurd HA.out (by simp [spec_UpOf.l0])
      | succ k1 =>
        have H := HA.out
        clear HA
        simp only [spec_UpOf.l0] at H
        by_cases c5 : x3_1 > 0
        · rw [if_pos c5] at H
          have c5b0 : decide (0 < x3_1) = true := decide_eq_true c5
          clear c5
          obtain ⟨ji6, hji6⟩ : ∃ j_ : Int, (wrap64 (x3_1 - 1)) = j_ := ⟨_, rfl⟩
          replace H : (if 0 ≤ (ji6) then (if (ji6) < (a0.size : Int) then (if (bt a0 (ji6)) = 47 then ((spec_l1Max.f (ji6) 0).bind fun t195 => (if 0 ≤ t195 then (if t195 ≤ (a0.size : Int) then (some (a0.extract 0 (t195 : Int).toNat)) else (none)) else (none))) else (spec_UpOf.l0 k1 a0 ji6)) else (none)) else (none)) = some r := by first | (rw [hji6] at H; exact H) | (simp only [hji6] at H ⊢; exact H)
          have hji6w : (IntKind.i64.wrap (x3_1 - 1)) = ji6 := (i64_w _).trans hji6
          by_cases c7 : 0 ≤ (ji6)
          rotate_left
          · rw [if_neg c7] at H
            exact absurd H (by simp)
          rw [if_pos c7] at H
          have c7b0 : decide (0 ≤ (ji6)) = true := decide_eq_true c7
          clear c7
          by_cases c8 : (ji6) < (a0.size : Int)
          rotate_left
          · rw [if_neg c8] at H
            exact absurd H (by simp)
          rw [if_pos c8] at H
          have c8b0 : decide ((ji6) < (a0.size : Int)) = true := decide_eq_true c8
          clear c8
          by_cases c10 : (bt a0 (ji6)) = 47
          · rw [if_pos c10] at H
            have c10b0 : ((bt a0 (ji6)) == 47) = true := beq_iff_eq.mpr c10
            have c10b1 : ((bt a0 (ji6)) != 47) = false := bne_eq_false_iff_eq.mpr c10
            clear c10
            obtain ⟨t195, A110, H⟩ := Option.bind_eq_some_iff.mp H
            try dsimp only at H
            have A11 := Aside0.mk A110
            clear A110
            by_cases c12 : 0 ≤ t195
            rotate_left
            · rw [if_neg c12] at H
              exact absurd H (by simp)
            rw [if_pos c12] at H
            have c12b0 := eq_true c12
            have c12b1 : decide (0 ≤ t195) = true := decide_eq_true c12
            clear c12
            by_cases c13 : t195 ≤ (a0.size : Int)
            rotate_left
            · rw [if_neg c13] at H
              exact absurd H (by simp)
            rw [if_pos c13] at H
            have c13b0 := eq_true c13
            have c13b1 : decide (t195 ≤ (a0.size : Int)) = true := decide_eq_true c13
            clear c13
            obtain rfl := Option.some.inj H
            have p9 : 0 ≤ ((ji6) : Int) := of_decide_eq_true y0_6
            have q9 : (ji6) < (a0.size : Int) := of_decide_eq_true y0_6
            have hx9 := bt_at a0 (ji6)
            replace p9 := eq_true p9
            replace q9 := eq_true q9
            go_wp2_with (first | ((with_reducible refine gate_callee (f := 106) rfl ?_); refine goesL_ (some 23) rfl rfl Tryd.func106 (by kernel_rfl) rfl #[.int .i64 ji6, .int .i64 0] rfl (by (try simp only [List.map_toArray, List.map_cons, List.map_nil]); first | done | (simp only [hji6]; rfl) | rfl | (simp only [List.length_drop, List.length_take]; rfl)) ?_; (with_reducible refine (spec_l1Max.calls ji6 0 t195 _ A11.out).mono ?_); rintro e w' ⟨rfl, ⟨nd, rfl⟩⟩; refine ⟨_, rfl, ?_⟩))
            go_ret
            exact ⟨by first | rfl | (simp [errW_none, errW_some] <;> rfl) | (simp only [← hji6]; first | rfl | (simp [errW_none, errW_some] <;> rfl)) | (simp [*, errW_none, errW_some] <;> rfl), bI HB.out⟩
          · rw [if_neg c10] at H
            have c10b0 : ((bt a0 (ji6)) == 47) = false := beq_eq_false_iff_ne.mpr c10
            have c10b1 : ((bt a0 (ji6)) != 47) = true := bne_iff_ne.mpr c10
            have H' := Aside0.mk H
            clear H
            have p9 : 0 ≤ ((ji6) : Int) := of_decide_eq_true y0_6
            have q9 : (ji6) < (a0.size : Int) := of_decide_eq_true y0_6
            have hx9 := bt_at a0 (ji6)
            replace p9 := eq_true p9
            replace q9 := eq_true q9
            go_wp2
            go_roundg k1
            case measure => have := HK1.out; omega
            case rel => exact ⟨(ji6), (by first | rfl | (simp; done) | (simp only [← hji6] <;> (first | rfl | simp)) | (simp [*]; done)), H', ⟨y0_11⟩, ⟨bI HB.out⟩⟩
        · rw [if_neg c5] at H
          have c5b0 : decide (0 < x3_1) = false := decide_eq_false c5
          clear c5
          obtain ⟨t196, A140, H⟩ := Option.bind_eq_some_iff.mp H
          try dsimp only at H
          have A14 := Aside0.mk A140
          clear A140
          by_cases c15 : 0 ≤ t196
          rotate_left
          · rw [if_neg c15] at H
            exact absurd H (by simp)
          rw [if_pos c15] at H
          have c15b0 := eq_true c15
          have c15b1 : decide (0 ≤ t196) = true := decide_eq_true c15
          clear c15
          by_cases c16 : t196 ≤ (a0.size : Int)
          rotate_left
          · rw [if_neg c16] at H
            exact absurd H (by simp)
          rw [if_pos c16] at H
          have c16b0 := eq_true c16
          have c16b1 : decide (t196 ≤ (a0.size : Int)) = true := decide_eq_true c16
          clear c16
          obtain rfl := Option.some.inj H
          go_wp2_with (first | ((with_reducible refine gate_callee (f := 106) rfl ?_); refine gB (some 23) Tryd.func106 #[.int .i64 (wrap64 (x3_1 - 1)), .int .i64 0] ?_; (with_reducible refine (spec_l1Max.calls (wrap64 (x3_1 - 1)) 0 t196 _ A14.out).mono ?_); rintro e w' ⟨rfl, ⟨nd, rfl⟩⟩; refine ⟨_, rfl, ?_⟩))
          go_ret
          exact ⟨y0_4, bI HB.out⟩
  · replace c3 := Bool.eq_false_iff.mpr c3
    subst c3
    rw [if_neg (show ¬ (false = true) by decide)] at H
    obtain rfl := Option.some.inj H
    go_enter Tryd.func66, Tryd.ntmps66
    go_wp2_with (first | ((with_reducible refine gate_callee (f := 73) rfl ?_); refine gB (some 5) Tryd.func73 #[.string a0] ?_; (with_reducible refine (spec_NameOk.calls k a0 false _ A2.out).mono ?_); rintro e w17 ⟨rfl, hb⟩; refine ⟨_, rfl, ?_⟩; replace HB := bs HB hb; (try clear hb); (try clear hb2); (try clear hk); (try clear hi)))
    go_ret
    exact ⟨y0_4, bI HB.out⟩

end Go.Proofs.YtcmldmlmhpfjhaaDoor.PFnExactSettles
