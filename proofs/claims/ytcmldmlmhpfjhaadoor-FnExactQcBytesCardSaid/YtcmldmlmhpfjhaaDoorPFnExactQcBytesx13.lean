-- By a program of this session, out of the translation (the print of the kit, with turns of its own). Lean checks it.
import Derived.Test.YtcmldmlmhpfjhaaDoorPFnExactQcBytesx0
import Derived.Test.YtcmldmlmhpfjhaaDoorPFnExactQcBytesx1
import Derived.Test.YtcmldmlmhpfjhaaDoorPFnExactQcBytesx6
import Derived.Test.YtcmldmlmhpfjhaaDoorPFnExactQcBytesx11
import Derived.Test.YtcmldmlmhpfjhaaDoorPFnExactQcBytesx12
namespace Go.Proofs.YtcmldmlmhpfjhaaDoor.PFnExactQcBytes
open Go.RowKit Go.Proofs.YtcmldmlmhpfjhaaDoorW.PrintWords Go.Proofs.YtcmldmlmhpfjhaaDoorW.PrintLast Go.Proofs.YtcmldmlmhpfjhaaDoorW.PrintMore
attribute [local go_sem] max2_int min2_int max_two min_two max_three min_three max_four min_four   -- for this text's walks alone
set_option linter.unusedVariables false
set_option linter.unusedSimpArgs false

/-! ### laws_FnExactQcBytes: function 10 -/
def laws_FnExactQcBytes.f (k : Nat) (a0_0 : Int) (a0_1 : Int) (a1_0 : Int) (a1_1 : ByteArray) (l1_2 : List Int) : Option (Bool) := (laws_szQc.f a1_0 a1_1 l1_2 1048576).bind fun t420 => (if t420 < 0 then (some true) else ((laws_toConf.f a0_0 a0_1).bind fun bt421 => ((laws_toQc.f k a1_0 a1_1 l1_2).bind fun bt423 => ((spec_QcBytes.f k bt421.1 bt421.2 bt423.1 bt423.2.1 bt423.2.2).bind fun t428 => ((laws_toQc.f k a1_0 a1_1 l1_2).bind fun bt431 => ((laws_toConf.f a0_0 a0_1).bind fun bt437 => ((impl_QcBytes.f k bt437.1 bt437.2 bt431.1 bt431.2.1 bt431.2.2).bind fun t439 => ((laws_eqByteS.f k t439 t428).bind fun t442 => (if t442 = true then ((laws_toQc.f k a1_0 a1_1 l1_2).bind fun bt443 => ((laws_eqQc.f k bt431.1 bt431.2.1 bt431.2.2 bt443.1 bt443.2.1 bt443.2.2).bind fun t448 => (if t448 = true then ((laws_markQc.f k bt431.1 bt431.2.1 bt431.2.2 1).bind fun bt449 => (if bt449.1 < 0 then (some false) else ((laws_eqByteS.f k t439 t428).bind fun t451 => (if t451 = true then ((laws_markByteS.f k t439 1).bind fun bt452 => ((laws_heldByteS.f k bt452.2 1).bind fun t454 => (if t454 < 0 then (some false) else (if t454 = bt452.1 then ((laws_toConf.f a0_0 a0_1).bind fun bt455 => ((laws_toQc.f k a1_0 a1_1 l1_2).bind fun bt457 => ((impl_QcBytes.f k bt455.1 bt455.2 bt457.1 bt457.2.1 bt457.2.2).bind fun t462 => ((laws_eqByteS.f k t462 t428).bind fun t465 => (if t465 = true then ((laws_heldByteS.f k bt452.2 1).bind fun t466 => (if t466 < 0 then (some false) else (if t466 = bt452.1 then (some true) else (some false)))) else (some false)))))) else (some false))))) else (some false))))) else (some false)))) else (some false))))))))))
theorem laws_FnExactQcBytes.mono : ∀ a0 a1 a2 a3 a4 k, LeO (laws_FnExactQcBytes.f k a0 a1 a2 a3 a4) (laws_FnExactQcBytes.f (k + 1) a0 a1 a2 a3 a4) := by
  intro a0 a1 a2 a3 a4 k
  unfold laws_FnExactQcBytes.f
  repeat' first
      | (with_reducible exact impl_QcBytes.mono _ _ _ _ _ _)
      | (with_reducible exact laws_eqByteS.mono _ _ _)
      | (with_reducible exact laws_eqQc.mono _ _ _ _ _ _ _)
      | (with_reducible exact laws_heldByteS.mono _ _ _)
      | (with_reducible exact laws_markByteS.mono _ _ _)
      | (with_reducible exact laws_markQc.mono _ _ _ _ _)
      | (with_reducible exact laws_toQc.mono _ _ _ _)
      | (with_reducible exact spec_QcBytes.mono _ _ _ _ _ _)
      | (with_reducible exact LeO.refl _)
      | (with_reducible exact LeO.none _)
      | (with_reducible refine LeO.ite ?_ ?_)
      | (with_reducible refine LeO.bind ?_ (fun _ => ?_))
      | exact impl_QcBytes.mono _ _ _ _ _ _
      | exact laws_eqByteS.mono _ _ _
      | exact laws_eqQc.mono _ _ _ _ _ _ _
      | exact laws_heldByteS.mono _ _ _
      | exact laws_markByteS.mono _ _ _
      | exact laws_markQc.mono _ _ _ _ _
      | exact laws_toQc.mono _ _ _ _
      | exact spec_QcBytes.mono _ _ _ _ _ _
      | exact LeO.none _
      | refine LeO.ite ?_ ?_
      | refine LeO.bind ?_ (fun _ => ?_)
set_option maxHeartbeats 8000000 in
set_option maxRecDepth 100000 in
theorem laws_FnExactQcBytes.calls (k : Nat) (a0_0 : Int) (a0_1 : Int) (a1_0 : Int) (a1_1 : ByteArray) (A1_2 : Option Addr) (c1_2 : Nat) (l1_2 : List Int) (r : Bool) (hrt : Aside0 (r = true)) (w : World) (hr1_2 : Kd.C (Kd.int .i64) w A1_2 l1_2.length l1_2) (hc1_2 : l1_2.length ≤ c1_2) (h : laws_FnExactQcBytes.f k a0_0 a0_1 a1_0 a1_1 l1_2 = some r) (hG : Glob w := by exact gG HG HB) :
    Calls Tryd.prog 10 #[.agg #[.int .i64 a0_0, .int .i64 a0_1], .agg #[.int .i64 a1_0, .string a1_1, .slice A1_2 l1_2.length c1_2]] w fun e w' => e = .returned (.bool r) ∧ Below w.heap.size w w' := by
  have HG := Aside0.mk hG
  clear hG
  have hu26 := Tryd.underlying26
  have hu38 := Tryd.underlying38
  have hu41 := Tryd.underlying41
  have HR1_2 := Aside0.mk hr1_2
  have HC1_2 := Aside0.mk hc1_2
  clear hr1_2 hc1_2
  have HB := Aside0.mk (Below.refl w.heap.size w)
  have H : ((laws_szQc.f a1_0 a1_1 l1_2 1048576).bind fun t420 => (if t420 < 0 then (some true) else ((laws_toConf.f a0_0 a0_1).bind fun bt421 => ((laws_toQc.f k a1_0 a1_1 l1_2).bind fun bt423 => ((spec_QcBytes.f k bt421.1 bt421.2 bt423.1 bt423.2.1 bt423.2.2).bind fun t428 => ((laws_toQc.f k a1_0 a1_1 l1_2).bind fun bt431 => ((laws_toConf.f a0_0 a0_1).bind fun bt437 => ((impl_QcBytes.f k bt437.1 bt437.2 bt431.1 bt431.2.1 bt431.2.2).bind fun t439 => ((laws_eqByteS.f k t439 t428).bind fun t442 => (if t442 = true then ((laws_toQc.f k a1_0 a1_1 l1_2).bind fun bt443 => ((laws_eqQc.f k bt431.1 bt431.2.1 bt431.2.2 bt443.1 bt443.2.1 bt443.2.2).bind fun t448 => (if t448 = true then ((laws_markQc.f k bt431.1 bt431.2.1 bt431.2.2 1).bind fun bt449 => (if bt449.1 < 0 then (some false) else ((laws_eqByteS.f k t439 t428).bind fun t451 => (if t451 = true then ((laws_markByteS.f k t439 1).bind fun bt452 => ((laws_heldByteS.f k bt452.2 1).bind fun t454 => (if t454 < 0 then (some false) else (if t454 = bt452.1 then ((laws_toConf.f a0_0 a0_1).bind fun bt455 => ((laws_toQc.f k a1_0 a1_1 l1_2).bind fun bt457 => ((impl_QcBytes.f k bt455.1 bt455.2 bt457.1 bt457.2.1 bt457.2.2).bind fun t462 => ((laws_eqByteS.f k t462 t428).bind fun t465 => (if t465 = true then ((laws_heldByteS.f k bt452.2 1).bind fun t466 => (if t466 < 0 then (some false) else (if t466 = bt452.1 then (some true) else (some false)))) else (some false)))))) else (some false))))) else (some false))))) else (some false)))) else (some false))))))))))) = some r := h
  clear h
  obtain ⟨t420, A30, H⟩ := Option.bind_eq_some_iff.mp H
  try dsimp only at H
  have A3 := Aside0.mk A30
  clear A30
  by_cases c4 : t420 < 0
  · rw [if_pos c4] at H
    have c4b0 : decide (t420 < 0) = true := decide_eq_true c4
    clear c4
    obtain rfl := Option.some.inj H
    go_enter Tryd.func10, Tryd.ntmps10
    go_wp2_with (first | ((with_reducible refine gd 2 ?_); refine bA 2 #[.int .i64 a0_0, .int .i64 a0_1] 26 ?_; intro gb418 hg w5 hbox hb; have BK418 := Aside0.mk (hbox); have GW418 := bg hg HB; have GJ418 := gi GW418; have GE418 := GW418; replace HB := bs HB hb; clear hb hbox hg) | ((with_reducible refine gd 3 ?_); refine bA 3 #[.int .i64 a1_0, .string a1_1, .slice A1_2 l1_2.length c1_2] 38 ?_; intro gb419 hg w6 hbox hb; have BK419 := Aside0.mk (hbox); have GW419 := bg hg HB; have GJ419 := gi GW419; have GE419 := GW419; replace HB := bs HB hb; have NB418_419 := b1 BK418 hg; have NI418_419 := ni NB418_419; have NB419_418 := b2 BK418 hg; have NI419_418 := ni NB419_418; replace BK418 := bk BK418 hb; clear hb hbox hg; have hnb7 := NB419_418.out; have hnc7 := NB418_419.out; obtain ⟨hcz8_0, hcz8_1, hcz8_2, hfz8_0, hfz8_1, hfz8_2⟩ := cs3 BK419) | ((with_reducible refine gate_callee (f := 23) rfl ?_); refine gB (some 15) Tryd.func23 #[.agg #[.int .i64 a1_0, .string a1_1, .slice A1_2 l1_2.length c1_2], .int .i64 1048576] ?_; (with_reducible refine (laws_szQc.calls a1_0 a1_1 _ _ l1_2 1048576 t420 _ ?side1 ?side2 A3.out).mono ?_); (case side1 => exact ch HR1_2 HB); (case side2 => exact HC1_2.out); rintro e w9 ⟨rfl, hb⟩; refine ⟨_, rfl, ?_⟩; replace BK418 := bk BK418 hb; replace BK419 := bk BK419 hb; replace HB := bs HB hb; (try clear hb); (try clear hb2); (try clear hk); (try clear hi)))
    go_ret
    exact ⟨y0_7, bI HB.out⟩
  · rw [if_neg c4] at H
    have c4b0 : decide (t420 < 0) = false := decide_eq_false c4
    clear c4
    obtain ⟨⟨t421, t422⟩, A100, H⟩ := Option.bind_eq_some_iff.mp H
    try dsimp only at H
    have A10 := Aside0.mk A100
    clear A100
    obtain ⟨⟨t423, t424, t425⟩, A110, H⟩ := Option.bind_eq_some_iff.mp H
    try dsimp only at H
    have A11 := Aside0.mk A110
    clear A110
    obtain ⟨t428, A120, H⟩ := Option.bind_eq_some_iff.mp H
    try dsimp only at H
    have A12 := Aside0.mk A120
    clear A120
    obtain ⟨⟨t431, t432, t433⟩, A130, H⟩ := Option.bind_eq_some_iff.mp H
    try dsimp only at H
    have A13 := Aside0.mk A130
    clear A130
    obtain ⟨⟨t437, t438⟩, A140, H⟩ := Option.bind_eq_some_iff.mp H
    try dsimp only at H
    have A14 := Aside0.mk A140
    clear A140
    obtain ⟨t439, A150, H⟩ := Option.bind_eq_some_iff.mp H
    try dsimp only at H
    have A15 := Aside0.mk A150
    clear A150
    obtain ⟨t442, A160, H⟩ := Option.bind_eq_some_iff.mp H
    try dsimp only at H
    have A16 := Aside0.mk A160
    clear A160
    by_cases c17 : t442 = true
    · subst c17
      rw [if_pos rfl] at H
      obtain ⟨⟨t443, t444, t445⟩, A180, H⟩ := Option.bind_eq_some_iff.mp H
      try dsimp only at H
      have A18 := Aside0.mk A180
      clear A180
      obtain ⟨t448, A190, H⟩ := Option.bind_eq_some_iff.mp H
      try dsimp only at H
      have A19 := Aside0.mk A190
      clear A190
      by_cases c20 : t448 = true
      rotate_left
      · replace c20 := Bool.eq_false_iff.mpr c20
        subst c20
        rw [if_neg (show ¬ (false = true) by decide)] at H
        exact absurd (hrt.out.symm.trans (Option.some.inj H).symm) (by decide)
      subst c20
      rw [if_pos rfl] at H
      obtain ⟨⟨t449, t450⟩, A210, H⟩ := Option.bind_eq_some_iff.mp H
      try dsimp only at H
      have A21 := Aside0.mk A210
      clear A210
      by_cases c22 : t449 < 0
      · rw [if_pos c22] at H
        have c22b0 : decide (t449 < 0) = true := decide_eq_true c22
        clear c22
        exact absurd (hrt.out.symm.trans (Option.some.inj H).symm) (by decide)
      rw [if_neg c22] at H
      have c22b0 : decide (t449 < 0) = false := decide_eq_false c22
      clear c22
      obtain ⟨t451, A230, H⟩ := Option.bind_eq_some_iff.mp H
      try dsimp only at H
      have A23 := Aside0.mk A230
      clear A230
      by_cases c24 : t451 = true
      rotate_left
      · replace c24 := Bool.eq_false_iff.mpr c24
        subst c24
        rw [if_neg (show ¬ (false = true) by decide)] at H
        exact absurd (hrt.out.symm.trans (Option.some.inj H).symm) (by decide)
      subst c24
      rw [if_pos rfl] at H
      obtain ⟨⟨t452, t453⟩, A250, H⟩ := Option.bind_eq_some_iff.mp H
      try dsimp only at H
      have A25 := Aside0.mk A250
      clear A250
      obtain ⟨t454, A260, H⟩ := Option.bind_eq_some_iff.mp H
      try dsimp only at H
      have A26 := Aside0.mk A260
      clear A260
      by_cases c27 : t454 < 0
      · rw [if_pos c27] at H
        have c27b0 : decide (t454 < 0) = true := decide_eq_true c27
        clear c27
        exact absurd (hrt.out.symm.trans (Option.some.inj H).symm) (by decide)
      rw [if_neg c27] at H
      have c27b0 : decide (t454 < 0) = false := decide_eq_false c27
      clear c27
      by_cases c28 : t454 = t452
      rotate_left
      · rw [if_neg c28] at H
        have c28b0 : (t454 == t452) = false := beq_eq_false_iff_ne.mpr c28
        have c28b1 : (t454 != t452) = true := bne_iff_ne.mpr c28
        exact absurd (hrt.out.symm.trans (Option.some.inj H).symm) (by decide)
      rw [if_pos c28] at H
      have c28b0 : (t454 == t452) = true := beq_iff_eq.mpr c28
      have c28b1 : (t454 != t452) = false := bne_eq_false_iff_eq.mpr c28
      clear c28
      obtain ⟨⟨t455, t456⟩, A290, H⟩ := Option.bind_eq_some_iff.mp H
      try dsimp only at H
      have A29 := Aside0.mk A290
      clear A290
      obtain ⟨⟨t457, t458, t459⟩, A300, H⟩ := Option.bind_eq_some_iff.mp H
      try dsimp only at H
      have A30 := Aside0.mk A300
      clear A300
      obtain ⟨t462, A310, H⟩ := Option.bind_eq_some_iff.mp H
      try dsimp only at H
      have A31 := Aside0.mk A310
      clear A310
      obtain ⟨t465, A320, H⟩ := Option.bind_eq_some_iff.mp H
      try dsimp only at H
      have A32 := Aside0.mk A320
      clear A320
      by_cases c33 : t465 = true
      rotate_left
      · replace c33 := Bool.eq_false_iff.mpr c33
        subst c33
        rw [if_neg (show ¬ (false = true) by decide)] at H
        exact absurd (hrt.out.symm.trans (Option.some.inj H).symm) (by decide)
      subst c33
      rw [if_pos rfl] at H
      obtain ⟨t466, A340, H⟩ := Option.bind_eq_some_iff.mp H
      try dsimp only at H
      have A34 := Aside0.mk A340
      clear A340
      by_cases c35 : t466 < 0
      · rw [if_pos c35] at H
        have c35b0 : decide (t466 < 0) = true := decide_eq_true c35
        clear c35
        exact absurd (hrt.out.symm.trans (Option.some.inj H).symm) (by decide)
      rw [if_neg c35] at H
      have c35b0 : decide (t466 < 0) = false := decide_eq_false c35
      clear c35
      by_cases c36 : t466 = t452
      rotate_left
      · rw [if_neg c36] at H
        have c36b0 : (t466 == t452) = false := beq_eq_false_iff_ne.mpr c36
        have c36b1 : (t466 != t452) = true := bne_iff_ne.mpr c36
        exact absurd (hrt.out.symm.trans (Option.some.inj H).symm) (by decide)
      rw [if_pos c36] at H
      have c36b0 : (t466 == t452) = true := beq_iff_eq.mpr c36
      have c36b1 : (t466 != t452) = false := bne_eq_false_iff_eq.mpr c36
      clear c36
      obtain rfl := Option.some.inj H
      go_enter Tryd.func10, Tryd.ntmps10
      try go_wp2_with (first | ((with_reducible refine gd 2 ?_); refine bA 2 #[.int .i64 a0_0, .int .i64 a0_1] 26 ?_; intro gb418 hg w37 hbox hb; have BK418 := Aside0.mk (hbox); have GW418 := bg hg HB; have GJ418 := gi GW418; have GE418 := GW418; replace HB := bs HB hb; clear hb hbox hg) | ((with_reducible refine gd 3 ?_); refine bA 3 #[.int .i64 a1_0, .string a1_1, .slice A1_2 l1_2.length c1_2] 38 ?_; intro gb419 hg w38 hbox hb; have BK419 := Aside0.mk (hbox); have GW419 := bg hg HB; have GJ419 := gi GW419; have GE419 := GW419; replace HB := bs HB hb; have NB418_419 := b1 BK418 hg; have NI418_419 := ni NB418_419; have NB419_418 := b2 BK418 hg; have NI419_418 := ni NB419_418; replace BK418 := bk BK418 hb; clear hb hbox hg; have hnb39 := NB419_418.out; have hnc39 := NB418_419.out; obtain ⟨hcz40_0, hcz40_1, hcz40_2, hfz40_0, hfz40_1, hfz40_2⟩ := cs3 BK419) | ((with_reducible refine gate_callee (f := 23) rfl ?_); refine gB (some 15) Tryd.func23 #[.agg #[.int .i64 a1_0, .string a1_1, .slice A1_2 l1_2.length c1_2], .int .i64 1048576] ?_; (with_reducible refine (laws_szQc.calls a1_0 a1_1 _ _ l1_2 1048576 t420 _ ?side1 ?side2 A3.out).mono ?_); (case side1 => exact ch HR1_2 HB); (case side2 => exact HC1_2.out); rintro e w41 ⟨rfl, hb⟩; refine ⟨_, rfl, ?_⟩; replace BK418 := bk BK418 hb; replace BK419 := bk BK419 hb; replace HB := bs HB hb; (try clear hb); (try clear hb2); (try clear hk); (try clear hi)))
      replace BK418 := Aside0.mk (blk_drew BK418.out)
      replace BK419 := Aside0.mk (blk_drew BK419.out)
      replace HB := Aside0.mk (below_drew1 HB.out)
      refine start_ (n := 6) (S := fun w' => w'.cell? ⟨gb418, 0, none⟩ = some (.int .i64 a0_0) ∧ w'.cell? ⟨gb418, 1, none⟩ = some (.int .i64 a0_1) ∧ w'.cell? ⟨gb419, 0, none⟩ = some (.int .i64 a1_0) ∧ w'.cell? ⟨gb419, 1, none⟩ = some (.string a1_1) ∧ w'.cell? ⟨gb419, 2, none⟩ = some (.slice A1_2 l1_2.length c1_2)) (ds := []) #[false, false, false, false, false, false] (by kernel_rfl) rfl rfl ⟨bc0 BK418.out, bc1 BK418.out, bc0 BK419.out, bc1 BK419.out, bc2 BK419.out⟩ (fun hHeld => ?_)
      generalize w41.drew = w42 at BK418 BK419 HB hHeld ⊢
      refine take_ (i := 0) (N := some 18) (v := ?_) (a' := ?_) #[true, false, false, false, false, false] rfl rfl (by kernel_rfl) (fun _ _ _ h => h) (Or.inl ⟨by rfl, ?_⟩) hHeld ?_ ?_
      rotate_left
      · rintro w' ⟨s0, s1, s2, s3, s4⟩
        go_simp
        with_reducible rfl
      rotate_left
      · simp only [Act.put, List.setIfInBounds_toArray, List.set_cons_zero, List.set_cons_succ, i64_w, i32_w]
        rfl
      refine take_ (i := 2) (N := some 20) (v := ?_) (a' := ?_) #[true, false, true, false, false, false] rfl rfl (by kernel_rfl) (fun _ _ _ h => h) (Or.inl ⟨by rfl, ?_⟩) hHeld ?_ ?_
      rotate_left
      · rintro w' ⟨s0, s1, s2, s3, s4⟩
        go_simp
        with_reducible rfl
      rotate_left
      · simp only [Act.put, List.setIfInBounds_toArray, List.set_cons_zero, List.set_cons_succ, i64_w, i32_w]
        rfl
      refine one_ (i := 1) (N := some 19) #[true, true, true, false, false, false] rfl rfl (by kernel_rfl) (by decide) (fun K hK => ?_)
      refine gA Tryd.func19 #[.agg #[.int .i64 a0_0, .int .i64 a0_1]] ?_
      with_reducible refine (laws_toConf.calls a0_0 a0_1 t421 t422 _ A10.out).mono ?_
      rintro e w43 ⟨rfl, hb⟩
      refine ⟨_, rfl, ?_⟩
      replace BK418 := bk BK418 hb
      replace BK419 := bk BK419 hb
      replace HB := bs HB hb
      (try clear hb)
      (try clear hb2)
      (try clear hk)
      (try clear hi)
      refine hK.out _ _ ⟨bc0 BK418.out, bc1 BK418.out, bc0 BK419.out, bc1 BK419.out, bc2 BK419.out⟩ (fun hHeld => ?_)
      clear hK K
      refine nA (some 19) ?_
      refine one_ (i := 3) (N := some 21) #[true, true, true, true, false, false] rfl rfl (by kernel_rfl) (by decide) (fun K hK => ?_)
      refine gA Tryd.func25 #[.agg #[.int .i64 a1_0, .string a1_1, .slice A1_2 l1_2.length c1_2]] ?_
      with_reducible refine (laws_toQc.calls k a1_0 a1_1 _ _ l1_2 t423 t424 t425 _ ?side1 ?side2 A11.out).mono ?_
      (case side1 => exact ch HR1_2 HB)
      (case side2 => exact HC1_2.out)
      rintro e w44 ⟨v426, rfl, ho0, hb⟩
      refine ⟨_, rfl, ?_⟩
      have HO427 := Aside0.mk (Kd.R_lower ho0 (below_size (bI HB.out)))
      replace BK418 := bk BK418 hb
      replace BK419 := bk BK419 hb
      replace HB := bs HB hb
      (try clear hb)
      (try clear hb2)
      (try clear hk)
      (try clear hi)
      (try clear ho0)
      obtain ⟨Ao45, co45, eo45⟩ := Kd.R_slice HO427.out
      (first | subst eo45 | (injection eo45 with f1_ f2_ f3_; have f4_ := f1_.symm; have f5_ := f3_.symm; clear f1_ f2_ f3_; subst f4_; subst f5_))
      refine hK.out _ _ ⟨bc0 BK418.out, bc1 BK418.out, bc0 BK419.out, bc1 BK419.out, bc2 BK419.out⟩ (fun hHeld => ?_)
      clear hK K
      refine nA (some 21) ?_
      refine one_ (i := 4) (N := some 22) #[true, true, true, true, true, false] rfl rfl (by kernel_rfl) (by decide) (fun K hK => ?_)
      refine gA Tryd.func48 #[.agg #[.int .i64 t421, .int .i64 t422], .agg #[.int .i64 t423, .string t424, .slice Ao45 t425.length co45]] ?_
      with_reducible refine (spec_QcBytes.calls k t421 t422 t423 t424 _ _ t425 t428 _ ?side1 ?side2 A12.out).mono ?_
      (case side1 => repeat (first | exact (Kd.R_reads' HO427.out).2.2 | (with_reducible refine Kd.C_alloc ?_ _) | (with_reducible refine Kd.C_drewN ?_ _) | (with_reducible refine Kd.C_drew ?_)))
      (case side2 => exact (Kd.R_reads' HO427.out).2.1)
      rintro e w46 ⟨v429, rfl, ho0, hb⟩
      refine ⟨_, rfl, ?_⟩
      replace HO427 := rb HO427 hb
      have HO430 := Aside0.mk (Kd.R_lower ho0 (below_size (bI HB.out)))
      replace BK418 := bk BK418 hb
      replace BK419 := bk BK419 hb
      replace HB := bs HB hb
      (try clear hb)
      (try clear hb2)
      (try clear hk)
      (try clear hi)
      (try clear ho0)
      refine hK.out _ _ ⟨bc0 BK418.out, bc1 BK418.out, bc0 BK419.out, bc1 BK419.out, bc2 BK419.out⟩ (fun hHeld => ?_)
      clear hK K
      refine nA (some 22) ?_
      refine pure_ (i := 5) (N := some 6) (v := ?_) (a' := ?_) #[true, true, true, true, true, true] rfl rfl (by kernel_rfl) (fun _ _ _ h => h) (Or.inl ⟨by rfl, ?_⟩) ?_ ?_
      rotate_left
      · intro w'
        go_simp
        with_reducible rfl
      rotate_left
      · simp only [Act.put, List.setIfInBounds_toArray, List.set_cons_zero, List.set_cons_succ, i64_w, i32_w]
        rfl
      refine done_ (by kernel_rfl) ?_
      have hcz47_0 := bc0 BK419.out
      have hcz47_1 := bc1 BK419.out
      have hcz47_2 := bc2 BK419.out
      have hfz47_0 := blk_frozen BK419.out 0
      have hfz47_1 := blk_frozen BK419.out 1
      have hfz47_2 := blk_frozen BK419.out 2
      clear HO427
      try go_wp2_with (first | ((with_reducible refine gate_callee (f := 25) rfl ?_); refine gB (some 24) Tryd.func25 #[.agg #[.int .i64 a1_0, .string a1_1, .slice A1_2 l1_2.length c1_2]] ?_; (with_reducible refine (laws_toQc.calls k a1_0 a1_1 _ _ l1_2 t431 t432 t433 _ ?side1 ?side2 A13.out).mono ?_); (case side1 => exact ch HR1_2 HB); (case side2 => exact HC1_2.out); rintro e w48 ⟨v434, rfl, ho0, hb⟩; refine ⟨_, rfl, ?_⟩; replace HO430 := rb HO430 hb; have HO435 := Aside0.mk (Kd.R_lower ho0 (below_size (bI HB.out))); replace BK418 := bk BK418 hb; replace BK419 := bk BK419 hb; replace HB := bs HB hb; (try clear hb); (try clear ho0)) | ((with_reducible refine gd 7 ?_); refine bA 7 #[.int .i64 0, .string (⟨#[]⟩ : ByteArray), .slice none 0 0] 41 ?_; intro gb436 hg w49 hbox hb; replace HO430 := rb HO430 hb; replace HO435 := rb HO435 hb; have BK436 := Aside0.mk (hbox); have GW436 := bg hg HB; have GJ436 := gi GW436; have GE436 := GW436; replace HB := bs HB hb; have NB418_436 := b1 BK418 hg; have NI418_436 := ni NB418_436; have NB436_418 := b2 BK418 hg; have NI436_418 := ni NB436_418; replace BK418 := bk BK418 hb; have NB419_436 := b1 BK419 hg; have NI419_436 := ni NB419_436; have NB436_419 := b2 BK419 hg; have NI436_419 := ni NB436_419; replace BK419 := bk BK419 hb; clear hb hbox hg; have hnb50 := NB436_418.out; have hnc50 := NB418_436.out; have hnb51 := NB436_419.out; have hnc51 := NB419_436.out; obtain ⟨hcz52_0, hcz52_1, hcz52_2, hfz52_0, hfz52_1, hfz52_2⟩ := cs3 BK436; obtain ⟨Ao53, co53, eo53⟩ := Kd.R_slice HO435.out; subst eo53))
      have n0_ : Aside0 (Kd.R (Kd.int .u8) 5 (((w49.setCell ⟨gb436, 0, none⟩ (.int .i64 t431)).setCell ⟨gb436, 1, none⟩ (.string t432)).setCell ⟨gb436, 2, none⟩ (.slice Ao53 t433.length co53)) w.heap.size (fun _ => True) v429 t428) := ⟨by (with_reducible repeat (first | apply Kd.R_alloc | apply Kd.R_drewN | apply Kd.R_drew)); exact Kd.R_mono (Kd.R_far (p := ⟨gb436, 2, none⟩) (Kd.R_far (p := ⟨gb436, 1, none⟩) (Kd.R_far (p := ⟨gb436, 0, none⟩) (Kd.R_types HO430.out BK436.out (by decide)) (fun _ hk => hk.2) (.int .i64 t431)) (fun _ hk => hk.2) (.string t432)) (fun _ hk => hk.2) (.slice Ao53 t433.length co53)) (fun _ hk => trivial)⟩
      have n1_ : Aside0 (Kd.R (Kd.int .i64) 3 (((w49.setCell ⟨gb436, 0, none⟩ (.int .i64 t431)).setCell ⟨gb436, 1, none⟩ (.string t432)).setCell ⟨gb436, 2, none⟩ (.slice Ao53 t433.length co53)) w.heap.size (fun _ => True) (.slice Ao53 t433.length co53) t433) := ⟨by (with_reducible repeat (first | apply Kd.R_alloc | apply Kd.R_drewN | apply Kd.R_drew)); exact Kd.R_mono (Kd.R_far (p := ⟨gb436, 2, none⟩) (Kd.R_far (p := ⟨gb436, 1, none⟩) (Kd.R_far (p := ⟨gb436, 0, none⟩) (Kd.R_types HO435.out BK436.out (by decide)) (fun _ hk => hk.2) (.int .i64 t431)) (fun _ hk => hk.2) (.string t432)) (fun _ hk => hk.2) (.slice Ao53 t433.length co53)) (fun _ hk => trivial)⟩
      have n2_ : Aside0 ((((w49.setCell ⟨gb436, 0, none⟩ (.int .i64 t431)).setCell ⟨gb436, 1, none⟩ (.string t432)).setCell ⟨gb436, 2, none⟩ (.slice Ao53 t433.length co53)).heap[gb418]? = some (.cells #[.int .i64 a0_0, .int .i64 a0_1] 26 (0, 0))) := ⟨gI BK418.out⟩
      have n3_ : Aside0 ((((w49.setCell ⟨gb436, 0, none⟩ (.int .i64 t431)).setCell ⟨gb436, 1, none⟩ (.string t432)).setCell ⟨gb436, 2, none⟩ (.slice Ao53 t433.length co53)).heap[gb419]? = some (.cells #[.int .i64 a1_0, .string a1_1, .slice A1_2 l1_2.length c1_2] 38 (0, 0))) := ⟨gI BK419.out⟩
      have n4_ : Aside0 ((((w49.setCell ⟨gb436, 0, none⟩ (.int .i64 t431)).setCell ⟨gb436, 1, none⟩ (.string t432)).setCell ⟨gb436, 2, none⟩ (.slice Ao53 t433.length co53)).heap[gb436]? = some (.cells #[.int .i64 t431, .string t432, .slice Ao53 t433.length co53] 41 (0, 0))) := ⟨pI BK436⟩
      have n5_ : Aside0 (Below w.heap.size w (((w49.setCell ⟨gb436, 0, none⟩ (.int .i64 t431)).setCell ⟨gb436, 1, none⟩ (.string t432)).setCell ⟨gb436, 2, none⟩ (.slice Ao53 t433.length co53))) := ⟨bI HB.out⟩
      (try clear HO430)
      (try clear HO435)
      (try clear BK418)
      (try clear BK419)
      (try clear BK436)
      (try clear HB)
      generalize (((w49.setCell ⟨gb436, 0, none⟩ (.int .i64 t431)).setCell ⟨gb436, 1, none⟩ (.string t432)).setCell ⟨gb436, 2, none⟩ (.slice Ao53 t433.length co53)) = w54 at n0_ n1_ n2_ n3_ n4_ n5_ ⊢
      have HO430 := n0_
      have HO435 := n1_
      have BK418 := n2_
      have BK419 := n3_
      have BK436 := n4_
      have HB := n5_
      clear n0_ n1_ n2_ n3_ n4_ n5_
      replace HO430 := Aside0.mk (Kd.R_drew HO430.out)
      replace HO435 := Aside0.mk (Kd.R_drew HO435.out)
      replace BK418 := Aside0.mk (blk_drew BK418.out)
      replace BK419 := Aside0.mk (blk_drew BK419.out)
      replace BK436 := Aside0.mk (blk_drew BK436.out)
      replace HB := Aside0.mk (below_drew1 HB.out)
      refine start_ (n := 5) (S := fun w' => w'.cell? ⟨gb418, 0, none⟩ = some (.int .i64 a0_0) ∧ w'.cell? ⟨gb418, 1, none⟩ = some (.int .i64 a0_1) ∧ w'.cell? ⟨gb436, 0, none⟩ = some (.int .i64 t431) ∧ w'.cell? ⟨gb436, 1, none⟩ = some (.string t432) ∧ w'.cell? ⟨gb436, 2, none⟩ = some (.slice Ao53 t433.length co53)) (ds := []) #[false, false, false, false, false] (by kernel_rfl) rfl rfl ⟨bc0 BK418.out, bc1 BK418.out, bc0 BK436.out, bc1 BK436.out, bc2 BK436.out⟩ (fun hHeld => ?_)
      generalize w54.drew = w55 at HO430 HO435 BK418 BK419 BK436 HB hHeld ⊢
      refine take_ (i := 0) (N := some 25) (v := ?_) (a' := ?_) #[true, false, false, false, false] rfl rfl (by kernel_rfl) (fun _ _ _ h => h) (Or.inl ⟨by rfl, ?_⟩) hHeld ?_ ?_
      rotate_left
      · rintro w' ⟨s0, s1, s2, s3, s4⟩
        go_simp
        with_reducible rfl
      rotate_left
      · simp only [Act.put, List.setIfInBounds_toArray, List.set_cons_zero, List.set_cons_succ, i64_w, i32_w]
        rfl
      refine take_ (i := 2) (N := some 27) (v := ?_) (a' := ?_) #[true, false, true, false, false] rfl rfl (by kernel_rfl) (fun _ _ _ h => h) (Or.inl ⟨by rfl, ?_⟩) hHeld ?_ ?_
      rotate_left
      · rintro w' ⟨s0, s1, s2, s3, s4⟩
        go_simp
        with_reducible rfl
      rotate_left
      · simp only [Act.put, List.setIfInBounds_toArray, List.set_cons_zero, List.set_cons_succ, i64_w, i32_w]
        rfl
      refine one_ (i := 1) (N := some 26) #[true, true, true, false, false] rfl rfl (by kernel_rfl) (by decide) (fun K hK => ?_)
      refine gA Tryd.func19 #[.agg #[.int .i64 a0_0, .int .i64 a0_1]] ?_
      with_reducible refine (laws_toConf.calls a0_0 a0_1 t437 t438 _ A14.out).mono ?_
      rintro e w56 ⟨rfl, hb⟩
      refine ⟨_, rfl, ?_⟩
      replace HO430 := rb HO430 hb
      replace HO435 := rb HO435 hb
      replace BK418 := bk BK418 hb
      replace BK419 := bk BK419 hb
      replace BK436 := bk BK436 hb
      replace HB := bs HB hb
      (try clear hb)
      (try clear hb2)
      (try clear hk)
      (try clear hi)
      refine hK.out _ _ ⟨bc0 BK418.out, bc1 BK418.out, bc0 BK436.out, bc1 BK436.out, bc2 BK436.out⟩ (fun hHeld => ?_)
      clear hK K
      refine nA (some 26) ?_
      refine one_ (i := 3) (N := some 28) #[true, true, true, true, false] rfl rfl (by kernel_rfl) (by decide) (fun K hK => ?_)
      refine gA Tryd.func49 #[.agg #[.int .i64 t437, .int .i64 t438], .agg #[.int .i64 t431, .string t432, .slice Ao53 t433.length co53]] ?_
      with_reducible refine (impl_QcBytes.calls k t437 t438 t431 t432 _ _ t433 t439 _ ?side1 ?side2 A15.out).mono ?_
      (case side1 => repeat (first | exact (Kd.R_reads' HO435.out).2.2 | (with_reducible refine Kd.C_alloc ?_ _) | (with_reducible refine Kd.C_drewN ?_ _) | (with_reducible refine Kd.C_drew ?_)))
      (case side2 => exact (Kd.R_reads' HO435.out).2.1)
      rintro e w57 ⟨v440, rfl, ho0, hb⟩
      refine ⟨_, rfl, ?_⟩
      replace HO435 := rb HO435 hb
      have HO441 := Aside0.mk (Kd.R_lower (Kd.R_new' ho0 (Kd.R_lt (rI HO430.out))) (below_size (bI HB.out)))
      replace HO430 := Aside0.mk (Kd.R_elder' (rI HO430.out) (Kd.R_base ho0) hb)
      replace BK418 := bk BK418 hb
      replace BK419 := bk BK419 hb
      replace BK436 := bk BK436 hb
      replace HB := bs HB hb
      (try clear hb)
      (try clear hb2)
      (try clear hk)
      (try clear hi)
      (try clear ho0)
      refine hK.out _ _ ⟨bc0 BK418.out, bc1 BK418.out, bc0 BK436.out, bc1 BK436.out, bc2 BK436.out⟩ (fun hHeld => ?_)
      clear hK K
      refine nA (some 28) ?_
      refine pure_ (i := 4) (N := some 8) (v := ?_) (a' := ?_) #[true, true, true, true, true] rfl rfl (by kernel_rfl) (fun _ _ _ h => h) (Or.inl ⟨by rfl, ?_⟩) ?_ ?_
      rotate_left
      · intro w'
        go_simp
        with_reducible rfl
      rotate_left
      · simp only [Act.put, List.setIfInBounds_toArray, List.set_cons_zero, List.set_cons_succ, i64_w, i32_w]
        rfl
      refine done_ (by kernel_rfl) ?_
      obtain ⟨Ao58, co58, eo58⟩ := Kd.R_slice HO441.out
      subst eo58
      obtain ⟨Ao59, co59, eo59⟩ := Kd.R_slice HO430.out
      subst eo59
      try go_wp2_with (first | ((with_reducible refine gate_callee (f := 50) rfl ?_); refine gB (some 31) Tryd.func50 #[.slice Ao58 t439.length co58, .slice Ao59 t428.length co59] ?_; (with_reducible refine (laws_eqByteS.calls k _ _ t439 _ _ t428 true _ ?side1 ?side2 ?side3 ?side4 A16.out).mono ?_); (case side1 => repeat (first | exact (Kd.R_reads' HO441.out).2.2 | (with_reducible refine Kd.C_alloc ?_ _) | (with_reducible refine Kd.C_drewN ?_ _) | (with_reducible refine Kd.C_drew ?_))); (case side2 => exact (Kd.R_reads' HO441.out).2.1); (case side3 => repeat (first | exact (Kd.R_reads' HO430.out).2.2 | (with_reducible refine Kd.C_alloc ?_ _) | (with_reducible refine Kd.C_drewN ?_ _) | (with_reducible refine Kd.C_drew ?_))); (case side4 => exact (Kd.R_reads' HO430.out).2.1); rintro e w' ⟨rfl, ⟨nd, rfl⟩⟩; refine ⟨_, rfl, ?_⟩))
      (try (rw [drewN_self w57]; generalize hq_ : World.drewN w57 _ = w57; have n0_ : Aside0 (Kd.R (Kd.int .u8) 5 w57 w.heap.size (fun k_ => some k_ ≠ (.slice Ao58 t439.length co58 : Value).ownBlock) (.slice Ao59 t428.length co59) t428) := ⟨by rw [← hq_]; exact (rI (Kd.R_mono HO430.out (fun _ hk => hk.2)))⟩; have n1_ : Aside0 (Kd.R (Kd.int .i64) 3 w57 w.heap.size (fun _ => True) (.slice Ao53 t433.length co53) t433) := ⟨by rw [← hq_]; exact (rI HO435.out)⟩; have n2_ : Aside0 (Kd.R (Kd.int .u8) 5 w57 w.heap.size (fun k_ => some k_ ≠ (.slice Ao59 t428.length co59 : Value).ownBlock) (.slice Ao58 t439.length co58) t439) := ⟨by rw [← hq_]; exact (rI (Kd.R_mono HO441.out (fun _ hk => hk.2)))⟩; have n3_ : Aside0 (w57.heap[gb418]? = some (.cells #[.int .i64 a0_0, .int .i64 a0_1] 26 (0, 0))) := ⟨by rw [← hq_]; exact (kI BK418.out)⟩; have n4_ : Aside0 (w57.heap[gb419]? = some (.cells #[.int .i64 a1_0, .string a1_1, .slice A1_2 l1_2.length c1_2] 38 (0, 0))) := ⟨by rw [← hq_]; exact (kI BK419.out)⟩; have n5_ : Aside0 (w57.heap[gb436]? = some (.cells #[.int .i64 t431, .string t432, .slice Ao53 t433.length co53] 41 (0, 0))) := ⟨by rw [← hq_]; exact (kI BK436.out)⟩; have n6_ : Aside0 (Below w.heap.size w w57) := ⟨y0_13⟩; clear HO430 HO435 HO441 BK418 BK419 BK436 HB hq_; have HO430 := n0_; have HO435 := n1_; have HO441 := n2_; have BK418 := n3_; have BK419 := n4_; have BK436 := n5_; have HB := n6_; clear n0_ n1_ n2_ n3_ n4_ n5_ n6_))
      replace HO430 := Aside0.mk (Kd.R_drew HO430.out)
      replace HO435 := Aside0.mk (Kd.R_drew HO435.out)
      replace HO441 := Aside0.mk (Kd.R_drew HO441.out)
      replace BK418 := Aside0.mk (blk_drew BK418.out)
      replace BK419 := Aside0.mk (blk_drew BK419.out)
      replace BK436 := Aside0.mk (blk_drew BK436.out)
      replace HB := Aside0.mk (below_drew1 HB.out)
      refine start_ (n := 5) (S := fun w' => w'.cell? ⟨gb436, 0, none⟩ = some (.int .i64 t431) ∧ w'.cell? ⟨gb436, 1, none⟩ = some (.string t432) ∧ w'.cell? ⟨gb436, 2, none⟩ = some (.slice Ao53 t433.length co53) ∧ w'.cell? ⟨gb419, 0, none⟩ = some (.int .i64 a1_0) ∧ w'.cell? ⟨gb419, 1, none⟩ = some (.string a1_1) ∧ w'.cell? ⟨gb419, 2, none⟩ = some (.slice A1_2 l1_2.length c1_2)) (ds := []) #[false, false, false, false, false] (by kernel_rfl) rfl rfl ⟨bc0 BK436.out, bc1 BK436.out, bc2 BK436.out, bc0 BK419.out, bc1 BK419.out, bc2 BK419.out⟩ (fun hHeld => ?_)
      generalize w57.drew = w60 at HO430 HO435 HO441 BK418 BK419 BK436 HB hHeld ⊢
      refine take_ (i := 0) (N := some 33) (v := ?_) (a' := ?_) #[true, false, false, false, false] rfl rfl (by kernel_rfl) (fun _ _ _ h => h) (Or.inl ⟨by rfl, ?_⟩) hHeld ?_ ?_
      rotate_left
      · rintro w' ⟨s0, s1, s2, s3, s4, s5⟩
        go_simp
        with_reducible rfl
      rotate_left
      · simp only [Act.put, List.setIfInBounds_toArray, List.set_cons_zero, List.set_cons_succ, i64_w, i32_w]
        rfl
      refine take_ (i := 1) (N := some 34) (v := ?_) (a' := ?_) #[true, true, false, false, false] rfl rfl (by kernel_rfl) (fun _ _ _ h => h) (Or.inl ⟨by rfl, ?_⟩) hHeld ?_ ?_
      rotate_left
      · rintro w' ⟨s0, s1, s2, s3, s4, s5⟩
        go_simp
        with_reducible rfl
      rotate_left
      · simp only [Act.put, List.setIfInBounds_toArray, List.set_cons_zero, List.set_cons_succ, i64_w, i32_w]
        rfl
      refine one_ (i := 2) (N := some 35) #[true, true, true, false, false] rfl rfl (by kernel_rfl) (by decide) (fun K hK => ?_)
      refine gA Tryd.func25 #[.agg #[.int .i64 a1_0, .string a1_1, .slice A1_2 l1_2.length c1_2]] ?_
      with_reducible refine (laws_toQc.calls k a1_0 a1_1 _ _ l1_2 t443 t444 t445 _ ?side1 ?side2 A18.out).mono ?_
      (case side1 => exact ch HR1_2 HB)
      (case side2 => exact HC1_2.out)
      rintro e w61 ⟨v446, rfl, ho0, hb⟩
      refine ⟨_, rfl, ?_⟩
      replace HO430 := rb HO430 hb
      replace HO441 := rb HO441 hb
      have HO447 := Aside0.mk (Kd.R_lower (Kd.R_new' ho0 (Kd.R_lt (rI HO435.out))) (below_size (bI HB.out)))
      replace HO435 := Aside0.mk (Kd.R_elder' (rI HO435.out) (Kd.R_base ho0) hb)
      replace BK418 := bk BK418 hb
      replace BK419 := bk BK419 hb
      replace BK436 := bk BK436 hb
      replace HB := bs HB hb
      (try clear hb)
      (try clear hb2)
      (try clear hk)
      (try clear hi)
      (try clear ho0)
      obtain ⟨Ao62, co62, eo62⟩ := Kd.R_slice HO447.out
      (first | subst eo62 | (injection eo62 with f1_ f2_ f3_; have f4_ := f1_.symm; have f5_ := f3_.symm; clear f1_ f2_ f3_; subst f4_; subst f5_))
      refine hK.out _ _ ⟨bc0 BK436.out, bc1 BK436.out, bc2 BK436.out, bc0 BK419.out, bc1 BK419.out, bc2 BK419.out⟩ (fun hHeld => ?_)
      clear hK K
      refine nA (some 35) ?_
      refine one_ (i := 3) (N := some 36) #[true, true, true, true, false] rfl rfl (by kernel_rfl) (by decide) (fun K hK => ?_)
      refine gA Tryd.func27 #[.agg #[.int .i64 t431, .string t432, .slice Ao53 t433.length co53], .agg #[.int .i64 t443, .string t444, .slice Ao62 t445.length co62]] ?_
      with_reducible refine (laws_eqQc.calls k t431 t432 _ _ t433 t443 t444 _ _ t445 true _ ?side1 ?side2 ?side3 ?side4 A19.out).mono ?_
      (case side1 => repeat (first | exact (Kd.R_reads' HO435.out).2.2 | (with_reducible refine Kd.C_alloc ?_ _) | (with_reducible refine Kd.C_drewN ?_ _) | (with_reducible refine Kd.C_drew ?_)))
      (case side2 => exact (Kd.R_reads' HO435.out).2.1)
      (case side3 => repeat (first | exact (Kd.R_reads' HO447.out).2.2 | (with_reducible refine Kd.C_alloc ?_ _) | (with_reducible refine Kd.C_drewN ?_ _) | (with_reducible refine Kd.C_drew ?_)))
      (case side4 => exact (Kd.R_reads' HO447.out).2.1)
      rintro e w63 ⟨rfl, hb⟩
      refine ⟨_, rfl, ?_⟩
      replace HO430 := rb HO430 hb
      replace HO435 := rb HO435 hb
      replace HO441 := rb HO441 hb
      replace HO447 := rb HO447 hb
      replace BK418 := bk BK418 hb
      replace BK419 := bk BK419 hb
      replace BK436 := bk BK436 hb
      replace HB := bs HB hb
      (try clear hb)
      (try clear hb2)
      (try clear hk)
      (try clear hi)
      refine hK.out _ _ ⟨bc0 BK436.out, bc1 BK436.out, bc2 BK436.out, bc0 BK419.out, bc1 BK419.out, bc2 BK419.out⟩ (fun hHeld => ?_)
      clear hK K
      refine nA (some 36) ?_
      refine pure_ (i := 4) (N := some 37) (v := ?_) (a' := ?_) #[true, true, true, true, true] rfl rfl (by kernel_rfl) (fun _ _ _ h => h) (Or.inl ⟨by rfl, ?_⟩) ?_ ?_
      rotate_left
      · intro w'
        go_simp
        with_reducible rfl
      rotate_left
      · simp only [Act.put, List.setIfInBounds_toArray, List.set_cons_zero, List.set_cons_succ, i64_w, i32_w]
        rfl
      refine done_ (by kernel_rfl) ?_
      have hcz64_0 := bc0 BK436.out
      have hcz64_1 := bc1 BK436.out
      have hcz64_2 := bc2 BK436.out
      have hfz64_0 := blk_frozen BK436.out 0
      have hfz64_1 := blk_frozen BK436.out 1
      have hfz64_2 := blk_frozen BK436.out 2
      clear HO447
      have n_ := Aside0.mk (Kd.R_mono (ok' := (fun k_ => some k_ ≠ (.slice Ao58 t439.length co58 : Value).ownBlock)) HO430.out (fun k_ hk => by first | exact hk.2 | exact trivial | exact hk))
      clear HO430
      have HO430 := n_
      clear n_
      have n_ := Aside0.mk (Kd.R_mono (ok' := (fun _ => True)) HO435.out (fun k_ hk => trivial))
      clear HO435
      have HO435 := n_
      clear n_
      have n_ := Aside0.mk (Kd.R_mono (ok' := (fun k_ => some k_ ≠ (.slice Ao59 t428.length co59 : Value).ownBlock)) HO441.out (fun k_ hk => by first | exact hk.2 | exact trivial | exact hk))
      clear HO441
      have HO441 := n_
      clear n_
      try go_wp2_with (first | ((with_reducible refine gate_callee (f := 41) rfl ?_); refine gB (some 40) Tryd.func41 #[.agg #[.int .i64 t431, .string t432, .slice Ao53 t433.length co53], .int .i64 1] ?_; (with_reducible refine (laws_markQc.calls k t431 t432 (fun k_ => some k_ = (.slice Ao53 t433.length co53 : Value).ownBlock) (.slice Ao53 t433.length co53) t433 1 t449 t450 w _ ?side1 ?side2 A21.out).mono ?_); (case side1 => exact bI HB.out); (case side2 => exact Kd.R_tight rfl HO435.out); rintro e w65 ⟨rfl, hy0, hb, hkp⟩; refine ⟨_, rfl, ?_⟩; replace BK418 := Aside0.mk (blk_kept (kI BK418.out) hkp (fun hs_ => (fun e_ => (Kd.R_ne HO435.out BK418.out (by decide)) e_) hs_)); replace BK419 := Aside0.mk (blk_kept (kI BK419.out) hkp (fun hs_ => (fun e_ => (Kd.R_ne HO435.out BK419.out (by decide)) e_) hs_)); replace HO430 := Aside0.mk (Kd.R_mono (ok' := fun k_ => some k_ ≠ (.slice Ao58 t439.length co58 : Value).ownBlock) (Kd.R_keptB ((Kd.R_apart' HO430.out (Kd.R_typed HO435.out) (by decide))) hkp (fun k_ hk_ hs_ => (hk_.2) hs_)) (fun k_ hk_ => hk_.1.1)); replace BK436 := Aside0.mk (blk_kept (kI BK436.out) hkp (fun hs_ => (fun e_ => (Kd.R_ne HO435.out BK436.out (by decide)) e_) hs_)); replace HO441 := Aside0.mk (Kd.R_mono (ok' := fun k_ => some k_ ≠ (.slice Ao59 t428.length co59 : Value).ownBlock) (Kd.R_keptB ((Kd.R_apart' HO441.out (Kd.R_typed HO435.out) (by decide))) hkp (fun k_ hk_ hs_ => (hk_.2) hs_)) (fun k_ hk_ => hk_.1.1)); replace HO435 := Aside0.mk (Kd.R_reok rfl hy0 (fun k_ e_ => HO435.out.1 k_ e_)); replace HB := Aside0.mk (hb); (try clear hb); (try clear hkp); (try clear hy0); clear HO435) | (go_at_call 50; (with_reducible refine (laws_eqByteS.calls k _ _ t439 _ _ t428 true _ ?side1 ?side2 ?side3 ?side4 A23.out).mono ?_); (case side1 => repeat (first | exact (Kd.R_reads' HO441.out).2.2 | (with_reducible refine Kd.C_alloc ?_ _) | (with_reducible refine Kd.C_drewN ?_ _) | (with_reducible refine Kd.C_drew ?_))); (case side2 => exact (Kd.R_reads' HO441.out).2.1); (case side3 => repeat (first | exact (Kd.R_reads' HO430.out).2.2 | (with_reducible refine Kd.C_alloc ?_ _) | (with_reducible refine Kd.C_drewN ?_ _) | (with_reducible refine Kd.C_drew ?_))); (case side4 => exact (Kd.R_reads' HO430.out).2.1); rintro e w' ⟨rfl, ⟨nd, rfl⟩⟩) | ((with_reducible refine gate_callee (f := 51) rfl ?_); refine gB (some 51) Tryd.func51 #[.slice Ao58 t439.length co58, .int .i64 1] ?_; (with_reducible refine (laws_markByteS.calls k (fun k_ => some k_ = (.slice Ao58 t439.length co58 : Value).ownBlock) (.slice Ao58 t439.length co58) t439 1 t452 t453 w _ ?side1 ?side2 A25.out).mono ?_); (case side1 => exact bI HB.out); (case side2 => exact Kd.R_tight rfl HO441.out); rintro e w66 ⟨rfl, hy0, hb, hkp⟩; refine ⟨_, rfl, ?_⟩; replace BK418 := Aside0.mk (blk_kept (kI BK418.out) hkp (fun hs_ => (fun e_ => (Kd.R_ne HO441.out BK418.out (by decide)) e_) hs_)); replace BK419 := Aside0.mk (blk_kept (kI BK419.out) hkp (fun hs_ => (fun e_ => (Kd.R_ne HO441.out BK419.out (by decide)) e_) hs_)); replace HO430 := Aside0.mk (Kd.R_mono (ok' := fun k_ => some k_ ≠ (.slice Ao58 t439.length co58 : Value).ownBlock) (Kd.R_keptB (HO430.out) hkp (fun k_ hk_ hs_ => (hk_) hs_)) (fun k_ hk_ => hk_.1)); replace BK436 := Aside0.mk (blk_kept (kI BK436.out) hkp (fun hs_ => (fun e_ => (Kd.R_ne HO441.out BK436.out (by decide)) e_) hs_)); replace HO441 := Aside0.mk (Kd.R_reok rfl hy0 (fun k_ e_ => HO441.out.1 k_ e_)); replace HB := Aside0.mk (hb); (try clear hb); (try clear hkp); (try clear hy0)) | ((with_reducible refine gate_callee (f := 52) rfl ?_); refine goesL_ (some 54) rfl rfl Tryd.func52 (by kernel_rfl) rfl #[.slice Ao58 t453.length co58, .int .i64 1] rfl (by (try simp only [List.map_toArray, List.map_cons, List.map_nil]); first | done | (rw [show t453.length = t439.length from (Kd.R_reads' HO441.out).1.symm] <;> rfl) | rfl | (simp only [List.length_drop, List.length_take]; rfl)) ?_; (with_reducible refine (laws_heldByteS.calls k _ _ t453 1 t454 _ ?side1 ?side2 A26.out).mono ?_); (case side1 => repeat (first | exact (Kd.R_reads' HO441.out).2.2 | (with_reducible refine Kd.C_alloc ?_ _) | (with_reducible refine Kd.C_drewN ?_ _) | (with_reducible refine Kd.C_drew ?_))); (case side2 => rw [show t453.length = t439.length from (Kd.R_reads' HO441.out).1.symm]; exact (Kd.R_reads' HO441.out).2.1); rintro e w' ⟨rfl, ⟨nd, rfl⟩⟩; refine ⟨_, rfl, ?_⟩))
      (try (rw [drewN_self w66]; generalize hq_ : World.drewN w66 _ = w66; have n0_ : Aside0 (Kd.R (Kd.int .u8) 5 w66 w.heap.size (fun k_ => some k_ ≠ (.slice Ao58 t439.length co58 : Value).ownBlock) (.slice Ao59 t428.length co59) t428) := ⟨by rw [← hq_]; exact (rI HO430.out)⟩; have n1_ : Aside0 (Kd.R (Kd.int .u8) 5 w66 w.heap.size (fun k_ => some k_ ≠ (.slice Ao59 t428.length co59 : Value).ownBlock) (.slice Ao58 t439.length co58) t453) := ⟨by rw [← hq_]; exact (rI HO441.out)⟩; have n2_ : Aside0 (w66.heap[gb418]? = some (.cells #[.int .i64 a0_0, .int .i64 a0_1] 26 (0, 0))) := ⟨by rw [← hq_]; exact (kI BK418.out)⟩; have n3_ : Aside0 (w66.heap[gb419]? = some (.cells #[.int .i64 a1_0, .string a1_1, .slice A1_2 l1_2.length c1_2] 38 (0, 0))) := ⟨by rw [← hq_]; exact (kI BK419.out)⟩; have n4_ : Aside0 (w66.heap[gb436]? = some (.cells #[.int .i64 t431, .string t432, .slice Ao53 t433.length co53] 41 (0, 0))) := ⟨by rw [← hq_]; exact (kI BK436.out)⟩; have n5_ : Aside0 (Below w.heap.size w w66) := ⟨y0_13⟩; clear HO430 HO441 BK418 BK419 BK436 HB hq_; have HO430 := n0_; have HO441 := n1_; have BK418 := n2_; have BK419 := n3_; have BK436 := n4_; have HB := n5_; clear n0_ n1_ n2_ n3_ n4_ n5_))
      replace HO430 := Aside0.mk (Kd.R_drew HO430.out)
      replace HO441 := Aside0.mk (Kd.R_drew HO441.out)
      replace BK418 := Aside0.mk (blk_drew BK418.out)
      replace BK419 := Aside0.mk (blk_drew BK419.out)
      replace BK436 := Aside0.mk (blk_drew BK436.out)
      replace HB := Aside0.mk (below_drew1 HB.out)
      refine start_ (n := 6) (S := fun w' => w'.cell? ⟨gb418, 0, none⟩ = some (.int .i64 a0_0) ∧ w'.cell? ⟨gb418, 1, none⟩ = some (.int .i64 a0_1) ∧ w'.cell? ⟨gb419, 0, none⟩ = some (.int .i64 a1_0) ∧ w'.cell? ⟨gb419, 1, none⟩ = some (.string a1_1) ∧ w'.cell? ⟨gb419, 2, none⟩ = some (.slice A1_2 l1_2.length c1_2)) (ds := []) #[false, false, false, false, false, false] (by kernel_rfl) rfl rfl ⟨bc0 BK418.out, bc1 BK418.out, bc0 BK419.out, bc1 BK419.out, bc2 BK419.out⟩ (fun hHeld => ?_)
      generalize w66.drew = w67 at HO430 HO441 BK418 BK419 BK436 HB hHeld ⊢
      refine take_ (i := 0) (N := some 60) (v := ?_) (a' := ?_) #[true, false, false, false, false, false] rfl rfl (by kernel_rfl) (fun _ _ _ h => h) (Or.inl ⟨by rfl, ?_⟩) hHeld ?_ ?_
      rotate_left
      · rintro w' ⟨s0, s1, s2, s3, s4⟩
        go_simp
        with_reducible rfl
      rotate_left
      · simp only [Act.put, List.setIfInBounds_toArray, List.set_cons_zero, List.set_cons_succ, i64_w, i32_w]
        rfl
      refine take_ (i := 2) (N := some 62) (v := ?_) (a' := ?_) #[true, false, true, false, false, false] rfl rfl (by kernel_rfl) (fun _ _ _ h => h) (Or.inl ⟨by rfl, ?_⟩) hHeld ?_ ?_
      rotate_left
      · rintro w' ⟨s0, s1, s2, s3, s4⟩
        go_simp
        with_reducible rfl
      rotate_left
      · simp only [Act.put, List.setIfInBounds_toArray, List.set_cons_zero, List.set_cons_succ, i64_w, i32_w]
        rfl
      refine one_ (i := 1) (N := some 61) #[true, true, true, false, false, false] rfl rfl (by kernel_rfl) (by decide) (fun K hK => ?_)
      refine gA Tryd.func19 #[.agg #[.int .i64 a0_0, .int .i64 a0_1]] ?_
      with_reducible refine (laws_toConf.calls a0_0 a0_1 t455 t456 _ A29.out).mono ?_
      rintro e w68 ⟨rfl, hb⟩
      refine ⟨_, rfl, ?_⟩
      replace HO430 := rb HO430 hb
      replace HO441 := rb HO441 hb
      replace BK418 := bk BK418 hb
      replace BK419 := bk BK419 hb
      replace BK436 := bk BK436 hb
      replace HB := bs HB hb
      (try clear hb)
      (try clear hb2)
      (try clear hk)
      (try clear hi)
      refine hK.out _ _ ⟨bc0 BK418.out, bc1 BK418.out, bc0 BK419.out, bc1 BK419.out, bc2 BK419.out⟩ (fun hHeld => ?_)
      clear hK K
      refine nA (some 61) ?_
      refine one_ (i := 3) (N := some 63) #[true, true, true, true, false, false] rfl rfl (by kernel_rfl) (by decide) (fun K hK => ?_)
      refine gA Tryd.func25 #[.agg #[.int .i64 a1_0, .string a1_1, .slice A1_2 l1_2.length c1_2]] ?_
      with_reducible refine (laws_toQc.calls k a1_0 a1_1 _ _ l1_2 t457 t458 t459 _ ?side1 ?side2 A30.out).mono ?_
      (case side1 => exact ch HR1_2 HB)
      (case side2 => exact HC1_2.out)
      rintro e w69 ⟨v460, rfl, ho0, hb⟩
      refine ⟨_, rfl, ?_⟩
      replace HO430 := rb HO430 hb
      replace HO441 := rb HO441 hb
      have HO461 := Aside0.mk (Kd.R_lower ho0 (below_size (bI HB.out)))
      replace BK418 := bk BK418 hb
      replace BK419 := bk BK419 hb
      replace BK436 := bk BK436 hb
      replace HB := bs HB hb
      (try clear hb)
      (try clear hb2)
      (try clear hk)
      (try clear hi)
      (try clear ho0)
      obtain ⟨Ao70, co70, eo70⟩ := Kd.R_slice HO461.out
      (first | subst eo70 | (injection eo70 with f1_ f2_ f3_; have f4_ := f1_.symm; have f5_ := f3_.symm; clear f1_ f2_ f3_; subst f4_; subst f5_))
      refine hK.out _ _ ⟨bc0 BK418.out, bc1 BK418.out, bc0 BK419.out, bc1 BK419.out, bc2 BK419.out⟩ (fun hHeld => ?_)
      clear hK K
      refine nA (some 63) ?_
      refine one_ (i := 4) (N := some 64) #[true, true, true, true, true, false] rfl rfl (by kernel_rfl) (by decide) (fun K hK => ?_)
      refine gA Tryd.func49 #[.agg #[.int .i64 t455, .int .i64 t456], .agg #[.int .i64 t457, .string t458, .slice Ao70 t459.length co70]] ?_
      with_reducible refine (impl_QcBytes.calls k t455 t456 t457 t458 _ _ t459 t462 _ ?side1 ?side2 A31.out).mono ?_
      (case side1 => repeat (first | exact (Kd.R_reads' HO461.out).2.2 | (with_reducible refine Kd.C_alloc ?_ _) | (with_reducible refine Kd.C_drewN ?_ _) | (with_reducible refine Kd.C_drew ?_)))
      (case side2 => exact (Kd.R_reads' HO461.out).2.1)
      rintro e w71 ⟨v463, rfl, ho0, hb⟩
      refine ⟨_, rfl, ?_⟩
      replace HO461 := rb HO461 hb
      have HO464 := Aside0.mk (Kd.R_lower (Kd.R_new' (Kd.R_new' ho0 (Kd.R_lt (rI HO430.out))) (Kd.R_lt (rI HO441.out))) (below_size (bI HB.out)))
      replace HO430 := Aside0.mk (Kd.R_elder' (rI HO430.out) (Kd.R_base ho0) hb)
      replace HO441 := Aside0.mk (Kd.R_elder' (rI HO441.out) (Kd.R_base ho0) hb)
      replace BK418 := bk BK418 hb
      replace BK419 := bk BK419 hb
      replace BK436 := bk BK436 hb
      replace HB := bs HB hb
      (try clear hb)
      (try clear hb2)
      (try clear hk)
      (try clear hi)
      (try clear ho0)
      refine hK.out _ _ ⟨bc0 BK418.out, bc1 BK418.out, bc0 BK419.out, bc1 BK419.out, bc2 BK419.out⟩ (fun hHeld => ?_)
      clear hK K
      refine nA (some 64) ?_
      refine pure_ (i := 5) (N := some 12) (v := ?_) (a' := ?_) #[true, true, true, true, true, true] rfl rfl (by kernel_rfl) (fun _ _ _ h => h) (Or.inl ⟨by rfl, ?_⟩) ?_ ?_
      rotate_left
      · intro w'
        go_simp
        with_reducible rfl
      rotate_left
      · simp only [Act.put, List.setIfInBounds_toArray, List.set_cons_zero, List.set_cons_succ, i64_w, i32_w]
        rfl
      refine done_ (by kernel_rfl) ?_
      clear HO461
      have n_ := Aside0.mk (Kd.R_mono (ok' := (fun k_ => some k_ ≠ (.slice Ao59 t428.length co59 : Value).ownBlock ∧ some k_ ≠ (.slice Ao58 t439.length co58 : Value).ownBlock)) HO464.out (fun k_ hk => ⟨hk.1.2, hk.2⟩))
      clear HO464
      have HO464 := n_
      clear n_
      obtain ⟨Ao72, co72, eo72⟩ := Kd.R_slice HO464.out
      subst eo72
      try go_wp2_with (first | ((with_reducible refine gate_callee (f := 50) rfl ?_); refine gB (some 67) Tryd.func50 #[.slice Ao72 t462.length co72, .slice Ao59 t428.length co59] ?_; (with_reducible refine (laws_eqByteS.calls k _ _ t462 _ _ t428 true _ ?side1 ?side2 ?side3 ?side4 A32.out).mono ?_); (case side1 => repeat (first | exact (Kd.R_reads' HO464.out).2.2 | (with_reducible refine Kd.C_alloc ?_ _) | (with_reducible refine Kd.C_drewN ?_ _) | (with_reducible refine Kd.C_drew ?_))); (case side2 => exact (Kd.R_reads' HO464.out).2.1); (case side3 => repeat (first | exact (Kd.R_reads' HO430.out).2.2 | (with_reducible refine Kd.C_alloc ?_ _) | (with_reducible refine Kd.C_drewN ?_ _) | (with_reducible refine Kd.C_drew ?_))); (case side4 => exact (Kd.R_reads' HO430.out).2.1); rintro e w' ⟨rfl, ⟨nd, rfl⟩⟩; refine ⟨_, rfl, ?_⟩; clear HO430; clear HO464; have n_ := Aside0.mk (Kd.R_mono (ok' := (fun _ => True)) HO441.out (fun k_ hk => trivial)); clear HO441; have HO441 := n_; clear n_) | ((with_reducible refine gate_callee (f := 52) rfl ?_); refine goesL_ (some 71) rfl rfl Tryd.func52 (by kernel_rfl) rfl #[.slice Ao58 t453.length co58, .int .i64 1] rfl (by (try simp only [List.map_toArray, List.map_cons, List.map_nil]); first | done | (rw [show t453.length = t439.length from (Kd.R_reads' HO441.out).1.symm] <;> rfl) | rfl | (simp only [List.length_drop, List.length_take]; rfl)) ?_; (with_reducible refine (laws_heldByteS.calls k _ _ t453 1 t466 _ ?side1 ?side2 A34.out).mono ?_); (case side1 => repeat (first | exact (Kd.R_reads' HO441.out).2.2 | (with_reducible refine Kd.C_alloc ?_ _) | (with_reducible refine Kd.C_drewN ?_ _) | (with_reducible refine Kd.C_drew ?_))); (case side2 => rw [show t453.length = t439.length from (Kd.R_reads' HO441.out).1.symm]; exact (Kd.R_reads' HO441.out).2.1); rintro e w' ⟨rfl, ⟨nd, rfl⟩⟩; refine ⟨_, rfl, ?_⟩))
      go_ret
      exact ⟨y0_7, bI HB.out⟩
    · replace c17 := Bool.eq_false_iff.mpr c17
      subst c17
      rw [if_neg (show ¬ (false = true) by decide)] at H
      exact absurd (hrt.out.symm.trans (Option.some.inj H).symm) (by decide)

end Go.Proofs.YtcmldmlmhpfjhaaDoor.PFnExactQcBytes
