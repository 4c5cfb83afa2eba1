-- By a program of this session, out of the translation (the print of the kit, with turns of its own). Lean checks it.
import Derived.Test.YtcmldmlmhpfjhaaDoorPFnExactPartQcx0
import Derived.Test.YtcmldmlmhpfjhaaDoorPFnExactPartQcx1
import Derived.Test.YtcmldmlmhpfjhaaDoorPFnExactPartQcx6
import Derived.Test.YtcmldmlmhpfjhaaDoorPFnExactPartQcx12
namespace Go.Proofs.YtcmldmlmhpfjhaaDoor.PFnExactPartQc
open Go.RowKit Go.Proofs.YtcmldmlmhpfjhaaDoorW.PrintWords Go.Proofs.YtcmldmlmhpfjhaaDoorW.PrintLast Go.Proofs.YtcmldmlmhpfjhaaDoorW.PrintMore
attribute [local go_sem] max2_int min2_int max_two min_two max_three min_three max_four min_four   -- for this text's walks alone
set_option linter.unusedVariables false
set_option linter.unusedSimpArgs false

/-! ### laws_FnExactPartQc: function 8 -/
def laws_FnExactPartQc.f (k : Nat) (a0_0 : Int) (a0_1 : Int) (a1_0 : Int) (a1_1 : ByteArray) (l1_2 : List Int) : Option (Bool) := (laws_szPart.f a1_0 a1_1 l1_2 1048576).bind fun t372 => (if t372 < 0 then (some true) else ((laws_toConf.f a0_0 a0_1).bind fun bt373 => ((laws_toPart.f k a1_0 a1_1 l1_2).bind fun bt375 => ((spec_PartQc.f k bt373.1 bt373.2 bt375.1 bt375.2.1 bt375.2.2).bind fun bt380 => ((laws_toPart.f k a1_0 a1_1 l1_2).bind fun bt387 => ((laws_toConf.f a0_0 a0_1).bind fun bt393 => ((impl_PartQc.f k bt393.1 bt393.2 bt387.1 bt387.2.1 bt387.2.2).bind fun bt395 => ((laws_eqQc.f k bt395.1 bt395.2.1 bt395.2.2.1 bt380.1 bt380.2.1 bt380.2.2.1).bind fun t402 => (if t402 = true then (if (bt395.2.2.2 != bt380.2.2.2) = true then (some false) else ((laws_toPart.f k a1_0 a1_1 l1_2).bind fun bt403 => ((laws_eqPart.f k bt387.1 bt387.2.1 bt387.2.2 bt403.1 bt403.2.1 bt403.2.2).bind fun t408 => (if t408 = true then ((laws_markPart.f k bt387.1 bt387.2.1 bt387.2.2 1).bind fun bt409 => (if bt409.1 < 0 then (some false) else ((laws_eqQc.f k bt395.1 bt395.2.1 bt395.2.2.1 bt380.1 bt380.2.1 bt380.2.2.1).bind fun t411 => (if t411 = true then ((laws_markQc.f k bt395.1 bt395.2.1 bt395.2.2.1 1).bind fun bt412 => ((laws_heldQc.f k bt395.1 bt395.2.1 bt412.2 1).bind fun t414 => (if t414 < 0 then (some false) else (if t414 = bt412.1 then ((laws_toConf.f a0_0 a0_1).bind fun bt415 => ((laws_toPart.f k a1_0 a1_1 l1_2).bind fun bt417 => ((impl_PartQc.f k bt415.1 bt415.2 bt417.1 bt417.2.1 bt417.2.2).bind fun bt422 => ((laws_eqQc.f k bt422.1 bt422.2.1 bt422.2.2.1 bt380.1 bt380.2.1 bt380.2.2.1).bind fun t429 => (if t429 = true then (if (bt422.2.2.2 != bt380.2.2.2) = true then (some false) else ((laws_heldQc.f k bt395.1 bt395.2.1 bt412.2 1).bind fun t430 => (if t430 < 0 then (some false) else (if t430 = bt412.1 then (some true) else (some false))))) else (some false)))))) else (some false))))) else (some false))))) else (some false))))) else (some false))))))))))
theorem laws_FnExactPartQc.mono : ∀ a0 a1 a2 a3 a4 k, LeO (laws_FnExactPartQc.f k a0 a1 a2 a3 a4) (laws_FnExactPartQc.f (k + 1) a0 a1 a2 a3 a4) := by
  intro a0 a1 a2 a3 a4 k
  unfold laws_FnExactPartQc.f
  repeat' first
      | (with_reducible exact impl_PartQc.mono _ _ _ _ _ _)
      | (with_reducible exact laws_eqPart.mono _ _ _ _ _ _ _)
      | (with_reducible exact laws_eqQc.mono _ _ _ _ _ _ _)
      | (with_reducible exact laws_heldQc.mono _ _ _ _ _)
      | (with_reducible exact laws_markPart.mono _ _ _ _ _)
      | (with_reducible exact laws_markQc.mono _ _ _ _ _)
      | (with_reducible exact laws_toPart.mono _ _ _ _)
      | (with_reducible exact spec_PartQc.mono _ _ _ _ _ _)
      | (with_reducible exact LeO.refl _)
      | (with_reducible exact LeO.none _)
      | (with_reducible refine LeO.ite ?_ ?_)
      | (with_reducible refine LeO.bind ?_ (fun _ => ?_))
      | exact impl_PartQc.mono _ _ _ _ _ _
      | exact laws_eqPart.mono _ _ _ _ _ _ _
      | exact laws_eqQc.mono _ _ _ _ _ _ _
      | exact laws_heldQc.mono _ _ _ _ _
      | exact laws_markPart.mono _ _ _ _ _
      | exact laws_markQc.mono _ _ _ _ _
      | exact laws_toPart.mono _ _ _ _
      | exact spec_PartQc.mono _ _ _ _ _ _
      | exact LeO.none _
      | refine LeO.ite ?_ ?_
      | refine LeO.bind ?_ (fun _ => ?_)
def laws_FnExactPartQc.T5 : Bool × List (List Nat × List Nat) := (true, [([], []), ([0], [0]), ([], []), ([2, 1], [2]), ([1, 3, 3], [1, 3]), ([4], [4]), ([5], [5]), ([5], [5]), ([], []), ([8, 6, 4, 0, 1, 2, 3, 4, 5, 6, 8], [6, 8]), ([7, 9, 0, 1, 2, 3, 4, 5, 6, 7, 8, 9], [7])])
def laws_FnExactPartQc.B5 : List Nat := [0, 1, 0, 7, 15, 31, 63, 63, 0, 383, 1023]
theorem laws_FnExactPartQc.tab5 : rtab .any (opsOf Tryd.f8 5) = laws_FnExactPartQc.T5 := by kernel_rfl
theorem laws_FnExactPartQc.bits5 : waitsOk laws_FnExactPartQc.T5.2 laws_FnExactPartQc.B5 = true := by kernel_rfl
def laws_FnExactPartQc.T7 : Bool × List (List Nat × List Nat) := (true, [([], []), ([0], [0]), ([], []), ([1, 2, 1], [1, 2]), ([3], [3]), ([4], [4]), ([4], [4]), ([], []), ([7, 5, 3, 0, 1, 2, 3, 4, 5, 7], [5, 7]), ([6, 8, 0, 1, 2, 3, 4, 5, 6, 7, 8], [6])])
def laws_FnExactPartQc.B7 : List Nat := [0, 1, 0, 7, 15, 31, 31, 0, 191, 511]
theorem laws_FnExactPartQc.tab7 : rtab .any (opsOf Tryd.f8 7) = laws_FnExactPartQc.T7 := by kernel_rfl
theorem laws_FnExactPartQc.bits7 : waitsOk laws_FnExactPartQc.T7.2 laws_FnExactPartQc.B7 = true := by kernel_rfl
def laws_FnExactPartQc.T24 : Bool × List (List Nat × List Nat) := (true, [([], []), ([0], [0]), ([], []), ([2, 1], [2]), ([1, 3, 3], [1, 3]), ([4], [4]), ([5], [5]), ([5], [5]), ([], []), ([8, 6, 4, 0, 1, 2, 3, 4, 5, 6, 8], [6, 8]), ([7, 9, 0, 1, 2, 3, 4, 5, 6, 7, 8, 9], [7])])
def laws_FnExactPartQc.B24 : List Nat := [0, 1, 0, 7, 15, 31, 63, 63, 0, 383, 1023]
theorem laws_FnExactPartQc.tab24 : rtab .any (opsOf Tryd.f8 24) = laws_FnExactPartQc.T24 := by kernel_rfl
theorem laws_FnExactPartQc.bits24 : waitsOk laws_FnExactPartQc.T24.2 laws_FnExactPartQc.B24 = true := by kernel_rfl
set_option maxHeartbeats 8000000 in
set_option maxRecDepth 100000 in
theorem laws_FnExactPartQc.calls (k : Nat) (a0_0 : Int) (a0_1 : Int) (a1_0 : Int) (a1_1 : ByteArray) (A1_2 : Option Addr) (c1_2 : Nat) (l1_2 : List Int) (r : Bool) (hrt : Aside0 (r = true)) (w : World) (hr1_2 : Kd.C (Kd.int .i64) w A1_2 l1_2.length l1_2) (hc1_2 : l1_2.length ≤ c1_2) (h : laws_FnExactPartQc.f k a0_0 a0_1 a1_0 a1_1 l1_2 = some r) (hG : Glob w := by exact gG HG HB) :
    Calls Tryd.prog 8 #[.agg #[.int .i64 a0_0, .int .i64 a0_1], .agg #[.int .i64 a1_0, .string a1_1, .slice A1_2 l1_2.length c1_2]] w fun e w' => e = .returned (.bool r) ∧ Below w.heap.size w w' := by
  have HG := Aside0.mk hG
  clear hG
  have hu26 := Tryd.underlying26
  have hu29 := Tryd.underlying29
  have hu41 := Tryd.underlying41
  have hu34 := Tryd.underlying34
  have HR1_2 := Aside0.mk hr1_2
  have HC1_2 := Aside0.mk hc1_2
  clear hr1_2 hc1_2
  have HB := Aside0.mk (Below.refl w.heap.size w)
  have H : ((laws_szPart.f a1_0 a1_1 l1_2 1048576).bind fun t372 => (if t372 < 0 then (some true) else ((laws_toConf.f a0_0 a0_1).bind fun bt373 => ((laws_toPart.f k a1_0 a1_1 l1_2).bind fun bt375 => ((spec_PartQc.f k bt373.1 bt373.2 bt375.1 bt375.2.1 bt375.2.2).bind fun bt380 => ((laws_toPart.f k a1_0 a1_1 l1_2).bind fun bt387 => ((laws_toConf.f a0_0 a0_1).bind fun bt393 => ((impl_PartQc.f k bt393.1 bt393.2 bt387.1 bt387.2.1 bt387.2.2).bind fun bt395 => ((laws_eqQc.f k bt395.1 bt395.2.1 bt395.2.2.1 bt380.1 bt380.2.1 bt380.2.2.1).bind fun t402 => (if t402 = true then (if (bt395.2.2.2 != bt380.2.2.2) = true then (some false) else ((laws_toPart.f k a1_0 a1_1 l1_2).bind fun bt403 => ((laws_eqPart.f k bt387.1 bt387.2.1 bt387.2.2 bt403.1 bt403.2.1 bt403.2.2).bind fun t408 => (if t408 = true then ((laws_markPart.f k bt387.1 bt387.2.1 bt387.2.2 1).bind fun bt409 => (if bt409.1 < 0 then (some false) else ((laws_eqQc.f k bt395.1 bt395.2.1 bt395.2.2.1 bt380.1 bt380.2.1 bt380.2.2.1).bind fun t411 => (if t411 = true then ((laws_markQc.f k bt395.1 bt395.2.1 bt395.2.2.1 1).bind fun bt412 => ((laws_heldQc.f k bt395.1 bt395.2.1 bt412.2 1).bind fun t414 => (if t414 < 0 then (some false) else (if t414 = bt412.1 then ((laws_toConf.f a0_0 a0_1).bind fun bt415 => ((laws_toPart.f k a1_0 a1_1 l1_2).bind fun bt417 => ((impl_PartQc.f k bt415.1 bt415.2 bt417.1 bt417.2.1 bt417.2.2).bind fun bt422 => ((laws_eqQc.f k bt422.1 bt422.2.1 bt422.2.2.1 bt380.1 bt380.2.1 bt380.2.2.1).bind fun t429 => (if t429 = true then (if (bt422.2.2.2 != bt380.2.2.2) = true then (some false) else ((laws_heldQc.f k bt395.1 bt395.2.1 bt412.2 1).bind fun t430 => (if t430 < 0 then (some false) else (if t430 = bt412.1 then (some true) else (some false))))) else (some false)))))) else (some false))))) else (some false))))) else (some false))))) else (some false))))))))))) = some r := h
  clear h
  obtain ⟨t372, A30, H⟩ := Option.bind_eq_some_iff.mp H
  try dsimp only at H
  have A3 := Aside0.mk A30
  clear A30
  by_cases c4 : t372 < 0
  · rw [if_pos c4] at H
    have c4b0 : decide (t372 < 0) = true := decide_eq_true c4
    clear c4
    obtain rfl := Option.some.inj H
    go_enter Tryd.func8, Tryd.ntmps8
    go_wp2_with (first | ((with_reducible refine gd 2 ?_); refine bA 2 #[.int .i64 a0_0, .int .i64 a0_1] 26 ?_; intro gb370 hg w5 hbox hb; have BK370 := Aside0.mk (hbox); have GW370 := bg hg HB; have GJ370 := gi GW370; have GE370 := GW370; replace HB := bs HB hb; clear hb hbox hg) | ((with_reducible refine gd 3 ?_); refine bA 3 #[.int .i64 a1_0, .string a1_1, .slice A1_2 l1_2.length c1_2] 29 ?_; intro gb371 hg w6 hbox hb; have BK371 := Aside0.mk (hbox); have GW371 := bg hg HB; have GJ371 := gi GW371; have GE371 := GW371; replace HB := bs HB hb; have NB370_371 := b1 BK370 hg; have NI370_371 := ni NB370_371; have NB371_370 := b2 BK370 hg; have NI371_370 := ni NB371_370; replace BK370 := bk BK370 hb; clear hb hbox hg; have hnb7 := NB371_370.out; have hnc7 := NB370_371.out; obtain ⟨hcz8_0, hcz8_1, hcz8_2, hfz8_0, hfz8_1, hfz8_2⟩ := cs3 BK371) | ((with_reducible refine gate_callee (f := 17) rfl ?_); refine gB (some 18) Tryd.func17 #[.agg #[.int .i64 a1_0, .string a1_1, .slice A1_2 l1_2.length c1_2], .int .i64 1048576] ?_; (with_reducible refine (laws_szPart.calls a1_0 a1_1 _ _ l1_2 1048576 t372 _ ?side1 ?side2 A3.out).mono ?_); (case side1 => exact ch HR1_2 HB); (case side2 => exact HC1_2.out); rintro e w9 ⟨rfl, hb⟩; refine ⟨_, rfl, ?_⟩; replace BK370 := bk BK370 hb; replace BK371 := bk BK371 hb; replace HB := bs HB hb; (try clear hb); (try clear hb2); (try clear hk); (try clear hi)))
    go_ret
    exact ⟨y0_6, bI HB.out⟩
  · rw [if_neg c4] at H
    have c4b0 : decide (t372 < 0) = false := decide_eq_false c4
    clear c4
    obtain ⟨⟨t373, t374⟩, A100, H⟩ := Option.bind_eq_some_iff.mp H
    try dsimp only at H
    have A10 := Aside0.mk A100
    clear A100
    obtain ⟨⟨t375, t376, t377⟩, A110, H⟩ := Option.bind_eq_some_iff.mp H
    try dsimp only at H
    have A11 := Aside0.mk A110
    clear A110
    obtain ⟨⟨t380, t381, t382, t385⟩, A120, H⟩ := Option.bind_eq_some_iff.mp H
    try dsimp only at H
    have A12 := Aside0.mk A120
    clear A120
    obtain ⟨⟨t387, t388, t389⟩, A130, H⟩ := Option.bind_eq_some_iff.mp H
    try dsimp only at H
    have A13 := Aside0.mk A130
    clear A130
    obtain ⟨⟨t393, t394⟩, A140, H⟩ := Option.bind_eq_some_iff.mp H
    try dsimp only at H
    have A14 := Aside0.mk A140
    clear A140
    obtain ⟨⟨t395, t396, t397, t400⟩, A150, H⟩ := Option.bind_eq_some_iff.mp H
    try dsimp only at H
    have A15 := Aside0.mk A150
    clear A150
    obtain ⟨t402, A160, H⟩ := Option.bind_eq_some_iff.mp H
    try dsimp only at H
    have A16 := Aside0.mk A160
    clear A160
    by_cases c17 : t402 = true
    · subst c17
      rw [if_pos rfl] at H
      by_cases c18 : (t400 != t385) = true
      · rw [if_pos c18] at H
        have c18b0 : (t400 != t385) = true := c18
        (try (have c18b1 : decide (t400 = t385) = false := by simpa using c18))
        (try (have c18b2 : (t400 == t385) = false := by simpa using c18))
        (try (have c18b3 : ¬ (t400 = t385) := by simpa using c18))
        clear c18
        exact absurd (hrt.out.symm.trans (Option.some.inj H).symm) (by decide)
      rw [if_neg c18] at H
      have c18b0 : (t400 != t385) = false := by simpa using c18
      (try (have c18b1 : decide (t400 = t385) = true := by simpa using c18))
      (try (have c18b2 : (t400 == t385) = true := by simpa using c18))
      clear c18
      obtain ⟨⟨t403, t404, t405⟩, A190, H⟩ := Option.bind_eq_some_iff.mp H
      try dsimp only at H
      have A19 := Aside0.mk A190
      clear A190
      obtain ⟨t408, A200, H⟩ := Option.bind_eq_some_iff.mp H
      try dsimp only at H
      have A20 := Aside0.mk A200
      clear A200
      by_cases c21 : t408 = true
      rotate_left
      · replace c21 := Bool.eq_false_iff.mpr c21
        subst c21
        rw [if_neg (show ¬ (false = true) by decide)] at H
        exact absurd (hrt.out.symm.trans (Option.some.inj H).symm) (by decide)
      subst c21
      rw [if_pos rfl] at H
      obtain ⟨⟨t409, t410⟩, A220, H⟩ := Option.bind_eq_some_iff.mp H
      try dsimp only at H
      have A22 := Aside0.mk A220
      clear A220
      by_cases c23 : t409 < 0
      · rw [if_pos c23] at H
        have c23b0 : decide (t409 < 0) = true := decide_eq_true c23
        clear c23
        exact absurd (hrt.out.symm.trans (Option.some.inj H).symm) (by decide)
      rw [if_neg c23] at H
      have c23b0 : decide (t409 < 0) = false := decide_eq_false c23
      clear c23
      obtain ⟨t411, A240, H⟩ := Option.bind_eq_some_iff.mp H
      try dsimp only at H
      have A24 := Aside0.mk A240
      clear A240
      by_cases c25 : t411 = true
      rotate_left
      · replace c25 := Bool.eq_false_iff.mpr c25
        subst c25
        rw [if_neg (show ¬ (false = true) by decide)] at H
        exact absurd (hrt.out.symm.trans (Option.some.inj H).symm) (by decide)
      subst c25
      rw [if_pos rfl] at H
      obtain ⟨⟨t412, t413⟩, A260, H⟩ := Option.bind_eq_some_iff.mp H
      try dsimp only at H
      have A26 := Aside0.mk A260
      clear A260
      obtain ⟨t414, A270, H⟩ := Option.bind_eq_some_iff.mp H
      try dsimp only at H
      have A27 := Aside0.mk A270
      clear A270
      by_cases c28 : t414 < 0
      · rw [if_pos c28] at H
        have c28b0 : decide (t414 < 0) = true := decide_eq_true c28
        clear c28
        exact absurd (hrt.out.symm.trans (Option.some.inj H).symm) (by decide)
      rw [if_neg c28] at H
      have c28b0 : decide (t414 < 0) = false := decide_eq_false c28
      clear c28
      by_cases c29 : t414 = t412
      rotate_left
      · rw [if_neg c29] at H
        have c29b0 : (t414 == t412) = false := beq_eq_false_iff_ne.mpr c29
        have c29b1 : (t414 != t412) = true := bne_iff_ne.mpr c29
        exact absurd (hrt.out.symm.trans (Option.some.inj H).symm) (by decide)
      rw [if_pos c29] at H
      have c29b0 : (t414 == t412) = true := beq_iff_eq.mpr c29
      have c29b1 : (t414 != t412) = false := bne_eq_false_iff_eq.mpr c29
      clear c29
      obtain ⟨⟨t415, t416⟩, A300, H⟩ := Option.bind_eq_some_iff.mp H
      try dsimp only at H
      have A30 := Aside0.mk A300
      clear A300
      obtain ⟨⟨t417, t418, t419⟩, A310, H⟩ := Option.bind_eq_some_iff.mp H
      try dsimp only at H
      have A31 := Aside0.mk A310
      clear A310
      obtain ⟨⟨t422, t423, t424, t427⟩, A320, H⟩ := Option.bind_eq_some_iff.mp H
      try dsimp only at H
      have A32 := Aside0.mk A320
      clear A320
      obtain ⟨t429, A330, H⟩ := Option.bind_eq_some_iff.mp H
      try dsimp only at H
      have A33 := Aside0.mk A330
      clear A330
      by_cases c34 : t429 = true
      rotate_left
      · replace c34 := Bool.eq_false_iff.mpr c34
        subst c34
        rw [if_neg (show ¬ (false = true) by decide)] at H
        exact absurd (hrt.out.symm.trans (Option.some.inj H).symm) (by decide)
      subst c34
      rw [if_pos rfl] at H
      by_cases c35 : (t427 != t385) = true
      · rw [if_pos c35] at H
        have c35b0 : (t427 != t385) = true := c35
        (try (have c35b1 : decide (t427 = t385) = false := by simpa using c35))
        (try (have c35b2 : (t427 == t385) = false := by simpa using c35))
        (try (have c35b3 : ¬ (t427 = t385) := by simpa using c35))
        clear c35
        exact absurd (hrt.out.symm.trans (Option.some.inj H).symm) (by decide)
      rw [if_neg c35] at H
      have c35b0 : (t427 != t385) = false := by simpa using c35
      (try (have c35b1 : decide (t427 = t385) = true := by simpa using c35))
      (try (have c35b2 : (t427 == t385) = true := by simpa using c35))
      clear c35
      obtain ⟨t430, A360, H⟩ := Option.bind_eq_some_iff.mp H
      try dsimp only at H
      have A36 := Aside0.mk A360
      clear A360
      by_cases c37 : t430 < 0
      · rw [if_pos c37] at H
        have c37b0 : decide (t430 < 0) = true := decide_eq_true c37
        clear c37
        exact absurd (hrt.out.symm.trans (Option.some.inj H).symm) (by decide)
      rw [if_neg c37] at H
      have c37b0 : decide (t430 < 0) = false := decide_eq_false c37
      clear c37
      by_cases c38 : t430 = t412
      rotate_left
      · rw [if_neg c38] at H
        have c38b0 : (t430 == t412) = false := beq_eq_false_iff_ne.mpr c38
        have c38b1 : (t430 != t412) = true := bne_iff_ne.mpr c38
        exact absurd (hrt.out.symm.trans (Option.some.inj H).symm) (by decide)
      rw [if_pos c38] at H
      have c38b0 : (t430 == t412) = true := beq_iff_eq.mpr c38
      have c38b1 : (t430 != t412) = false := bne_eq_false_iff_eq.mpr c38
      clear c38
      obtain rfl := Option.some.inj H
      go_enter Tryd.func8, Tryd.ntmps8
      try go_wp2_with (first | ((with_reducible refine gd 2 ?_); refine bA 2 #[.int .i64 a0_0, .int .i64 a0_1] 26 ?_; intro gb370 hg w39 hbox hb; have BK370 := Aside0.mk (hbox); have GW370 := bg hg HB; have GJ370 := gi GW370; have GE370 := GW370; replace HB := bs HB hb; clear hb hbox hg) | ((with_reducible refine gd 3 ?_); refine bA 3 #[.int .i64 a1_0, .string a1_1, .slice A1_2 l1_2.length c1_2] 29 ?_; intro gb371 hg w40 hbox hb; have BK371 := Aside0.mk (hbox); have GW371 := bg hg HB; have GJ371 := gi GW371; have GE371 := GW371; replace HB := bs HB hb; have NB370_371 := b1 BK370 hg; have NI370_371 := ni NB370_371; have NB371_370 := b2 BK370 hg; have NI371_370 := ni NB371_370; replace BK370 := bk BK370 hb; clear hb hbox hg; have hnb41 := NB371_370.out; have hnc41 := NB370_371.out; obtain ⟨hcz42_0, hcz42_1, hcz42_2, hfz42_0, hfz42_1, hfz42_2⟩ := cs3 BK371) | ((with_reducible refine gate_callee (f := 17) rfl ?_); refine gB (some 18) Tryd.func17 #[.agg #[.int .i64 a1_0, .string a1_1, .slice A1_2 l1_2.length c1_2], .int .i64 1048576] ?_; (with_reducible refine (laws_szPart.calls a1_0 a1_1 _ _ l1_2 1048576 t372 _ ?side1 ?side2 A3.out).mono ?_); (case side1 => exact ch HR1_2 HB); (case side2 => exact HC1_2.out); rintro e w43 ⟨rfl, hb⟩; refine ⟨_, rfl, ?_⟩; replace BK370 := bk BK370 hb; replace BK371 := bk BK371 hb; replace HB := bs HB hb; (try clear hb); (try clear hb2); (try clear hk); (try clear hi)))
      replace BK370 := Aside0.mk (blk_drew BK370.out)
      replace BK371 := Aside0.mk (blk_drew BK371.out)
      replace HB := Aside0.mk (below_drew1 HB.out)
      refine start_ (n := 11) (S := fun w' => w'.cell? ⟨gb370, 0, none⟩ = some (.int .i64 a0_0) ∧ w'.cell? ⟨gb370, 1, none⟩ = some (.int .i64 a0_1) ∧ w'.cell? ⟨gb371, 0, none⟩ = some (.int .i64 a1_0) ∧ w'.cell? ⟨gb371, 1, none⟩ = some (.string a1_1) ∧ w'.cell? ⟨gb371, 2, none⟩ = some (.slice A1_2 l1_2.length c1_2)) (ds := []) #[false, false, false, false, false, false, false, false, false, false, false] (by kernel_rfl) rfl rfl ⟨bc0 BK370.out, bc1 BK370.out, bc0 BK371.out, bc1 BK371.out, bc2 BK371.out⟩ (fun hHeld => ?_); refine with_tabW laws_FnExactPartQc.tab5 laws_FnExactPartQc.bits5 (fun HT_ HW_ => ?_)
      generalize w43.drew = w44 at BK370 BK371 HB hHeld ⊢
      refine tA 0 (some 22) (bz 11 1) HT_ HW_ hHeld ?_
      refine tA 2 (some 24) (bz 11 5) HT_ HW_ hHeld ?_
      refine join_ (σ := Value × Value × Nat) 2 #[true, true, true, true, true, true, true, true, true, false, false] (fun s_ => [(23, .agg #[.int .i64 t373, .int .i64 t374]), (25, .agg #[.int .i64 t375, .string t376, s_.1]), (26, .tuple #[.agg #[.int .i64 t380, .string t381, s_.2.1], .bool t385]), (6, .pointer (some ⟨s_.2.2, 0, none⟩)), (21, .tuple #[.agg #[.int .i64 t380, .string t381, s_.2.1], .bool t385]), (27, .agg #[.int .i64 t380, .string t381, s_.2.1]), (28, .bool t385)]) (fun s_ w' => (w'.cell? ⟨gb370, 0, none⟩ = some (.int .i64 a0_0) ∧ w'.cell? ⟨gb370, 1, none⟩ = some (.int .i64 a0_1) ∧ w'.cell? ⟨gb371, 0, none⟩ = some (.int .i64 a1_0) ∧ w'.cell? ⟨gb371, 1, none⟩ = some (.string a1_1) ∧ w'.cell? ⟨gb371, 2, none⟩ = some (.slice A1_2 l1_2.length c1_2)) ∧ (Kd.R (Kd.int .i64) 3 w' w.heap.size (fun k_ => some k_ ≠ (s_.2.1 : Value).ownBlock) s_.1 t377) ∧ (Kd.R (Kd.int .i64) 3 w' w.heap.size (fun k_ => some k_ ≠ (s_.1 : Value).ownBlock) s_.2.1 t382) ∧ (w'.heap[gb370]? = some (.cells #[.int .i64 a0_0, .int .i64 a0_1] 26 (0, 0))) ∧ (w'.heap[gb371]? = some (.cells #[.int .i64 a1_0, .string a1_1, .slice A1_2 l1_2.length c1_2] 29 (0, 0))) ∧ (w'.heap[s_.2.2]? = some (.cells #[.int .i64 0, .string (⟨#[]⟩ : ByteArray), .slice none 0 0] 41 (0, 0))) ∧ (w.heap.size ≤ s_.2.2) ∧ (w.heap.size ≤ s_.2.2) ∧ (gb370 ≠ s_.2.2) ∧ (s_.2.2 ≠ gb370) ∧ (gb371 ≠ s_.2.2) ∧ (s_.2.2 ≠ gb371) ∧ (Below w.heap.size w w')) ?_ ?_
      rotate_left
      · intro hCont
        refine two_ (i := 1) (j := 8) (Ni := some 23) (Nj := some 6) #[true, true, true, false, false, false, false, false, false, false, false] #[true, false, true, false, false, false, false, false, true, false, false] rfl rfl rfl rfl (two_of HT_.out (by kernel_rfl)) (by decide) (by decide) (fun K hK => ?_) (fun K hK => ?_)
        · skip
          refine gA Tryd.func19 #[.agg #[.int .i64 a0_0, .int .i64 a0_1]] ?_
          with_reducible refine (laws_toConf.calls a0_0 a0_1 t373 t374 _ A10.out).mono ?_
          rintro e w45 ⟨rfl, hb⟩
          refine ⟨_, rfl, ?_⟩
          replace BK370 := bk BK370 hb
          replace BK371 := bk BK371 hb
          replace HB := bs HB hb
          (try clear hb)
          (try clear hb2)
          (try clear hk)
          (try clear hi)
          refine hK.out _ _ ⟨bc0 BK370.out, bc1 BK370.out, bc0 BK371.out, bc1 BK371.out, bc2 BK371.out⟩ (fun hHeld => ?_)
          clear hK K
          refine nA (some 23) ?_
          refine two_ (i := 3) (j := 8) (Ni := some 25) (Nj := some 6) #[true, true, true, true, false, false, false, false, false, false, false] #[true, true, true, false, false, false, false, false, true, false, false] rfl rfl rfl rfl (two_of HT_.out (by kernel_rfl)) (by decide) (by decide) (fun K hK => ?_) (fun K hK => ?_)
          · skip
            refine gA Tryd.func20 #[.agg #[.int .i64 a1_0, .string a1_1, .slice A1_2 l1_2.length c1_2]] ?_
            with_reducible refine (laws_toPart.calls k a1_0 a1_1 _ _ l1_2 t375 t376 t377 _ ?side1 ?side2 A11.out).mono ?_
            (case side1 => exact ch HR1_2 HB)
            (case side2 => exact HC1_2.out)
            rintro e w46 ⟨v378, rfl, ho0, hb⟩
            refine ⟨_, rfl, ?_⟩
            have HO379 := Aside0.mk (Kd.R_lower ho0 (below_size (bI HB.out)))
            replace BK370 := bk BK370 hb
            replace BK371 := bk BK371 hb
            replace HB := bs HB hb
            (try clear hb)
            (try clear hb2)
            (try clear hk)
            (try clear hi)
            (try clear ho0)
            obtain ⟨Ao47, co47, eo47⟩ := Kd.R_slice HO379.out
            (first | subst eo47 | (injection eo47 with f1_ f2_ f3_; have f4_ := f1_.symm; have f5_ := f3_.symm; clear f1_ f2_ f3_; subst f4_; subst f5_))
            refine hK.out _ _ ⟨bc0 BK370.out, bc1 BK370.out, bc0 BK371.out, bc1 BK371.out, bc2 BK371.out⟩ (fun hHeld => ?_)
            clear hK K
            refine nA (some 25) ?_
            refine two_ (i := 4) (j := 8) (Ni := some 26) (Nj := some 6) #[true, true, true, true, true, false, false, false, false, false, false] #[true, true, true, true, false, false, false, false, true, false, false] rfl rfl rfl rfl (two_of HT_.out (by kernel_rfl)) (by decide) (by decide) (fun K hK => ?_) (fun K hK => ?_)
            · skip
              refine gA Tryd.func38 #[.agg #[.int .i64 t373, .int .i64 t374], .agg #[.int .i64 t375, .string t376, .slice Ao47 t377.length co47]] ?_
              with_reducible refine (spec_PartQc.calls k t373 t374 t375 t376 _ _ t377 t380 t381 t382 t385 _ ?side1 ?side2 A12.out).mono ?_
              (case side1 => repeat (first | exact (Kd.R_reads' HO379.out).2.2 | (with_reducible refine Kd.C_alloc ?_ _) | (with_reducible refine Kd.C_drewN ?_ _) | (with_reducible refine Kd.C_drew ?_)))
              (case side2 => exact (Kd.R_reads' HO379.out).2.1)
              rintro e w48 ⟨v383, rfl, ho0, hb⟩
              refine ⟨_, rfl, ?_⟩
              have HO384 := Aside0.mk (Kd.R_lower (Kd.R_new' ho0 (Kd.R_lt (rI HO379.out))) (below_size (bI HB.out)))
              replace HO379 := Aside0.mk (Kd.R_elder' (rI HO379.out) (Kd.R_base ho0) hb)
              replace BK370 := bk BK370 hb
              replace BK371 := bk BK371 hb
              replace HB := bs HB hb
              (try clear hb)
              (try clear hb2)
              (try clear hk)
              (try clear hi)
              (try clear ho0)
              refine hK.out _ _ ⟨bc0 BK370.out, bc1 BK370.out, bc0 BK371.out, bc1 BK371.out, bc2 BK371.out⟩ (fun hHeld => ?_)
              clear hK K
              refine nA (some 26) ?_
              refine pA 5 (some 21) (bz 11 63) HT_ ?_
              refine pA 6 (some 27) (bz 11 127) HT_ ?_
              refine pA 7 (some 28) (bz 11 255) HT_ ?_
              refine oA 8 (some 6) (bz 11 511) HT_ (fun K hK => ?_)
              refine box_step ?hg (N := 6) ?hd (cs := #[.int .i64 0, .string (⟨#[]⟩ : ByteArray), .slice none 0 0]) (t := 41) ?hr ?_; (case hd => rfl); (case hg => rfl); (case hr => first | (go_simp; done) | (go_simp; rfl))
              intro gb386 hg w49 hbox hb
              replace HO379 := rb HO379 hb
              replace HO384 := rb HO384 hb
              have BK386 := Aside0.mk (hbox)
              have GW386 := bg hg HB
              have GJ386 := gi GW386
              have GE386 := bg hg HB
              have GI386 := gi GE386
              replace HB := bs HB hb
              have NB370_386 := b1 BK370 hg
              have NI370_386 := ni NB370_386
              have NB386_370 := b2 BK370 hg
              have NI386_370 := ni NB386_370
              replace BK370 := bk BK370 hb
              have NB371_386 := b1 BK371 hg
              have NI371_386 := ni NB371_386
              have NB386_371 := b2 BK371 hg
              have NI386_371 := ni NB386_371
              replace BK371 := bk BK371 hb
              clear hb hbox hg
              refine hK.out _ _ ⟨bc0 BK370.out, bc1 BK370.out, bc0 BK371.out, bc1 BK371.out, bc2 BK371.out⟩ (fun hHeld => ?_)
              clear hK K
              refine nA (some 6) ?_
              exact norm_ y0_5 (hCont (.slice Ao47 t377.length co47, v383, gb386) _ ⟨hHeld, (rI (Kd.R_mono HO379.out (fun _ hk => hk.2))), (rI (Kd.R_mono HO384.out (fun _ hk => hk.2))), (kI BK370.out), (kI BK371.out), (kI BK386.out), GW386.out, GE386.out, NB370_386.out, NB386_370.out, NB371_386.out, NB386_371.out, (bI HB.out)⟩)
            · skip
              refine box_step ?hg (N := 6) ?hd (cs := #[.int .i64 0, .string (⟨#[]⟩ : ByteArray), .slice none 0 0]) (t := 41) ?hr ?_; (case hd => rfl); (case hg => rfl); (case hr => first | (go_simp; done) | (go_simp; rfl))
              intro gb386 hg w47 hbox hb
              replace HO379 := rb HO379 hb
              have BK386 := Aside0.mk (hbox)
              have GW386 := bg hg HB
              have GJ386 := gi GW386
              have GE386 := bg hg HB
              have GI386 := gi GE386
              replace HB := bs HB hb
              have NB370_386 := b1 BK370 hg
              have NI370_386 := ni NB370_386
              have NB386_370 := b2 BK370 hg
              have NI386_370 := ni NB386_370
              replace BK370 := bk BK370 hb
              have NB371_386 := b1 BK371 hg
              have NI371_386 := ni NB371_386
              have NB386_371 := b2 BK371 hg
              have NI386_371 := ni NB386_371
              replace BK371 := bk BK371 hb
              clear hb hbox hg
              obtain ⟨Ao48, co48, eo48⟩ := Kd.R_slice HO379.out
              (first | subst eo48 | (injection eo48 with f1_ f2_ f3_; have f4_ := f1_.symm; have f5_ := f3_.symm; clear f1_ f2_ f3_; subst f4_; subst f5_))
              refine hK.out _ _ ⟨bc0 BK370.out, bc1 BK370.out, bc0 BK371.out, bc1 BK371.out, bc2 BK371.out⟩ (fun hHeld => ?_)
              clear hK K
              refine nA (some 6) ?_
              refine oA 4 (some 26) (bz 11 287) HT_ (fun K hK => ?_)
              refine gA Tryd.func38 #[.agg #[.int .i64 t373, .int .i64 t374], .agg #[.int .i64 t375, .string t376, .slice Ao48 t377.length co48]] ?_
              with_reducible refine (spec_PartQc.calls k t373 t374 t375 t376 _ _ t377 t380 t381 t382 t385 _ ?side1 ?side2 A12.out).mono ?_
              (case side1 => repeat (first | exact (Kd.R_reads' HO379.out).2.2 | (with_reducible refine Kd.C_alloc ?_ _) | (with_reducible refine Kd.C_drewN ?_ _) | (with_reducible refine Kd.C_drew ?_)))
              (case side2 => exact (Kd.R_reads' HO379.out).2.1)
              rintro e w49 ⟨v383, rfl, ho0, hb⟩
              refine ⟨_, rfl, ?_⟩
              have HO384 := Aside0.mk (Kd.R_lower (Kd.R_new' ho0 (Kd.R_lt (rI HO379.out))) (below_size (bI HB.out)))
              replace HO379 := Aside0.mk (Kd.R_elder' (rI HO379.out) (Kd.R_base ho0) hb)
              replace BK370 := bk BK370 hb
              replace BK371 := bk BK371 hb
              replace BK386 := bk BK386 hb
              replace HB := bs HB hb
              (try clear hb)
              (try clear hb2)
              (try clear hk)
              (try clear hi)
              (try clear ho0)
              refine hK.out _ _ ⟨bc0 BK370.out, bc1 BK370.out, bc0 BK371.out, bc1 BK371.out, bc2 BK371.out⟩ (fun hHeld => ?_)
              clear hK K
              refine nA (some 26) ?_
              refine pA 5 (some 21) (bz 11 319) HT_ ?_
              refine pA 6 (some 27) (bz 11 383) HT_ ?_
              refine pA 7 (some 28) (bz 11 511) HT_ ?_
              exact norm_ y0_5 (hCont (.slice Ao48 t377.length co48, v383, gb386) _ ⟨hHeld, (rI (Kd.R_mono HO379.out (fun _ hk => hk.2))), (rI (Kd.R_mono HO384.out (fun _ hk => hk.2))), (kI BK370.out), (kI BK371.out), (kI BK386.out), GW386.out, GE386.out, NB370_386.out, NB386_370.out, NB371_386.out, NB386_371.out, (bI HB.out)⟩)
          · skip
            refine box_step ?hg (N := 6) ?hd (cs := #[.int .i64 0, .string (⟨#[]⟩ : ByteArray), .slice none 0 0]) (t := 41) ?hr ?_; (case hd => rfl); (case hg => rfl); (case hr => first | (go_simp; done) | (go_simp; rfl))
            intro gb386 hg w46 hbox hb
            have BK386 := Aside0.mk (hbox)
            have GW386 := bg hg HB
            have GJ386 := gi GW386
            have GE386 := bg hg HB
            have GI386 := gi GE386
            replace HB := bs HB hb
            have NB370_386 := b1 BK370 hg
            have NI370_386 := ni NB370_386
            have NB386_370 := b2 BK370 hg
            have NI386_370 := ni NB386_370
            replace BK370 := bk BK370 hb
            have NB371_386 := b1 BK371 hg
            have NI371_386 := ni NB371_386
            have NB386_371 := b2 BK371 hg
            have NI386_371 := ni NB386_371
            replace BK371 := bk BK371 hb
            clear hb hbox hg
            refine hK.out _ _ ⟨bc0 BK370.out, bc1 BK370.out, bc0 BK371.out, bc1 BK371.out, bc2 BK371.out⟩ (fun hHeld => ?_)
            clear hK K
            refine nA (some 6) ?_
            refine oA 3 (some 25) (bz 11 271) HT_ (fun K hK => ?_)
            refine gA Tryd.func20 #[.agg #[.int .i64 a1_0, .string a1_1, .slice A1_2 l1_2.length c1_2]] ?_
            with_reducible refine (laws_toPart.calls k a1_0 a1_1 _ _ l1_2 t375 t376 t377 _ ?side1 ?side2 A11.out).mono ?_
            (case side1 => exact ch HR1_2 HB)
            (case side2 => exact HC1_2.out)
            rintro e w47 ⟨v378, rfl, ho0, hb⟩
            refine ⟨_, rfl, ?_⟩
            have HO379 := Aside0.mk (Kd.R_lower ho0 (below_size (bI HB.out)))
            replace BK370 := bk BK370 hb
            replace BK371 := bk BK371 hb
            replace BK386 := bk BK386 hb
            replace HB := bs HB hb
            (try clear hb)
            (try clear hb2)
            (try clear hk)
            (try clear hi)
            (try clear ho0)
            obtain ⟨Ao48, co48, eo48⟩ := Kd.R_slice HO379.out
            (first | subst eo48 | (injection eo48 with f1_ f2_ f3_; have f4_ := f1_.symm; have f5_ := f3_.symm; clear f1_ f2_ f3_; subst f4_; subst f5_))
            refine hK.out _ _ ⟨bc0 BK370.out, bc1 BK370.out, bc0 BK371.out, bc1 BK371.out, bc2 BK371.out⟩ (fun hHeld => ?_)
            clear hK K
            refine nA (some 25) ?_
            refine oA 4 (some 26) (bz 11 287) HT_ (fun K hK => ?_)
            refine gA Tryd.func38 #[.agg #[.int .i64 t373, .int .i64 t374], .agg #[.int .i64 t375, .string t376, .slice Ao48 t377.length co48]] ?_
            with_reducible refine (spec_PartQc.calls k t373 t374 t375 t376 _ _ t377 t380 t381 t382 t385 _ ?side1 ?side2 A12.out).mono ?_
            (case side1 => repeat (first | exact (Kd.R_reads' HO379.out).2.2 | (with_reducible refine Kd.C_alloc ?_ _) | (with_reducible refine Kd.C_drewN ?_ _) | (with_reducible refine Kd.C_drew ?_)))
            (case side2 => exact (Kd.R_reads' HO379.out).2.1)
            rintro e w49 ⟨v383, rfl, ho0, hb⟩
            refine ⟨_, rfl, ?_⟩
            have HO384 := Aside0.mk (Kd.R_lower (Kd.R_new' ho0 (Kd.R_lt (rI HO379.out))) (below_size (bI HB.out)))
            replace HO379 := Aside0.mk (Kd.R_elder' (rI HO379.out) (Kd.R_base ho0) hb)
            replace BK370 := bk BK370 hb
            replace BK371 := bk BK371 hb
            replace BK386 := bk BK386 hb
            replace HB := bs HB hb
            (try clear hb)
            (try clear hb2)
            (try clear hk)
            (try clear hi)
            (try clear ho0)
            refine hK.out _ _ ⟨bc0 BK370.out, bc1 BK370.out, bc0 BK371.out, bc1 BK371.out, bc2 BK371.out⟩ (fun hHeld => ?_)
            clear hK K
            refine nA (some 26) ?_
            refine pA 5 (some 21) (bz 11 319) HT_ ?_
            refine pA 6 (some 27) (bz 11 383) HT_ ?_
            refine pA 7 (some 28) (bz 11 511) HT_ ?_
            exact norm_ y0_5 (hCont (.slice Ao48 t377.length co48, v383, gb386) _ ⟨hHeld, (rI (Kd.R_mono HO379.out (fun _ hk => hk.2))), (rI (Kd.R_mono HO384.out (fun _ hk => hk.2))), (kI BK370.out), (kI BK371.out), (kI BK386.out), GW386.out, GE386.out, NB370_386.out, NB386_370.out, NB371_386.out, NB386_371.out, (bI HB.out)⟩)
        · skip
          refine box_step ?hg (N := 6) ?hd (cs := #[.int .i64 0, .string (⟨#[]⟩ : ByteArray), .slice none 0 0]) (t := 41) ?hr ?_; (case hd => rfl); (case hg => rfl); (case hr => first | (go_simp; done) | (go_simp; rfl))
          intro gb386 hg w45 hbox hb
          have BK386 := Aside0.mk (hbox)
          have GW386 := bg hg HB
          have GJ386 := gi GW386
          have GE386 := bg hg HB
          have GI386 := gi GE386
          replace HB := bs HB hb
          have NB370_386 := b1 BK370 hg
          have NI370_386 := ni NB370_386
          have NB386_370 := b2 BK370 hg
          have NI386_370 := ni NB386_370
          replace BK370 := bk BK370 hb
          have NB371_386 := b1 BK371 hg
          have NI371_386 := ni NB371_386
          have NB386_371 := b2 BK371 hg
          have NI386_371 := ni NB386_371
          replace BK371 := bk BK371 hb
          clear hb hbox hg
          refine hK.out _ _ ⟨bc0 BK370.out, bc1 BK370.out, bc0 BK371.out, bc1 BK371.out, bc2 BK371.out⟩ (fun hHeld => ?_)
          clear hK K
          refine nA (some 6) ?_
          refine oA 1 (some 23) (bz 11 263) HT_ (fun K hK => ?_)
          refine gA Tryd.func19 #[.agg #[.int .i64 a0_0, .int .i64 a0_1]] ?_
          with_reducible refine (laws_toConf.calls a0_0 a0_1 t373 t374 _ A10.out).mono ?_
          rintro e w46 ⟨rfl, hb⟩
          refine ⟨_, rfl, ?_⟩
          replace BK370 := bk BK370 hb
          replace BK371 := bk BK371 hb
          replace BK386 := bk BK386 hb
          replace HB := bs HB hb
          (try clear hb)
          (try clear hb2)
          (try clear hk)
          (try clear hi)
          refine hK.out _ _ ⟨bc0 BK370.out, bc1 BK370.out, bc0 BK371.out, bc1 BK371.out, bc2 BK371.out⟩ (fun hHeld => ?_)
          clear hK K
          refine nA (some 23) ?_
          refine oA 3 (some 25) (bz 11 271) HT_ (fun K hK => ?_)
          refine gA Tryd.func20 #[.agg #[.int .i64 a1_0, .string a1_1, .slice A1_2 l1_2.length c1_2]] ?_
          with_reducible refine (laws_toPart.calls k a1_0 a1_1 _ _ l1_2 t375 t376 t377 _ ?side1 ?side2 A11.out).mono ?_
          (case side1 => exact ch HR1_2 HB)
          (case side2 => exact HC1_2.out)
          rintro e w47 ⟨v378, rfl, ho0, hb⟩
          refine ⟨_, rfl, ?_⟩
          have HO379 := Aside0.mk (Kd.R_lower ho0 (below_size (bI HB.out)))
          replace BK370 := bk BK370 hb
          replace BK371 := bk BK371 hb
          replace BK386 := bk BK386 hb
          replace HB := bs HB hb
          (try clear hb)
          (try clear hb2)
          (try clear hk)
          (try clear hi)
          (try clear ho0)
          obtain ⟨Ao48, co48, eo48⟩ := Kd.R_slice HO379.out
          (first | subst eo48 | (injection eo48 with f1_ f2_ f3_; have f4_ := f1_.symm; have f5_ := f3_.symm; clear f1_ f2_ f3_; subst f4_; subst f5_))
          refine hK.out _ _ ⟨bc0 BK370.out, bc1 BK370.out, bc0 BK371.out, bc1 BK371.out, bc2 BK371.out⟩ (fun hHeld => ?_)
          clear hK K
          refine nA (some 25) ?_
          refine oA 4 (some 26) (bz 11 287) HT_ (fun K hK => ?_)
          refine gA Tryd.func38 #[.agg #[.int .i64 t373, .int .i64 t374], .agg #[.int .i64 t375, .string t376, .slice Ao48 t377.length co48]] ?_
          with_reducible refine (spec_PartQc.calls k t373 t374 t375 t376 _ _ t377 t380 t381 t382 t385 _ ?side1 ?side2 A12.out).mono ?_
          (case side1 => repeat (first | exact (Kd.R_reads' HO379.out).2.2 | (with_reducible refine Kd.C_alloc ?_ _) | (with_reducible refine Kd.C_drewN ?_ _) | (with_reducible refine Kd.C_drew ?_)))
          (case side2 => exact (Kd.R_reads' HO379.out).2.1)
          rintro e w49 ⟨v383, rfl, ho0, hb⟩
          refine ⟨_, rfl, ?_⟩
          have HO384 := Aside0.mk (Kd.R_lower (Kd.R_new' ho0 (Kd.R_lt (rI HO379.out))) (below_size (bI HB.out)))
          replace HO379 := Aside0.mk (Kd.R_elder' (rI HO379.out) (Kd.R_base ho0) hb)
          replace BK370 := bk BK370 hb
          replace BK371 := bk BK371 hb
          replace BK386 := bk BK386 hb
          replace HB := bs HB hb
          (try clear hb)
          (try clear hb2)
          (try clear hk)
          (try clear hi)
          (try clear ho0)
          refine hK.out _ _ ⟨bc0 BK370.out, bc1 BK370.out, bc0 BK371.out, bc1 BK371.out, bc2 BK371.out⟩ (fun hHeld => ?_)
          clear hK K
          refine nA (some 26) ?_
          refine pA 5 (some 21) (bz 11 319) HT_ ?_
          refine pA 6 (some 27) (bz 11 383) HT_ ?_
          refine pA 7 (some 28) (bz 11 511) HT_ ?_
          exact norm_ y0_5 (hCont (.slice Ao48 t377.length co48, v383, gb386) _ ⟨hHeld, (rI (Kd.R_mono HO379.out (fun _ hk => hk.2))), (rI (Kd.R_mono HO384.out (fun _ hk => hk.2))), (kI BK370.out), (kI BK371.out), (kI BK386.out), GW386.out, GE386.out, NB370_386.out, NB386_370.out, NB371_386.out, NB386_371.out, (bI HB.out)⟩)
      rintro ⟨v378, v383, gb386⟩ w50 ⟨hS_, h0_, h1_, h2_, h3_, h4_, h5_, h6_, h7_, h8_, h9_, h10_, h11_⟩
      have n0_ : Aside0 (Kd.R (Kd.int .i64) 3 w50 w.heap.size (fun k_ => some k_ ≠ (v383 : Value).ownBlock) v378 t377) := ⟨h0_⟩
      have n1_ : Aside0 (Kd.R (Kd.int .i64) 3 w50 w.heap.size (fun k_ => some k_ ≠ (v378 : Value).ownBlock) v383 t382) := ⟨h1_⟩
      have n2_ : Aside0 (w50.heap[gb370]? = some (.cells #[.int .i64 a0_0, .int .i64 a0_1] 26 (0, 0))) := ⟨h2_⟩
      have n3_ : Aside0 (w50.heap[gb371]? = some (.cells #[.int .i64 a1_0, .string a1_1, .slice A1_2 l1_2.length c1_2] 29 (0, 0))) := ⟨h3_⟩
      have n4_ : Aside0 (w50.heap[gb386]? = some (.cells #[.int .i64 0, .string (⟨#[]⟩ : ByteArray), .slice none 0 0] 41 (0, 0))) := ⟨h4_⟩
      have n5_ : Aside0 (w.heap.size ≤ gb386) := ⟨h5_⟩
      have n6_ : Aside0 (w.heap.size ≤ gb386) := ⟨h6_⟩
      have n7_ : Aside0 (gb370 ≠ gb386) := ⟨h7_⟩
      have n8_ : Aside0 (gb386 ≠ gb370) := ⟨h8_⟩
      have n9_ : Aside0 (gb371 ≠ gb386) := ⟨h9_⟩
      have n10_ : Aside0 (gb386 ≠ gb371) := ⟨h10_⟩
      have n11_ : Aside0 (Below w.heap.size w w50) := ⟨h11_⟩
      clear BK370
      clear BK371
      clear HB
      clear h0_ h1_ h2_ h3_ h4_ h5_ h6_ h7_ h8_ h9_ h10_ h11_
      have HO379 := n0_
      have HO384 := n1_
      have BK370 := n2_
      have BK371 := n3_
      have BK386 := n4_
      have GW386 := n5_
      have GJ386 := gi GW386
      have GE386 := n6_
      have GI386 := gi GE386
      have NB370_386 := n7_
      have NI370_386 := ni NB370_386
      have NB386_370 := n8_
      have NI386_370 := ni NB386_370
      have NB371_386 := n9_
      have NI371_386 := ni NB371_386
      have NB386_371 := n10_
      have NI386_371 := ni NB386_371
      have HB := n11_
      clear n0_ n1_ n2_ n3_ n4_ n5_ n6_ n7_ n8_ n9_ n10_ n11_
      have hHeld : w50.cell? ⟨gb370, 0, none⟩ = some (.int .i64 a0_0) ∧ w50.cell? ⟨gb370, 1, none⟩ = some (.int .i64 a0_1) ∧ w50.cell? ⟨gb371, 0, none⟩ = some (.int .i64 a1_0) ∧ w50.cell? ⟨gb371, 1, none⟩ = some (.string a1_1) ∧ w50.cell? ⟨gb371, 2, none⟩ = some (.slice A1_2 l1_2.length c1_2) := hS_
      obtain ⟨Ao53, co53, eo53⟩ := Kd.R_slice HO384.out
      (first | subst eo53 | (injection eo53 with f1_ f2_ f3_; have f4_ := f1_.symm; have f5_ := f3_.symm; clear f1_ f2_ f3_; subst f4_; subst f5_))
      refine norm_ (a' := ?_) ?_ ?_
      rotate_left
      · simp only [putAll, Act.put, List.setIfInBounds_toArray, List.set_cons_zero, List.set_cons_succ]
        rfl
      refine oA 9 none (bz 11 1023) HT_ (fun K hK => ?_)
      have hs51 : w50.cell? ⟨gb386, 0, none⟩ = some (.int .i64 0) := bc0 BK386.out
      have hfs51 := blk_frozen BK386.out 0
      have hns51_0 := NB370_386.out
      have hns51_1 := NB371_386.out
      have hms51_0 := NB386_370.out
      have hms51_1 := NB386_371.out
      have hs52 : w50.cell? ⟨gb386, 1, none⟩ = some (.string (⟨#[]⟩ : ByteArray)) := bc1 BK386.out
      have hfs52 := blk_frozen BK386.out 1
      have hns52_0 := NB370_386.out
      have hns52_1 := NB371_386.out
      have hms52_0 := NB386_370.out
      have hms52_1 := NB386_371.out
      have hs54 : w50.cell? ⟨gb386, 2, none⟩ = some (.slice none 0 0) := bc2 BK386.out
      have hfs54 := blk_frozen BK386.out 2
      have hns54_0 := NB370_386.out
      have hns54_1 := NB371_386.out
      have hms54_0 := NB386_370.out
      have hms54_1 := NB386_371.out
      refine skip_ (w1 := ?_) (by rfl) rfl ?_ ?_
      rotate_left
      · go_simp
        rfl
      refine hK.out _ _ ⟨((cell_far (p := ⟨gb386, _, none⟩) NB370_386.out _).trans (((cell_far (p := ⟨gb386, _, none⟩) NB370_386.out _).trans (((cell_far (p := ⟨gb386, _, none⟩) NB370_386.out _).trans (hHeld.1)))))), ((cell_far (p := ⟨gb386, _, none⟩) NB370_386.out _).trans (((cell_far (p := ⟨gb386, _, none⟩) NB370_386.out _).trans (((cell_far (p := ⟨gb386, _, none⟩) NB370_386.out _).trans (hHeld.2.1)))))), ((cell_far (p := ⟨gb386, _, none⟩) NB371_386.out _).trans (((cell_far (p := ⟨gb386, _, none⟩) NB371_386.out _).trans (((cell_far (p := ⟨gb386, _, none⟩) NB371_386.out _).trans (hHeld.2.2.1)))))), ((cell_far (p := ⟨gb386, _, none⟩) NB371_386.out _).trans (((cell_far (p := ⟨gb386, _, none⟩) NB371_386.out _).trans (((cell_far (p := ⟨gb386, _, none⟩) NB371_386.out _).trans (hHeld.2.2.2.1)))))), ((cell_far (p := ⟨gb386, _, none⟩) NB371_386.out _).trans (((cell_far (p := ⟨gb386, _, none⟩) NB371_386.out _).trans (((cell_far (p := ⟨gb386, _, none⟩) NB371_386.out _).trans (hHeld.2.2.2.2))))))⟩ (fun hHeld => ?_)
      clear hK K
      refine pA 10 (some 7) (bz 11 2047) HT_ ?_
      refine done_ (done_of HT_.out (by kernel_rfl)) ?_
      have hnb55 := NB371_386.out
      have hnc55 := NB386_371.out
      have hcz56_0 := bc0 BK371.out
      have hcz56_1 := bc1 BK371.out
      have hcz56_2 := bc2 BK371.out
      have hfz56_0 := blk_frozen BK371.out 0
      have hfz56_1 := blk_frozen BK371.out 1
      have hfz56_2 := blk_frozen BK371.out 2
      try go_wp2_with (first | ((with_reducible refine gate_callee (f := 20) rfl ?_); refine gB (some 30) Tryd.func20 #[.agg #[.int .i64 a1_0, .string a1_1, .slice A1_2 l1_2.length c1_2]] ?_; (with_reducible refine (laws_toPart.calls k a1_0 a1_1 _ _ l1_2 t387 t388 t389 _ ?side1 ?side2 A13.out).mono ?_); (case side1 => exact Kd.C_below HR1_2.out (bI HB.out)); (case side2 => exact HC1_2.out); rintro e w57 ⟨v390, rfl, ho0, hb⟩; refine ⟨_, rfl, ?_⟩; have HO391 := Aside0.mk (Kd.R_lower (Kd.R_new' (Kd.R_new' ho0 (Kd.R_lt (rI (Kd.R_mono (Kd.R_far (p := ⟨gb386, 2, none⟩) (Kd.R_far (p := ⟨gb386, 1, none⟩) (Kd.R_far (p := ⟨gb386, 0, none⟩) (Kd.R_types HO379.out BK386.out (by decide)) (fun _ hk => hk.2) (.int .i64 t380)) (fun _ hk => hk.2) (.string t381)) (fun _ hk => hk.2) (.slice Ao53 t382.length co53)) (fun _ h_ => h_.1))))) (Kd.R_lt (rI (Kd.R_mono (Kd.R_far (p := ⟨gb386, 2, none⟩) (Kd.R_far (p := ⟨gb386, 1, none⟩) (Kd.R_far (p := ⟨gb386, 0, none⟩) (Kd.R_types HO384.out BK386.out (by decide)) (fun _ hk => hk.2) (.int .i64 t380)) (fun _ hk => hk.2) (.string t381)) (fun _ hk => hk.2) (.slice Ao53 t382.length co53)) (fun _ h_ => h_.1))))) (below_size (bI HB.out))); replace HO379 := Aside0.mk (Kd.R_elder' (rI (Kd.R_mono (Kd.R_far (p := ⟨gb386, 2, none⟩) (Kd.R_far (p := ⟨gb386, 1, none⟩) (Kd.R_far (p := ⟨gb386, 0, none⟩) (Kd.R_types HO379.out BK386.out (by decide)) (fun _ hk => hk.2) (.int .i64 t380)) (fun _ hk => hk.2) (.string t381)) (fun _ hk => hk.2) (.slice Ao53 t382.length co53)) (fun _ h_ => h_.1))) (Kd.R_base ho0) hb); replace HO384 := Aside0.mk (Kd.R_elder' (rI (Kd.R_mono (Kd.R_far (p := ⟨gb386, 2, none⟩) (Kd.R_far (p := ⟨gb386, 1, none⟩) (Kd.R_far (p := ⟨gb386, 0, none⟩) (Kd.R_types HO384.out BK386.out (by decide)) (fun _ hk => hk.2) (.int .i64 t380)) (fun _ hk => hk.2) (.string t381)) (fun _ hk => hk.2) (.slice Ao53 t382.length co53)) (fun _ h_ => h_.1))) (Kd.R_base ho0) hb); replace BK370 := Aside0.mk (blk_below (g := gb370) (o := .cells #[.int .i64 a0_0, .int .i64 a0_1] 26 (0, 0)) (gI BK370.out) hb); replace BK371 := Aside0.mk (blk_below (g := gb371) (o := .cells #[.int .i64 a1_0, .string a1_1, .slice A1_2 l1_2.length c1_2] 29 (0, 0)) (gI BK371.out) hb); replace BK386 := bp BK386 hb #[.int .i64 t380, .string t381, .slice Ao53 t382.length co53]; replace HB := bs HB hb; (try clear hb); (try clear ho0); clear HO379; have n_ := Aside0.mk (Kd.R_mono (ok' := (fun k_ => some k_ ≠ (v390 : Value).ownBlock)) HO384.out (fun k_ hk => hk.2)); clear HO384; have HO384 := n_; clear n_; have n_ := Aside0.mk (Kd.R_mono (ok' := (fun k_ => some k_ ≠ (.slice Ao53 t382.length co53 : Value).ownBlock)) HO391.out (fun k_ hk => hk.2)); clear HO391; have HO391 := n_; clear n_) | ((with_reducible refine gd 8 ?_); refine bA 8 #[.int .i64 0, .string (⟨#[]⟩ : ByteArray), .slice none 0 0] 34 ?_; intro gb392 hg w58 hbox hb; replace HO384 := rb HO384 hb; replace HO391 := rb HO391 hb; have BK392 := Aside0.mk (hbox); have GW392 := bg hg HB; have GJ392 := gi GW392; have GE392 := GW392; replace HB := bs HB hb; have NB370_392 := b1 BK370 hg; have NI370_392 := ni NB370_392; have NB392_370 := b2 BK370 hg; have NI392_370 := ni NB392_370; replace BK370 := bk BK370 hb; have NB371_392 := b1 BK371 hg; have NI371_392 := ni NB371_392; have NB392_371 := b2 BK371 hg; have NI392_371 := ni NB392_371; replace BK371 := bk BK371 hb; have NB386_392 := b1 BK386 hg; have NI386_392 := ni NB386_392; have NB392_386 := b2 BK386 hg; have NI392_386 := ni NB392_386; replace BK386 := bk BK386 hb; clear hb hbox hg; have hnb59 := NB392_370.out; have hnc59 := NB370_392.out; have hnb60 := NB392_371.out; have hnc60 := NB371_392.out; have hnb61 := NB392_386.out; have hnc61 := NB386_392.out; obtain ⟨hcz62_0, hcz62_1, hcz62_2, hfz62_0, hfz62_1, hfz62_2⟩ := cs3 BK392; obtain ⟨Ao63, co63, eo63⟩ := Kd.R_slice HO391.out; subst eo63))
      have n0_ : Aside0 (Kd.R (Kd.int .i64) 3 (((w58.setCell ⟨gb392, 0, none⟩ (.int .i64 t387)).setCell ⟨gb392, 1, none⟩ (.string t388)).setCell ⟨gb392, 2, none⟩ (.slice Ao63 t389.length co63)) w.heap.size (fun k_ => some k_ ≠ (.slice Ao63 t389.length co63 : Value).ownBlock) (.slice Ao53 t382.length co53) t382) := ⟨by (with_reducible repeat (first | apply Kd.R_alloc | apply Kd.R_drewN | apply Kd.R_drew)); exact Kd.R_mono (Kd.R_far (p := ⟨gb392, 2, none⟩) (Kd.R_far (p := ⟨gb392, 1, none⟩) (Kd.R_far (p := ⟨gb392, 0, none⟩) (Kd.R_types HO384.out BK392.out (by decide)) (fun _ hk => hk.2) (.int .i64 t387)) (fun _ hk => hk.2) (.string t388)) (fun _ hk => hk.2) (.slice Ao63 t389.length co63)) (fun _ hk => hk.1)⟩
      have n1_ : Aside0 (Kd.R (Kd.int .i64) 3 (((w58.setCell ⟨gb392, 0, none⟩ (.int .i64 t387)).setCell ⟨gb392, 1, none⟩ (.string t388)).setCell ⟨gb392, 2, none⟩ (.slice Ao63 t389.length co63)) w.heap.size (fun k_ => some k_ ≠ (.slice Ao53 t382.length co53 : Value).ownBlock) (.slice Ao63 t389.length co63) t389) := ⟨by (with_reducible repeat (first | apply Kd.R_alloc | apply Kd.R_drewN | apply Kd.R_drew)); exact Kd.R_mono (Kd.R_far (p := ⟨gb392, 2, none⟩) (Kd.R_far (p := ⟨gb392, 1, none⟩) (Kd.R_far (p := ⟨gb392, 0, none⟩) (Kd.R_types HO391.out BK392.out (by decide)) (fun _ hk => hk.2) (.int .i64 t387)) (fun _ hk => hk.2) (.string t388)) (fun _ hk => hk.2) (.slice Ao63 t389.length co63)) (fun _ hk => hk.1)⟩
      have n2_ : Aside0 ((((w58.setCell ⟨gb392, 0, none⟩ (.int .i64 t387)).setCell ⟨gb392, 1, none⟩ (.string t388)).setCell ⟨gb392, 2, none⟩ (.slice Ao63 t389.length co63)).heap[gb370]? = some (.cells #[.int .i64 a0_0, .int .i64 a0_1] 26 (0, 0))) := ⟨gI BK370.out⟩
      have n3_ : Aside0 ((((w58.setCell ⟨gb392, 0, none⟩ (.int .i64 t387)).setCell ⟨gb392, 1, none⟩ (.string t388)).setCell ⟨gb392, 2, none⟩ (.slice Ao63 t389.length co63)).heap[gb371]? = some (.cells #[.int .i64 a1_0, .string a1_1, .slice A1_2 l1_2.length c1_2] 29 (0, 0))) := ⟨gI BK371.out⟩
      have n4_ : Aside0 ((((w58.setCell ⟨gb392, 0, none⟩ (.int .i64 t387)).setCell ⟨gb392, 1, none⟩ (.string t388)).setCell ⟨gb392, 2, none⟩ (.slice Ao63 t389.length co63)).heap[gb386]? = some (.cells #[.int .i64 t380, .string t381, .slice Ao53 t382.length co53] 41 (0, 0))) := ⟨gI BK386.out⟩
      have n5_ : Aside0 ((((w58.setCell ⟨gb392, 0, none⟩ (.int .i64 t387)).setCell ⟨gb392, 1, none⟩ (.string t388)).setCell ⟨gb392, 2, none⟩ (.slice Ao63 t389.length co63)).heap[gb392]? = some (.cells #[.int .i64 t387, .string t388, .slice Ao63 t389.length co63] 34 (0, 0))) := ⟨pI BK392⟩
      have n6_ : Aside0 (Below w.heap.size w (((w58.setCell ⟨gb392, 0, none⟩ (.int .i64 t387)).setCell ⟨gb392, 1, none⟩ (.string t388)).setCell ⟨gb392, 2, none⟩ (.slice Ao63 t389.length co63))) := ⟨bI HB.out⟩
      (try clear HO384)
      (try clear HO391)
      (try clear BK370)
      (try clear BK371)
      (try clear BK386)
      (try clear BK392)
      (try clear HB)
      generalize (((w58.setCell ⟨gb392, 0, none⟩ (.int .i64 t387)).setCell ⟨gb392, 1, none⟩ (.string t388)).setCell ⟨gb392, 2, none⟩ (.slice Ao63 t389.length co63)) = w64 at n0_ n1_ n2_ n3_ n4_ n5_ n6_ ⊢
      have HO384 := n0_
      have HO391 := n1_
      have BK370 := n2_
      have BK371 := n3_
      have BK386 := n4_
      have BK392 := n5_
      have HB := n6_
      clear n0_ n1_ n2_ n3_ n4_ n5_ n6_
      replace HO384 := Aside0.mk (Kd.R_drew HO384.out)
      replace HO391 := Aside0.mk (Kd.R_drew HO391.out)
      replace BK370 := Aside0.mk (blk_drew BK370.out)
      replace BK371 := Aside0.mk (blk_drew BK371.out)
      replace BK386 := Aside0.mk (blk_drew BK386.out)
      replace BK392 := Aside0.mk (blk_drew BK392.out)
      replace HB := Aside0.mk (below_drew1 HB.out)
      refine start_ (n := 10) (S := fun w' => w'.cell? ⟨gb370, 0, none⟩ = some (.int .i64 a0_0) ∧ w'.cell? ⟨gb370, 1, none⟩ = some (.int .i64 a0_1) ∧ w'.cell? ⟨gb392, 0, none⟩ = some (.int .i64 t387) ∧ w'.cell? ⟨gb392, 1, none⟩ = some (.string t388) ∧ w'.cell? ⟨gb392, 2, none⟩ = some (.slice Ao63 t389.length co63)) (ds := []) #[false, false, false, false, false, false, false, false, false, false] (by kernel_rfl) rfl rfl ⟨bc0 BK370.out, bc1 BK370.out, bc0 BK392.out, bc1 BK392.out, bc2 BK392.out⟩ (fun hHeld => ?_); refine with_tabW laws_FnExactPartQc.tab7 laws_FnExactPartQc.bits7 (fun HT_ HW_ => ?_)
      generalize w64.drew = w65 at HO384 HO391 BK370 BK371 BK386 BK392 HB hHeld ⊢
      refine tA 0 (some 32) (bz 10 1) HT_ HW_ hHeld ?_
      refine tA 2 (some 34) (bz 10 5) HT_ HW_ hHeld ?_
      refine join_ (σ := Value × Nat) 2 #[true, true, true, true, true, true, true, true, false, false] (fun s_ => [(33, .agg #[.int .i64 t393, .int .i64 t394]), (35, .tuple #[.agg #[.int .i64 t395, .string t396, s_.1], .bool t400]), (9, .pointer (some ⟨s_.2, 0, none⟩)), (31, .tuple #[.agg #[.int .i64 t395, .string t396, s_.1], .bool t400]), (36, .agg #[.int .i64 t395, .string t396, s_.1]), (37, .bool t400)]) (fun s_ w' => (w'.cell? ⟨gb370, 0, none⟩ = some (.int .i64 a0_0) ∧ w'.cell? ⟨gb370, 1, none⟩ = some (.int .i64 a0_1) ∧ w'.cell? ⟨gb392, 0, none⟩ = some (.int .i64 t387) ∧ w'.cell? ⟨gb392, 1, none⟩ = some (.string t388) ∧ w'.cell? ⟨gb392, 2, none⟩ = some (.slice Ao63 t389.length co63)) ∧ (Kd.R (Kd.int .i64) 3 w' w.heap.size (fun k_ => some k_ ≠ (.slice Ao63 t389.length co63 : Value).ownBlock ∧ some k_ ≠ (s_.1 : Value).ownBlock) (.slice Ao53 t382.length co53) t382) ∧ (Kd.R (Kd.int .i64) 3 w' w.heap.size (fun k_ => some k_ ≠ (.slice Ao53 t382.length co53 : Value).ownBlock ∧ some k_ ≠ (s_.1 : Value).ownBlock) (.slice Ao63 t389.length co63) t389) ∧ (Kd.R (Kd.int .i64) 3 w' w.heap.size (fun k_ => some k_ ≠ (.slice Ao53 t382.length co53 : Value).ownBlock ∧ some k_ ≠ (.slice Ao63 t389.length co63 : Value).ownBlock) s_.1 t397) ∧ (w'.heap[gb370]? = some (.cells #[.int .i64 a0_0, .int .i64 a0_1] 26 (0, 0))) ∧ (w'.heap[gb371]? = some (.cells #[.int .i64 a1_0, .string a1_1, .slice A1_2 l1_2.length c1_2] 29 (0, 0))) ∧ (w'.heap[gb386]? = some (.cells #[.int .i64 t380, .string t381, .slice Ao53 t382.length co53] 41 (0, 0))) ∧ (w'.heap[gb392]? = some (.cells #[.int .i64 t387, .string t388, .slice Ao63 t389.length co63] 34 (0, 0))) ∧ (w'.heap[s_.2]? = some (.cells #[.int .i64 0, .string (⟨#[]⟩ : ByteArray), .slice none 0 0] 41 (0, 0))) ∧ (w.heap.size ≤ s_.2) ∧ (w.heap.size ≤ s_.2) ∧ (gb370 ≠ s_.2) ∧ (s_.2 ≠ gb370) ∧ (gb371 ≠ s_.2) ∧ (s_.2 ≠ gb371) ∧ (gb386 ≠ s_.2) ∧ (s_.2 ≠ gb386) ∧ (gb392 ≠ s_.2) ∧ (s_.2 ≠ gb392) ∧ (Below w.heap.size w w')) ?_ ?_
      rotate_left
      · intro hCont
        refine two_ (i := 1) (j := 7) (Ni := some 33) (Nj := some 9) #[true, true, true, false, false, false, false, false, false, false] #[true, false, true, false, false, false, false, true, false, false] rfl rfl rfl rfl (two_of HT_.out (by kernel_rfl)) (by decide) (by decide) (fun K hK => ?_) (fun K hK => ?_)
        · skip
          refine gA Tryd.func19 #[.agg #[.int .i64 a0_0, .int .i64 a0_1]] ?_
          with_reducible refine (laws_toConf.calls a0_0 a0_1 t393 t394 _ A14.out).mono ?_
          rintro e w66 ⟨rfl, hb⟩
          refine ⟨_, rfl, ?_⟩
          replace HO384 := rb HO384 hb
          replace HO391 := rb HO391 hb
          replace BK370 := bk BK370 hb
          replace BK371 := bk BK371 hb
          replace BK386 := bk BK386 hb
          replace BK392 := bk BK392 hb
          replace HB := bs HB hb
          (try clear hb)
          (try clear hb2)
          (try clear hk)
          (try clear hi)
          refine hK.out _ _ ⟨bc0 BK370.out, bc1 BK370.out, bc0 BK392.out, bc1 BK392.out, bc2 BK392.out⟩ (fun hHeld => ?_)
          clear hK K
          refine nA (some 33) ?_
          refine two_ (i := 3) (j := 7) (Ni := some 35) (Nj := some 9) #[true, true, true, true, false, false, false, false, false, false] #[true, true, true, false, false, false, false, true, false, false] rfl rfl rfl rfl (two_of HT_.out (by kernel_rfl)) (by decide) (by decide) (fun K hK => ?_) (fun K hK => ?_)
          · skip
            refine gA Tryd.func39 #[.agg #[.int .i64 t393, .int .i64 t394], .agg #[.int .i64 t387, .string t388, .slice Ao63 t389.length co63]] ?_
            with_reducible refine (impl_PartQc.calls k t393 t394 t387 t388 _ _ t389 t395 t396 t397 t400 _ ?side1 ?side2 A15.out).mono ?_
            (case side1 => repeat (first | exact (Kd.R_reads' HO391.out).2.2 | (with_reducible refine Kd.C_alloc ?_ _) | (with_reducible refine Kd.C_drewN ?_ _) | (with_reducible refine Kd.C_drew ?_)))
            (case side2 => exact (Kd.R_reads' HO391.out).2.1)
            rintro e w67 ⟨v398, rfl, ho0, hb⟩
            refine ⟨_, rfl, ?_⟩
            have HO399 := Aside0.mk (Kd.R_lower (Kd.R_new' (Kd.R_new' ho0 (Kd.R_lt (rI HO384.out))) (Kd.R_lt (rI HO391.out))) (below_size (bI HB.out)))
            replace HO384 := Aside0.mk (Kd.R_elder' (rI HO384.out) (Kd.R_base ho0) hb)
            replace HO391 := Aside0.mk (Kd.R_elder' (rI HO391.out) (Kd.R_base ho0) hb)
            replace BK370 := bk BK370 hb
            replace BK371 := bk BK371 hb
            replace BK386 := bk BK386 hb
            replace BK392 := bk BK392 hb
            replace HB := bs HB hb
            (try clear hb)
            (try clear hb2)
            (try clear hk)
            (try clear hi)
            (try clear ho0)
            refine hK.out _ _ ⟨bc0 BK370.out, bc1 BK370.out, bc0 BK392.out, bc1 BK392.out, bc2 BK392.out⟩ (fun hHeld => ?_)
            clear hK K
            refine nA (some 35) ?_
            refine pA 4 (some 31) (bz 10 31) HT_ ?_
            refine pA 5 (some 36) (bz 10 63) HT_ ?_
            refine pA 6 (some 37) (bz 10 127) HT_ ?_
            refine oA 7 (some 9) (bz 10 255) HT_ (fun K hK => ?_)
            refine box_step ?hg (N := 9) ?hd (cs := #[.int .i64 0, .string (⟨#[]⟩ : ByteArray), .slice none 0 0]) (t := 41) ?hr ?_; (case hd => rfl); (case hg => rfl); (case hr => first | (go_simp; done) | (go_simp; rfl))
            intro gb401 hg w68 hbox hb
            replace HO384 := rb HO384 hb
            replace HO391 := rb HO391 hb
            replace HO399 := rb HO399 hb
            have BK401 := Aside0.mk (hbox)
            have GW401 := bg hg HB
            have GJ401 := gi GW401
            have GE401 := bg hg HB
            have GI401 := gi GE401
            replace HB := bs HB hb
            have NB370_401 := b1 BK370 hg
            have NI370_401 := ni NB370_401
            have NB401_370 := b2 BK370 hg
            have NI401_370 := ni NB401_370
            replace BK370 := bk BK370 hb
            have NB371_401 := b1 BK371 hg
            have NI371_401 := ni NB371_401
            have NB401_371 := b2 BK371 hg
            have NI401_371 := ni NB401_371
            replace BK371 := bk BK371 hb
            have NB386_401 := b1 BK386 hg
            have NI386_401 := ni NB386_401
            have NB401_386 := b2 BK386 hg
            have NI401_386 := ni NB401_386
            replace BK386 := bk BK386 hb
            have NB392_401 := b1 BK392 hg
            have NI392_401 := ni NB392_401
            have NB401_392 := b2 BK392 hg
            have NI401_392 := ni NB401_392
            replace BK392 := bk BK392 hb
            clear hb hbox hg
            refine hK.out _ _ ⟨bc0 BK370.out, bc1 BK370.out, bc0 BK392.out, bc1 BK392.out, bc2 BK392.out⟩ (fun hHeld => ?_)
            clear hK K
            refine nA (some 9) ?_
            exact norm_ y0_5 (hCont (v398, gb401) _ ⟨hHeld, (rI HO384.out), (rI HO391.out), (rI (Kd.R_mono HO399.out (fun _ hk => ⟨hk.1.2, hk.2⟩))), (kI BK370.out), (kI BK371.out), (kI BK386.out), (kI BK392.out), (kI BK401.out), GW401.out, GE401.out, NB370_401.out, NB401_370.out, NB371_401.out, NB401_371.out, NB386_401.out, NB401_386.out, NB392_401.out, NB401_392.out, (bI HB.out)⟩)
          · skip
            refine box_step ?hg (N := 9) ?hd (cs := #[.int .i64 0, .string (⟨#[]⟩ : ByteArray), .slice none 0 0]) (t := 41) ?hr ?_; (case hd => rfl); (case hg => rfl); (case hr => first | (go_simp; done) | (go_simp; rfl))
            intro gb401 hg w67 hbox hb
            replace HO384 := rb HO384 hb
            replace HO391 := rb HO391 hb
            have BK401 := Aside0.mk (hbox)
            have GW401 := bg hg HB
            have GJ401 := gi GW401
            have GE401 := bg hg HB
            have GI401 := gi GE401
            replace HB := bs HB hb
            have NB370_401 := b1 BK370 hg
            have NI370_401 := ni NB370_401
            have NB401_370 := b2 BK370 hg
            have NI401_370 := ni NB401_370
            replace BK370 := bk BK370 hb
            have NB371_401 := b1 BK371 hg
            have NI371_401 := ni NB371_401
            have NB401_371 := b2 BK371 hg
            have NI401_371 := ni NB401_371
            replace BK371 := bk BK371 hb
            have NB386_401 := b1 BK386 hg
            have NI386_401 := ni NB386_401
            have NB401_386 := b2 BK386 hg
            have NI401_386 := ni NB401_386
            replace BK386 := bk BK386 hb
            have NB392_401 := b1 BK392 hg
            have NI392_401 := ni NB392_401
            have NB401_392 := b2 BK392 hg
            have NI401_392 := ni NB401_392
            replace BK392 := bk BK392 hb
            clear hb hbox hg
            refine hK.out _ _ ⟨bc0 BK370.out, bc1 BK370.out, bc0 BK392.out, bc1 BK392.out, bc2 BK392.out⟩ (fun hHeld => ?_)
            clear hK K
            refine nA (some 9) ?_
            refine oA 3 (some 35) (bz 10 143) HT_ (fun K hK => ?_)
            refine gA Tryd.func39 #[.agg #[.int .i64 t393, .int .i64 t394], .agg #[.int .i64 t387, .string t388, .slice Ao63 t389.length co63]] ?_
            with_reducible refine (impl_PartQc.calls k t393 t394 t387 t388 _ _ t389 t395 t396 t397 t400 _ ?side1 ?side2 A15.out).mono ?_
            (case side1 => repeat (first | exact (Kd.R_reads' HO391.out).2.2 | (with_reducible refine Kd.C_alloc ?_ _) | (with_reducible refine Kd.C_drewN ?_ _) | (with_reducible refine Kd.C_drew ?_)))
            (case side2 => exact (Kd.R_reads' HO391.out).2.1)
            rintro e w68 ⟨v398, rfl, ho0, hb⟩
            refine ⟨_, rfl, ?_⟩
            have HO399 := Aside0.mk (Kd.R_lower (Kd.R_new' (Kd.R_new' ho0 (Kd.R_lt (rI HO384.out))) (Kd.R_lt (rI HO391.out))) (below_size (bI HB.out)))
            replace HO384 := Aside0.mk (Kd.R_elder' (rI HO384.out) (Kd.R_base ho0) hb)
            replace HO391 := Aside0.mk (Kd.R_elder' (rI HO391.out) (Kd.R_base ho0) hb)
            replace BK370 := bk BK370 hb
            replace BK371 := bk BK371 hb
            replace BK386 := bk BK386 hb
            replace BK392 := bk BK392 hb
            replace BK401 := bk BK401 hb
            replace HB := bs HB hb
            (try clear hb)
            (try clear hb2)
            (try clear hk)
            (try clear hi)
            (try clear ho0)
            refine hK.out _ _ ⟨bc0 BK370.out, bc1 BK370.out, bc0 BK392.out, bc1 BK392.out, bc2 BK392.out⟩ (fun hHeld => ?_)
            clear hK K
            refine nA (some 35) ?_
            refine pA 4 (some 31) (bz 10 159) HT_ ?_
            refine pA 5 (some 36) (bz 10 191) HT_ ?_
            refine pA 6 (some 37) (bz 10 255) HT_ ?_
            exact norm_ y0_5 (hCont (v398, gb401) _ ⟨hHeld, (rI HO384.out), (rI HO391.out), (rI (Kd.R_mono HO399.out (fun _ hk => ⟨hk.1.2, hk.2⟩))), (kI BK370.out), (kI BK371.out), (kI BK386.out), (kI BK392.out), (kI BK401.out), GW401.out, GE401.out, NB370_401.out, NB401_370.out, NB371_401.out, NB401_371.out, NB386_401.out, NB401_386.out, NB392_401.out, NB401_392.out, (bI HB.out)⟩)
        · skip
          refine box_step ?hg (N := 9) ?hd (cs := #[.int .i64 0, .string (⟨#[]⟩ : ByteArray), .slice none 0 0]) (t := 41) ?hr ?_; (case hd => rfl); (case hg => rfl); (case hr => first | (go_simp; done) | (go_simp; rfl))
          intro gb401 hg w66 hbox hb
          replace HO384 := rb HO384 hb
          replace HO391 := rb HO391 hb
          have BK401 := Aside0.mk (hbox)
          have GW401 := bg hg HB
          have GJ401 := gi GW401
          have GE401 := bg hg HB
          have GI401 := gi GE401
          replace HB := bs HB hb
          have NB370_401 := b1 BK370 hg
          have NI370_401 := ni NB370_401
          have NB401_370 := b2 BK370 hg
          have NI401_370 := ni NB401_370
          replace BK370 := bk BK370 hb
          have NB371_401 := b1 BK371 hg
          have NI371_401 := ni NB371_401
          have NB401_371 := b2 BK371 hg
          have NI401_371 := ni NB401_371
          replace BK371 := bk BK371 hb
          have NB386_401 := b1 BK386 hg
          have NI386_401 := ni NB386_401
          have NB401_386 := b2 BK386 hg
          have NI401_386 := ni NB401_386
          replace BK386 := bk BK386 hb
          have NB392_401 := b1 BK392 hg
          have NI392_401 := ni NB392_401
          have NB401_392 := b2 BK392 hg
          have NI401_392 := ni NB401_392
          replace BK392 := bk BK392 hb
          clear hb hbox hg
          refine hK.out _ _ ⟨bc0 BK370.out, bc1 BK370.out, bc0 BK392.out, bc1 BK392.out, bc2 BK392.out⟩ (fun hHeld => ?_)
          clear hK K
          refine nA (some 9) ?_
          refine oA 1 (some 33) (bz 10 135) HT_ (fun K hK => ?_)
          refine gA Tryd.func19 #[.agg #[.int .i64 a0_0, .int .i64 a0_1]] ?_
          with_reducible refine (laws_toConf.calls a0_0 a0_1 t393 t394 _ A14.out).mono ?_
          rintro e w67 ⟨rfl, hb⟩
          refine ⟨_, rfl, ?_⟩
          replace HO384 := rb HO384 hb
          replace HO391 := rb HO391 hb
          replace BK370 := bk BK370 hb
          replace BK371 := bk BK371 hb
          replace BK386 := bk BK386 hb
          replace BK392 := bk BK392 hb
          replace BK401 := bk BK401 hb
          replace HB := bs HB hb
          (try clear hb)
          (try clear hb2)
          (try clear hk)
          (try clear hi)
          refine hK.out _ _ ⟨bc0 BK370.out, bc1 BK370.out, bc0 BK392.out, bc1 BK392.out, bc2 BK392.out⟩ (fun hHeld => ?_)
          clear hK K
          refine nA (some 33) ?_
          refine oA 3 (some 35) (bz 10 143) HT_ (fun K hK => ?_)
          refine gA Tryd.func39 #[.agg #[.int .i64 t393, .int .i64 t394], .agg #[.int .i64 t387, .string t388, .slice Ao63 t389.length co63]] ?_
          with_reducible refine (impl_PartQc.calls k t393 t394 t387 t388 _ _ t389 t395 t396 t397 t400 _ ?side1 ?side2 A15.out).mono ?_
          (case side1 => repeat (first | exact (Kd.R_reads' HO391.out).2.2 | (with_reducible refine Kd.C_alloc ?_ _) | (with_reducible refine Kd.C_drewN ?_ _) | (with_reducible refine Kd.C_drew ?_)))
          (case side2 => exact (Kd.R_reads' HO391.out).2.1)
          rintro e w68 ⟨v398, rfl, ho0, hb⟩
          refine ⟨_, rfl, ?_⟩
          have HO399 := Aside0.mk (Kd.R_lower (Kd.R_new' (Kd.R_new' ho0 (Kd.R_lt (rI HO384.out))) (Kd.R_lt (rI HO391.out))) (below_size (bI HB.out)))
          replace HO384 := Aside0.mk (Kd.R_elder' (rI HO384.out) (Kd.R_base ho0) hb)
          replace HO391 := Aside0.mk (Kd.R_elder' (rI HO391.out) (Kd.R_base ho0) hb)
          replace BK370 := bk BK370 hb
          replace BK371 := bk BK371 hb
          replace BK386 := bk BK386 hb
          replace BK392 := bk BK392 hb
          replace BK401 := bk BK401 hb
          replace HB := bs HB hb
          (try clear hb)
          (try clear hb2)
          (try clear hk)
          (try clear hi)
          (try clear ho0)
          refine hK.out _ _ ⟨bc0 BK370.out, bc1 BK370.out, bc0 BK392.out, bc1 BK392.out, bc2 BK392.out⟩ (fun hHeld => ?_)
          clear hK K
          refine nA (some 35) ?_
          refine pA 4 (some 31) (bz 10 159) HT_ ?_
          refine pA 5 (some 36) (bz 10 191) HT_ ?_
          refine pA 6 (some 37) (bz 10 255) HT_ ?_
          exact norm_ y0_5 (hCont (v398, gb401) _ ⟨hHeld, (rI HO384.out), (rI HO391.out), (rI (Kd.R_mono HO399.out (fun _ hk => ⟨hk.1.2, hk.2⟩))), (kI BK370.out), (kI BK371.out), (kI BK386.out), (kI BK392.out), (kI BK401.out), GW401.out, GE401.out, NB370_401.out, NB401_370.out, NB371_401.out, NB401_371.out, NB386_401.out, NB401_386.out, NB392_401.out, NB401_392.out, (bI HB.out)⟩)
      rintro ⟨v398, gb401⟩ w69 ⟨hS_, h0_, h1_, h2_, h3_, h4_, h5_, h6_, h7_, h8_, h9_, h10_, h11_, h12_, h13_, h14_, h15_, h16_, h17_, h18_⟩
      have n0_ : Aside0 (Kd.R (Kd.int .i64) 3 w69 w.heap.size (fun k_ => some k_ ≠ (.slice Ao63 t389.length co63 : Value).ownBlock ∧ some k_ ≠ (v398 : Value).ownBlock) (.slice Ao53 t382.length co53) t382) := ⟨h0_⟩
      have n1_ : Aside0 (Kd.R (Kd.int .i64) 3 w69 w.heap.size (fun k_ => some k_ ≠ (.slice Ao53 t382.length co53 : Value).ownBlock ∧ some k_ ≠ (v398 : Value).ownBlock) (.slice Ao63 t389.length co63) t389) := ⟨h1_⟩
      have n2_ : Aside0 (Kd.R (Kd.int .i64) 3 w69 w.heap.size (fun k_ => some k_ ≠ (.slice Ao53 t382.length co53 : Value).ownBlock ∧ some k_ ≠ (.slice Ao63 t389.length co63 : Value).ownBlock) v398 t397) := ⟨h2_⟩
      have n3_ : Aside0 (w69.heap[gb370]? = some (.cells #[.int .i64 a0_0, .int .i64 a0_1] 26 (0, 0))) := ⟨h3_⟩
      have n4_ : Aside0 (w69.heap[gb371]? = some (.cells #[.int .i64 a1_0, .string a1_1, .slice A1_2 l1_2.length c1_2] 29 (0, 0))) := ⟨h4_⟩
      have n5_ : Aside0 (w69.heap[gb386]? = some (.cells #[.int .i64 t380, .string t381, .slice Ao53 t382.length co53] 41 (0, 0))) := ⟨h5_⟩
      have n6_ : Aside0 (w69.heap[gb392]? = some (.cells #[.int .i64 t387, .string t388, .slice Ao63 t389.length co63] 34 (0, 0))) := ⟨h6_⟩
      have n7_ : Aside0 (w69.heap[gb401]? = some (.cells #[.int .i64 0, .string (⟨#[]⟩ : ByteArray), .slice none 0 0] 41 (0, 0))) := ⟨h7_⟩
      have n8_ : Aside0 (w.heap.size ≤ gb401) := ⟨h8_⟩
      have n9_ : Aside0 (w.heap.size ≤ gb401) := ⟨h9_⟩
      have n10_ : Aside0 (gb370 ≠ gb401) := ⟨h10_⟩
      have n11_ : Aside0 (gb401 ≠ gb370) := ⟨h11_⟩
      have n12_ : Aside0 (gb371 ≠ gb401) := ⟨h12_⟩
      have n13_ : Aside0 (gb401 ≠ gb371) := ⟨h13_⟩
      have n14_ : Aside0 (gb386 ≠ gb401) := ⟨h14_⟩
      have n15_ : Aside0 (gb401 ≠ gb386) := ⟨h15_⟩
      have n16_ : Aside0 (gb392 ≠ gb401) := ⟨h16_⟩
      have n17_ : Aside0 (gb401 ≠ gb392) := ⟨h17_⟩
      have n18_ : Aside0 (Below w.heap.size w w69) := ⟨h18_⟩
      clear HO384
      clear HO391
      clear BK370
      clear BK371
      clear BK386
      clear BK392
      clear HB
      clear h0_ h1_ h2_ h3_ h4_ h5_ h6_ h7_ h8_ h9_ h10_ h11_ h12_ h13_ h14_ h15_ h16_ h17_ h18_
      have HO384 := n0_
      have HO391 := n1_
      have HO399 := n2_
      have BK370 := n3_
      have BK371 := n4_
      have BK386 := n5_
      have BK392 := n6_
      have BK401 := n7_
      have GW401 := n8_
      have GJ401 := gi GW401
      have GE401 := n9_
      have GI401 := gi GE401
      have NB370_401 := n10_
      have NI370_401 := ni NB370_401
      have NB401_370 := n11_
      have NI401_370 := ni NB401_370
      have NB371_401 := n12_
      have NI371_401 := ni NB371_401
      have NB401_371 := n13_
      have NI401_371 := ni NB401_371
      have NB386_401 := n14_
      have NI386_401 := ni NB386_401
      have NB401_386 := n15_
      have NI401_386 := ni NB401_386
      have NB392_401 := n16_
      have NI392_401 := ni NB392_401
      have NB401_392 := n17_
      have NI401_392 := ni NB401_392
      have HB := n18_
      clear n0_ n1_ n2_ n3_ n4_ n5_ n6_ n7_ n8_ n9_ n10_ n11_ n12_ n13_ n14_ n15_ n16_ n17_ n18_
      have hHeld : w69.cell? ⟨gb370, 0, none⟩ = some (.int .i64 a0_0) ∧ w69.cell? ⟨gb370, 1, none⟩ = some (.int .i64 a0_1) ∧ w69.cell? ⟨gb392, 0, none⟩ = some (.int .i64 t387) ∧ w69.cell? ⟨gb392, 1, none⟩ = some (.string t388) ∧ w69.cell? ⟨gb392, 2, none⟩ = some (.slice Ao63 t389.length co63) := hS_
      obtain ⟨Ao72, co72, eo72⟩ := Kd.R_slice HO399.out
      (first | subst eo72 | (injection eo72 with f1_ f2_ f3_; have f4_ := f1_.symm; have f5_ := f3_.symm; clear f1_ f2_ f3_; subst f4_; subst f5_))
      refine norm_ (a' := ?_) ?_ ?_
      rotate_left
      · simp only [putAll, Act.put, List.setIfInBounds_toArray, List.set_cons_zero, List.set_cons_succ]
        rfl
      refine oA 8 none (bz 10 511) HT_ (fun K hK => ?_)
      have hs70 : w69.cell? ⟨gb401, 0, none⟩ = some (.int .i64 0) := bc0 BK401.out
      have hfs70 := blk_frozen BK401.out 0
      have hns70_0 := NB370_401.out
      have hns70_1 := NB371_401.out
      have hns70_2 := NB386_401.out
      have hns70_3 := NB392_401.out
      have hms70_0 := NB401_370.out
      have hms70_1 := NB401_371.out
      have hms70_2 := NB401_386.out
      have hms70_3 := NB401_392.out
      have hs71 : w69.cell? ⟨gb401, 1, none⟩ = some (.string (⟨#[]⟩ : ByteArray)) := bc1 BK401.out
      have hfs71 := blk_frozen BK401.out 1
      have hns71_0 := NB370_401.out
      have hns71_1 := NB371_401.out
      have hns71_2 := NB386_401.out
      have hns71_3 := NB392_401.out
      have hms71_0 := NB401_370.out
      have hms71_1 := NB401_371.out
      have hms71_2 := NB401_386.out
      have hms71_3 := NB401_392.out
      have hs73 : w69.cell? ⟨gb401, 2, none⟩ = some (.slice none 0 0) := bc2 BK401.out
      have hfs73 := blk_frozen BK401.out 2
      have hns73_0 := NB370_401.out
      have hns73_1 := NB371_401.out
      have hns73_2 := NB386_401.out
      have hns73_3 := NB392_401.out
      have hms73_0 := NB401_370.out
      have hms73_1 := NB401_371.out
      have hms73_2 := NB401_386.out
      have hms73_3 := NB401_392.out
      refine skip_ (w1 := ?_) (by rfl) rfl ?_ ?_
      rotate_left
      · go_simp
        rfl
      refine hK.out _ _ ⟨((cell_far (p := ⟨gb401, _, none⟩) NB370_401.out _).trans (((cell_far (p := ⟨gb401, _, none⟩) NB370_401.out _).trans (((cell_far (p := ⟨gb401, _, none⟩) NB370_401.out _).trans (hHeld.1)))))), ((cell_far (p := ⟨gb401, _, none⟩) NB370_401.out _).trans (((cell_far (p := ⟨gb401, _, none⟩) NB370_401.out _).trans (((cell_far (p := ⟨gb401, _, none⟩) NB370_401.out _).trans (hHeld.2.1)))))), ((cell_far (p := ⟨gb401, _, none⟩) NB392_401.out _).trans (((cell_far (p := ⟨gb401, _, none⟩) NB392_401.out _).trans (((cell_far (p := ⟨gb401, _, none⟩) NB392_401.out _).trans (hHeld.2.2.1)))))), ((cell_far (p := ⟨gb401, _, none⟩) NB392_401.out _).trans (((cell_far (p := ⟨gb401, _, none⟩) NB392_401.out _).trans (((cell_far (p := ⟨gb401, _, none⟩) NB392_401.out _).trans (hHeld.2.2.2.1)))))), ((cell_far (p := ⟨gb401, _, none⟩) NB392_401.out _).trans (((cell_far (p := ⟨gb401, _, none⟩) NB392_401.out _).trans (((cell_far (p := ⟨gb401, _, none⟩) NB392_401.out _).trans (hHeld.2.2.2.2))))))⟩ (fun hHeld => ?_)
      clear hK K
      refine pA 9 (some 10) (bz 10 1023) HT_ ?_
      refine done_ (done_of HT_.out (by kernel_rfl)) ?_
      have hnb74 := NB401_370.out
      have hnc74 := NB370_401.out
      have hnb75 := NB401_371.out
      have hnc75 := NB371_401.out
      have hnb76 := NB401_386.out
      have hnc76 := NB386_401.out
      have hnb77 := NB401_392.out
      have hnc77 := NB392_401.out
      have hcz78_0 := bc0 BK401.out
      have hcz78_1 := bc1 BK401.out
      have hcz78_2 := bc2 BK401.out
      have hfz78_0 := blk_frozen BK401.out 0
      have hfz78_1 := blk_frozen BK401.out 1
      have hfz78_2 := blk_frozen BK401.out 2
      have hnb79 := NB386_370.out
      have hnc79 := NB370_386.out
      have hcz80_0 := bc0 BK386.out
      have hcz80_1 := bc1 BK386.out
      have hcz80_2 := bc2 BK386.out
      have hfz80_0 := blk_frozen BK386.out 0
      have hfz80_1 := blk_frozen BK386.out 1
      have hfz80_2 := blk_frozen BK386.out 2
      try go_wp2_with (first | ((with_reducible refine gate_callee (f := 27) rfl ?_); refine gB (some 40) Tryd.func27 #[.agg #[.int .i64 t395, .string t396, .slice Ao72 t397.length co72], .agg #[.int .i64 t380, .string t381, .slice Ao53 t382.length co53]] ?_; (with_reducible refine (laws_eqQc.calls k t395 t396 _ _ t397 t380 t381 _ _ t382 true _ ?side1 ?side2 ?side3 ?side4 A16.out).mono ?_); (case side1 => refine (Kd.R_reads' (e := 3) (base := w.heap.size) (ok := fun k_ => (some k_ ≠ (.slice Ao53 t382.length co53 : Value).ownBlock ∧ some k_ ≠ (.slice Ao63 t389.length co63 : Value).ownBlock)) (n := t397.length) (c := co72) ?_).2.2; exact (rI (Kd.R_mono (Kd.R_far (p := ⟨gb401, 2, none⟩) (Kd.R_far (p := ⟨gb401, 1, none⟩) (Kd.R_far (p := ⟨gb401, 0, none⟩) (Kd.R_types HO399.out BK401.out (by decide)) (fun _ hk => hk.2) (.int .i64 t395)) (fun _ hk => hk.2) (.string t396)) (fun _ hk => hk.2) (.slice Ao72 t397.length co72)) (fun _ h_ => h_.1)))); (case side2 => exact (Kd.R_reads' HO399.out).2.1); (case side3 => refine (Kd.R_reads' (e := 3) (base := w.heap.size) (ok := fun k_ => (some k_ ≠ (.slice Ao63 t389.length co63 : Value).ownBlock ∧ some k_ ≠ (.slice Ao72 t397.length co72 : Value).ownBlock)) (n := t382.length) (c := co53) ?_).2.2; exact (rI (Kd.R_mono (Kd.R_far (p := ⟨gb401, 2, none⟩) (Kd.R_far (p := ⟨gb401, 1, none⟩) (Kd.R_far (p := ⟨gb401, 0, none⟩) (Kd.R_types HO384.out BK401.out (by decide)) (fun _ hk => hk.2) (.int .i64 t395)) (fun _ hk => hk.2) (.string t396)) (fun _ hk => hk.2) (.slice Ao72 t397.length co72)) (fun _ h_ => h_.1)))); (case side4 => exact (Kd.R_reads' HO384.out).2.1); rintro e w81 ⟨rfl, hb⟩; refine ⟨_, rfl, ?_⟩; replace HO384 := Aside0.mk (Kd.R_below (rI (Kd.R_mono (Kd.R_far (p := ⟨gb401, 2, none⟩) (Kd.R_far (p := ⟨gb401, 1, none⟩) (Kd.R_far (p := ⟨gb401, 0, none⟩) (Kd.R_types HO384.out BK401.out (by decide)) (fun _ hk => hk.2) (.int .i64 t395)) (fun _ hk => hk.2) (.string t396)) (fun _ hk => hk.2) (.slice Ao72 t397.length co72)) (fun _ h_ => h_.1))) hb); replace HO391 := Aside0.mk (Kd.R_below (rI (Kd.R_mono (Kd.R_far (p := ⟨gb401, 2, none⟩) (Kd.R_far (p := ⟨gb401, 1, none⟩) (Kd.R_far (p := ⟨gb401, 0, none⟩) (Kd.R_types HO391.out BK401.out (by decide)) (fun _ hk => hk.2) (.int .i64 t395)) (fun _ hk => hk.2) (.string t396)) (fun _ hk => hk.2) (.slice Ao72 t397.length co72)) (fun _ h_ => h_.1))) hb); replace HO399 := Aside0.mk (Kd.R_below (rI (Kd.R_mono (Kd.R_far (p := ⟨gb401, 2, none⟩) (Kd.R_far (p := ⟨gb401, 1, none⟩) (Kd.R_far (p := ⟨gb401, 0, none⟩) (Kd.R_types HO399.out BK401.out (by decide)) (fun _ hk => hk.2) (.int .i64 t395)) (fun _ hk => hk.2) (.string t396)) (fun _ hk => hk.2) (.slice Ao72 t397.length co72)) (fun _ h_ => h_.1))) hb); replace BK370 := Aside0.mk (blk_below (g := gb370) (o := .cells #[.int .i64 a0_0, .int .i64 a0_1] 26 (0, 0)) (gI BK370.out) hb); replace BK371 := Aside0.mk (blk_below (g := gb371) (o := .cells #[.int .i64 a1_0, .string a1_1, .slice A1_2 l1_2.length c1_2] 29 (0, 0)) (gI BK371.out) hb); replace BK386 := Aside0.mk (blk_below (g := gb386) (o := .cells #[.int .i64 t380, .string t381, .slice Ao53 t382.length co53] 41 (0, 0)) (gI BK386.out) hb); replace BK392 := Aside0.mk (blk_below (g := gb392) (o := .cells #[.int .i64 t387, .string t388, .slice Ao63 t389.length co63] 34 (0, 0)) (gI BK392.out) hb); replace BK401 := bp BK401 hb #[.int .i64 t395, .string t396, .slice Ao72 t397.length co72]; replace HB := bs HB hb; (try clear hb); (try clear hb2); (try clear hk); (try clear hi)))
      replace HO384 := Aside0.mk (Kd.R_drew HO384.out)
      replace HO391 := Aside0.mk (Kd.R_drew HO391.out)
      replace HO399 := Aside0.mk (Kd.R_drew HO399.out)
      replace BK370 := Aside0.mk (blk_drew BK370.out)
      replace BK371 := Aside0.mk (blk_drew BK371.out)
      replace BK386 := Aside0.mk (blk_drew BK386.out)
      replace BK392 := Aside0.mk (blk_drew BK392.out)
      replace BK401 := Aside0.mk (blk_drew BK401.out)
      replace HB := Aside0.mk (below_drew1 HB.out)
      refine start_ (n := 5) (S := fun w' => w'.cell? ⟨gb392, 0, none⟩ = some (.int .i64 t387) ∧ w'.cell? ⟨gb392, 1, none⟩ = some (.string t388) ∧ w'.cell? ⟨gb392, 2, none⟩ = some (.slice Ao63 t389.length co63) ∧ w'.cell? ⟨gb371, 0, none⟩ = some (.int .i64 a1_0) ∧ w'.cell? ⟨gb371, 1, none⟩ = some (.string a1_1) ∧ w'.cell? ⟨gb371, 2, none⟩ = some (.slice A1_2 l1_2.length c1_2)) (ds := []) #[false, false, false, false, false] (by kernel_rfl) rfl rfl ⟨bc0 BK392.out, bc1 BK392.out, bc2 BK392.out, bc0 BK371.out, bc1 BK371.out, bc2 BK371.out⟩ (fun hHeld => ?_)
      generalize w81.drew = w82 at HO384 HO391 HO399 BK370 BK371 BK386 BK392 BK401 HB hHeld ⊢
      refine take_ (i := 0) (N := some 47) (v := ?_) (a' := ?_) #[true, false, false, false, false] rfl rfl (by kernel_rfl) (fun _ _ _ h => h) (Or.inl ⟨by rfl, ?_⟩) hHeld ?_ ?_
      rotate_left
      · rintro w' ⟨s0, s1, s2, s3, s4, s5⟩
        go_simp
        with_reducible rfl
      rotate_left
      · simp only [Act.put, List.setIfInBounds_toArray, List.set_cons_zero, List.set_cons_succ, i64_w, i32_w]
        rfl
      refine take_ (i := 1) (N := some 48) (v := ?_) (a' := ?_) #[true, true, false, false, false] rfl rfl (by kernel_rfl) (fun _ _ _ h => h) (Or.inl ⟨by rfl, ?_⟩) hHeld ?_ ?_
      rotate_left
      · rintro w' ⟨s0, s1, s2, s3, s4, s5⟩
        go_simp
        with_reducible rfl
      rotate_left
      · simp only [Act.put, List.setIfInBounds_toArray, List.set_cons_zero, List.set_cons_succ, i64_w, i32_w]
        rfl
      refine one_ (i := 2) (N := some 49) #[true, true, true, false, false] rfl rfl (by kernel_rfl) (by decide) (fun K hK => ?_)
      refine gA Tryd.func20 #[.agg #[.int .i64 a1_0, .string a1_1, .slice A1_2 l1_2.length c1_2]] ?_
      with_reducible refine (laws_toPart.calls k a1_0 a1_1 _ _ l1_2 t403 t404 t405 _ ?side1 ?side2 A19.out).mono ?_
      (case side1 => exact ch HR1_2 HB)
      (case side2 => exact HC1_2.out)
      rintro e w83 ⟨v406, rfl, ho0, hb⟩
      refine ⟨_, rfl, ?_⟩
      have HO407 := Aside0.mk (Kd.R_lower (Kd.R_new' (Kd.R_new' (Kd.R_new' ho0 (Kd.R_lt (rI HO384.out))) (Kd.R_lt (rI HO391.out))) (Kd.R_lt (rI HO399.out))) (below_size (bI HB.out)))
      replace HO384 := Aside0.mk (Kd.R_elder' (rI HO384.out) (Kd.R_base ho0) hb)
      replace HO391 := Aside0.mk (Kd.R_elder' (rI HO391.out) (Kd.R_base ho0) hb)
      replace HO399 := Aside0.mk (Kd.R_elder' (rI HO399.out) (Kd.R_base ho0) hb)
      replace BK370 := bk BK370 hb
      replace BK371 := bk BK371 hb
      replace BK386 := bk BK386 hb
      replace BK392 := bk BK392 hb
      replace BK401 := bk BK401 hb
      replace HB := bs HB hb
      (try clear hb)
      (try clear hb2)
      (try clear hk)
      (try clear hi)
      (try clear ho0)
      obtain ⟨Ao84, co84, eo84⟩ := Kd.R_slice HO407.out
      (first | subst eo84 | (injection eo84 with f1_ f2_ f3_; have f4_ := f1_.symm; have f5_ := f3_.symm; clear f1_ f2_ f3_; subst f4_; subst f5_))
      refine hK.out _ _ ⟨bc0 BK392.out, bc1 BK392.out, bc2 BK392.out, bc0 BK371.out, bc1 BK371.out, bc2 BK371.out⟩ (fun hHeld => ?_)
      clear hK K
      refine nA (some 49) ?_
      refine one_ (i := 3) (N := some 50) #[true, true, true, true, false] rfl rfl (by kernel_rfl) (by decide) (fun K hK => ?_)
      refine gA Tryd.func22 #[.agg #[.int .i64 t387, .string t388, .slice Ao63 t389.length co63], .agg #[.int .i64 t403, .string t404, .slice Ao84 t405.length co84]] ?_
      with_reducible refine (laws_eqPart.calls k t387 t388 _ _ t389 t403 t404 _ _ t405 true _ ?side1 ?side2 ?side3 ?side4 A20.out).mono ?_
      (case side1 => repeat (first | exact (Kd.R_reads' HO391.out).2.2 | (with_reducible refine Kd.C_alloc ?_ _) | (with_reducible refine Kd.C_drewN ?_ _) | (with_reducible refine Kd.C_drew ?_)))
      (case side2 => exact (Kd.R_reads' HO391.out).2.1)
      (case side3 => repeat (first | exact (Kd.R_reads' HO407.out).2.2 | (with_reducible refine Kd.C_alloc ?_ _) | (with_reducible refine Kd.C_drewN ?_ _) | (with_reducible refine Kd.C_drew ?_)))
      (case side4 => exact (Kd.R_reads' HO407.out).2.1)
      rintro e w85 ⟨rfl, hb⟩
      refine ⟨_, rfl, ?_⟩
      replace HO384 := rb HO384 hb
      replace HO391 := rb HO391 hb
      replace HO399 := rb HO399 hb
      replace HO407 := rb HO407 hb
      replace BK370 := bk BK370 hb
      replace BK371 := bk BK371 hb
      replace BK386 := bk BK386 hb
      replace BK392 := bk BK392 hb
      replace BK401 := bk BK401 hb
      replace HB := bs HB hb
      (try clear hb)
      (try clear hb2)
      (try clear hk)
      (try clear hi)
      refine hK.out _ _ ⟨bc0 BK392.out, bc1 BK392.out, bc2 BK392.out, bc0 BK371.out, bc1 BK371.out, bc2 BK371.out⟩ (fun hHeld => ?_)
      clear hK K
      refine nA (some 50) ?_
      refine pure_ (i := 4) (N := some 51) (v := ?_) (a' := ?_) #[true, true, true, true, true] rfl rfl (by kernel_rfl) (fun _ _ _ h => h) (Or.inl ⟨by rfl, ?_⟩) ?_ ?_
      rotate_left
      · intro w'
        go_simp
        with_reducible rfl
      rotate_left
      · simp only [Act.put, List.setIfInBounds_toArray, List.set_cons_zero, List.set_cons_succ, i64_w, i32_w]
        rfl
      refine done_ (by kernel_rfl) ?_
      have hcz86_0 := bc0 BK392.out
      have hcz86_1 := bc1 BK392.out
      have hcz86_2 := bc2 BK392.out
      have hfz86_0 := blk_frozen BK392.out 0
      have hfz86_1 := blk_frozen BK392.out 1
      have hfz86_2 := blk_frozen BK392.out 2
      clear HO407
      have n_ := Aside0.mk (Kd.R_mono (ok' := (fun k_ => some k_ ≠ (.slice Ao63 t389.length co63 : Value).ownBlock ∧ some k_ ≠ (.slice Ao72 t397.length co72 : Value).ownBlock)) HO384.out (fun k_ hk => ⟨hk.1.1, hk.1.2⟩))
      clear HO384
      have HO384 := n_
      clear n_
      have n_ := Aside0.mk (Kd.R_mono (ok' := (fun k_ => some k_ ≠ (.slice Ao53 t382.length co53 : Value).ownBlock ∧ some k_ ≠ (.slice Ao72 t397.length co72 : Value).ownBlock)) HO391.out (fun k_ hk => ⟨hk.1.1, hk.1.2⟩))
      clear HO391
      have HO391 := n_
      clear n_
      have n_ := Aside0.mk (Kd.R_mono (ok' := (fun k_ => some k_ ≠ (.slice Ao53 t382.length co53 : Value).ownBlock ∧ some k_ ≠ (.slice Ao63 t389.length co63 : Value).ownBlock)) HO399.out (fun k_ hk => ⟨hk.1.1, hk.1.2⟩))
      clear HO399
      have HO399 := n_
      clear n_
      try go_wp2_with (first | ((with_reducible refine gate_callee (f := 40) rfl ?_); refine gB (some 54) Tryd.func40 #[.agg #[.int .i64 t387, .string t388, .slice Ao63 t389.length co63], .int .i64 1] ?_; (with_reducible refine (laws_markPart.calls k t387 t388 (fun k_ => some k_ = (.slice Ao63 t389.length co63 : Value).ownBlock) (.slice Ao63 t389.length co63) t389 1 t409 t410 w _ ?side1 ?side2 A22.out).mono ?_); (case side1 => exact bI HB.out); (case side2 => exact Kd.R_tight rfl HO391.out); rintro e w87 ⟨rfl, hy0, hb, hkp⟩; refine ⟨_, rfl, ?_⟩; replace BK370 := Aside0.mk (blk_kept (kI BK370.out) hkp (fun hs_ => (fun e_ => (Kd.R_ne HO391.out BK370.out (by decide)) e_) hs_)); replace BK371 := Aside0.mk (blk_kept (kI BK371.out) hkp (fun hs_ => (fun e_ => (Kd.R_ne HO391.out BK371.out (by decide)) e_) hs_)); replace HO384 := Aside0.mk (Kd.R_mono (ok' := fun k_ => some k_ ≠ (.slice Ao63 t389.length co63 : Value).ownBlock ∧ some k_ ≠ (.slice Ao72 t397.length co72 : Value).ownBlock) (Kd.R_keptB (HO384.out) hkp (fun k_ hk_ hs_ => (hk_.1) hs_)) (fun k_ hk_ => ⟨hk_.1.1, hk_.1.2⟩)); replace BK386 := Aside0.mk (blk_kept (kI BK386.out) hkp (fun hs_ => (fun e_ => (Kd.R_ne HO391.out BK386.out (by decide)) e_) hs_)); replace BK392 := Aside0.mk (blk_kept (kI BK392.out) hkp (fun hs_ => (fun e_ => (Kd.R_ne HO391.out BK392.out (by decide)) e_) hs_)); replace HO399 := Aside0.mk (Kd.R_mono (ok' := fun k_ => some k_ ≠ (.slice Ao53 t382.length co53 : Value).ownBlock ∧ some k_ ≠ (.slice Ao63 t389.length co63 : Value).ownBlock) (Kd.R_keptB (HO399.out) hkp (fun k_ hk_ hs_ => (hk_.2) hs_)) (fun k_ hk_ => ⟨hk_.1.1, hk_.1.2⟩)); replace BK401 := Aside0.mk (blk_kept (kI BK401.out) hkp (fun hs_ => (fun e_ => (Kd.R_ne HO391.out BK401.out (by decide)) e_) hs_)); replace HO391 := Aside0.mk (Kd.R_reok rfl hy0 (fun k_ e_ => HO391.out.1 k_ e_)); replace HB := Aside0.mk (hb); (try clear hb); (try clear hkp); (try clear hy0); obtain ⟨hcz88_0, hcz88_1, hcz88_2, hfz88_0, hfz88_1, hfz88_2⟩ := cs3 BK401; obtain ⟨hcz89_0, hcz89_1, hcz89_2, hfz89_0, hfz89_1, hfz89_2⟩ := cs3 BK386; clear HO391; have n_ := Aside0.mk (Kd.R_mono (ok' := (fun k_ => some k_ ≠ (.slice Ao72 t397.length co72 : Value).ownBlock)) HO384.out (fun k_ hk => hk.2)); clear HO384; have HO384 := n_; clear n_; have n_ := Aside0.mk (Kd.R_mono (ok' := (fun k_ => some k_ ≠ (.slice Ao53 t382.length co53 : Value).ownBlock)) HO399.out (fun k_ hk => hk.1)); clear HO399; have HO399 := n_; clear n_) | (go_at_call 27; (with_reducible refine (laws_eqQc.calls k t395 t396 _ _ t397 t380 t381 _ _ t382 true _ ?side1 ?side2 ?side3 ?side4 A24.out).mono ?_); (case side1 => repeat (first | exact (Kd.R_reads' HO399.out).2.2 | (with_reducible refine Kd.C_alloc ?_ _) | (with_reducible refine Kd.C_drewN ?_ _) | (with_reducible refine Kd.C_drew ?_))); (case side2 => exact (Kd.R_reads' HO399.out).2.1); (case side3 => repeat (first | exact (Kd.R_reads' HO384.out).2.2 | (with_reducible refine Kd.C_alloc ?_ _) | (with_reducible refine Kd.C_drewN ?_ _) | (with_reducible refine Kd.C_drew ?_))); (case side4 => exact (Kd.R_reads' HO384.out).2.1); rintro e w90 ⟨rfl, hb⟩; replace HO384 := rb HO384 hb; replace HO399 := rb HO399 hb; replace BK370 := bk BK370 hb; replace BK371 := bk BK371 hb; replace BK386 := bk BK386 hb; replace BK392 := bk BK392 hb; replace BK401 := bk BK401 hb; replace HB := bs HB hb; (try clear hb); (try clear hb2); (try clear hk); (try clear hi); obtain ⟨hcz91_0, hcz91_1, hcz91_2, hfz91_0, hfz91_1, hfz91_2⟩ := cs3 BK401) | ((with_reducible refine gate_callee (f := 41) rfl ?_); refine gB (some 70) Tryd.func41 #[.agg #[.int .i64 t395, .string t396, .slice Ao72 t397.length co72], .int .i64 1] ?_; (with_reducible refine (laws_markQc.calls k t395 t396 (fun k_ => some k_ = (.slice Ao72 t397.length co72 : Value).ownBlock) (.slice Ao72 t397.length co72) t397 1 t412 t413 w _ ?side1 ?side2 A26.out).mono ?_); (case side1 => exact bI HB.out); (case side2 => exact Kd.R_tight rfl HO399.out); rintro e w92 ⟨rfl, hy0, hb, hkp⟩; refine ⟨_, rfl, ?_⟩; replace BK370 := Aside0.mk (blk_kept (kI BK370.out) hkp (fun hs_ => (fun e_ => (Kd.R_ne HO399.out BK370.out (by decide)) e_) hs_)); replace BK371 := Aside0.mk (blk_kept (kI BK371.out) hkp (fun hs_ => (fun e_ => (Kd.R_ne HO399.out BK371.out (by decide)) e_) hs_)); replace HO384 := Aside0.mk (Kd.R_mono (ok' := fun k_ => some k_ ≠ (.slice Ao72 t397.length co72 : Value).ownBlock) (Kd.R_keptB (HO384.out) hkp (fun k_ hk_ hs_ => (hk_) hs_)) (fun k_ hk_ => hk_.1)); replace BK386 := Aside0.mk (blk_kept (kI BK386.out) hkp (fun hs_ => (fun e_ => (Kd.R_ne HO399.out BK386.out (by decide)) e_) hs_)); replace BK392 := Aside0.mk (blk_kept (kI BK392.out) hkp (fun hs_ => (fun e_ => (Kd.R_ne HO399.out BK392.out (by decide)) e_) hs_)); replace BK401 := Aside0.mk (blk_kept (kI BK401.out) hkp (fun hs_ => (fun e_ => (Kd.R_ne HO399.out BK401.out (by decide)) e_) hs_)); replace HO399 := Aside0.mk (Kd.R_reok rfl hy0 (fun k_ e_ => HO399.out.1 k_ e_)); replace HB := Aside0.mk (hb); (try clear hb); (try clear hkp); (try clear hy0); obtain ⟨hcz93_0, hcz93_1, hcz93_2, hfz93_0, hfz93_1, hfz93_2⟩ := cs3 BK401) | ((with_reducible refine gate_callee (f := 42) rfl ?_); refine goesL_ (some 73) rfl rfl Tryd.func42 (by kernel_rfl) rfl #[.agg #[.int .i64 t395, .string t396, .slice Ao72 t413.length co72], .int .i64 1] rfl (by (try simp only [List.map_toArray, List.map_cons, List.map_nil]); first | done | (rw [show t413.length = t397.length from (Kd.R_reads' HO399.out).1.symm] <;> rfl) | rfl | (simp only [List.length_drop, List.length_take]; rfl)) ?_; (with_reducible refine (laws_heldQc.calls k t395 t396 _ _ t413 1 t414 _ ?side1 ?side2 A27.out).mono ?_); (case side1 => repeat (first | exact (Kd.R_reads' HO399.out).2.2 | (with_reducible refine Kd.C_alloc ?_ _) | (with_reducible refine Kd.C_drewN ?_ _) | (with_reducible refine Kd.C_drew ?_))); (case side2 => rw [show t413.length = t397.length from (Kd.R_reads' HO399.out).1.symm]; exact (Kd.R_reads' HO399.out).2.1); rintro e w94 ⟨rfl, hb⟩; refine ⟨_, rfl, ?_⟩; replace HO384 := rb HO384 hb; replace HO399 := rb HO399 hb; replace BK370 := bk BK370 hb; replace BK371 := bk BK371 hb; replace BK386 := bk BK386 hb; replace BK392 := bk BK392 hb; replace BK401 := bk BK401 hb; replace HB := bs HB hb; (try clear hb); (try clear hb2); (try clear hk); (try clear hi)))
      replace HO384 := Aside0.mk (Kd.R_drew HO384.out)
      replace HO399 := Aside0.mk (Kd.R_drew HO399.out)
      replace BK370 := Aside0.mk (blk_drew BK370.out)
      replace BK371 := Aside0.mk (blk_drew BK371.out)
      replace BK386 := Aside0.mk (blk_drew BK386.out)
      replace BK392 := Aside0.mk (blk_drew BK392.out)
      replace BK401 := Aside0.mk (blk_drew BK401.out)
      replace HB := Aside0.mk (below_drew1 HB.out)
      refine start_ (n := 11) (S := fun w' => w'.cell? ⟨gb370, 0, none⟩ = some (.int .i64 a0_0) ∧ w'.cell? ⟨gb370, 1, none⟩ = some (.int .i64 a0_1) ∧ w'.cell? ⟨gb371, 0, none⟩ = some (.int .i64 a1_0) ∧ w'.cell? ⟨gb371, 1, none⟩ = some (.string a1_1) ∧ w'.cell? ⟨gb371, 2, none⟩ = some (.slice A1_2 l1_2.length c1_2)) (ds := []) #[false, false, false, false, false, false, false, false, false, false, false] (by kernel_rfl) rfl rfl ⟨bc0 BK370.out, bc1 BK370.out, bc0 BK371.out, bc1 BK371.out, bc2 BK371.out⟩ (fun hHeld => ?_); refine with_tabW laws_FnExactPartQc.tab24 laws_FnExactPartQc.bits24 (fun HT_ HW_ => ?_)
      generalize w94.drew = w95 at HO384 HO399 BK370 BK371 BK386 BK392 BK401 HB hHeld ⊢
      refine tA 0 (some 80) (bz 11 1) HT_ HW_ hHeld ?_
      refine tA 2 (some 82) (bz 11 5) HT_ HW_ hHeld ?_
      refine join_ (σ := Value × Value × Nat) 2 #[true, true, true, true, true, true, true, true, true, false, false] (fun s_ => [(81, .agg #[.int .i64 t415, .int .i64 t416]), (83, .agg #[.int .i64 t417, .string t418, s_.1]), (84, .tuple #[.agg #[.int .i64 t422, .string t423, s_.2.1], .bool t427]), (14, .pointer (some ⟨s_.2.2, 0, none⟩)), (79, .tuple #[.agg #[.int .i64 t422, .string t423, s_.2.1], .bool t427]), (85, .agg #[.int .i64 t422, .string t423, s_.2.1]), (86, .bool t427)]) (fun s_ w' => (w'.cell? ⟨gb370, 0, none⟩ = some (.int .i64 a0_0) ∧ w'.cell? ⟨gb370, 1, none⟩ = some (.int .i64 a0_1) ∧ w'.cell? ⟨gb371, 0, none⟩ = some (.int .i64 a1_0) ∧ w'.cell? ⟨gb371, 1, none⟩ = some (.string a1_1) ∧ w'.cell? ⟨gb371, 2, none⟩ = some (.slice A1_2 l1_2.length c1_2)) ∧ (Kd.R (Kd.int .i64) 3 w' w.heap.size (fun k_ => some k_ ≠ (.slice Ao72 t397.length co72 : Value).ownBlock ∧ some k_ ≠ (s_.1 : Value).ownBlock ∧ some k_ ≠ (s_.2.1 : Value).ownBlock) (.slice Ao53 t382.length co53) t382) ∧ (Kd.R (Kd.int .i64) 3 w' w.heap.size (fun k_ => some k_ ≠ (.slice Ao53 t382.length co53 : Value).ownBlock ∧ some k_ ≠ (s_.1 : Value).ownBlock ∧ some k_ ≠ (s_.2.1 : Value).ownBlock) (.slice Ao72 t397.length co72) t413) ∧ (Kd.R (Kd.int .i64) 3 w' w.heap.size (fun k_ => some k_ ≠ (.slice Ao53 t382.length co53 : Value).ownBlock ∧ some k_ ≠ (.slice Ao72 t397.length co72 : Value).ownBlock ∧ some k_ ≠ (s_.2.1 : Value).ownBlock) s_.1 t419) ∧ (Kd.R (Kd.int .i64) 3 w' w.heap.size (fun k_ => some k_ ≠ (.slice Ao53 t382.length co53 : Value).ownBlock ∧ some k_ ≠ (.slice Ao72 t397.length co72 : Value).ownBlock ∧ some k_ ≠ (s_.1 : Value).ownBlock) s_.2.1 t424) ∧ (w'.heap[gb370]? = some (.cells #[.int .i64 a0_0, .int .i64 a0_1] 26 (0, 0))) ∧ (w'.heap[gb371]? = some (.cells #[.int .i64 a1_0, .string a1_1, .slice A1_2 l1_2.length c1_2] 29 (0, 0))) ∧ (w'.heap[gb386]? = some (.cells #[.int .i64 t380, .string t381, .slice Ao53 t382.length co53] 41 (0, 0))) ∧ (w'.heap[gb392]? = some (.cells #[.int .i64 t387, .string t388, .slice Ao63 t389.length co63] 34 (0, 0))) ∧ (w'.heap[gb401]? = some (.cells #[.int .i64 t395, .string t396, .slice Ao72 t397.length co72] 41 (0, 0))) ∧ (w'.heap[s_.2.2]? = some (.cells #[.int .i64 0, .string (⟨#[]⟩ : ByteArray), .slice none 0 0] 41 (0, 0))) ∧ (w.heap.size ≤ s_.2.2) ∧ (w.heap.size ≤ s_.2.2) ∧ (gb370 ≠ s_.2.2) ∧ (s_.2.2 ≠ gb370) ∧ (gb371 ≠ s_.2.2) ∧ (s_.2.2 ≠ gb371) ∧ (gb386 ≠ s_.2.2) ∧ (s_.2.2 ≠ gb386) ∧ (gb392 ≠ s_.2.2) ∧ (s_.2.2 ≠ gb392) ∧ (gb401 ≠ s_.2.2) ∧ (s_.2.2 ≠ gb401) ∧ (Below w.heap.size w w')) ?_ ?_
      rotate_left
      · intro hCont
        refine two_ (i := 1) (j := 8) (Ni := some 81) (Nj := some 14) #[true, true, true, false, false, false, false, false, false, false, false] #[true, false, true, false, false, false, false, false, true, false, false] rfl rfl rfl rfl (two_of HT_.out (by kernel_rfl)) (by decide) (by decide) (fun K hK => ?_) (fun K hK => ?_)
        · skip
          refine gA Tryd.func19 #[.agg #[.int .i64 a0_0, .int .i64 a0_1]] ?_
          with_reducible refine (laws_toConf.calls a0_0 a0_1 t415 t416 _ A30.out).mono ?_
          rintro e w96 ⟨rfl, hb⟩
          refine ⟨_, rfl, ?_⟩
          replace HO384 := rb HO384 hb
          replace HO399 := rb HO399 hb
          replace BK370 := bk BK370 hb
          replace BK371 := bk BK371 hb
          replace BK386 := bk BK386 hb
          replace BK392 := bk BK392 hb
          replace BK401 := bk BK401 hb
          replace HB := bs HB hb
          (try clear hb)
          (try clear hb2)
          (try clear hk)
          (try clear hi)
          refine hK.out _ _ ⟨bc0 BK370.out, bc1 BK370.out, bc0 BK371.out, bc1 BK371.out, bc2 BK371.out⟩ (fun hHeld => ?_)
          clear hK K
          refine nA (some 81) ?_
          refine two_ (i := 3) (j := 8) (Ni := some 83) (Nj := some 14) #[true, true, true, true, false, false, false, false, false, false, false] #[true, true, true, false, false, false, false, false, true, false, false] rfl rfl rfl rfl (two_of HT_.out (by kernel_rfl)) (by decide) (by decide) (fun K hK => ?_) (fun K hK => ?_)
          · skip
            refine gA Tryd.func20 #[.agg #[.int .i64 a1_0, .string a1_1, .slice A1_2 l1_2.length c1_2]] ?_
            with_reducible refine (laws_toPart.calls k a1_0 a1_1 _ _ l1_2 t417 t418 t419 _ ?side1 ?side2 A31.out).mono ?_
            (case side1 => exact ch HR1_2 HB)
            (case side2 => exact HC1_2.out)
            rintro e w97 ⟨v420, rfl, ho0, hb⟩
            refine ⟨_, rfl, ?_⟩
            have HO421 := Aside0.mk (Kd.R_lower (Kd.R_new' (Kd.R_new' ho0 (Kd.R_lt (rI HO384.out))) (Kd.R_lt (rI HO399.out))) (below_size (bI HB.out)))
            replace HO384 := Aside0.mk (Kd.R_elder' (rI HO384.out) (Kd.R_base ho0) hb)
            replace HO399 := Aside0.mk (Kd.R_elder' (rI HO399.out) (Kd.R_base ho0) hb)
            replace BK370 := bk BK370 hb
            replace BK371 := bk BK371 hb
            replace BK386 := bk BK386 hb
            replace BK392 := bk BK392 hb
            replace BK401 := bk BK401 hb
            replace HB := bs HB hb
            (try clear hb)
            (try clear hb2)
            (try clear hk)
            (try clear hi)
            (try clear ho0)
            obtain ⟨Ao98, co98, eo98⟩ := Kd.R_slice HO421.out
            (first | subst eo98 | (injection eo98 with f1_ f2_ f3_; have f4_ := f1_.symm; have f5_ := f3_.symm; clear f1_ f2_ f3_; subst f4_; subst f5_))
            refine hK.out _ _ ⟨bc0 BK370.out, bc1 BK370.out, bc0 BK371.out, bc1 BK371.out, bc2 BK371.out⟩ (fun hHeld => ?_)
            clear hK K
            refine nA (some 83) ?_
            refine two_ (i := 4) (j := 8) (Ni := some 84) (Nj := some 14) #[true, true, true, true, true, false, false, false, false, false, false] #[true, true, true, true, false, false, false, false, true, false, false] rfl rfl rfl rfl (two_of HT_.out (by kernel_rfl)) (by decide) (by decide) (fun K hK => ?_) (fun K hK => ?_)
            · skip
              refine gA Tryd.func39 #[.agg #[.int .i64 t415, .int .i64 t416], .agg #[.int .i64 t417, .string t418, .slice Ao98 t419.length co98]] ?_
              with_reducible refine (impl_PartQc.calls k t415 t416 t417 t418 _ _ t419 t422 t423 t424 t427 _ ?side1 ?side2 A32.out).mono ?_
              (case side1 => repeat (first | exact (Kd.R_reads' HO421.out).2.2 | (with_reducible refine Kd.C_alloc ?_ _) | (with_reducible refine Kd.C_drewN ?_ _) | (with_reducible refine Kd.C_drew ?_)))
              (case side2 => exact (Kd.R_reads' HO421.out).2.1)
              rintro e w99 ⟨v425, rfl, ho0, hb⟩
              refine ⟨_, rfl, ?_⟩
              have HO426 := Aside0.mk (Kd.R_lower (Kd.R_new' (Kd.R_new' (Kd.R_new' ho0 (Kd.R_lt (rI HO384.out))) (Kd.R_lt (rI HO399.out))) (Kd.R_lt (rI HO421.out))) (below_size (bI HB.out)))
              replace HO384 := Aside0.mk (Kd.R_elder' (rI HO384.out) (Kd.R_base ho0) hb)
              replace HO399 := Aside0.mk (Kd.R_elder' (rI HO399.out) (Kd.R_base ho0) hb)
              replace HO421 := Aside0.mk (Kd.R_elder' (rI HO421.out) (Kd.R_base ho0) hb)
              replace BK370 := bk BK370 hb
              replace BK371 := bk BK371 hb
              replace BK386 := bk BK386 hb
              replace BK392 := bk BK392 hb
              replace BK401 := bk BK401 hb
              replace HB := bs HB hb
              (try clear hb)
              (try clear hb2)
              (try clear hk)
              (try clear hi)
              (try clear ho0)
              refine hK.out _ _ ⟨bc0 BK370.out, bc1 BK370.out, bc0 BK371.out, bc1 BK371.out, bc2 BK371.out⟩ (fun hHeld => ?_)
              clear hK K
              refine nA (some 84) ?_
              refine pA 5 (some 79) (bz 11 63) HT_ ?_
              refine pA 6 (some 85) (bz 11 127) HT_ ?_
              refine pA 7 (some 86) (bz 11 255) HT_ ?_
              refine oA 8 (some 14) (bz 11 511) HT_ (fun K hK => ?_)
              refine box_step ?hg (N := 14) ?hd (cs := #[.int .i64 0, .string (⟨#[]⟩ : ByteArray), .slice none 0 0]) (t := 41) ?hr ?_; (case hd => rfl); (case hg => rfl); (case hr => first | (go_simp; done) | (go_simp; rfl))
              intro gb428 hg w100 hbox hb
              replace HO384 := rb HO384 hb
              replace HO399 := rb HO399 hb
              replace HO421 := rb HO421 hb
              replace HO426 := rb HO426 hb
              have BK428 := Aside0.mk (hbox)
              have GW428 := bg hg HB
              have GJ428 := gi GW428
              have GE428 := bg hg HB
              have GI428 := gi GE428
              replace HB := bs HB hb
              have NB370_428 := b1 BK370 hg
              have NI370_428 := ni NB370_428
              have NB428_370 := b2 BK370 hg
              have NI428_370 := ni NB428_370
              replace BK370 := bk BK370 hb
              have NB371_428 := b1 BK371 hg
              have NI371_428 := ni NB371_428
              have NB428_371 := b2 BK371 hg
              have NI428_371 := ni NB428_371
              replace BK371 := bk BK371 hb
              have NB386_428 := b1 BK386 hg
              have NI386_428 := ni NB386_428
              have NB428_386 := b2 BK386 hg
              have NI428_386 := ni NB428_386
              replace BK386 := bk BK386 hb
              have NB392_428 := b1 BK392 hg
              have NI392_428 := ni NB392_428
              have NB428_392 := b2 BK392 hg
              have NI428_392 := ni NB428_392
              replace BK392 := bk BK392 hb
              have NB401_428 := b1 BK401 hg
              have NI401_428 := ni NB401_428
              have NB428_401 := b2 BK401 hg
              have NI428_401 := ni NB428_401
              replace BK401 := bk BK401 hb
              clear hb hbox hg
              refine hK.out _ _ ⟨bc0 BK370.out, bc1 BK370.out, bc0 BK371.out, bc1 BK371.out, bc2 BK371.out⟩ (fun hHeld => ?_)
              clear hK K
              refine nA (some 14) ?_
              exact norm_ y0_5 (hCont (.slice Ao98 t419.length co98, v425, gb428) _ ⟨hHeld, (rI (Kd.R_mono HO384.out (fun _ hk => ⟨hk.1.1, ⟨hk.1.2, hk.2⟩⟩))), (rI (Kd.R_mono HO399.out (fun _ hk => ⟨hk.1.1, ⟨hk.1.2, hk.2⟩⟩))), (rI (Kd.R_mono HO421.out (fun _ hk => ⟨hk.1.1.2, ⟨hk.1.2, hk.2⟩⟩))), (rI (Kd.R_mono HO426.out (fun _ hk => ⟨hk.1.1.2, ⟨hk.1.2, hk.2⟩⟩))), (kI BK370.out), (kI BK371.out), (kI BK386.out), (kI BK392.out), (kI BK401.out), (kI BK428.out), GW428.out, GE428.out, NB370_428.out, NB428_370.out, NB371_428.out, NB428_371.out, NB386_428.out, NB428_386.out, NB392_428.out, NB428_392.out, NB401_428.out, NB428_401.out, (bI HB.out)⟩)
            · skip
              refine box_step ?hg (N := 14) ?hd (cs := #[.int .i64 0, .string (⟨#[]⟩ : ByteArray), .slice none 0 0]) (t := 41) ?hr ?_; (case hd => rfl); (case hg => rfl); (case hr => first | (go_simp; done) | (go_simp; rfl))
              intro gb428 hg w98 hbox hb
              replace HO384 := rb HO384 hb
              replace HO399 := rb HO399 hb
              replace HO421 := rb HO421 hb
              have BK428 := Aside0.mk (hbox)
              have GW428 := bg hg HB
              have GJ428 := gi GW428
              have GE428 := bg hg HB
              have GI428 := gi GE428
              replace HB := bs HB hb
              have NB370_428 := b1 BK370 hg
              have NI370_428 := ni NB370_428
              have NB428_370 := b2 BK370 hg
              have NI428_370 := ni NB428_370
              replace BK370 := bk BK370 hb
              have NB371_428 := b1 BK371 hg
              have NI371_428 := ni NB371_428
              have NB428_371 := b2 BK371 hg
              have NI428_371 := ni NB428_371
              replace BK371 := bk BK371 hb
              have NB386_428 := b1 BK386 hg
              have NI386_428 := ni NB386_428
              have NB428_386 := b2 BK386 hg
              have NI428_386 := ni NB428_386
              replace BK386 := bk BK386 hb
              have NB392_428 := b1 BK392 hg
              have NI392_428 := ni NB392_428
              have NB428_392 := b2 BK392 hg
              have NI428_392 := ni NB428_392
              replace BK392 := bk BK392 hb
              have NB401_428 := b1 BK401 hg
              have NI401_428 := ni NB401_428
              have NB428_401 := b2 BK401 hg
              have NI428_401 := ni NB428_401
              replace BK401 := bk BK401 hb
              clear hb hbox hg
              obtain ⟨Ao99, co99, eo99⟩ := Kd.R_slice HO421.out
              (first | subst eo99 | (injection eo99 with f1_ f2_ f3_; have f4_ := f1_.symm; have f5_ := f3_.symm; clear f1_ f2_ f3_; subst f4_; subst f5_))
              refine hK.out _ _ ⟨bc0 BK370.out, bc1 BK370.out, bc0 BK371.out, bc1 BK371.out, bc2 BK371.out⟩ (fun hHeld => ?_)
              clear hK K
              refine nA (some 14) ?_
              refine oA 4 (some 84) (bz 11 287) HT_ (fun K hK => ?_)
              refine gA Tryd.func39 #[.agg #[.int .i64 t415, .int .i64 t416], .agg #[.int .i64 t417, .string t418, .slice Ao99 t419.length co99]] ?_
              with_reducible refine (impl_PartQc.calls k t415 t416 t417 t418 _ _ t419 t422 t423 t424 t427 _ ?side1 ?side2 A32.out).mono ?_
              (case side1 => repeat (first | exact (Kd.R_reads' HO421.out).2.2 | (with_reducible refine Kd.C_alloc ?_ _) | (with_reducible refine Kd.C_drewN ?_ _) | (with_reducible refine Kd.C_drew ?_)))
              (case side2 => exact (Kd.R_reads' HO421.out).2.1)
              rintro e w100 ⟨v425, rfl, ho0, hb⟩
              refine ⟨_, rfl, ?_⟩
              have HO426 := Aside0.mk (Kd.R_lower (Kd.R_new' (Kd.R_new' (Kd.R_new' ho0 (Kd.R_lt (rI HO384.out))) (Kd.R_lt (rI HO399.out))) (Kd.R_lt (rI HO421.out))) (below_size (bI HB.out)))
              replace HO384 := Aside0.mk (Kd.R_elder' (rI HO384.out) (Kd.R_base ho0) hb)
              replace HO399 := Aside0.mk (Kd.R_elder' (rI HO399.out) (Kd.R_base ho0) hb)
              replace HO421 := Aside0.mk (Kd.R_elder' (rI HO421.out) (Kd.R_base ho0) hb)
              replace BK370 := bk BK370 hb
              replace BK371 := bk BK371 hb
              replace BK386 := bk BK386 hb
              replace BK392 := bk BK392 hb
              replace BK401 := bk BK401 hb
              replace BK428 := bk BK428 hb
              replace HB := bs HB hb
              (try clear hb)
              (try clear hb2)
              (try clear hk)
              (try clear hi)
              (try clear ho0)
              refine hK.out _ _ ⟨bc0 BK370.out, bc1 BK370.out, bc0 BK371.out, bc1 BK371.out, bc2 BK371.out⟩ (fun hHeld => ?_)
              clear hK K
              refine nA (some 84) ?_
              refine pA 5 (some 79) (bz 11 319) HT_ ?_
              refine pA 6 (some 85) (bz 11 383) HT_ ?_
              refine pA 7 (some 86) (bz 11 511) HT_ ?_
              exact norm_ y0_5 (hCont (.slice Ao99 t419.length co99, v425, gb428) _ ⟨hHeld, (rI (Kd.R_mono HO384.out (fun _ hk => ⟨hk.1.1, ⟨hk.1.2, hk.2⟩⟩))), (rI (Kd.R_mono HO399.out (fun _ hk => ⟨hk.1.1, ⟨hk.1.2, hk.2⟩⟩))), (rI (Kd.R_mono HO421.out (fun _ hk => ⟨hk.1.1.2, ⟨hk.1.2, hk.2⟩⟩))), (rI (Kd.R_mono HO426.out (fun _ hk => ⟨hk.1.1.2, ⟨hk.1.2, hk.2⟩⟩))), (kI BK370.out), (kI BK371.out), (kI BK386.out), (kI BK392.out), (kI BK401.out), (kI BK428.out), GW428.out, GE428.out, NB370_428.out, NB428_370.out, NB371_428.out, NB428_371.out, NB386_428.out, NB428_386.out, NB392_428.out, NB428_392.out, NB401_428.out, NB428_401.out, (bI HB.out)⟩)
          · skip
            refine box_step ?hg (N := 14) ?hd (cs := #[.int .i64 0, .string (⟨#[]⟩ : ByteArray), .slice none 0 0]) (t := 41) ?hr ?_; (case hd => rfl); (case hg => rfl); (case hr => first | (go_simp; done) | (go_simp; rfl))
            intro gb428 hg w97 hbox hb
            replace HO384 := rb HO384 hb
            replace HO399 := rb HO399 hb
            have BK428 := Aside0.mk (hbox)
            have GW428 := bg hg HB
            have GJ428 := gi GW428
            have GE428 := bg hg HB
            have GI428 := gi GE428
            replace HB := bs HB hb
            have NB370_428 := b1 BK370 hg
            have NI370_428 := ni NB370_428
            have NB428_370 := b2 BK370 hg
            have NI428_370 := ni NB428_370
            replace BK370 := bk BK370 hb
            have NB371_428 := b1 BK371 hg
            have NI371_428 := ni NB371_428
            have NB428_371 := b2 BK371 hg
            have NI428_371 := ni NB428_371
            replace BK371 := bk BK371 hb
            have NB386_428 := b1 BK386 hg
            have NI386_428 := ni NB386_428
            have NB428_386 := b2 BK386 hg
            have NI428_386 := ni NB428_386
            replace BK386 := bk BK386 hb
            have NB392_428 := b1 BK392 hg
            have NI392_428 := ni NB392_428
            have NB428_392 := b2 BK392 hg
            have NI428_392 := ni NB428_392
            replace BK392 := bk BK392 hb
            have NB401_428 := b1 BK401 hg
            have NI401_428 := ni NB401_428
            have NB428_401 := b2 BK401 hg
            have NI428_401 := ni NB428_401
            replace BK401 := bk BK401 hb
            clear hb hbox hg
            refine hK.out _ _ ⟨bc0 BK370.out, bc1 BK370.out, bc0 BK371.out, bc1 BK371.out, bc2 BK371.out⟩ (fun hHeld => ?_)
            clear hK K
            refine nA (some 14) ?_
            refine oA 3 (some 83) (bz 11 271) HT_ (fun K hK => ?_)
            refine gA Tryd.func20 #[.agg #[.int .i64 a1_0, .string a1_1, .slice A1_2 l1_2.length c1_2]] ?_
            with_reducible refine (laws_toPart.calls k a1_0 a1_1 _ _ l1_2 t417 t418 t419 _ ?side1 ?side2 A31.out).mono ?_
            (case side1 => exact ch HR1_2 HB)
            (case side2 => exact HC1_2.out)
            rintro e w98 ⟨v420, rfl, ho0, hb⟩
            refine ⟨_, rfl, ?_⟩
            have HO421 := Aside0.mk (Kd.R_lower (Kd.R_new' (Kd.R_new' ho0 (Kd.R_lt (rI HO384.out))) (Kd.R_lt (rI HO399.out))) (below_size (bI HB.out)))
            replace HO384 := Aside0.mk (Kd.R_elder' (rI HO384.out) (Kd.R_base ho0) hb)
            replace HO399 := Aside0.mk (Kd.R_elder' (rI HO399.out) (Kd.R_base ho0) hb)
            replace BK370 := bk BK370 hb
            replace BK371 := bk BK371 hb
            replace BK386 := bk BK386 hb
            replace BK392 := bk BK392 hb
            replace BK401 := bk BK401 hb
            replace BK428 := bk BK428 hb
            replace HB := bs HB hb
            (try clear hb)
            (try clear hb2)
            (try clear hk)
            (try clear hi)
            (try clear ho0)
            obtain ⟨Ao99, co99, eo99⟩ := Kd.R_slice HO421.out
            (first | subst eo99 | (injection eo99 with f1_ f2_ f3_; have f4_ := f1_.symm; have f5_ := f3_.symm; clear f1_ f2_ f3_; subst f4_; subst f5_))
            refine hK.out _ _ ⟨bc0 BK370.out, bc1 BK370.out, bc0 BK371.out, bc1 BK371.out, bc2 BK371.out⟩ (fun hHeld => ?_)
            clear hK K
            refine nA (some 83) ?_
            refine oA 4 (some 84) (bz 11 287) HT_ (fun K hK => ?_)
            refine gA Tryd.func39 #[.agg #[.int .i64 t415, .int .i64 t416], .agg #[.int .i64 t417, .string t418, .slice Ao99 t419.length co99]] ?_
            with_reducible refine (impl_PartQc.calls k t415 t416 t417 t418 _ _ t419 t422 t423 t424 t427 _ ?side1 ?side2 A32.out).mono ?_
            (case side1 => repeat (first | exact (Kd.R_reads' HO421.out).2.2 | (with_reducible refine Kd.C_alloc ?_ _) | (with_reducible refine Kd.C_drewN ?_ _) | (with_reducible refine Kd.C_drew ?_)))
            (case side2 => exact (Kd.R_reads' HO421.out).2.1)
            rintro e w100 ⟨v425, rfl, ho0, hb⟩
            refine ⟨_, rfl, ?_⟩
            have HO426 := Aside0.mk (Kd.R_lower (Kd.R_new' (Kd.R_new' (Kd.R_new' ho0 (Kd.R_lt (rI HO384.out))) (Kd.R_lt (rI HO399.out))) (Kd.R_lt (rI HO421.out))) (below_size (bI HB.out)))
            replace HO384 := Aside0.mk (Kd.R_elder' (rI HO384.out) (Kd.R_base ho0) hb)
            replace HO399 := Aside0.mk (Kd.R_elder' (rI HO399.out) (Kd.R_base ho0) hb)
            replace HO421 := Aside0.mk (Kd.R_elder' (rI HO421.out) (Kd.R_base ho0) hb)
            replace BK370 := bk BK370 hb
            replace BK371 := bk BK371 hb
            replace BK386 := bk BK386 hb
            replace BK392 := bk BK392 hb
            replace BK401 := bk BK401 hb
            replace BK428 := bk BK428 hb
            replace HB := bs HB hb
            (try clear hb)
            (try clear hb2)
            (try clear hk)
            (try clear hi)
            (try clear ho0)
            refine hK.out _ _ ⟨bc0 BK370.out, bc1 BK370.out, bc0 BK371.out, bc1 BK371.out, bc2 BK371.out⟩ (fun hHeld => ?_)
            clear hK K
            refine nA (some 84) ?_
            refine pA 5 (some 79) (bz 11 319) HT_ ?_
            refine pA 6 (some 85) (bz 11 383) HT_ ?_
            refine pA 7 (some 86) (bz 11 511) HT_ ?_
            exact norm_ y0_5 (hCont (.slice Ao99 t419.length co99, v425, gb428) _ ⟨hHeld, (rI (Kd.R_mono HO384.out (fun _ hk => ⟨hk.1.1, ⟨hk.1.2, hk.2⟩⟩))), (rI (Kd.R_mono HO399.out (fun _ hk => ⟨hk.1.1, ⟨hk.1.2, hk.2⟩⟩))), (rI (Kd.R_mono HO421.out (fun _ hk => ⟨hk.1.1.2, ⟨hk.1.2, hk.2⟩⟩))), (rI (Kd.R_mono HO426.out (fun _ hk => ⟨hk.1.1.2, ⟨hk.1.2, hk.2⟩⟩))), (kI BK370.out), (kI BK371.out), (kI BK386.out), (kI BK392.out), (kI BK401.out), (kI BK428.out), GW428.out, GE428.out, NB370_428.out, NB428_370.out, NB371_428.out, NB428_371.out, NB386_428.out, NB428_386.out, NB392_428.out, NB428_392.out, NB401_428.out, NB428_401.out, (bI HB.out)⟩)
        · skip
          refine box_step ?hg (N := 14) ?hd (cs := #[.int .i64 0, .string (⟨#[]⟩ : ByteArray), .slice none 0 0]) (t := 41) ?hr ?_; (case hd => rfl); (case hg => rfl); (case hr => first | (go_simp; done) | (go_simp; rfl))
          intro gb428 hg w96 hbox hb
          replace HO384 := rb HO384 hb
          replace HO399 := rb HO399 hb
          have BK428 := Aside0.mk (hbox)
          have GW428 := bg hg HB
          have GJ428 := gi GW428
          have GE428 := bg hg HB
          have GI428 := gi GE428
          replace HB := bs HB hb
          have NB370_428 := b1 BK370 hg
          have NI370_428 := ni NB370_428
          have NB428_370 := b2 BK370 hg
          have NI428_370 := ni NB428_370
          replace BK370 := bk BK370 hb
          have NB371_428 := b1 BK371 hg
          have NI371_428 := ni NB371_428
          have NB428_371 := b2 BK371 hg
          have NI428_371 := ni NB428_371
          replace BK371 := bk BK371 hb
          have NB386_428 := b1 BK386 hg
          have NI386_428 := ni NB386_428
          have NB428_386 := b2 BK386 hg
          have NI428_386 := ni NB428_386
          replace BK386 := bk BK386 hb
          have NB392_428 := b1 BK392 hg
          have NI392_428 := ni NB392_428
          have NB428_392 := b2 BK392 hg
          have NI428_392 := ni NB428_392
          replace BK392 := bk BK392 hb
          have NB401_428 := b1 BK401 hg
          have NI401_428 := ni NB401_428
          have NB428_401 := b2 BK401 hg
          have NI428_401 := ni NB428_401
          replace BK401 := bk BK401 hb
          clear hb hbox hg
          refine hK.out _ _ ⟨bc0 BK370.out, bc1 BK370.out, bc0 BK371.out, bc1 BK371.out, bc2 BK371.out⟩ (fun hHeld => ?_)
          clear hK K
          refine nA (some 14) ?_
          refine oA 1 (some 81) (bz 11 263) HT_ (fun K hK => ?_)
          refine gA Tryd.func19 #[.agg #[.int .i64 a0_0, .int .i64 a0_1]] ?_
          with_reducible refine (laws_toConf.calls a0_0 a0_1 t415 t416 _ A30.out).mono ?_
          rintro e w97 ⟨rfl, hb⟩
          refine ⟨_, rfl, ?_⟩
          replace HO384 := rb HO384 hb
          replace HO399 := rb HO399 hb
          replace BK370 := bk BK370 hb
          replace BK371 := bk BK371 hb
          replace BK386 := bk BK386 hb
          replace BK392 := bk BK392 hb
          replace BK401 := bk BK401 hb
          replace BK428 := bk BK428 hb
          replace HB := bs HB hb
          (try clear hb)
          (try clear hb2)
          (try clear hk)
          (try clear hi)
          refine hK.out _ _ ⟨bc0 BK370.out, bc1 BK370.out, bc0 BK371.out, bc1 BK371.out, bc2 BK371.out⟩ (fun hHeld => ?_)
          clear hK K
          refine nA (some 81) ?_
          refine oA 3 (some 83) (bz 11 271) HT_ (fun K hK => ?_)
          refine gA Tryd.func20 #[.agg #[.int .i64 a1_0, .string a1_1, .slice A1_2 l1_2.length c1_2]] ?_
          with_reducible refine (laws_toPart.calls k a1_0 a1_1 _ _ l1_2 t417 t418 t419 _ ?side1 ?side2 A31.out).mono ?_
          (case side1 => exact ch HR1_2 HB)
          (case side2 => exact HC1_2.out)
          rintro e w98 ⟨v420, rfl, ho0, hb⟩
          refine ⟨_, rfl, ?_⟩
          have HO421 := Aside0.mk (Kd.R_lower (Kd.R_new' (Kd.R_new' ho0 (Kd.R_lt (rI HO384.out))) (Kd.R_lt (rI HO399.out))) (below_size (bI HB.out)))
          replace HO384 := Aside0.mk (Kd.R_elder' (rI HO384.out) (Kd.R_base ho0) hb)
          replace HO399 := Aside0.mk (Kd.R_elder' (rI HO399.out) (Kd.R_base ho0) hb)
          replace BK370 := bk BK370 hb
          replace BK371 := bk BK371 hb
          replace BK386 := bk BK386 hb
          replace BK392 := bk BK392 hb
          replace BK401 := bk BK401 hb
          replace BK428 := bk BK428 hb
          replace HB := bs HB hb
          (try clear hb)
          (try clear hb2)
          (try clear hk)
          (try clear hi)
          (try clear ho0)
          obtain ⟨Ao99, co99, eo99⟩ := Kd.R_slice HO421.out
          (first | subst eo99 | (injection eo99 with f1_ f2_ f3_; have f4_ := f1_.symm; have f5_ := f3_.symm; clear f1_ f2_ f3_; subst f4_; subst f5_))
          refine hK.out _ _ ⟨bc0 BK370.out, bc1 BK370.out, bc0 BK371.out, bc1 BK371.out, bc2 BK371.out⟩ (fun hHeld => ?_)
          clear hK K
          refine nA (some 83) ?_
          refine oA 4 (some 84) (bz 11 287) HT_ (fun K hK => ?_)
          refine gA Tryd.func39 #[.agg #[.int .i64 t415, .int .i64 t416], .agg #[.int .i64 t417, .string t418, .slice Ao99 t419.length co99]] ?_
          with_reducible refine (impl_PartQc.calls k t415 t416 t417 t418 _ _ t419 t422 t423 t424 t427 _ ?side1 ?side2 A32.out).mono ?_
          (case side1 => repeat (first | exact (Kd.R_reads' HO421.out).2.2 | (with_reducible refine Kd.C_alloc ?_ _) | (with_reducible refine Kd.C_drewN ?_ _) | (with_reducible refine Kd.C_drew ?_)))
          (case side2 => exact (Kd.R_reads' HO421.out).2.1)
          rintro e w100 ⟨v425, rfl, ho0, hb⟩
          refine ⟨_, rfl, ?_⟩
          have HO426 := Aside0.mk (Kd.R_lower (Kd.R_new' (Kd.R_new' (Kd.R_new' ho0 (Kd.R_lt (rI HO384.out))) (Kd.R_lt (rI HO399.out))) (Kd.R_lt (rI HO421.out))) (below_size (bI HB.out)))
          replace HO384 := Aside0.mk (Kd.R_elder' (rI HO384.out) (Kd.R_base ho0) hb)
          replace HO399 := Aside0.mk (Kd.R_elder' (rI HO399.out) (Kd.R_base ho0) hb)
          replace HO421 := Aside0.mk (Kd.R_elder' (rI HO421.out) (Kd.R_base ho0) hb)
          replace BK370 := bk BK370 hb
          replace BK371 := bk BK371 hb
          replace BK386 := bk BK386 hb
          replace BK392 := bk BK392 hb
          replace BK401 := bk BK401 hb
          replace BK428 := bk BK428 hb
          replace HB := bs HB hb
          (try clear hb)
          (try clear hb2)
          (try clear hk)
          (try clear hi)
          (try clear ho0)
          refine hK.out _ _ ⟨bc0 BK370.out, bc1 BK370.out, bc0 BK371.out, bc1 BK371.out, bc2 BK371.out⟩ (fun hHeld => ?_)
          clear hK K
          refine nA (some 84) ?_
          refine pA 5 (some 79) (bz 11 319) HT_ ?_
          refine pA 6 (some 85) (bz 11 383) HT_ ?_
          refine pA 7 (some 86) (bz 11 511) HT_ ?_
          exact norm_ y0_5 (hCont (.slice Ao99 t419.length co99, v425, gb428) _ ⟨hHeld, (rI (Kd.R_mono HO384.out (fun _ hk => ⟨hk.1.1, ⟨hk.1.2, hk.2⟩⟩))), (rI (Kd.R_mono HO399.out (fun _ hk => ⟨hk.1.1, ⟨hk.1.2, hk.2⟩⟩))), (rI (Kd.R_mono HO421.out (fun _ hk => ⟨hk.1.1.2, ⟨hk.1.2, hk.2⟩⟩))), (rI (Kd.R_mono HO426.out (fun _ hk => ⟨hk.1.1.2, ⟨hk.1.2, hk.2⟩⟩))), (kI BK370.out), (kI BK371.out), (kI BK386.out), (kI BK392.out), (kI BK401.out), (kI BK428.out), GW428.out, GE428.out, NB370_428.out, NB428_370.out, NB371_428.out, NB428_371.out, NB386_428.out, NB428_386.out, NB392_428.out, NB428_392.out, NB401_428.out, NB428_401.out, (bI HB.out)⟩)
      rintro ⟨v420, v425, gb428⟩ w101 ⟨hS_, h0_, h1_, h2_, h3_, h4_, h5_, h6_, h7_, h8_, h9_, h10_, h11_, h12_, h13_, h14_, h15_, h16_, h17_, h18_, h19_, h20_, h21_, h22_⟩
      have n0_ : Aside0 (Kd.R (Kd.int .i64) 3 w101 w.heap.size (fun k_ => some k_ ≠ (.slice Ao72 t397.length co72 : Value).ownBlock ∧ some k_ ≠ (v420 : Value).ownBlock ∧ some k_ ≠ (v425 : Value).ownBlock) (.slice Ao53 t382.length co53) t382) := ⟨h0_⟩
      have n1_ : Aside0 (Kd.R (Kd.int .i64) 3 w101 w.heap.size (fun k_ => some k_ ≠ (.slice Ao53 t382.length co53 : Value).ownBlock ∧ some k_ ≠ (v420 : Value).ownBlock ∧ some k_ ≠ (v425 : Value).ownBlock) (.slice Ao72 t397.length co72) t413) := ⟨h1_⟩
      have n2_ : Aside0 (Kd.R (Kd.int .i64) 3 w101 w.heap.size (fun k_ => some k_ ≠ (.slice Ao53 t382.length co53 : Value).ownBlock ∧ some k_ ≠ (.slice Ao72 t397.length co72 : Value).ownBlock ∧ some k_ ≠ (v425 : Value).ownBlock) v420 t419) := ⟨h2_⟩
      have n3_ : Aside0 (Kd.R (Kd.int .i64) 3 w101 w.heap.size (fun k_ => some k_ ≠ (.slice Ao53 t382.length co53 : Value).ownBlock ∧ some k_ ≠ (.slice Ao72 t397.length co72 : Value).ownBlock ∧ some k_ ≠ (v420 : Value).ownBlock) v425 t424) := ⟨h3_⟩
      have n4_ : Aside0 (w101.heap[gb370]? = some (.cells #[.int .i64 a0_0, .int .i64 a0_1] 26 (0, 0))) := ⟨h4_⟩
      have n5_ : Aside0 (w101.heap[gb371]? = some (.cells #[.int .i64 a1_0, .string a1_1, .slice A1_2 l1_2.length c1_2] 29 (0, 0))) := ⟨h5_⟩
      have n6_ : Aside0 (w101.heap[gb386]? = some (.cells #[.int .i64 t380, .string t381, .slice Ao53 t382.length co53] 41 (0, 0))) := ⟨h6_⟩
      have n7_ : Aside0 (w101.heap[gb392]? = some (.cells #[.int .i64 t387, .string t388, .slice Ao63 t389.length co63] 34 (0, 0))) := ⟨h7_⟩
      have n8_ : Aside0 (w101.heap[gb401]? = some (.cells #[.int .i64 t395, .string t396, .slice Ao72 t397.length co72] 41 (0, 0))) := ⟨h8_⟩
      have n9_ : Aside0 (w101.heap[gb428]? = some (.cells #[.int .i64 0, .string (⟨#[]⟩ : ByteArray), .slice none 0 0] 41 (0, 0))) := ⟨h9_⟩
      have n10_ : Aside0 (w.heap.size ≤ gb428) := ⟨h10_⟩
      have n11_ : Aside0 (w.heap.size ≤ gb428) := ⟨h11_⟩
      have n12_ : Aside0 (gb370 ≠ gb428) := ⟨h12_⟩
      have n13_ : Aside0 (gb428 ≠ gb370) := ⟨h13_⟩
      have n14_ : Aside0 (gb371 ≠ gb428) := ⟨h14_⟩
      have n15_ : Aside0 (gb428 ≠ gb371) := ⟨h15_⟩
      have n16_ : Aside0 (gb386 ≠ gb428) := ⟨h16_⟩
      have n17_ : Aside0 (gb428 ≠ gb386) := ⟨h17_⟩
      have n18_ : Aside0 (gb392 ≠ gb428) := ⟨h18_⟩
      have n19_ : Aside0 (gb428 ≠ gb392) := ⟨h19_⟩
      have n20_ : Aside0 (gb401 ≠ gb428) := ⟨h20_⟩
      have n21_ : Aside0 (gb428 ≠ gb401) := ⟨h21_⟩
      have n22_ : Aside0 (Below w.heap.size w w101) := ⟨h22_⟩
      clear HO384
      clear HO399
      clear BK370
      clear BK371
      clear BK386
      clear BK392
      clear BK401
      clear HB
      clear h0_ h1_ h2_ h3_ h4_ h5_ h6_ h7_ h8_ h9_ h10_ h11_ h12_ h13_ h14_ h15_ h16_ h17_ h18_ h19_ h20_ h21_ h22_
      have HO384 := n0_
      have HO399 := n1_
      have HO421 := n2_
      have HO426 := n3_
      have BK370 := n4_
      have BK371 := n5_
      have BK386 := n6_
      have BK392 := n7_
      have BK401 := n8_
      have BK428 := n9_
      have GW428 := n10_
      have GJ428 := gi GW428
      have GE428 := n11_
      have GI428 := gi GE428
      have NB370_428 := n12_
      have NI370_428 := ni NB370_428
      have NB428_370 := n13_
      have NI428_370 := ni NB428_370
      have NB371_428 := n14_
      have NI371_428 := ni NB371_428
      have NB428_371 := n15_
      have NI428_371 := ni NB428_371
      have NB386_428 := n16_
      have NI386_428 := ni NB386_428
      have NB428_386 := n17_
      have NI428_386 := ni NB428_386
      have NB392_428 := n18_
      have NI392_428 := ni NB392_428
      have NB428_392 := n19_
      have NI428_392 := ni NB428_392
      have NB401_428 := n20_
      have NI401_428 := ni NB401_428
      have NB428_401 := n21_
      have NI428_401 := ni NB428_401
      have HB := n22_
      clear n0_ n1_ n2_ n3_ n4_ n5_ n6_ n7_ n8_ n9_ n10_ n11_ n12_ n13_ n14_ n15_ n16_ n17_ n18_ n19_ n20_ n21_ n22_
      have hHeld : w101.cell? ⟨gb370, 0, none⟩ = some (.int .i64 a0_0) ∧ w101.cell? ⟨gb370, 1, none⟩ = some (.int .i64 a0_1) ∧ w101.cell? ⟨gb371, 0, none⟩ = some (.int .i64 a1_0) ∧ w101.cell? ⟨gb371, 1, none⟩ = some (.string a1_1) ∧ w101.cell? ⟨gb371, 2, none⟩ = some (.slice A1_2 l1_2.length c1_2) := hS_
      obtain ⟨Ao104, co104, eo104⟩ := Kd.R_slice HO426.out
      (first | subst eo104 | (injection eo104 with f1_ f2_ f3_; have f4_ := f1_.symm; have f5_ := f3_.symm; clear f1_ f2_ f3_; subst f4_; subst f5_))
      refine norm_ (a' := ?_) ?_ ?_
      rotate_left
      · simp only [putAll, Act.put, List.setIfInBounds_toArray, List.set_cons_zero, List.set_cons_succ]
        rfl
      refine oA 9 none (bz 11 1023) HT_ (fun K hK => ?_)
      have hs102 : w101.cell? ⟨gb428, 0, none⟩ = some (.int .i64 0) := bc0 BK428.out
      have hfs102 := blk_frozen BK428.out 0
      have hns102_0 := NB370_428.out
      have hns102_1 := NB371_428.out
      have hns102_2 := NB386_428.out
      have hns102_3 := NB392_428.out
      have hns102_4 := NB401_428.out
      have hms102_0 := NB428_370.out
      have hms102_1 := NB428_371.out
      have hms102_2 := NB428_386.out
      have hms102_3 := NB428_392.out
      have hms102_4 := NB428_401.out
      have hs103 : w101.cell? ⟨gb428, 1, none⟩ = some (.string (⟨#[]⟩ : ByteArray)) := bc1 BK428.out
      have hfs103 := blk_frozen BK428.out 1
      have hns103_0 := NB370_428.out
      have hns103_1 := NB371_428.out
      have hns103_2 := NB386_428.out
      have hns103_3 := NB392_428.out
      have hns103_4 := NB401_428.out
      have hms103_0 := NB428_370.out
      have hms103_1 := NB428_371.out
      have hms103_2 := NB428_386.out
      have hms103_3 := NB428_392.out
      have hms103_4 := NB428_401.out
      have hs105 : w101.cell? ⟨gb428, 2, none⟩ = some (.slice none 0 0) := bc2 BK428.out
      have hfs105 := blk_frozen BK428.out 2
      have hns105_0 := NB370_428.out
      have hns105_1 := NB371_428.out
      have hns105_2 := NB386_428.out
      have hns105_3 := NB392_428.out
      have hns105_4 := NB401_428.out
      have hms105_0 := NB428_370.out
      have hms105_1 := NB428_371.out
      have hms105_2 := NB428_386.out
      have hms105_3 := NB428_392.out
      have hms105_4 := NB428_401.out
      refine skip_ (w1 := ?_) (by rfl) rfl ?_ ?_
      rotate_left
      · go_simp
        rfl
      refine hK.out _ _ ⟨((cell_far (p := ⟨gb428, _, none⟩) NB370_428.out _).trans (((cell_far (p := ⟨gb428, _, none⟩) NB370_428.out _).trans (((cell_far (p := ⟨gb428, _, none⟩) NB370_428.out _).trans (hHeld.1)))))), ((cell_far (p := ⟨gb428, _, none⟩) NB370_428.out _).trans (((cell_far (p := ⟨gb428, _, none⟩) NB370_428.out _).trans (((cell_far (p := ⟨gb428, _, none⟩) NB370_428.out _).trans (hHeld.2.1)))))), ((cell_far (p := ⟨gb428, _, none⟩) NB371_428.out _).trans (((cell_far (p := ⟨gb428, _, none⟩) NB371_428.out _).trans (((cell_far (p := ⟨gb428, _, none⟩) NB371_428.out _).trans (hHeld.2.2.1)))))), ((cell_far (p := ⟨gb428, _, none⟩) NB371_428.out _).trans (((cell_far (p := ⟨gb428, _, none⟩) NB371_428.out _).trans (((cell_far (p := ⟨gb428, _, none⟩) NB371_428.out _).trans (hHeld.2.2.2.1)))))), ((cell_far (p := ⟨gb428, _, none⟩) NB371_428.out _).trans (((cell_far (p := ⟨gb428, _, none⟩) NB371_428.out _).trans (((cell_far (p := ⟨gb428, _, none⟩) NB371_428.out _).trans (hHeld.2.2.2.2))))))⟩ (fun hHeld => ?_)
      clear hK K
      refine pA 10 (some 15) (bz 11 2047) HT_ ?_
      refine done_ (done_of HT_.out (by kernel_rfl)) ?_
      have hnb106 := NB428_370.out
      have hnc106 := NB370_428.out
      have hnb107 := NB428_371.out
      have hnc107 := NB371_428.out
      have hnb108 := NB428_386.out
      have hnc108 := NB386_428.out
      have hnb109 := NB428_392.out
      have hnc109 := NB392_428.out
      have hnb110 := NB428_401.out
      have hnc110 := NB401_428.out
      have hcz111_0 := bc0 BK428.out
      have hcz111_1 := bc1 BK428.out
      have hcz111_2 := bc2 BK428.out
      have hfz111_0 := blk_frozen BK428.out 0
      have hfz111_1 := blk_frozen BK428.out 1
      have hfz111_2 := blk_frozen BK428.out 2
      have hcz112_0 := bc0 BK386.out
      have hcz112_1 := bc1 BK386.out
      have hcz112_2 := bc2 BK386.out
      have hfz112_0 := blk_frozen BK386.out 0
      have hfz112_1 := blk_frozen BK386.out 1
      have hfz112_2 := blk_frozen BK386.out 2
      try go_wp2_with (first | ((with_reducible refine gate_callee (f := 27) rfl ?_); refine gB (some 89) Tryd.func27 #[.agg #[.int .i64 t422, .string t423, .slice Ao104 t424.length co104], .agg #[.int .i64 t380, .string t381, .slice Ao53 t382.length co53]] ?_; (with_reducible refine (laws_eqQc.calls k t422 t423 _ _ t424 t380 t381 _ _ t382 true _ ?side1 ?side2 ?side3 ?side4 A33.out).mono ?_); (case side1 => refine (Kd.R_reads' (e := 3) (base := w.heap.size) (ok := fun k_ => (some k_ ≠ (.slice Ao53 t382.length co53 : Value).ownBlock ∧ (some k_ ≠ (.slice Ao72 t397.length co72 : Value).ownBlock ∧ some k_ ≠ (v420 : Value).ownBlock))) (n := t424.length) (c := co104) ?_).2.2; exact (rI (Kd.R_mono (Kd.R_far (p := ⟨gb428, 2, none⟩) (Kd.R_far (p := ⟨gb428, 1, none⟩) (Kd.R_far (p := ⟨gb428, 0, none⟩) (Kd.R_types HO426.out BK428.out (by decide)) (fun _ hk => hk.2) (.int .i64 t422)) (fun _ hk => hk.2) (.string t423)) (fun _ hk => hk.2) (.slice Ao104 t424.length co104)) (fun _ h_ => h_.1)))); (case side2 => exact (Kd.R_reads' HO426.out).2.1); (case side3 => refine (Kd.R_reads' (e := 3) (base := w.heap.size) (ok := fun k_ => (some k_ ≠ (.slice Ao72 t397.length co72 : Value).ownBlock ∧ (some k_ ≠ (v420 : Value).ownBlock ∧ some k_ ≠ (.slice Ao104 t424.length co104 : Value).ownBlock))) (n := t382.length) (c := co53) ?_).2.2; exact (rI (Kd.R_mono (Kd.R_far (p := ⟨gb428, 2, none⟩) (Kd.R_far (p := ⟨gb428, 1, none⟩) (Kd.R_far (p := ⟨gb428, 0, none⟩) (Kd.R_types HO384.out BK428.out (by decide)) (fun _ hk => hk.2) (.int .i64 t422)) (fun _ hk => hk.2) (.string t423)) (fun _ hk => hk.2) (.slice Ao104 t424.length co104)) (fun _ h_ => h_.1)))); (case side4 => exact (Kd.R_reads' HO384.out).2.1); rintro e w113 ⟨rfl, hb⟩; refine ⟨_, rfl, ?_⟩; replace HO384 := Aside0.mk (Kd.R_below (rI (Kd.R_mono (Kd.R_far (p := ⟨gb428, 2, none⟩) (Kd.R_far (p := ⟨gb428, 1, none⟩) (Kd.R_far (p := ⟨gb428, 0, none⟩) (Kd.R_types HO384.out BK428.out (by decide)) (fun _ hk => hk.2) (.int .i64 t422)) (fun _ hk => hk.2) (.string t423)) (fun _ hk => hk.2) (.slice Ao104 t424.length co104)) (fun _ h_ => h_.1))) hb); replace HO399 := Aside0.mk (Kd.R_below (rI (Kd.R_mono (Kd.R_far (p := ⟨gb428, 2, none⟩) (Kd.R_far (p := ⟨gb428, 1, none⟩) (Kd.R_far (p := ⟨gb428, 0, none⟩) (Kd.R_types HO399.out BK428.out (by decide)) (fun _ hk => hk.2) (.int .i64 t422)) (fun _ hk => hk.2) (.string t423)) (fun _ hk => hk.2) (.slice Ao104 t424.length co104)) (fun _ h_ => h_.1))) hb); replace HO421 := Aside0.mk (Kd.R_below (rI (Kd.R_mono (Kd.R_far (p := ⟨gb428, 2, none⟩) (Kd.R_far (p := ⟨gb428, 1, none⟩) (Kd.R_far (p := ⟨gb428, 0, none⟩) (Kd.R_types HO421.out BK428.out (by decide)) (fun _ hk => hk.2) (.int .i64 t422)) (fun _ hk => hk.2) (.string t423)) (fun _ hk => hk.2) (.slice Ao104 t424.length co104)) (fun _ h_ => h_.1))) hb); replace HO426 := Aside0.mk (Kd.R_below (rI (Kd.R_mono (Kd.R_far (p := ⟨gb428, 2, none⟩) (Kd.R_far (p := ⟨gb428, 1, none⟩) (Kd.R_far (p := ⟨gb428, 0, none⟩) (Kd.R_types HO426.out BK428.out (by decide)) (fun _ hk => hk.2) (.int .i64 t422)) (fun _ hk => hk.2) (.string t423)) (fun _ hk => hk.2) (.slice Ao104 t424.length co104)) (fun _ h_ => h_.1))) hb); replace BK370 := Aside0.mk (blk_below (g := gb370) (o := .cells #[.int .i64 a0_0, .int .i64 a0_1] 26 (0, 0)) (gI BK370.out) hb); replace BK371 := Aside0.mk (blk_below (g := gb371) (o := .cells #[.int .i64 a1_0, .string a1_1, .slice A1_2 l1_2.length c1_2] 29 (0, 0)) (gI BK371.out) hb); replace BK386 := Aside0.mk (blk_below (g := gb386) (o := .cells #[.int .i64 t380, .string t381, .slice Ao53 t382.length co53] 41 (0, 0)) (gI BK386.out) hb); replace BK392 := Aside0.mk (blk_below (g := gb392) (o := .cells #[.int .i64 t387, .string t388, .slice Ao63 t389.length co63] 34 (0, 0)) (gI BK392.out) hb); replace BK401 := Aside0.mk (blk_below (g := gb401) (o := .cells #[.int .i64 t395, .string t396, .slice Ao72 t397.length co72] 41 (0, 0)) (gI BK401.out) hb); replace BK428 := bp BK428 hb #[.int .i64 t422, .string t423, .slice Ao104 t424.length co104]; replace HB := bs HB hb; (try clear hb); (try clear hb2); (try clear hk); (try clear hi); obtain ⟨hcz114_0, hcz114_1, hcz114_2, hfz114_0, hfz114_1, hfz114_2⟩ := cs3 BK401; clear HO384; clear HO421; clear HO426; have n_ := Aside0.mk (Kd.R_mono (ok' := (fun _ => True)) HO399.out (fun k_ hk => trivial)); clear HO399; have HO399 := n_; clear n_) | ((with_reducible refine gate_callee (f := 42) rfl ?_); refine goesL_ (some 98) rfl rfl Tryd.func42 (by kernel_rfl) rfl #[.agg #[.int .i64 t395, .string t396, .slice Ao72 t413.length co72], .int .i64 1] rfl (by (try simp only [List.map_toArray, List.map_cons, List.map_nil]); first | done | (rw [show t413.length = t397.length from (Kd.R_reads' HO399.out).1.symm] <;> rfl) | rfl | (simp only [List.length_drop, List.length_take]; rfl)) ?_; (with_reducible refine (laws_heldQc.calls k t395 t396 _ _ t413 1 t430 _ ?side1 ?side2 A36.out).mono ?_); (case side1 => repeat (first | exact (Kd.R_reads' HO399.out).2.2 | (with_reducible refine Kd.C_alloc ?_ _) | (with_reducible refine Kd.C_drewN ?_ _) | (with_reducible refine Kd.C_drew ?_))); (case side2 => rw [show t413.length = t397.length from (Kd.R_reads' HO399.out).1.symm]; exact (Kd.R_reads' HO399.out).2.1); rintro e w115 ⟨rfl, hb⟩; refine ⟨_, rfl, ?_⟩; replace HO399 := rb HO399 hb; replace BK370 := bk BK370 hb; replace BK371 := bk BK371 hb; replace BK386 := bk BK386 hb; replace BK392 := bk BK392 hb; replace BK401 := bk BK401 hb; replace BK428 := bk BK428 hb; replace HB := bs HB hb; (try clear hb); (try clear hb2); (try clear hk); (try clear hi)))
      go_ret
      exact ⟨y0_6, bI HB.out⟩
    · replace c17 := Bool.eq_false_iff.mpr c17
      subst c17
      rw [if_neg (show ¬ (false = true) by decide)] at H
      exact absurd (hrt.out.symm.trans (Option.some.inj H).symm) (by decide)

end Go.Proofs.YtcmldmlmhpfjhaaDoor.PFnExactPartQc
