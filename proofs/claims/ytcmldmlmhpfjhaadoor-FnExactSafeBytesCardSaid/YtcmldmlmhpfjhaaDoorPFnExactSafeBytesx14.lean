-- By a program of this session, out of the translation (the print of the kit, with turns of its own). Lean checks it.
import Derived.Test.YtcmldmlmhpfjhaaDoorPFnExactSafeBytesx0
import Derived.Test.YtcmldmlmhpfjhaaDoorPFnExactSafeBytesx1
import Derived.Test.YtcmldmlmhpfjhaaDoorPFnExactSafeBytesx2
import Derived.Test.YtcmldmlmhpfjhaaDoorPFnExactSafeBytesx7
import Derived.Test.YtcmldmlmhpfjhaaDoorPFnExactSafeBytesx13
namespace Go.Proofs.YtcmldmlmhpfjhaaDoor.PFnExactSafeBytes
open Go.RowKit Go.Proofs.YtcmldmlmhpfjhaaDoorW.PrintWords Go.Proofs.YtcmldmlmhpfjhaaDoorW.PrintLast Go.Proofs.YtcmldmlmhpfjhaaDoorW.PrintMore
attribute [local go_sem] max2_int min2_int max_two min_two max_three min_three max_four min_four   -- for this text's walks alone
set_option linter.unusedVariables false
set_option linter.unusedSimpArgs false

/-! ### laws_FnExactSafeBytes: function 13 -/
def laws_FnExactSafeBytes.f (k : Nat) (a0_0 : Int) (a0_1 : Int) (a1_0 : Int) (a1_1 : Int) (a1_2 : Int) (a1_3 : ByteArray) (l1_4 : List Int) (a1_5 : ByteArray) : Option (Bool) := (laws_szSafe.f a1_0 a1_1 a1_2 a1_3 l1_4 a1_5 1048576).bind fun t496 => (if t496 < 0 then (some true) else ((laws_toConf.f a0_0 a0_1).bind fun bt497 => ((laws_toSafe.f k a1_0 a1_1 a1_2 a1_3 l1_4 a1_5).bind fun bt499 => ((spec_SafeBytes.f k bt497.1 bt497.2 bt499.1 bt499.2.1 bt499.2.2.1 bt499.2.2.2.1 bt499.2.2.2.2.1 bt499.2.2.2.2.2).bind fun t507 => ((laws_toSafe.f k a1_0 a1_1 a1_2 a1_3 l1_4 a1_5).bind fun bt510 => ((laws_toConf.f a0_0 a0_1).bind fun bt519 => ((impl_SafeBytes.f k bt519.1 bt519.2 bt510.1 bt510.2.1 bt510.2.2.1 bt510.2.2.2.1 bt510.2.2.2.2.1 bt510.2.2.2.2.2).bind fun t521 => ((laws_eqByteS.f k t521 t507).bind fun t524 => (if t524 = true then ((laws_toSafe.f k a1_0 a1_1 a1_2 a1_3 l1_4 a1_5).bind fun bt525 => ((laws_eqSafe.f k bt510.1 bt510.2.1 bt510.2.2.1 bt510.2.2.2.1 bt510.2.2.2.2.1 bt510.2.2.2.2.2 bt525.1 bt525.2.1 bt525.2.2.1 bt525.2.2.2.1 bt525.2.2.2.2.1 bt525.2.2.2.2.2).bind fun t533 => (if t533 = true then ((laws_markSafe.f k bt510.1 bt510.2.1 bt510.2.2.1 bt510.2.2.2.1 bt510.2.2.2.2.1 bt510.2.2.2.2.2 1).bind fun bt534 => (if bt534.1 < 0 then (some false) else ((laws_eqByteS.f k t521 t507).bind fun t536 => (if t536 = true then ((laws_markByteS.f k t521 1).bind fun bt537 => ((laws_heldByteS.f k bt537.2 1).bind fun t539 => (if t539 < 0 then (some false) else (if t539 = bt537.1 then ((laws_toConf.f a0_0 a0_1).bind fun bt540 => ((laws_toSafe.f k a1_0 a1_1 a1_2 a1_3 l1_4 a1_5).bind fun bt542 => ((impl_SafeBytes.f k bt540.1 bt540.2 bt542.1 bt542.2.1 bt542.2.2.1 bt542.2.2.2.1 bt542.2.2.2.2.1 bt542.2.2.2.2.2).bind fun t550 => ((laws_eqByteS.f k t550 t507).bind fun t553 => (if t553 = true then ((laws_heldByteS.f k bt537.2 1).bind fun t554 => (if t554 < 0 then (some false) else (if t554 = bt537.1 then (some true) else (some false)))) else (some false)))))) else (some false))))) else (some false))))) else (some false)))) else (some false))))))))))
theorem laws_FnExactSafeBytes.mono : ∀ a0 a1 a2 a3 a4 a5 a6 a7 k, LeO (laws_FnExactSafeBytes.f k a0 a1 a2 a3 a4 a5 a6 a7) (laws_FnExactSafeBytes.f (k + 1) a0 a1 a2 a3 a4 a5 a6 a7) := by
  intro a0 a1 a2 a3 a4 a5 a6 a7 k
  unfold laws_FnExactSafeBytes.f
  repeat' first
      | (with_reducible exact impl_SafeBytes.mono _ _ _ _ _ _ _ _ _)
      | (with_reducible exact laws_eqByteS.mono _ _ _)
      | (with_reducible exact laws_eqSafe.mono _ _ _ _ _ _ _ _ _ _ _ _ _)
      | (with_reducible exact laws_heldByteS.mono _ _ _)
      | (with_reducible exact laws_markByteS.mono _ _ _)
      | (with_reducible exact laws_markSafe.mono _ _ _ _ _ _ _ _)
      | (with_reducible exact laws_toSafe.mono _ _ _ _ _ _ _)
      | (with_reducible exact spec_SafeBytes.mono _ _ _ _ _ _ _ _ _)
      | (with_reducible exact LeO.refl _)
      | (with_reducible exact LeO.none _)
      | (with_reducible refine LeO.ite ?_ ?_)
      | (with_reducible refine LeO.bind ?_ (fun _ => ?_))
      | exact impl_SafeBytes.mono _ _ _ _ _ _ _ _ _
      | exact laws_eqByteS.mono _ _ _
      | exact laws_eqSafe.mono _ _ _ _ _ _ _ _ _ _ _ _ _
      | exact laws_heldByteS.mono _ _ _
      | exact laws_markByteS.mono _ _ _
      | exact laws_markSafe.mono _ _ _ _ _ _ _ _
      | exact laws_toSafe.mono _ _ _ _ _ _ _
      | exact spec_SafeBytes.mono _ _ _ _ _ _ _ _ _
      | exact LeO.none _
      | refine LeO.ite ?_ ?_
      | refine LeO.bind ?_ (fun _ => ?_)
set_option maxHeartbeats 8000000 in
set_option maxRecDepth 100000 in
theorem laws_FnExactSafeBytes.calls (k : Nat) (a0_0 : Int) (a0_1 : Int) (a1_0 : Int) (a1_1 : Int) (a1_2 : Int) (a1_3 : ByteArray) (A1_4 : Option Addr) (c1_4 : Nat) (l1_4 : List Int) (a1_5 : ByteArray) (r : Bool) (hrt : Aside0 (r = true)) (w : World) (hr1_4 : Kd.C (Kd.int .i64) w A1_4 l1_4.length l1_4) (hc1_4 : l1_4.length ≤ c1_4) (h : laws_FnExactSafeBytes.f k a0_0 a0_1 a1_0 a1_1 a1_2 a1_3 l1_4 a1_5 = some r) (hG : Glob w := by exact gG HG HB) :
    Calls Tryd.prog 13 #[.agg #[.int .i64 a0_0, .int .i64 a0_1], .agg #[.int .i64 a1_0, .int .i64 a1_1, .int .i64 a1_2, .string a1_3, .slice A1_4 l1_4.length c1_4, .string a1_5]] w fun e w' => e = .returned (.bool r) ∧ Below w.heap.size w w' := by
  have HG := Aside0.mk hG
  clear hG
  have hu26 := Tryd.underlying26
  have hu53 := Tryd.underlying53
  have hu57 := Tryd.underlying57
  have HR1_4 := Aside0.mk hr1_4
  have HC1_4 := Aside0.mk hc1_4
  clear hr1_4 hc1_4
  have HB := Aside0.mk (Below.refl w.heap.size w)
  have H : ((laws_szSafe.f a1_0 a1_1 a1_2 a1_3 l1_4 a1_5 1048576).bind fun t496 => (if t496 < 0 then (some true) else ((laws_toConf.f a0_0 a0_1).bind fun bt497 => ((laws_toSafe.f k a1_0 a1_1 a1_2 a1_3 l1_4 a1_5).bind fun bt499 => ((spec_SafeBytes.f k bt497.1 bt497.2 bt499.1 bt499.2.1 bt499.2.2.1 bt499.2.2.2.1 bt499.2.2.2.2.1 bt499.2.2.2.2.2).bind fun t507 => ((laws_toSafe.f k a1_0 a1_1 a1_2 a1_3 l1_4 a1_5).bind fun bt510 => ((laws_toConf.f a0_0 a0_1).bind fun bt519 => ((impl_SafeBytes.f k bt519.1 bt519.2 bt510.1 bt510.2.1 bt510.2.2.1 bt510.2.2.2.1 bt510.2.2.2.2.1 bt510.2.2.2.2.2).bind fun t521 => ((laws_eqByteS.f k t521 t507).bind fun t524 => (if t524 = true then ((laws_toSafe.f k a1_0 a1_1 a1_2 a1_3 l1_4 a1_5).bind fun bt525 => ((laws_eqSafe.f k bt510.1 bt510.2.1 bt510.2.2.1 bt510.2.2.2.1 bt510.2.2.2.2.1 bt510.2.2.2.2.2 bt525.1 bt525.2.1 bt525.2.2.1 bt525.2.2.2.1 bt525.2.2.2.2.1 bt525.2.2.2.2.2).bind fun t533 => (if t533 = true then ((laws_markSafe.f k bt510.1 bt510.2.1 bt510.2.2.1 bt510.2.2.2.1 bt510.2.2.2.2.1 bt510.2.2.2.2.2 1).bind fun bt534 => (if bt534.1 < 0 then (some false) else ((laws_eqByteS.f k t521 t507).bind fun t536 => (if t536 = true then ((laws_markByteS.f k t521 1).bind fun bt537 => ((laws_heldByteS.f k bt537.2 1).bind fun t539 => (if t539 < 0 then (some false) else (if t539 = bt537.1 then ((laws_toConf.f a0_0 a0_1).bind fun bt540 => ((laws_toSafe.f k a1_0 a1_1 a1_2 a1_3 l1_4 a1_5).bind fun bt542 => ((impl_SafeBytes.f k bt540.1 bt540.2 bt542.1 bt542.2.1 bt542.2.2.1 bt542.2.2.2.1 bt542.2.2.2.2.1 bt542.2.2.2.2.2).bind fun t550 => ((laws_eqByteS.f k t550 t507).bind fun t553 => (if t553 = true then ((laws_heldByteS.f k bt537.2 1).bind fun t554 => (if t554 < 0 then (some false) else (if t554 = bt537.1 then (some true) else (some false)))) else (some false)))))) else (some false))))) else (some false))))) else (some false)))) else (some false))))))))))) = some r := h
  clear h
  obtain ⟨t496, A30, H⟩ := Option.bind_eq_some_iff.mp H
  try dsimp only at H
  have A3 := Aside0.mk A30
  clear A30
  by_cases c4 : t496 < 0
  · rw [if_pos c4] at H
    have c4b0 : decide (t496 < 0) = true := decide_eq_true c4
    clear c4
    obtain rfl := Option.some.inj H
    go_enter Tryd.func13, Tryd.ntmps13
    go_wp2_with (first | ((with_reducible refine gd 2 ?_); refine bA 2 #[.int .i64 a0_0, .int .i64 a0_1] 26 ?_; intro gb494 hg w5 hbox hb; have BK494 := Aside0.mk (hbox); have GW494 := bg hg HB; have GJ494 := gi GW494; have GE494 := GW494; replace HB := bs HB hb; clear hb hbox hg) | ((with_reducible refine gd 3 ?_); refine bA 3 #[.int .i64 a1_0, .int .i64 a1_1, .int .i64 a1_2, .string a1_3, .slice A1_4 l1_4.length c1_4, .string a1_5] 53 ?_; intro gb495 hg w6 hbox hb; have BK495 := Aside0.mk (hbox); have GW495 := bg hg HB; have GJ495 := gi GW495; have GE495 := GW495; replace HB := bs HB hb; have NB494_495 := b1 BK494 hg; have NI494_495 := ni NB494_495; have NB495_494 := b2 BK494 hg; have NI495_494 := ni NB495_494; replace BK494 := bk BK494 hb; clear hb hbox hg; have hnb7 := NB495_494.out; have hnc7 := NB494_495.out; have hcz8_0 := bc0 BK495.out; have hcz8_1 := bc1 BK495.out; have hcz8_2 := bc2 BK495.out; have hcz8_3 := bc3 BK495.out; have hcz8_4 := bc4 BK495.out; have hcz8_5 := bc5 BK495.out; have hfz8_0 := blk_frozen BK495.out 0; have hfz8_1 := blk_frozen BK495.out 1; have hfz8_2 := blk_frozen BK495.out 2; have hfz8_3 := blk_frozen BK495.out 3; have hfz8_4 := blk_frozen BK495.out 4; have hfz8_5 := blk_frozen BK495.out 5) | ((with_reducible refine gate_callee (f := 33) rfl ?_); refine gB (some 15) Tryd.func33 #[.agg #[.int .i64 a1_0, .int .i64 a1_1, .int .i64 a1_2, .string a1_3, .slice A1_4 l1_4.length c1_4, .string a1_5], .int .i64 1048576] ?_; (with_reducible refine (laws_szSafe.calls a1_0 a1_1 a1_2 a1_3 _ _ l1_4 a1_5 1048576 t496 _ ?side1 ?side2 A3.out).mono ?_); (case side1 => exact ch HR1_4 HB); (case side2 => exact HC1_4.out); rintro e w9 ⟨rfl, hb⟩; refine ⟨_, rfl, ?_⟩; replace BK494 := bk BK494 hb; replace BK495 := bk BK495 hb; replace HB := bs HB hb; (try clear hb); (try clear hb2); (try clear hk); (try clear hi)))
    go_ret
    exact ⟨y0_7, bI HB.out⟩
  · rw [if_neg c4] at H
    have c4b0 : decide (t496 < 0) = false := decide_eq_false c4
    clear c4
    obtain ⟨⟨t497, t498⟩, A100, H⟩ := Option.bind_eq_some_iff.mp H
    try dsimp only at H
    have A10 := Aside0.mk A100
    clear A100
    obtain ⟨⟨t499, t500, t501, t502, t503, t506⟩, A110, H⟩ := Option.bind_eq_some_iff.mp H
    try dsimp only at H
    have A11 := Aside0.mk A110
    clear A110
    obtain ⟨t507, A120, H⟩ := Option.bind_eq_some_iff.mp H
    try dsimp only at H
    have A12 := Aside0.mk A120
    clear A120
    obtain ⟨⟨t510, t511, t512, t513, t514, t517⟩, A130, H⟩ := Option.bind_eq_some_iff.mp H
    try dsimp only at H
    have A13 := Aside0.mk A130
    clear A130
    obtain ⟨⟨t519, t520⟩, A140, H⟩ := Option.bind_eq_some_iff.mp H
    try dsimp only at H
    have A14 := Aside0.mk A140
    clear A140
    obtain ⟨t521, A150, H⟩ := Option.bind_eq_some_iff.mp H
    try dsimp only at H
    have A15 := Aside0.mk A150
    clear A150
    obtain ⟨t524, A160, H⟩ := Option.bind_eq_some_iff.mp H
    try dsimp only at H
    have A16 := Aside0.mk A160
    clear A160
    by_cases c17 : t524 = true
    · subst c17
      rw [if_pos rfl] at H
      obtain ⟨⟨t525, t526, t527, t528, t529, t532⟩, A180, H⟩ := Option.bind_eq_some_iff.mp H
      try dsimp only at H
      have A18 := Aside0.mk A180
      clear A180
      obtain ⟨t533, A190, H⟩ := Option.bind_eq_some_iff.mp H
      try dsimp only at H
      have A19 := Aside0.mk A190
      clear A190
      by_cases c20 : t533 = true
      rotate_left
      · replace c20 := Bool.eq_false_iff.mpr c20
        subst c20
        rw [if_neg (show ¬ (false = true) by decide)] at H
        exact absurd (hrt.out.symm.trans (Option.some.inj H).symm) (by decide)
      subst c20
      rw [if_pos rfl] at H
      obtain ⟨⟨t534, t535⟩, A210, H⟩ := Option.bind_eq_some_iff.mp H
      try dsimp only at H
      have A21 := Aside0.mk A210
      clear A210
      by_cases c22 : t534 < 0
      · rw [if_pos c22] at H
        have c22b0 : decide (t534 < 0) = true := decide_eq_true c22
        clear c22
        exact absurd (hrt.out.symm.trans (Option.some.inj H).symm) (by decide)
      rw [if_neg c22] at H
      have c22b0 : decide (t534 < 0) = false := decide_eq_false c22
      clear c22
      obtain ⟨t536, A230, H⟩ := Option.bind_eq_some_iff.mp H
      try dsimp only at H
      have A23 := Aside0.mk A230
      clear A230
      by_cases c24 : t536 = true
      rotate_left
      · replace c24 := Bool.eq_false_iff.mpr c24
        subst c24
        rw [if_neg (show ¬ (false = true) by decide)] at H
        exact absurd (hrt.out.symm.trans (Option.some.inj H).symm) (by decide)
      subst c24
      rw [if_pos rfl] at H
      obtain ⟨⟨t537, t538⟩, A250, H⟩ := Option.bind_eq_some_iff.mp H
      try dsimp only at H
      have A25 := Aside0.mk A250
      clear A250
      obtain ⟨t539, A260, H⟩ := Option.bind_eq_some_iff.mp H
      try dsimp only at H
      have A26 := Aside0.mk A260
      clear A260
      by_cases c27 : t539 < 0
      · rw [if_pos c27] at H
        have c27b0 : decide (t539 < 0) = true := decide_eq_true c27
        clear c27
        exact absurd (hrt.out.symm.trans (Option.some.inj H).symm) (by decide)
      rw [if_neg c27] at H
      have c27b0 : decide (t539 < 0) = false := decide_eq_false c27
      clear c27
      by_cases c28 : t539 = t537
      rotate_left
      · rw [if_neg c28] at H
        have c28b0 : (t539 == t537) = false := beq_eq_false_iff_ne.mpr c28
        have c28b1 : (t539 != t537) = true := bne_iff_ne.mpr c28
        exact absurd (hrt.out.symm.trans (Option.some.inj H).symm) (by decide)
      rw [if_pos c28] at H
      have c28b0 : (t539 == t537) = true := beq_iff_eq.mpr c28
      have c28b1 : (t539 != t537) = false := bne_eq_false_iff_eq.mpr c28
      clear c28
      obtain ⟨⟨t540, t541⟩, A290, H⟩ := Option.bind_eq_some_iff.mp H
      try dsimp only at H
      have A29 := Aside0.mk A290
      clear A290
      obtain ⟨⟨t542, t543, t544, t545, t546, t549⟩, A300, H⟩ := Option.bind_eq_some_iff.mp H
      try dsimp only at H
      have A30 := Aside0.mk A300
      clear A300
      obtain ⟨t550, A310, H⟩ := Option.bind_eq_some_iff.mp H
      try dsimp only at H
      have A31 := Aside0.mk A310
      clear A310
      obtain ⟨t553, A320, H⟩ := Option.bind_eq_some_iff.mp H
      try dsimp only at H
      have A32 := Aside0.mk A320
      clear A320
      by_cases c33 : t553 = true
      rotate_left
      · replace c33 := Bool.eq_false_iff.mpr c33
        subst c33
        rw [if_neg (show ¬ (false = true) by decide)] at H
        exact absurd (hrt.out.symm.trans (Option.some.inj H).symm) (by decide)
      subst c33
      rw [if_pos rfl] at H
      obtain ⟨t554, A340, H⟩ := Option.bind_eq_some_iff.mp H
      try dsimp only at H
      have A34 := Aside0.mk A340
      clear A340
      by_cases c35 : t554 < 0
      · rw [if_pos c35] at H
        have c35b0 : decide (t554 < 0) = true := decide_eq_true c35
        clear c35
        exact absurd (hrt.out.symm.trans (Option.some.inj H).symm) (by decide)
      rw [if_neg c35] at H
      have c35b0 : decide (t554 < 0) = false := decide_eq_false c35
      clear c35
      by_cases c36 : t554 = t537
      rotate_left
      · rw [if_neg c36] at H
        have c36b0 : (t554 == t537) = false := beq_eq_false_iff_ne.mpr c36
        have c36b1 : (t554 != t537) = true := bne_iff_ne.mpr c36
        exact absurd (hrt.out.symm.trans (Option.some.inj H).symm) (by decide)
      rw [if_pos c36] at H
      have c36b0 : (t554 == t537) = true := beq_iff_eq.mpr c36
      have c36b1 : (t554 != t537) = false := bne_eq_false_iff_eq.mpr c36
      clear c36
      obtain rfl := Option.some.inj H
      go_enter Tryd.func13, Tryd.ntmps13
      try go_wp2_with (first | ((with_reducible refine gd 2 ?_); refine bA 2 #[.int .i64 a0_0, .int .i64 a0_1] 26 ?_; intro gb494 hg w37 hbox hb; have BK494 := Aside0.mk (hbox); have GW494 := bg hg HB; have GJ494 := gi GW494; have GE494 := GW494; replace HB := bs HB hb; clear hb hbox hg) | ((with_reducible refine gd 3 ?_); refine bA 3 #[.int .i64 a1_0, .int .i64 a1_1, .int .i64 a1_2, .string a1_3, .slice A1_4 l1_4.length c1_4, .string a1_5] 53 ?_; intro gb495 hg w38 hbox hb; have BK495 := Aside0.mk (hbox); have GW495 := bg hg HB; have GJ495 := gi GW495; have GE495 := GW495; replace HB := bs HB hb; have NB494_495 := b1 BK494 hg; have NI494_495 := ni NB494_495; have NB495_494 := b2 BK494 hg; have NI495_494 := ni NB495_494; replace BK494 := bk BK494 hb; clear hb hbox hg; have hnb39 := NB495_494.out; have hnc39 := NB494_495.out; have hcz40_0 := bc0 BK495.out; have hcz40_1 := bc1 BK495.out; have hcz40_2 := bc2 BK495.out; have hcz40_3 := bc3 BK495.out; have hcz40_4 := bc4 BK495.out; have hcz40_5 := bc5 BK495.out; have hfz40_0 := blk_frozen BK495.out 0; have hfz40_1 := blk_frozen BK495.out 1; have hfz40_2 := blk_frozen BK495.out 2; have hfz40_3 := blk_frozen BK495.out 3; have hfz40_4 := blk_frozen BK495.out 4; have hfz40_5 := blk_frozen BK495.out 5) | ((with_reducible refine gate_callee (f := 33) rfl ?_); refine gB (some 15) Tryd.func33 #[.agg #[.int .i64 a1_0, .int .i64 a1_1, .int .i64 a1_2, .string a1_3, .slice A1_4 l1_4.length c1_4, .string a1_5], .int .i64 1048576] ?_; (with_reducible refine (laws_szSafe.calls a1_0 a1_1 a1_2 a1_3 _ _ l1_4 a1_5 1048576 t496 _ ?side1 ?side2 A3.out).mono ?_); (case side1 => exact ch HR1_4 HB); (case side2 => exact HC1_4.out); rintro e w41 ⟨rfl, hb⟩; refine ⟨_, rfl, ?_⟩; replace BK494 := bk BK494 hb; replace BK495 := bk BK495 hb; replace HB := bs HB hb; (try clear hb); (try clear hb2); (try clear hk); (try clear hi)))
      replace BK494 := Aside0.mk (blk_drew BK494.out)
      replace BK495 := Aside0.mk (blk_drew BK495.out)
      replace HB := Aside0.mk (below_drew1 HB.out)
      refine start_ (n := 6) (S := fun w' => w'.cell? ⟨gb494, 0, none⟩ = some (.int .i64 a0_0) ∧ w'.cell? ⟨gb494, 1, none⟩ = some (.int .i64 a0_1) ∧ w'.cell? ⟨gb495, 0, none⟩ = some (.int .i64 a1_0) ∧ w'.cell? ⟨gb495, 1, none⟩ = some (.int .i64 a1_1) ∧ w'.cell? ⟨gb495, 2, none⟩ = some (.int .i64 a1_2) ∧ w'.cell? ⟨gb495, 3, none⟩ = some (.string a1_3) ∧ w'.cell? ⟨gb495, 4, none⟩ = some (.slice A1_4 l1_4.length c1_4) ∧ w'.cell? ⟨gb495, 5, none⟩ = some (.string a1_5)) (ds := []) #[false, false, false, false, false, false] (by kernel_rfl) rfl rfl ⟨bc0 BK494.out, bc1 BK494.out, bc0 BK495.out, bc1 BK495.out, bc2 BK495.out, bc3 BK495.out, bc4 BK495.out, bc5 BK495.out⟩ (fun hHeld => ?_)
      generalize w41.drew = w42 at BK494 BK495 HB hHeld ⊢
      refine take_ (i := 0) (N := some 18) (v := ?_) (a' := ?_) #[true, false, false, false, false, false] rfl rfl (by kernel_rfl) (fun _ _ _ h => h) (Or.inl ⟨by rfl, ?_⟩) hHeld ?_ ?_
      rotate_left
      · rintro w' ⟨s0, s1, s2, s3, s4, s5, s6, s7⟩
        go_simp
        with_reducible rfl
      rotate_left
      · simp only [Act.put, List.setIfInBounds_toArray, List.set_cons_zero, List.set_cons_succ, i64_w, i32_w]
        rfl
      refine take_ (i := 2) (N := some 20) (v := ?_) (a' := ?_) #[true, false, true, false, false, false] rfl rfl (by kernel_rfl) (fun _ _ _ h => h) (Or.inl ⟨by rfl, ?_⟩) hHeld ?_ ?_
      rotate_left
      · rintro w' ⟨s0, s1, s2, s3, s4, s5, s6, s7⟩
        go_simp
        with_reducible rfl
      rotate_left
      · simp only [Act.put, List.setIfInBounds_toArray, List.set_cons_zero, List.set_cons_succ, i64_w, i32_w]
        rfl
      refine one_ (i := 1) (N := some 19) #[true, true, true, false, false, false] rfl rfl (by kernel_rfl) (by decide) (fun K hK => ?_)
      refine gA Tryd.func19 #[.agg #[.int .i64 a0_0, .int .i64 a0_1]] ?_
      with_reducible refine (laws_toConf.calls a0_0 a0_1 t497 t498 _ A10.out).mono ?_
      rintro e w43 ⟨rfl, hb⟩
      refine ⟨_, rfl, ?_⟩
      replace BK494 := bk BK494 hb
      replace BK495 := bk BK495 hb
      replace HB := bs HB hb
      (try clear hb)
      (try clear hb2)
      (try clear hk)
      (try clear hi)
      refine hK.out _ _ ⟨bc0 BK494.out, bc1 BK494.out, bc0 BK495.out, bc1 BK495.out, bc2 BK495.out, bc3 BK495.out, bc4 BK495.out, bc5 BK495.out⟩ (fun hHeld => ?_)
      clear hK K
      refine nA (some 19) ?_
      refine one_ (i := 3) (N := some 21) #[true, true, true, true, false, false] rfl rfl (by kernel_rfl) (by decide) (fun K hK => ?_)
      refine gA Tryd.func35 #[.agg #[.int .i64 a1_0, .int .i64 a1_1, .int .i64 a1_2, .string a1_3, .slice A1_4 l1_4.length c1_4, .string a1_5]] ?_
      with_reducible refine (laws_toSafe.calls k a1_0 a1_1 a1_2 a1_3 _ _ l1_4 a1_5 t499 t500 t501 t502 t503 t506 _ ?side1 ?side2 A11.out).mono ?_
      (case side1 => exact ch HR1_4 HB)
      (case side2 => exact HC1_4.out)
      rintro e w44 ⟨v504, rfl, ho0, hb⟩
      refine ⟨_, rfl, ?_⟩
      have HO505 := Aside0.mk (Kd.R_lower ho0 (below_size (bI HB.out)))
      replace BK494 := bk BK494 hb
      replace BK495 := bk BK495 hb
      replace HB := bs HB hb
      (try clear hb)
      (try clear hb2)
      (try clear hk)
      (try clear hi)
      (try clear ho0)
      obtain ⟨Ao45, co45, eo45⟩ := Kd.R_slice HO505.out
      (first | subst eo45 | (injection eo45 with f1_ f2_ f3_; have f4_ := f1_.symm; have f5_ := f3_.symm; clear f1_ f2_ f3_; subst f4_; subst f5_))
      refine hK.out _ _ ⟨bc0 BK494.out, bc1 BK494.out, bc0 BK495.out, bc1 BK495.out, bc2 BK495.out, bc3 BK495.out, bc4 BK495.out, bc5 BK495.out⟩ (fun hHeld => ?_)
      clear hK K
      refine nA (some 21) ?_
      refine one_ (i := 4) (N := some 22) #[true, true, true, true, true, false] rfl rfl (by kernel_rfl) (by decide) (fun K hK => ?_)
      refine gA Tryd.func59 #[.agg #[.int .i64 t497, .int .i64 t498], .agg #[.int .i64 t499, .int .i64 t500, .int .i64 t501, .string t502, .slice Ao45 t503.length co45, .string t506]] ?_
      with_reducible refine (spec_SafeBytes.calls k t497 t498 t499 t500 t501 t502 _ _ t503 t506 t507 _ ?side1 ?side2 A12.out).mono ?_
      (case side1 => repeat (first | exact (Kd.R_reads' HO505.out).2.2 | (with_reducible refine Kd.C_alloc ?_ _) | (with_reducible refine Kd.C_drewN ?_ _) | (with_reducible refine Kd.C_drew ?_)))
      (case side2 => exact (Kd.R_reads' HO505.out).2.1)
      rintro e w46 ⟨v508, rfl, ho0, hb⟩
      refine ⟨_, rfl, ?_⟩
      replace HO505 := rb HO505 hb
      have HO509 := Aside0.mk (Kd.R_lower ho0 (below_size (bI HB.out)))
      replace BK494 := bk BK494 hb
      replace BK495 := bk BK495 hb
      replace HB := bs HB hb
      (try clear hb)
      (try clear hb2)
      (try clear hk)
      (try clear hi)
      (try clear ho0)
      refine hK.out _ _ ⟨bc0 BK494.out, bc1 BK494.out, bc0 BK495.out, bc1 BK495.out, bc2 BK495.out, bc3 BK495.out, bc4 BK495.out, bc5 BK495.out⟩ (fun hHeld => ?_)
      clear hK K
      refine nA (some 22) ?_
      refine pure_ (i := 5) (N := some 6) (v := ?_) (a' := ?_) #[true, true, true, true, true, true] rfl rfl (by kernel_rfl) (fun _ _ _ h => h) (Or.inl ⟨by rfl, ?_⟩) ?_ ?_
      rotate_left
      · intro w'
        go_simp
        with_reducible rfl
      rotate_left
      · simp only [Act.put, List.setIfInBounds_toArray, List.set_cons_zero, List.set_cons_succ, i64_w, i32_w]
        rfl
      refine done_ (by kernel_rfl) ?_
      have hcz47_0 := bc0 BK495.out
      have hcz47_1 := bc1 BK495.out
      have hcz47_2 := bc2 BK495.out
      have hcz47_3 := bc3 BK495.out
      have hcz47_4 := bc4 BK495.out
      have hcz47_5 := bc5 BK495.out
      have hfz47_0 := blk_frozen BK495.out 0
      have hfz47_1 := blk_frozen BK495.out 1
      have hfz47_2 := blk_frozen BK495.out 2
      have hfz47_3 := blk_frozen BK495.out 3
      have hfz47_4 := blk_frozen BK495.out 4
      have hfz47_5 := blk_frozen BK495.out 5
      clear HO505
      try go_wp2_with (first | ((with_reducible refine gate_callee (f := 35) rfl ?_); refine gB (some 24) Tryd.func35 #[.agg #[.int .i64 a1_0, .int .i64 a1_1, .int .i64 a1_2, .string a1_3, .slice A1_4 l1_4.length c1_4, .string a1_5]] ?_; (with_reducible refine (laws_toSafe.calls k a1_0 a1_1 a1_2 a1_3 _ _ l1_4 a1_5 t510 t511 t512 t513 t514 t517 _ ?side1 ?side2 A13.out).mono ?_); (case side1 => exact ch HR1_4 HB); (case side2 => exact HC1_4.out); rintro e w48 ⟨v515, rfl, ho0, hb⟩; refine ⟨_, rfl, ?_⟩; replace HO509 := rb HO509 hb; have HO516 := Aside0.mk (Kd.R_lower ho0 (below_size (bI HB.out))); replace BK494 := bk BK494 hb; replace BK495 := bk BK495 hb; replace HB := bs HB hb; (try clear hb); (try clear ho0)) | ((with_reducible refine gd 7 ?_); refine bA 7 #[.int .i64 0, .int .i64 0, .int .i64 0, .string (⟨#[]⟩ : ByteArray), .slice none 0 0, .string (⟨#[]⟩ : ByteArray)] 57 ?_; intro gb518 hg w49 hbox hb; replace HO509 := rb HO509 hb; replace HO516 := rb HO516 hb; have BK518 := Aside0.mk (hbox); have GW518 := bg hg HB; have GJ518 := gi GW518; have GE518 := GW518; replace HB := bs HB hb; have NB494_518 := b1 BK494 hg; have NI494_518 := ni NB494_518; have NB518_494 := b2 BK494 hg; have NI518_494 := ni NB518_494; replace BK494 := bk BK494 hb; have NB495_518 := b1 BK495 hg; have NI495_518 := ni NB495_518; have NB518_495 := b2 BK495 hg; have NI518_495 := ni NB518_495; replace BK495 := bk BK495 hb; clear hb hbox hg; have hnb50 := NB518_494.out; have hnc50 := NB494_518.out; have hnb51 := NB518_495.out; have hnc51 := NB495_518.out; have hcz52_0 := bc0 BK518.out; have hcz52_1 := bc1 BK518.out; have hcz52_2 := bc2 BK518.out; have hcz52_3 := bc3 BK518.out; have hcz52_4 := bc4 BK518.out; have hcz52_5 := bc5 BK518.out; have hfz52_0 := blk_frozen BK518.out 0; have hfz52_1 := blk_frozen BK518.out 1; have hfz52_2 := blk_frozen BK518.out 2; have hfz52_3 := blk_frozen BK518.out 3; have hfz52_4 := blk_frozen BK518.out 4; have hfz52_5 := blk_frozen BK518.out 5; obtain ⟨Ao53, co53, eo53⟩ := Kd.R_slice HO516.out; subst eo53))
      have n0_ : Aside0 (Kd.R (Kd.int .u8) 5 ((((((w49.setCell ⟨gb518, 0, none⟩ (.int .i64 t510)).setCell ⟨gb518, 1, none⟩ (.int .i64 t511)).setCell ⟨gb518, 2, none⟩ (.int .i64 t512)).setCell ⟨gb518, 3, none⟩ (.string t513)).setCell ⟨gb518, 4, none⟩ (.slice Ao53 t514.length co53)).setCell ⟨gb518, 5, none⟩ (.string t517)) w.heap.size (fun _ => True) v508 t507) := ⟨by (with_reducible repeat (first | apply Kd.R_alloc | apply Kd.R_drewN | apply Kd.R_drew)); exact Kd.R_mono (Kd.R_far (p := ⟨gb518, 5, none⟩) (Kd.R_far (p := ⟨gb518, 4, none⟩) (Kd.R_far (p := ⟨gb518, 3, none⟩) (Kd.R_far (p := ⟨gb518, 2, none⟩) (Kd.R_far (p := ⟨gb518, 1, none⟩) (Kd.R_far (p := ⟨gb518, 0, none⟩) (Kd.R_types HO509.out BK518.out (by decide)) (fun _ hk => hk.2) (.int .i64 t510)) (fun _ hk => hk.2) (.int .i64 t511)) (fun _ hk => hk.2) (.int .i64 t512)) (fun _ hk => hk.2) (.string t513)) (fun _ hk => hk.2) (.slice Ao53 t514.length co53)) (fun _ hk => hk.2) (.string t517)) (fun _ hk => trivial)⟩
      have n1_ : Aside0 (Kd.R (Kd.int .i64) 3 ((((((w49.setCell ⟨gb518, 0, none⟩ (.int .i64 t510)).setCell ⟨gb518, 1, none⟩ (.int .i64 t511)).setCell ⟨gb518, 2, none⟩ (.int .i64 t512)).setCell ⟨gb518, 3, none⟩ (.string t513)).setCell ⟨gb518, 4, none⟩ (.slice Ao53 t514.length co53)).setCell ⟨gb518, 5, none⟩ (.string t517)) w.heap.size (fun _ => True) (.slice Ao53 t514.length co53) t514) := ⟨by (with_reducible repeat (first | apply Kd.R_alloc | apply Kd.R_drewN | apply Kd.R_drew)); exact Kd.R_mono (Kd.R_far (p := ⟨gb518, 5, none⟩) (Kd.R_far (p := ⟨gb518, 4, none⟩) (Kd.R_far (p := ⟨gb518, 3, none⟩) (Kd.R_far (p := ⟨gb518, 2, none⟩) (Kd.R_far (p := ⟨gb518, 1, none⟩) (Kd.R_far (p := ⟨gb518, 0, none⟩) (Kd.R_types HO516.out BK518.out (by decide)) (fun _ hk => hk.2) (.int .i64 t510)) (fun _ hk => hk.2) (.int .i64 t511)) (fun _ hk => hk.2) (.int .i64 t512)) (fun _ hk => hk.2) (.string t513)) (fun _ hk => hk.2) (.slice Ao53 t514.length co53)) (fun _ hk => hk.2) (.string t517)) (fun _ hk => trivial)⟩
      have n2_ : Aside0 (((((((w49.setCell ⟨gb518, 0, none⟩ (.int .i64 t510)).setCell ⟨gb518, 1, none⟩ (.int .i64 t511)).setCell ⟨gb518, 2, none⟩ (.int .i64 t512)).setCell ⟨gb518, 3, none⟩ (.string t513)).setCell ⟨gb518, 4, none⟩ (.slice Ao53 t514.length co53)).setCell ⟨gb518, 5, none⟩ (.string t517)).heap[gb494]? = some (.cells #[.int .i64 a0_0, .int .i64 a0_1] 26 (0, 0))) := ⟨gI BK494.out⟩
      have n3_ : Aside0 (((((((w49.setCell ⟨gb518, 0, none⟩ (.int .i64 t510)).setCell ⟨gb518, 1, none⟩ (.int .i64 t511)).setCell ⟨gb518, 2, none⟩ (.int .i64 t512)).setCell ⟨gb518, 3, none⟩ (.string t513)).setCell ⟨gb518, 4, none⟩ (.slice Ao53 t514.length co53)).setCell ⟨gb518, 5, none⟩ (.string t517)).heap[gb495]? = some (.cells #[.int .i64 a1_0, .int .i64 a1_1, .int .i64 a1_2, .string a1_3, .slice A1_4 l1_4.length c1_4, .string a1_5] 53 (0, 0))) := ⟨gI BK495.out⟩
      have n4_ : Aside0 (((((((w49.setCell ⟨gb518, 0, none⟩ (.int .i64 t510)).setCell ⟨gb518, 1, none⟩ (.int .i64 t511)).setCell ⟨gb518, 2, none⟩ (.int .i64 t512)).setCell ⟨gb518, 3, none⟩ (.string t513)).setCell ⟨gb518, 4, none⟩ (.slice Ao53 t514.length co53)).setCell ⟨gb518, 5, none⟩ (.string t517)).heap[gb518]? = some (.cells #[.int .i64 t510, .int .i64 t511, .int .i64 t512, .string t513, .slice Ao53 t514.length co53, .string t517] 57 (0, 0))) := ⟨pI BK518⟩
      have n5_ : Aside0 (Below w.heap.size w ((((((w49.setCell ⟨gb518, 0, none⟩ (.int .i64 t510)).setCell ⟨gb518, 1, none⟩ (.int .i64 t511)).setCell ⟨gb518, 2, none⟩ (.int .i64 t512)).setCell ⟨gb518, 3, none⟩ (.string t513)).setCell ⟨gb518, 4, none⟩ (.slice Ao53 t514.length co53)).setCell ⟨gb518, 5, none⟩ (.string t517))) := ⟨bI HB.out⟩
      (try clear HO509)
      (try clear HO516)
      (try clear BK494)
      (try clear BK495)
      (try clear BK518)
      (try clear HB)
      generalize ((((((w49.setCell ⟨gb518, 0, none⟩ (.int .i64 t510)).setCell ⟨gb518, 1, none⟩ (.int .i64 t511)).setCell ⟨gb518, 2, none⟩ (.int .i64 t512)).setCell ⟨gb518, 3, none⟩ (.string t513)).setCell ⟨gb518, 4, none⟩ (.slice Ao53 t514.length co53)).setCell ⟨gb518, 5, none⟩ (.string t517)) = w54 at n0_ n1_ n2_ n3_ n4_ n5_ ⊢
      have HO509 := n0_
      have HO516 := n1_
      have BK494 := n2_
      have BK495 := n3_
      have BK518 := n4_
      have HB := n5_
      clear n0_ n1_ n2_ n3_ n4_ n5_
      replace HO509 := Aside0.mk (Kd.R_drew HO509.out)
      replace HO516 := Aside0.mk (Kd.R_drew HO516.out)
      replace BK494 := Aside0.mk (blk_drew BK494.out)
      replace BK495 := Aside0.mk (blk_drew BK495.out)
      replace BK518 := Aside0.mk (blk_drew BK518.out)
      replace HB := Aside0.mk (below_drew1 HB.out)
      refine start_ (n := 5) (S := fun w' => w'.cell? ⟨gb494, 0, none⟩ = some (.int .i64 a0_0) ∧ w'.cell? ⟨gb494, 1, none⟩ = some (.int .i64 a0_1) ∧ w'.cell? ⟨gb518, 0, none⟩ = some (.int .i64 t510) ∧ w'.cell? ⟨gb518, 1, none⟩ = some (.int .i64 t511) ∧ w'.cell? ⟨gb518, 2, none⟩ = some (.int .i64 t512) ∧ w'.cell? ⟨gb518, 3, none⟩ = some (.string t513) ∧ w'.cell? ⟨gb518, 4, none⟩ = some (.slice Ao53 t514.length co53) ∧ w'.cell? ⟨gb518, 5, none⟩ = some (.string t517)) (ds := []) #[false, false, false, false, false] (by kernel_rfl) rfl rfl ⟨bc0 BK494.out, bc1 BK494.out, bc0 BK518.out, bc1 BK518.out, bc2 BK518.out, bc3 BK518.out, bc4 BK518.out, bc5 BK518.out⟩ (fun hHeld => ?_)
      generalize w54.drew = w55 at HO509 HO516 BK494 BK495 BK518 HB hHeld ⊢
      refine take_ (i := 0) (N := some 25) (v := ?_) (a' := ?_) #[true, false, false, false, false] rfl rfl (by kernel_rfl) (fun _ _ _ h => h) (Or.inl ⟨by rfl, ?_⟩) hHeld ?_ ?_
      rotate_left
      · rintro w' ⟨s0, s1, s2, s3, s4, s5, s6, s7⟩
        go_simp
        with_reducible rfl
      rotate_left
      · simp only [Act.put, List.setIfInBounds_toArray, List.set_cons_zero, List.set_cons_succ, i64_w, i32_w]
        rfl
      refine take_ (i := 2) (N := some 27) (v := ?_) (a' := ?_) #[true, false, true, false, false] rfl rfl (by kernel_rfl) (fun _ _ _ h => h) (Or.inl ⟨by rfl, ?_⟩) hHeld ?_ ?_
      rotate_left
      · rintro w' ⟨s0, s1, s2, s3, s4, s5, s6, s7⟩
        go_simp
        with_reducible rfl
      rotate_left
      · simp only [Act.put, List.setIfInBounds_toArray, List.set_cons_zero, List.set_cons_succ, i64_w, i32_w]
        rfl
      refine one_ (i := 1) (N := some 26) #[true, true, true, false, false] rfl rfl (by kernel_rfl) (by decide) (fun K hK => ?_)
      refine gA Tryd.func19 #[.agg #[.int .i64 a0_0, .int .i64 a0_1]] ?_
      with_reducible refine (laws_toConf.calls a0_0 a0_1 t519 t520 _ A14.out).mono ?_
      rintro e w56 ⟨rfl, hb⟩
      refine ⟨_, rfl, ?_⟩
      replace HO509 := rb HO509 hb
      replace HO516 := rb HO516 hb
      replace BK494 := bk BK494 hb
      replace BK495 := bk BK495 hb
      replace BK518 := bk BK518 hb
      replace HB := bs HB hb
      (try clear hb)
      (try clear hb2)
      (try clear hk)
      (try clear hi)
      refine hK.out _ _ ⟨bc0 BK494.out, bc1 BK494.out, bc0 BK518.out, bc1 BK518.out, bc2 BK518.out, bc3 BK518.out, bc4 BK518.out, bc5 BK518.out⟩ (fun hHeld => ?_)
      clear hK K
      refine nA (some 26) ?_
      refine one_ (i := 3) (N := some 28) #[true, true, true, true, false] rfl rfl (by kernel_rfl) (by decide) (fun K hK => ?_)
      refine gA Tryd.func60 #[.agg #[.int .i64 t519, .int .i64 t520], .agg #[.int .i64 t510, .int .i64 t511, .int .i64 t512, .string t513, .slice Ao53 t514.length co53, .string t517]] ?_
      with_reducible refine (impl_SafeBytes.calls k t519 t520 t510 t511 t512 t513 _ _ t514 t517 t521 _ ?side1 ?side2 A15.out).mono ?_
      (case side1 => repeat (first | exact (Kd.R_reads' HO516.out).2.2 | (with_reducible refine Kd.C_alloc ?_ _) | (with_reducible refine Kd.C_drewN ?_ _) | (with_reducible refine Kd.C_drew ?_)))
      (case side2 => exact (Kd.R_reads' HO516.out).2.1)
      rintro e w57 ⟨v522, rfl, ho0, hb⟩
      refine ⟨_, rfl, ?_⟩
      replace HO516 := rb HO516 hb
      have HO523 := Aside0.mk (Kd.R_lower (Kd.R_new' ho0 (Kd.R_lt (rI HO509.out))) (below_size (bI HB.out)))
      replace HO509 := Aside0.mk (Kd.R_elder' (rI HO509.out) (Kd.R_base ho0) hb)
      replace BK494 := bk BK494 hb
      replace BK495 := bk BK495 hb
      replace BK518 := bk BK518 hb
      replace HB := bs HB hb
      (try clear hb)
      (try clear hb2)
      (try clear hk)
      (try clear hi)
      (try clear ho0)
      refine hK.out _ _ ⟨bc0 BK494.out, bc1 BK494.out, bc0 BK518.out, bc1 BK518.out, bc2 BK518.out, bc3 BK518.out, bc4 BK518.out, bc5 BK518.out⟩ (fun hHeld => ?_)
      clear hK K
      refine nA (some 28) ?_
      refine pure_ (i := 4) (N := some 8) (v := ?_) (a' := ?_) #[true, true, true, true, true] rfl rfl (by kernel_rfl) (fun _ _ _ h => h) (Or.inl ⟨by rfl, ?_⟩) ?_ ?_
      rotate_left
      · intro w'
        go_simp
        with_reducible rfl
      rotate_left
      · simp only [Act.put, List.setIfInBounds_toArray, List.set_cons_zero, List.set_cons_succ, i64_w, i32_w]
        rfl
      refine done_ (by kernel_rfl) ?_
      obtain ⟨Ao58, co58, eo58⟩ := Kd.R_slice HO523.out
      subst eo58
      obtain ⟨Ao59, co59, eo59⟩ := Kd.R_slice HO509.out
      subst eo59
      try go_wp2_with (first | ((with_reducible refine gate_callee (f := 50) rfl ?_); refine gB (some 31) Tryd.func50 #[.slice Ao58 t521.length co58, .slice Ao59 t507.length co59] ?_; (with_reducible refine (laws_eqByteS.calls k _ _ t521 _ _ t507 true _ ?side1 ?side2 ?side3 ?side4 A16.out).mono ?_); (case side1 => repeat (first | exact (Kd.R_reads' HO523.out).2.2 | (with_reducible refine Kd.C_alloc ?_ _) | (with_reducible refine Kd.C_drewN ?_ _) | (with_reducible refine Kd.C_drew ?_))); (case side2 => exact (Kd.R_reads' HO523.out).2.1); (case side3 => repeat (first | exact (Kd.R_reads' HO509.out).2.2 | (with_reducible refine Kd.C_alloc ?_ _) | (with_reducible refine Kd.C_drewN ?_ _) | (with_reducible refine Kd.C_drew ?_))); (case side4 => exact (Kd.R_reads' HO509.out).2.1); rintro e w' ⟨rfl, ⟨nd, rfl⟩⟩; refine ⟨_, rfl, ?_⟩))
      (try (rw [drewN_self w57]; generalize hq_ : World.drewN w57 _ = w57; have n0_ : Aside0 (Kd.R (Kd.int .u8) 5 w57 w.heap.size (fun k_ => some k_ ≠ (.slice Ao58 t521.length co58 : Value).ownBlock) (.slice Ao59 t507.length co59) t507) := ⟨by rw [← hq_]; exact (rI (Kd.R_mono HO509.out (fun _ hk => hk.2)))⟩; have n1_ : Aside0 (Kd.R (Kd.int .i64) 3 w57 w.heap.size (fun _ => True) (.slice Ao53 t514.length co53) t514) := ⟨by rw [← hq_]; exact (rI HO516.out)⟩; have n2_ : Aside0 (Kd.R (Kd.int .u8) 5 w57 w.heap.size (fun k_ => some k_ ≠ (.slice Ao59 t507.length co59 : Value).ownBlock) (.slice Ao58 t521.length co58) t521) := ⟨by rw [← hq_]; exact (rI (Kd.R_mono HO523.out (fun _ hk => hk.2)))⟩; have n3_ : Aside0 (w57.heap[gb494]? = some (.cells #[.int .i64 a0_0, .int .i64 a0_1] 26 (0, 0))) := ⟨by rw [← hq_]; exact (kI BK494.out)⟩; have n4_ : Aside0 (w57.heap[gb495]? = some (.cells #[.int .i64 a1_0, .int .i64 a1_1, .int .i64 a1_2, .string a1_3, .slice A1_4 l1_4.length c1_4, .string a1_5] 53 (0, 0))) := ⟨by rw [← hq_]; exact (kI BK495.out)⟩; have n5_ : Aside0 (w57.heap[gb518]? = some (.cells #[.int .i64 t510, .int .i64 t511, .int .i64 t512, .string t513, .slice Ao53 t514.length co53, .string t517] 57 (0, 0))) := ⟨by rw [← hq_]; exact (kI BK518.out)⟩; have n6_ : Aside0 (Below w.heap.size w w57) := ⟨y0_13⟩; clear HO509 HO516 HO523 BK494 BK495 BK518 HB hq_; have HO509 := n0_; have HO516 := n1_; have HO523 := n2_; have BK494 := n3_; have BK495 := n4_; have BK518 := n5_; have HB := n6_; clear n0_ n1_ n2_ n3_ n4_ n5_ n6_))
      replace HO509 := Aside0.mk (Kd.R_drew HO509.out)
      replace HO516 := Aside0.mk (Kd.R_drew HO516.out)
      replace HO523 := Aside0.mk (Kd.R_drew HO523.out)
      replace BK494 := Aside0.mk (blk_drew BK494.out)
      replace BK495 := Aside0.mk (blk_drew BK495.out)
      replace BK518 := Aside0.mk (blk_drew BK518.out)
      replace HB := Aside0.mk (below_drew1 HB.out)
      refine start_ (n := 5) (S := fun w' => w'.cell? ⟨gb518, 0, none⟩ = some (.int .i64 t510) ∧ w'.cell? ⟨gb518, 1, none⟩ = some (.int .i64 t511) ∧ w'.cell? ⟨gb518, 2, none⟩ = some (.int .i64 t512) ∧ w'.cell? ⟨gb518, 3, none⟩ = some (.string t513) ∧ w'.cell? ⟨gb518, 4, none⟩ = some (.slice Ao53 t514.length co53) ∧ w'.cell? ⟨gb518, 5, none⟩ = some (.string t517) ∧ w'.cell? ⟨gb495, 0, none⟩ = some (.int .i64 a1_0) ∧ w'.cell? ⟨gb495, 1, none⟩ = some (.int .i64 a1_1) ∧ w'.cell? ⟨gb495, 2, none⟩ = some (.int .i64 a1_2) ∧ w'.cell? ⟨gb495, 3, none⟩ = some (.string a1_3) ∧ w'.cell? ⟨gb495, 4, none⟩ = some (.slice A1_4 l1_4.length c1_4) ∧ w'.cell? ⟨gb495, 5, none⟩ = some (.string a1_5)) (ds := []) #[false, false, false, false, false] (by kernel_rfl) rfl rfl ⟨bc0 BK518.out, bc1 BK518.out, bc2 BK518.out, bc3 BK518.out, bc4 BK518.out, bc5 BK518.out, bc0 BK495.out, bc1 BK495.out, bc2 BK495.out, bc3 BK495.out, bc4 BK495.out, bc5 BK495.out⟩ (fun hHeld => ?_)
      generalize w57.drew = w60 at HO509 HO516 HO523 BK494 BK495 BK518 HB hHeld ⊢
      refine take_ (i := 0) (N := some 33) (v := ?_) (a' := ?_) #[true, false, false, false, false] rfl rfl (by kernel_rfl) (fun _ _ _ h => h) (Or.inl ⟨by rfl, ?_⟩) hHeld ?_ ?_
      rotate_left
      · rintro w' ⟨s0, s1, s2, s3, s4, s5, s6, s7, s8, s9, s10, s11⟩
        go_simp
        with_reducible rfl
      rotate_left
      · simp only [Act.put, List.setIfInBounds_toArray, List.set_cons_zero, List.set_cons_succ, i64_w, i32_w]
        rfl
      refine take_ (i := 1) (N := some 34) (v := ?_) (a' := ?_) #[true, true, false, false, false] rfl rfl (by kernel_rfl) (fun _ _ _ h => h) (Or.inl ⟨by rfl, ?_⟩) hHeld ?_ ?_
      rotate_left
      · rintro w' ⟨s0, s1, s2, s3, s4, s5, s6, s7, s8, s9, s10, s11⟩
        go_simp
        with_reducible rfl
      rotate_left
      · simp only [Act.put, List.setIfInBounds_toArray, List.set_cons_zero, List.set_cons_succ, i64_w, i32_w]
        rfl
      refine one_ (i := 2) (N := some 35) #[true, true, true, false, false] rfl rfl (by kernel_rfl) (by decide) (fun K hK => ?_)
      refine gA Tryd.func35 #[.agg #[.int .i64 a1_0, .int .i64 a1_1, .int .i64 a1_2, .string a1_3, .slice A1_4 l1_4.length c1_4, .string a1_5]] ?_
      with_reducible refine (laws_toSafe.calls k a1_0 a1_1 a1_2 a1_3 _ _ l1_4 a1_5 t525 t526 t527 t528 t529 t532 _ ?side1 ?side2 A18.out).mono ?_
      (case side1 => exact ch HR1_4 HB)
      (case side2 => exact HC1_4.out)
      rintro e w61 ⟨v530, rfl, ho0, hb⟩
      refine ⟨_, rfl, ?_⟩
      replace HO509 := rb HO509 hb
      replace HO523 := rb HO523 hb
      have HO531 := Aside0.mk (Kd.R_lower (Kd.R_new' ho0 (Kd.R_lt (rI HO516.out))) (below_size (bI HB.out)))
      replace HO516 := Aside0.mk (Kd.R_elder' (rI HO516.out) (Kd.R_base ho0) hb)
      replace BK494 := bk BK494 hb
      replace BK495 := bk BK495 hb
      replace BK518 := bk BK518 hb
      replace HB := bs HB hb
      (try clear hb)
      (try clear hb2)
      (try clear hk)
      (try clear hi)
      (try clear ho0)
      obtain ⟨Ao62, co62, eo62⟩ := Kd.R_slice HO531.out
      (first | subst eo62 | (injection eo62 with f1_ f2_ f3_; have f4_ := f1_.symm; have f5_ := f3_.symm; clear f1_ f2_ f3_; subst f4_; subst f5_))
      refine hK.out _ _ ⟨bc0 BK518.out, bc1 BK518.out, bc2 BK518.out, bc3 BK518.out, bc4 BK518.out, bc5 BK518.out, bc0 BK495.out, bc1 BK495.out, bc2 BK495.out, bc3 BK495.out, bc4 BK495.out, bc5 BK495.out⟩ (fun hHeld => ?_)
      clear hK K
      refine nA (some 35) ?_
      refine one_ (i := 3) (N := some 36) #[true, true, true, true, false] rfl rfl (by kernel_rfl) (by decide) (fun K hK => ?_)
      refine gA Tryd.func37 #[.agg #[.int .i64 t510, .int .i64 t511, .int .i64 t512, .string t513, .slice Ao53 t514.length co53, .string t517], .agg #[.int .i64 t525, .int .i64 t526, .int .i64 t527, .string t528, .slice Ao62 t529.length co62, .string t532]] ?_
      with_reducible refine (laws_eqSafe.calls k t510 t511 t512 t513 _ _ t514 t517 t525 t526 t527 t528 _ _ t529 t532 true _ ?side1 ?side2 ?side3 ?side4 A19.out).mono ?_
      (case side1 => repeat (first | exact (Kd.R_reads' HO516.out).2.2 | (with_reducible refine Kd.C_alloc ?_ _) | (with_reducible refine Kd.C_drewN ?_ _) | (with_reducible refine Kd.C_drew ?_)))
      (case side2 => exact (Kd.R_reads' HO516.out).2.1)
      (case side3 => repeat (first | exact (Kd.R_reads' HO531.out).2.2 | (with_reducible refine Kd.C_alloc ?_ _) | (with_reducible refine Kd.C_drewN ?_ _) | (with_reducible refine Kd.C_drew ?_)))
      (case side4 => exact (Kd.R_reads' HO531.out).2.1)
      rintro e w63 ⟨rfl, hb⟩
      refine ⟨_, rfl, ?_⟩
      replace HO509 := rb HO509 hb
      replace HO516 := rb HO516 hb
      replace HO523 := rb HO523 hb
      replace HO531 := rb HO531 hb
      replace BK494 := bk BK494 hb
      replace BK495 := bk BK495 hb
      replace BK518 := bk BK518 hb
      replace HB := bs HB hb
      (try clear hb)
      (try clear hb2)
      (try clear hk)
      (try clear hi)
      refine hK.out _ _ ⟨bc0 BK518.out, bc1 BK518.out, bc2 BK518.out, bc3 BK518.out, bc4 BK518.out, bc5 BK518.out, bc0 BK495.out, bc1 BK495.out, bc2 BK495.out, bc3 BK495.out, bc4 BK495.out, bc5 BK495.out⟩ (fun hHeld => ?_)
      clear hK K
      refine nA (some 36) ?_
      refine pure_ (i := 4) (N := some 37) (v := ?_) (a' := ?_) #[true, true, true, true, true] rfl rfl (by kernel_rfl) (fun _ _ _ h => h) (Or.inl ⟨by rfl, ?_⟩) ?_ ?_
      rotate_left
      · intro w'
        go_simp
        with_reducible rfl
      rotate_left
      · simp only [Act.put, List.setIfInBounds_toArray, List.set_cons_zero, List.set_cons_succ, i64_w, i32_w]
        rfl
      refine done_ (by kernel_rfl) ?_
      have hcz64_0 := bc0 BK518.out
      have hcz64_1 := bc1 BK518.out
      have hcz64_2 := bc2 BK518.out
      have hcz64_3 := bc3 BK518.out
      have hcz64_4 := bc4 BK518.out
      have hcz64_5 := bc5 BK518.out
      have hfz64_0 := blk_frozen BK518.out 0
      have hfz64_1 := blk_frozen BK518.out 1
      have hfz64_2 := blk_frozen BK518.out 2
      have hfz64_3 := blk_frozen BK518.out 3
      have hfz64_4 := blk_frozen BK518.out 4
      have hfz64_5 := blk_frozen BK518.out 5
      clear HO531
      have n_ := Aside0.mk (Kd.R_mono (ok' := (fun k_ => some k_ ≠ (.slice Ao58 t521.length co58 : Value).ownBlock)) HO509.out (fun k_ hk => by first | exact hk.2 | exact trivial | exact hk))
      clear HO509
      have HO509 := n_
      clear n_
      have n_ := Aside0.mk (Kd.R_mono (ok' := (fun _ => True)) HO516.out (fun k_ hk => trivial))
      clear HO516
      have HO516 := n_
      clear n_
      have n_ := Aside0.mk (Kd.R_mono (ok' := (fun k_ => some k_ ≠ (.slice Ao59 t507.length co59 : Value).ownBlock)) HO523.out (fun k_ hk => by first | exact hk.2 | exact trivial | exact hk))
      clear HO523
      have HO523 := n_
      clear n_
      try go_wp2_with (first | ((with_reducible refine gate_callee (f := 61) rfl ?_); refine gB (some 40) Tryd.func61 #[.agg #[.int .i64 t510, .int .i64 t511, .int .i64 t512, .string t513, .slice Ao53 t514.length co53, .string t517], .int .i64 1] ?_; (with_reducible refine (laws_markSafe.calls k t510 t511 t512 t513 (fun k_ => some k_ = (.slice Ao53 t514.length co53 : Value).ownBlock) (.slice Ao53 t514.length co53) t514 t517 1 t534 t535 w _ ?side1 ?side2 A21.out).mono ?_); (case side1 => exact bI HB.out); (case side2 => exact Kd.R_tight rfl HO516.out); rintro e w65 ⟨rfl, hy0, hb, hkp⟩; refine ⟨_, rfl, ?_⟩; replace BK494 := Aside0.mk (blk_kept (kI BK494.out) hkp (fun hs_ => (fun e_ => (Kd.R_ne HO516.out BK494.out (by decide)) e_) hs_)); replace BK495 := Aside0.mk (blk_kept (kI BK495.out) hkp (fun hs_ => (fun e_ => (Kd.R_ne HO516.out BK495.out (by decide)) e_) hs_)); replace HO509 := Aside0.mk (Kd.R_mono (ok' := fun k_ => some k_ ≠ (.slice Ao58 t521.length co58 : Value).ownBlock) (Kd.R_keptB ((Kd.R_apart' HO509.out (Kd.R_typed HO516.out) (by decide))) hkp (fun k_ hk_ hs_ => (hk_.2) hs_)) (fun k_ hk_ => hk_.1.1)); replace BK518 := Aside0.mk (blk_kept (kI BK518.out) hkp (fun hs_ => (fun e_ => (Kd.R_ne HO516.out BK518.out (by decide)) e_) hs_)); replace HO523 := Aside0.mk (Kd.R_mono (ok' := fun k_ => some k_ ≠ (.slice Ao59 t507.length co59 : Value).ownBlock) (Kd.R_keptB ((Kd.R_apart' HO523.out (Kd.R_typed HO516.out) (by decide))) hkp (fun k_ hk_ hs_ => (hk_.2) hs_)) (fun k_ hk_ => hk_.1.1)); replace HO516 := Aside0.mk (Kd.R_reok rfl hy0 (fun k_ e_ => HO516.out.1 k_ e_)); replace HB := Aside0.mk (hb); (try clear hb); (try clear hkp); (try clear hy0); clear HO516) | (go_at_call 50; (with_reducible refine (laws_eqByteS.calls k _ _ t521 _ _ t507 true _ ?side1 ?side2 ?side3 ?side4 A23.out).mono ?_); (case side1 => repeat (first | exact (Kd.R_reads' HO523.out).2.2 | (with_reducible refine Kd.C_alloc ?_ _) | (with_reducible refine Kd.C_drewN ?_ _) | (with_reducible refine Kd.C_drew ?_))); (case side2 => exact (Kd.R_reads' HO523.out).2.1); (case side3 => repeat (first | exact (Kd.R_reads' HO509.out).2.2 | (with_reducible refine Kd.C_alloc ?_ _) | (with_reducible refine Kd.C_drewN ?_ _) | (with_reducible refine Kd.C_drew ?_))); (case side4 => exact (Kd.R_reads' HO509.out).2.1); rintro e w' ⟨rfl, ⟨nd, rfl⟩⟩) | ((with_reducible refine gate_callee (f := 51) rfl ?_); refine gB (some 51) Tryd.func51 #[.slice Ao58 t521.length co58, .int .i64 1] ?_; (with_reducible refine (laws_markByteS.calls k (fun k_ => some k_ = (.slice Ao58 t521.length co58 : Value).ownBlock) (.slice Ao58 t521.length co58) t521 1 t537 t538 w _ ?side1 ?side2 A25.out).mono ?_); (case side1 => exact bI HB.out); (case side2 => exact Kd.R_tight rfl HO523.out); rintro e w66 ⟨rfl, hy0, hb, hkp⟩; refine ⟨_, rfl, ?_⟩; replace BK494 := Aside0.mk (blk_kept (kI BK494.out) hkp (fun hs_ => (fun e_ => (Kd.R_ne HO523.out BK494.out (by decide)) e_) hs_)); replace BK495 := Aside0.mk (blk_kept (kI BK495.out) hkp (fun hs_ => (fun e_ => (Kd.R_ne HO523.out BK495.out (by decide)) e_) hs_)); replace HO509 := Aside0.mk (Kd.R_mono (ok' := fun k_ => some k_ ≠ (.slice Ao58 t521.length co58 : Value).ownBlock) (Kd.R_keptB (HO509.out) hkp (fun k_ hk_ hs_ => (hk_) hs_)) (fun k_ hk_ => hk_.1)); replace BK518 := Aside0.mk (blk_kept (kI BK518.out) hkp (fun hs_ => (fun e_ => (Kd.R_ne HO523.out BK518.out (by decide)) e_) hs_)); replace HO523 := Aside0.mk (Kd.R_reok rfl hy0 (fun k_ e_ => HO523.out.1 k_ e_)); replace HB := Aside0.mk (hb); (try clear hb); (try clear hkp); (try clear hy0)) | ((with_reducible refine gate_callee (f := 52) rfl ?_); refine goesL_ (some 54) rfl rfl Tryd.func52 (by kernel_rfl) rfl #[.slice Ao58 t538.length co58, .int .i64 1] rfl (by (try simp only [List.map_toArray, List.map_cons, List.map_nil]); first | done | (rw [show t538.length = t521.length from (Kd.R_reads' HO523.out).1.symm] <;> rfl) | rfl | (simp only [List.length_drop, List.length_take]; rfl)) ?_; (with_reducible refine (laws_heldByteS.calls k _ _ t538 1 t539 _ ?side1 ?side2 A26.out).mono ?_); (case side1 => repeat (first | exact (Kd.R_reads' HO523.out).2.2 | (with_reducible refine Kd.C_alloc ?_ _) | (with_reducible refine Kd.C_drewN ?_ _) | (with_reducible refine Kd.C_drew ?_))); (case side2 => rw [show t538.length = t521.length from (Kd.R_reads' HO523.out).1.symm]; exact (Kd.R_reads' HO523.out).2.1); rintro e w' ⟨rfl, ⟨nd, rfl⟩⟩; refine ⟨_, rfl, ?_⟩))
      (try (rw [drewN_self w66]; generalize hq_ : World.drewN w66 _ = w66; have n0_ : Aside0 (Kd.R (Kd.int .u8) 5 w66 w.heap.size (fun k_ => some k_ ≠ (.slice Ao58 t521.length co58 : Value).ownBlock) (.slice Ao59 t507.length co59) t507) := ⟨by rw [← hq_]; exact (rI HO509.out)⟩; have n1_ : Aside0 (Kd.R (Kd.int .u8) 5 w66 w.heap.size (fun k_ => some k_ ≠ (.slice Ao59 t507.length co59 : Value).ownBlock) (.slice Ao58 t521.length co58) t538) := ⟨by rw [← hq_]; exact (rI HO523.out)⟩; have n2_ : Aside0 (w66.heap[gb494]? = some (.cells #[.int .i64 a0_0, .int .i64 a0_1] 26 (0, 0))) := ⟨by rw [← hq_]; exact (kI BK494.out)⟩; have n3_ : Aside0 (w66.heap[gb495]? = some (.cells #[.int .i64 a1_0, .int .i64 a1_1, .int .i64 a1_2, .string a1_3, .slice A1_4 l1_4.length c1_4, .string a1_5] 53 (0, 0))) := ⟨by rw [← hq_]; exact (kI BK495.out)⟩; have n4_ : Aside0 (w66.heap[gb518]? = some (.cells #[.int .i64 t510, .int .i64 t511, .int .i64 t512, .string t513, .slice Ao53 t514.length co53, .string t517] 57 (0, 0))) := ⟨by rw [← hq_]; exact (kI BK518.out)⟩; have n5_ : Aside0 (Below w.heap.size w w66) := ⟨y0_13⟩; clear HO509 HO523 BK494 BK495 BK518 HB hq_; have HO509 := n0_; have HO523 := n1_; have BK494 := n2_; have BK495 := n3_; have BK518 := n4_; have HB := n5_; clear n0_ n1_ n2_ n3_ n4_ n5_))
      replace HO509 := Aside0.mk (Kd.R_drew HO509.out)
      replace HO523 := Aside0.mk (Kd.R_drew HO523.out)
      replace BK494 := Aside0.mk (blk_drew BK494.out)
      replace BK495 := Aside0.mk (blk_drew BK495.out)
      replace BK518 := Aside0.mk (blk_drew BK518.out)
      replace HB := Aside0.mk (below_drew1 HB.out)
      refine start_ (n := 6) (S := fun w' => w'.cell? ⟨gb494, 0, none⟩ = some (.int .i64 a0_0) ∧ w'.cell? ⟨gb494, 1, none⟩ = some (.int .i64 a0_1) ∧ w'.cell? ⟨gb495, 0, none⟩ = some (.int .i64 a1_0) ∧ w'.cell? ⟨gb495, 1, none⟩ = some (.int .i64 a1_1) ∧ w'.cell? ⟨gb495, 2, none⟩ = some (.int .i64 a1_2) ∧ w'.cell? ⟨gb495, 3, none⟩ = some (.string a1_3) ∧ w'.cell? ⟨gb495, 4, none⟩ = some (.slice A1_4 l1_4.length c1_4) ∧ w'.cell? ⟨gb495, 5, none⟩ = some (.string a1_5)) (ds := []) #[false, false, false, false, false, false] (by kernel_rfl) rfl rfl ⟨bc0 BK494.out, bc1 BK494.out, bc0 BK495.out, bc1 BK495.out, bc2 BK495.out, bc3 BK495.out, bc4 BK495.out, bc5 BK495.out⟩ (fun hHeld => ?_)
      generalize w66.drew = w67 at HO509 HO523 BK494 BK495 BK518 HB hHeld ⊢
      refine take_ (i := 0) (N := some 60) (v := ?_) (a' := ?_) #[true, false, false, false, false, false] rfl rfl (by kernel_rfl) (fun _ _ _ h => h) (Or.inl ⟨by rfl, ?_⟩) hHeld ?_ ?_
      rotate_left
      · rintro w' ⟨s0, s1, s2, s3, s4, s5, s6, s7⟩
        go_simp
        with_reducible rfl
      rotate_left
      · simp only [Act.put, List.setIfInBounds_toArray, List.set_cons_zero, List.set_cons_succ, i64_w, i32_w]
        rfl
      refine take_ (i := 2) (N := some 62) (v := ?_) (a' := ?_) #[true, false, true, false, false, false] rfl rfl (by kernel_rfl) (fun _ _ _ h => h) (Or.inl ⟨by rfl, ?_⟩) hHeld ?_ ?_
      rotate_left
      · rintro w' ⟨s0, s1, s2, s3, s4, s5, s6, s7⟩
        go_simp
        with_reducible rfl
      rotate_left
      · simp only [Act.put, List.setIfInBounds_toArray, List.set_cons_zero, List.set_cons_succ, i64_w, i32_w]
        rfl
      refine one_ (i := 1) (N := some 61) #[true, true, true, false, false, false] rfl rfl (by kernel_rfl) (by decide) (fun K hK => ?_)
      refine gA Tryd.func19 #[.agg #[.int .i64 a0_0, .int .i64 a0_1]] ?_
      with_reducible refine (laws_toConf.calls a0_0 a0_1 t540 t541 _ A29.out).mono ?_
      rintro e w68 ⟨rfl, hb⟩
      refine ⟨_, rfl, ?_⟩
      replace HO509 := rb HO509 hb
      replace HO523 := rb HO523 hb
      replace BK494 := bk BK494 hb
      replace BK495 := bk BK495 hb
      replace BK518 := bk BK518 hb
      replace HB := bs HB hb
      (try clear hb)
      (try clear hb2)
      (try clear hk)
      (try clear hi)
      refine hK.out _ _ ⟨bc0 BK494.out, bc1 BK494.out, bc0 BK495.out, bc1 BK495.out, bc2 BK495.out, bc3 BK495.out, bc4 BK495.out, bc5 BK495.out⟩ (fun hHeld => ?_)
      clear hK K
      refine nA (some 61) ?_
      refine one_ (i := 3) (N := some 63) #[true, true, true, true, false, false] rfl rfl (by kernel_rfl) (by decide) (fun K hK => ?_)
      refine gA Tryd.func35 #[.agg #[.int .i64 a1_0, .int .i64 a1_1, .int .i64 a1_2, .string a1_3, .slice A1_4 l1_4.length c1_4, .string a1_5]] ?_
      with_reducible refine (laws_toSafe.calls k a1_0 a1_1 a1_2 a1_3 _ _ l1_4 a1_5 t542 t543 t544 t545 t546 t549 _ ?side1 ?side2 A30.out).mono ?_
      (case side1 => exact ch HR1_4 HB)
      (case side2 => exact HC1_4.out)
      rintro e w69 ⟨v547, rfl, ho0, hb⟩
      refine ⟨_, rfl, ?_⟩
      replace HO509 := rb HO509 hb
      replace HO523 := rb HO523 hb
      have HO548 := Aside0.mk (Kd.R_lower ho0 (below_size (bI HB.out)))
      replace BK494 := bk BK494 hb
      replace BK495 := bk BK495 hb
      replace BK518 := bk BK518 hb
      replace HB := bs HB hb
      (try clear hb)
      (try clear hb2)
      (try clear hk)
      (try clear hi)
      (try clear ho0)
      obtain ⟨Ao70, co70, eo70⟩ := Kd.R_slice HO548.out
      (first | subst eo70 | (injection eo70 with f1_ f2_ f3_; have f4_ := f1_.symm; have f5_ := f3_.symm; clear f1_ f2_ f3_; subst f4_; subst f5_))
      refine hK.out _ _ ⟨bc0 BK494.out, bc1 BK494.out, bc0 BK495.out, bc1 BK495.out, bc2 BK495.out, bc3 BK495.out, bc4 BK495.out, bc5 BK495.out⟩ (fun hHeld => ?_)
      clear hK K
      refine nA (some 63) ?_
      refine one_ (i := 4) (N := some 64) #[true, true, true, true, true, false] rfl rfl (by kernel_rfl) (by decide) (fun K hK => ?_)
      refine gA Tryd.func60 #[.agg #[.int .i64 t540, .int .i64 t541], .agg #[.int .i64 t542, .int .i64 t543, .int .i64 t544, .string t545, .slice Ao70 t546.length co70, .string t549]] ?_
      with_reducible refine (impl_SafeBytes.calls k t540 t541 t542 t543 t544 t545 _ _ t546 t549 t550 _ ?side1 ?side2 A31.out).mono ?_
      (case side1 => repeat (first | exact (Kd.R_reads' HO548.out).2.2 | (with_reducible refine Kd.C_alloc ?_ _) | (with_reducible refine Kd.C_drewN ?_ _) | (with_reducible refine Kd.C_drew ?_)))
      (case side2 => exact (Kd.R_reads' HO548.out).2.1)
      rintro e w71 ⟨v551, rfl, ho0, hb⟩
      refine ⟨_, rfl, ?_⟩
      replace HO548 := rb HO548 hb
      have HO552 := Aside0.mk (Kd.R_lower (Kd.R_new' (Kd.R_new' ho0 (Kd.R_lt (rI HO509.out))) (Kd.R_lt (rI HO523.out))) (below_size (bI HB.out)))
      replace HO509 := Aside0.mk (Kd.R_elder' (rI HO509.out) (Kd.R_base ho0) hb)
      replace HO523 := Aside0.mk (Kd.R_elder' (rI HO523.out) (Kd.R_base ho0) hb)
      replace BK494 := bk BK494 hb
      replace BK495 := bk BK495 hb
      replace BK518 := bk BK518 hb
      replace HB := bs HB hb
      (try clear hb)
      (try clear hb2)
      (try clear hk)
      (try clear hi)
      (try clear ho0)
      refine hK.out _ _ ⟨bc0 BK494.out, bc1 BK494.out, bc0 BK495.out, bc1 BK495.out, bc2 BK495.out, bc3 BK495.out, bc4 BK495.out, bc5 BK495.out⟩ (fun hHeld => ?_)
      clear hK K
      refine nA (some 64) ?_
      refine pure_ (i := 5) (N := some 12) (v := ?_) (a' := ?_) #[true, true, true, true, true, true] rfl rfl (by kernel_rfl) (fun _ _ _ h => h) (Or.inl ⟨by rfl, ?_⟩) ?_ ?_
      rotate_left
      · intro w'
        go_simp
        with_reducible rfl
      rotate_left
      · simp only [Act.put, List.setIfInBounds_toArray, List.set_cons_zero, List.set_cons_succ, i64_w, i32_w]
        rfl
      refine done_ (by kernel_rfl) ?_
      clear HO548
      have n_ := Aside0.mk (Kd.R_mono (ok' := (fun k_ => some k_ ≠ (.slice Ao59 t507.length co59 : Value).ownBlock ∧ some k_ ≠ (.slice Ao58 t521.length co58 : Value).ownBlock)) HO552.out (fun k_ hk => ⟨hk.1.2, hk.2⟩))
      clear HO552
      have HO552 := n_
      clear n_
      obtain ⟨Ao72, co72, eo72⟩ := Kd.R_slice HO552.out
      subst eo72
      try go_wp2_with (first | ((with_reducible refine gate_callee (f := 50) rfl ?_); refine gB (some 67) Tryd.func50 #[.slice Ao72 t550.length co72, .slice Ao59 t507.length co59] ?_; (with_reducible refine (laws_eqByteS.calls k _ _ t550 _ _ t507 true _ ?side1 ?side2 ?side3 ?side4 A32.out).mono ?_); (case side1 => repeat (first | exact (Kd.R_reads' HO552.out).2.2 | (with_reducible refine Kd.C_alloc ?_ _) | (with_reducible refine Kd.C_drewN ?_ _) | (with_reducible refine Kd.C_drew ?_))); (case side2 => exact (Kd.R_reads' HO552.out).2.1); (case side3 => repeat (first | exact (Kd.R_reads' HO509.out).2.2 | (with_reducible refine Kd.C_alloc ?_ _) | (with_reducible refine Kd.C_drewN ?_ _) | (with_reducible refine Kd.C_drew ?_))); (case side4 => exact (Kd.R_reads' HO509.out).2.1); rintro e w' ⟨rfl, ⟨nd, rfl⟩⟩; refine ⟨_, rfl, ?_⟩; clear HO509; clear HO552; have n_ := Aside0.mk (Kd.R_mono (ok' := (fun _ => True)) HO523.out (fun k_ hk => trivial)); clear HO523; have HO523 := n_; clear n_) | ((with_reducible refine gate_callee (f := 52) rfl ?_); refine goesL_ (some 71) rfl rfl Tryd.func52 (by kernel_rfl) rfl #[.slice Ao58 t538.length co58, .int .i64 1] rfl (by (try simp only [List.map_toArray, List.map_cons, List.map_nil]); first | done | (rw [show t538.length = t521.length from (Kd.R_reads' HO523.out).1.symm] <;> rfl) | rfl | (simp only [List.length_drop, List.length_take]; rfl)) ?_; (with_reducible refine (laws_heldByteS.calls k _ _ t538 1 t554 _ ?side1 ?side2 A34.out).mono ?_); (case side1 => repeat (first | exact (Kd.R_reads' HO523.out).2.2 | (with_reducible refine Kd.C_alloc ?_ _) | (with_reducible refine Kd.C_drewN ?_ _) | (with_reducible refine Kd.C_drew ?_))); (case side2 => rw [show t538.length = t521.length from (Kd.R_reads' HO523.out).1.symm]; exact (Kd.R_reads' HO523.out).2.1); rintro e w' ⟨rfl, ⟨nd, rfl⟩⟩; refine ⟨_, rfl, ?_⟩))
      go_ret
      exact ⟨y0_7, bI HB.out⟩
    · replace c17 := Bool.eq_false_iff.mpr c17
      subst c17
      rw [if_neg (show ¬ (false = true) by decide)] at H
      exact absurd (hrt.out.symm.trans (Option.some.inj H).symm) (by decide)

end Go.Proofs.YtcmldmlmhpfjhaaDoor.PFnExactSafeBytes
