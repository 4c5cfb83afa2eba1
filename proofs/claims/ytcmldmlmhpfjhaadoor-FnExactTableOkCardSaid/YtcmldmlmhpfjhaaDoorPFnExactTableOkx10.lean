-- By a program of this session, out of the translation (the print of the kit, with turns of its own). Lean checks it.
import Derived.Test.YtcmldmlmhpfjhaaDoorPFnExactTableOkx0
namespace Go.Proofs.YtcmldmlmhpfjhaaDoor.PFnExactTableOk
open Go.RowKit Go.Proofs.YtcmldmlmhpfjhaaDoorW.PrintWords Go.Proofs.YtcmldmlmhpfjhaaDoorW.PrintLast Go.Proofs.YtcmldmlmhpfjhaaDoorW.PrintMore
attribute [local go_sem] max2_int min2_int max_two min_two max_three min_three max_four min_four   -- for this text's walks alone
set_option linter.unusedVariables false
set_option linter.unusedSimpArgs false

/-! ### cmp_isNaN_int: function 136 -/
def cmp_isNaN_int.f (a0 : Int) : Option (Bool) := some (a0 != a0)
set_option maxHeartbeats 8000000 in
set_option maxRecDepth 100000 in
theorem cmp_isNaN_int.calls (a0 : Int) (r : Bool) (w : World) (h : cmp_isNaN_int.f a0 = some r) :
    Calls Tryd.prog 136 #[.int .i64 a0] w fun e w' => e = .returned (.bool r) ∧ Drawn0 w w' := by
  have H : (some (a0 != a0)) = some r := h
  clear h
  obtain rfl := Option.some.inj H
  go_enter Tryd.func136, Tryd.ntmps136
  go_wp2
  go_ret
  exact ⟨y0_8, y0_5⟩

/-! ### cmp_Compare_int: function 113 -/
def cmp_Compare_int.f (a0 : Int) (a1 : Int) : Option (Int) := (cmp_isNaN_int.f a0).bind fun t325 => ((cmp_isNaN_int.f a1).bind fun t326 => (if t325 = true then (if t326 = true then (some 0) else (some (-1))) else (if t326 = true then (some 1) else (if a0 < a1 then (some (-1)) else (if a0 > a1 then (some 1) else (some 0))))))
set_option maxHeartbeats 8000000 in
set_option maxRecDepth 100000 in
theorem cmp_Compare_int.calls (a0 : Int) (a1 : Int) (r : Int) (w : World) (h : cmp_Compare_int.f a0 a1 = some r) :
    Calls Tryd.prog 113 #[.int .i64 a0, .int .i64 a1] w fun e w' => e = .returned (.int .i64 r) ∧ Drawn0 w w' := by
  have H : ((cmp_isNaN_int.f a0).bind fun t325 => ((cmp_isNaN_int.f a1).bind fun t326 => (if t325 = true then (if t326 = true then (some 0) else (some (-1))) else (if t326 = true then (some 1) else (if a0 < a1 then (some (-1)) else (if a0 > a1 then (some 1) else (some 0))))))) = some r := h
  clear h
  obtain ⟨t325, A30, H⟩ := Option.bind_eq_some_iff.mp H
  try dsimp only at H
  have A3 := Aside0.mk A30
  clear A30
  obtain ⟨t326, A40, H⟩ := Option.bind_eq_some_iff.mp H
  try dsimp only at H
  have A4 := Aside0.mk A40
  clear A40
  by_cases c5 : t325 = true
  · subst c5
    rw [if_pos rfl] at H
    by_cases c6 : t326 = true
    · subst c6
      rw [if_pos rfl] at H
      obtain rfl := Option.some.inj H
      go_enter Tryd.func113, Tryd.ntmps113
      go_wp2_with (first | ((with_reducible refine gate_callee (f := 136) rfl ?_); refine gB (some 8) Tryd.func136 #[.int .i64 a0] ?_; (with_reducible refine (cmp_isNaN_int.calls a0 true _ A3.out).mono ?_); rintro e w' ⟨rfl, ⟨nd, rfl⟩⟩; refine ⟨_, rfl, ?_⟩) | ((with_reducible refine gate_callee (f := 136) rfl ?_); refine gB (some 10) Tryd.func136 #[.int .i64 a1] ?_; (with_reducible refine (cmp_isNaN_int.calls a1 true _ A4.out).mono ?_); rintro e w' ⟨rfl, ⟨nd, rfl⟩⟩; refine ⟨_, rfl, ?_⟩))
      go_ret
      exact ⟨y0_8, y0_5⟩
    · replace c6 := Bool.eq_false_iff.mpr c6
      subst c6
      rw [if_neg (show ¬ (false = true) by decide)] at H
      obtain rfl := Option.some.inj H
      go_enter Tryd.func113, Tryd.ntmps113
      go_wp2_with (first | ((with_reducible refine gate_callee (f := 136) rfl ?_); refine gB (some 8) Tryd.func136 #[.int .i64 a0] ?_; (with_reducible refine (cmp_isNaN_int.calls a0 true _ A3.out).mono ?_); rintro e w' ⟨rfl, ⟨nd, rfl⟩⟩; refine ⟨_, rfl, ?_⟩) | ((with_reducible refine gate_callee (f := 136) rfl ?_); refine gB (some 10) Tryd.func136 #[.int .i64 a1] ?_; (with_reducible refine (cmp_isNaN_int.calls a1 false _ A4.out).mono ?_); rintro e w' ⟨rfl, ⟨nd, rfl⟩⟩; refine ⟨_, rfl, ?_⟩))
      go_ret
      exact ⟨y0_8, y0_5⟩
  · replace c5 := Bool.eq_false_iff.mpr c5
    subst c5
    rw [if_neg (show ¬ (false = true) by decide)] at H
    by_cases c7 : t326 = true
    · subst c7
      rw [if_pos rfl] at H
      obtain rfl := Option.some.inj H
      go_enter Tryd.func113, Tryd.ntmps113
      go_wp2_with (first | ((with_reducible refine gate_callee (f := 136) rfl ?_); refine gB (some 8) Tryd.func136 #[.int .i64 a0] ?_; (with_reducible refine (cmp_isNaN_int.calls a0 false _ A3.out).mono ?_); rintro e w' ⟨rfl, ⟨nd, rfl⟩⟩; refine ⟨_, rfl, ?_⟩) | ((with_reducible refine gate_callee (f := 136) rfl ?_); refine gB (some 10) Tryd.func136 #[.int .i64 a1] ?_; (with_reducible refine (cmp_isNaN_int.calls a1 true _ A4.out).mono ?_); rintro e w' ⟨rfl, ⟨nd, rfl⟩⟩; refine ⟨_, rfl, ?_⟩))
      go_ret
      exact ⟨y0_8, y0_5⟩
    · replace c7 := Bool.eq_false_iff.mpr c7
      subst c7
      rw [if_neg (show ¬ (false = true) by decide)] at H
      by_cases c8 : a0 < a1
      · rw [if_pos c8] at H
        have c8b0 : decide (a0 < a1) = true := decide_eq_true c8
        clear c8
        obtain rfl := Option.some.inj H
        go_enter Tryd.func113, Tryd.ntmps113
        go_wp2_with (first | ((with_reducible refine gate_callee (f := 136) rfl ?_); refine gB (some 8) Tryd.func136 #[.int .i64 a0] ?_; (with_reducible refine (cmp_isNaN_int.calls a0 false _ A3.out).mono ?_); rintro e w' ⟨rfl, ⟨nd, rfl⟩⟩; refine ⟨_, rfl, ?_⟩) | ((with_reducible refine gate_callee (f := 136) rfl ?_); refine gB (some 10) Tryd.func136 #[.int .i64 a1] ?_; (with_reducible refine (cmp_isNaN_int.calls a1 false _ A4.out).mono ?_); rintro e w' ⟨rfl, ⟨nd, rfl⟩⟩; refine ⟨_, rfl, ?_⟩))
        go_ret
        exact ⟨y0_8, y0_5⟩
      · rw [if_neg c8] at H
        have c8b0 : decide (a0 < a1) = false := decide_eq_false c8
        clear c8
        by_cases c9 : a0 > a1
        · rw [if_pos c9] at H
          have c9b0 : decide (a1 < a0) = true := decide_eq_true c9
          clear c9
          obtain rfl := Option.some.inj H
          go_enter Tryd.func113, Tryd.ntmps113
          go_wp2_with (first | ((with_reducible refine gate_callee (f := 136) rfl ?_); refine gB (some 8) Tryd.func136 #[.int .i64 a0] ?_; (with_reducible refine (cmp_isNaN_int.calls a0 false _ A3.out).mono ?_); rintro e w' ⟨rfl, ⟨nd, rfl⟩⟩; refine ⟨_, rfl, ?_⟩) | ((with_reducible refine gate_callee (f := 136) rfl ?_); refine gB (some 10) Tryd.func136 #[.int .i64 a1] ?_; (with_reducible refine (cmp_isNaN_int.calls a1 false _ A4.out).mono ?_); rintro e w' ⟨rfl, ⟨nd, rfl⟩⟩; refine ⟨_, rfl, ?_⟩))
          go_ret
          exact ⟨y0_8, y0_5⟩
        · rw [if_neg c9] at H
          have c9b0 : decide (a1 < a0) = false := decide_eq_false c9
          clear c9
          obtain rfl := Option.some.inj H
          go_enter Tryd.func113, Tryd.ntmps113
          go_wp2_with (first | ((with_reducible refine gate_callee (f := 136) rfl ?_); refine gB (some 8) Tryd.func136 #[.int .i64 a0] ?_; (with_reducible refine (cmp_isNaN_int.calls a0 false _ A3.out).mono ?_); rintro e w' ⟨rfl, ⟨nd, rfl⟩⟩; refine ⟨_, rfl, ?_⟩) | ((with_reducible refine gate_callee (f := 136) rfl ?_); refine gB (some 10) Tryd.func136 #[.int .i64 a1] ?_; (with_reducible refine (cmp_isNaN_int.calls a1 false _ A4.out).mono ?_); rintro e w' ⟨rfl, ⟨nd, rfl⟩⟩; refine ⟨_, rfl, ?_⟩))
          go_ret
          exact ⟨y0_8, y0_5⟩

/-! ### cmp_isNaN_string: function 137 -/
def cmp_isNaN_string.f (a0 : ByteArray) : Option (Bool) := some (a0.toList != a0.toList)
set_option maxHeartbeats 8000000 in
set_option maxRecDepth 100000 in
theorem cmp_isNaN_string.calls (a0 : ByteArray) (r : Bool) (w : World) (h : cmp_isNaN_string.f a0 = some r) :
    Calls Tryd.prog 137 #[.string a0] w fun e w' => e = .returned (.bool r) ∧ Drawn0 w w' := by
  have H : (some (a0.toList != a0.toList)) = some r := h
  clear h
  obtain rfl := Option.some.inj H
  go_enter Tryd.func137, Tryd.ntmps137
  go_wp2
  go_ret
  exact ⟨y0_8, y0_5⟩

theorem lessGt : ∀ x y : List UInt8, (!(Op.bytesLess x y || x == y)) = Op.bytesLess y x
  | [], [] => by simp [Op.bytesLess]
  | [], b :: y => by simp [Op.bytesLess]
  | a :: x, [] => by simp [Op.bytesLess]
  | a :: x, b :: y => by
    have ih := lessGt x y
    simp only [Op.bytesLess]
    by_cases h1 : a < b
    · have h2 : ¬ b < a := by rw [UInt8.lt_iff_toNat_lt] at h1 ⊢; omega
      have h3 : b ≠ a := by rintro rfl; exact h2 h1
      simp [h1, h2, h3]
    · by_cases h2 : a = b
      · subst h2
        simp only [List.cons_beq_cons, beq_self_eq_true, Bool.true_and, h1, decide_false, Bool.false_or]
        exact ih
      · have h3 : b < a := by
          rw [UInt8.lt_iff_toNat_lt] at h1 ⊢
          have : a.toNat ≠ b.toNat := fun e => h2 (UInt8.toNat_inj.1 e)
          omega
        have h4 : b ≠ a := fun e => h2 e.symm
        simp [h1, h2, h3]
theorem gtr_str (t : TypeId) (a b : ByteArray) : binOp .gtr t (.string a) (.string b) = pure (.bool (Op.bytesLess b.toList a.toList)) := by
  rw [← lessGt]
  simp [binOp, Op.stringOp]

/-! ### cmp_Compare_string: function 114 -/
def cmp_Compare_string.f (a0 : ByteArray) (a1 : ByteArray) : Option (Int) := (cmp_isNaN_string.f a0).bind fun t327 => ((cmp_isNaN_string.f a1).bind fun t328 => (if t327 = true then (if t328 = true then (some 0) else (some (-1))) else (if t328 = true then (some 1) else (if (Op.bytesLess a0.toList a1.toList) = true then (some (-1)) else (if (Op.bytesLess a1.toList a0.toList) = true then (some 1) else (some 0))))))
set_option maxHeartbeats 8000000 in
set_option maxRecDepth 100000 in
theorem cmp_Compare_string.calls (a0 : ByteArray) (a1 : ByteArray) (r : Int) (w : World) (h : cmp_Compare_string.f a0 a1 = some r) :
    Calls Tryd.prog 114 #[.string a0, .string a1] w fun e w' => e = .returned (.int .i64 r) ∧ Drawn0 w w' := by
  have hgs := gtr_str
  have H : ((cmp_isNaN_string.f a0).bind fun t327 => ((cmp_isNaN_string.f a1).bind fun t328 => (if t327 = true then (if t328 = true then (some 0) else (some (-1))) else (if t328 = true then (some 1) else (if (Op.bytesLess a0.toList a1.toList) = true then (some (-1)) else (if (Op.bytesLess a1.toList a0.toList) = true then (some 1) else (some 0))))))) = some r := h
  clear h
  obtain ⟨t327, A30, H⟩ := Option.bind_eq_some_iff.mp H
  try dsimp only at H
  have A3 := Aside0.mk A30
  clear A30
  obtain ⟨t328, A40, H⟩ := Option.bind_eq_some_iff.mp H
  try dsimp only at H
  have A4 := Aside0.mk A40
  clear A40
  by_cases c5 : t327 = true
  · subst c5
    rw [if_pos rfl] at H
    by_cases c6 : t328 = true
    · subst c6
      rw [if_pos rfl] at H
      obtain rfl := Option.some.inj H
      go_enter Tryd.func114, Tryd.ntmps114
      go_wp2_with (first | ((with_reducible refine gate_callee (f := 137) rfl ?_); refine gB (some 8) Tryd.func137 #[.string a0] ?_; (with_reducible refine (cmp_isNaN_string.calls a0 true _ A3.out).mono ?_); rintro e w' ⟨rfl, ⟨nd, rfl⟩⟩; refine ⟨_, rfl, ?_⟩) | ((with_reducible refine gate_callee (f := 137) rfl ?_); refine gB (some 10) Tryd.func137 #[.string a1] ?_; (with_reducible refine (cmp_isNaN_string.calls a1 true _ A4.out).mono ?_); rintro e w' ⟨rfl, ⟨nd, rfl⟩⟩; refine ⟨_, rfl, ?_⟩))
      go_ret
      exact ⟨y0_8, y0_5⟩
    · replace c6 := Bool.eq_false_iff.mpr c6
      subst c6
      rw [if_neg (show ¬ (false = true) by decide)] at H
      obtain rfl := Option.some.inj H
      go_enter Tryd.func114, Tryd.ntmps114
      go_wp2_with (first | ((with_reducible refine gate_callee (f := 137) rfl ?_); refine gB (some 8) Tryd.func137 #[.string a0] ?_; (with_reducible refine (cmp_isNaN_string.calls a0 true _ A3.out).mono ?_); rintro e w' ⟨rfl, ⟨nd, rfl⟩⟩; refine ⟨_, rfl, ?_⟩) | ((with_reducible refine gate_callee (f := 137) rfl ?_); refine gB (some 10) Tryd.func137 #[.string a1] ?_; (with_reducible refine (cmp_isNaN_string.calls a1 false _ A4.out).mono ?_); rintro e w' ⟨rfl, ⟨nd, rfl⟩⟩; refine ⟨_, rfl, ?_⟩))
      go_ret
      exact ⟨y0_8, y0_5⟩
  · replace c5 := Bool.eq_false_iff.mpr c5
    subst c5
    rw [if_neg (show ¬ (false = true) by decide)] at H
    by_cases c7 : t328 = true
    · subst c7
      rw [if_pos rfl] at H
      obtain rfl := Option.some.inj H
      go_enter Tryd.func114, Tryd.ntmps114
      go_wp2_with (first | ((with_reducible refine gate_callee (f := 137) rfl ?_); refine gB (some 8) Tryd.func137 #[.string a0] ?_; (with_reducible refine (cmp_isNaN_string.calls a0 false _ A3.out).mono ?_); rintro e w' ⟨rfl, ⟨nd, rfl⟩⟩; refine ⟨_, rfl, ?_⟩) | ((with_reducible refine gate_callee (f := 137) rfl ?_); refine gB (some 10) Tryd.func137 #[.string a1] ?_; (with_reducible refine (cmp_isNaN_string.calls a1 true _ A4.out).mono ?_); rintro e w' ⟨rfl, ⟨nd, rfl⟩⟩; refine ⟨_, rfl, ?_⟩))
      go_ret
      exact ⟨y0_8, y0_5⟩
    · replace c7 := Bool.eq_false_iff.mpr c7
      subst c7
      rw [if_neg (show ¬ (false = true) by decide)] at H
      by_cases c8 : (Op.bytesLess a0.toList a1.toList) = true
      · rw [if_pos c8] at H
        have c8b0 : (Op.bytesLess a0.toList a1.toList) = true := c8
        clear c8
        obtain rfl := Option.some.inj H
        go_enter Tryd.func114, Tryd.ntmps114
        go_wp2_with (first | ((with_reducible refine gate_callee (f := 137) rfl ?_); refine gB (some 8) Tryd.func137 #[.string a0] ?_; (with_reducible refine (cmp_isNaN_string.calls a0 false _ A3.out).mono ?_); rintro e w' ⟨rfl, ⟨nd, rfl⟩⟩; refine ⟨_, rfl, ?_⟩) | ((with_reducible refine gate_callee (f := 137) rfl ?_); refine gB (some 10) Tryd.func137 #[.string a1] ?_; (with_reducible refine (cmp_isNaN_string.calls a1 false _ A4.out).mono ?_); rintro e w' ⟨rfl, ⟨nd, rfl⟩⟩; refine ⟨_, rfl, ?_⟩))
        go_ret
        exact ⟨y0_8, y0_5⟩
      · rw [if_neg c8] at H
        have c8b0 : (Op.bytesLess a0.toList a1.toList) = false := by simpa using c8
        clear c8
        by_cases c9 : (Op.bytesLess a1.toList a0.toList) = true
        · rw [if_pos c9] at H
          have c9b0 : (Op.bytesLess a1.toList a0.toList) = true := c9
          clear c9
          obtain rfl := Option.some.inj H
          go_enter Tryd.func114, Tryd.ntmps114
          go_wp2_with (first | ((with_reducible refine gate_callee (f := 137) rfl ?_); refine gB (some 8) Tryd.func137 #[.string a0] ?_; (with_reducible refine (cmp_isNaN_string.calls a0 false _ A3.out).mono ?_); rintro e w' ⟨rfl, ⟨nd, rfl⟩⟩; refine ⟨_, rfl, ?_⟩) | ((with_reducible refine gate_callee (f := 137) rfl ?_); refine gB (some 10) Tryd.func137 #[.string a1] ?_; (with_reducible refine (cmp_isNaN_string.calls a1 false _ A4.out).mono ?_); rintro e w' ⟨rfl, ⟨nd, rfl⟩⟩; refine ⟨_, rfl, ?_⟩))
          go_ret
          exact ⟨y0_8, y0_5⟩
        · rw [if_neg c9] at H
          have c9b0 : (Op.bytesLess a1.toList a0.toList) = false := by simpa using c9
          clear c9
          obtain rfl := Option.some.inj H
          go_enter Tryd.func114, Tryd.ntmps114
          go_wp2_with (first | ((with_reducible refine gate_callee (f := 137) rfl ?_); refine gB (some 8) Tryd.func137 #[.string a0] ?_; (with_reducible refine (cmp_isNaN_string.calls a0 false _ A3.out).mono ?_); rintro e w' ⟨rfl, ⟨nd, rfl⟩⟩; refine ⟨_, rfl, ?_⟩) | ((with_reducible refine gate_callee (f := 137) rfl ?_); refine gB (some 10) Tryd.func137 #[.string a1] ?_; (with_reducible refine (cmp_isNaN_string.calls a1 false _ A4.out).mono ?_); rintro e w' ⟨rfl, ⟨nd, rfl⟩⟩; refine ⟨_, rfl, ?_⟩))
          go_ret
          exact ⟨y0_8, y0_5⟩

/-! ### impl_comparePlace: function 85 -/
def impl_comparePlace.f (a0_0 : Int) (a0_1 : ByteArray) (l0_2 : List Int) (a1_0 : Int) (a1_1 : ByteArray) (l1_2 : List Int) : Option (Int) := (cmp_Compare_int.f a0_0 a1_0).bind fun t331 => (if t331 = 0 then ((cmp_Compare_string.f a0_1 a1_1).bind fun t332 => (some t332)) else (some t331))
set_option maxHeartbeats 8000000 in
set_option maxRecDepth 100000 in
theorem impl_comparePlace.calls (a0_0 : Int) (a0_1 : ByteArray) (A0_2 : Option Addr) (c0_2 : Nat) (l0_2 : List Int) (a1_0 : Int) (a1_1 : ByteArray) (A1_2 : Option Addr) (c1_2 : Nat) (l1_2 : List Int) (r : Int) (w : World) (hr0_2 : Kd.C (Kd.int .i64) w A0_2 l0_2.length l0_2) (hc0_2 : l0_2.length ≤ c0_2) (hr1_2 : Kd.C (Kd.int .i64) w A1_2 l1_2.length l1_2) (hc1_2 : l1_2.length ≤ c1_2) (h : impl_comparePlace.f a0_0 a0_1 l0_2 a1_0 a1_1 l1_2 = some r) :
    Calls Tryd.prog 85 #[.agg #[.int .i64 a0_0, .string a0_1, .slice A0_2 l0_2.length c0_2], .agg #[.int .i64 a1_0, .string a1_1, .slice A1_2 l1_2.length c1_2]] w fun e w' => e = .returned (.int .i64 r) ∧ Below w.heap.size w w' := by
  have hu34 := Tryd.underlying34
  have HR0_2 := Aside0.mk hr0_2
  have HC0_2 := Aside0.mk hc0_2
  clear hr0_2 hc0_2
  have HR1_2 := Aside0.mk hr1_2
  have HC1_2 := Aside0.mk hc1_2
  clear hr1_2 hc1_2
  have HB := Aside0.mk (Below.refl w.heap.size w)
  have H : ((cmp_Compare_int.f a0_0 a1_0).bind fun t331 => (if t331 = 0 then ((cmp_Compare_string.f a0_1 a1_1).bind fun t332 => (some t332)) else (some t331))) = some r := h
  clear h
  obtain ⟨t331, A30, H⟩ := Option.bind_eq_some_iff.mp H
  try dsimp only at H
  have A3 := Aside0.mk A30
  clear A30
  by_cases c4 : t331 = 0
  · rw [if_pos c4] at H
    have c4b0 : (t331 == 0) = true := beq_iff_eq.mpr c4
    have c4b1 : (t331 != 0) = false := bne_eq_false_iff_eq.mpr c4
    clear c4
    obtain ⟨t332, A50, H⟩ := Option.bind_eq_some_iff.mp H
    try dsimp only at H
    have A5 := Aside0.mk A50
    clear A50
    obtain rfl := Option.some.inj H
    go_enter Tryd.func85, Tryd.ntmps85
    go_wp2_with (first | ((with_reducible refine gd 2 ?_); refine bA 2 #[.int .i64 a0_0, .string a0_1, .slice A0_2 l0_2.length c0_2] 34 ?_; intro gb329 hg w6 hbox hb; have BK329 := Aside0.mk (hbox); have GW329 := bg hg HB; have GJ329 := gi GW329; have GE329 := GW329; replace HB := bs HB hb; clear hb hbox hg) | ((with_reducible refine gd 3 ?_); refine bA 3 #[.int .i64 a1_0, .string a1_1, .slice A1_2 l1_2.length c1_2] 34 ?_; intro gb330 hg w7 hbox hb; have BK330 := Aside0.mk (hbox); have GW330 := bg hg HB; have GJ330 := gi GW330; have GE330 := GW330; replace HB := bs HB hb; have NB329_330 := b1 BK329 hg; have NI329_330 := ni NB329_330; have NB330_329 := b2 BK329 hg; have NI330_329 := ni NB330_329; replace BK329 := bk BK329 hb; clear hb hbox hg; have hnb8 := NB329_330.out; have hnc8 := NB330_329.out; obtain ⟨hcz9_0, hcz9_1, hcz9_2, hfz9_0, hfz9_1, hfz9_2⟩ := cs3 BK329; obtain ⟨hcz10_0, hcz10_1, hcz10_2, hfz10_0, hfz10_1, hfz10_2⟩ := cs3 BK330) | ((with_reducible refine gate_callee (f := 113) rfl ?_); refine gB (some 10) Tryd.func113 #[.int .i64 a0_0, .int .i64 a1_0] ?_; (with_reducible refine (cmp_Compare_int.calls a0_0 a1_0 t331 _ A3.out).mono ?_); rintro e w' ⟨rfl, ⟨nd, rfl⟩⟩; refine ⟨_, rfl, ?_⟩) | ((with_reducible refine gate_callee (f := 114) rfl ?_); refine gB (some 18) Tryd.func114 #[.string a0_1, .string a1_1] ?_; (with_reducible refine (cmp_Compare_string.calls a0_1 a1_1 t332 _ A5.out).mono ?_); rintro e w' ⟨rfl, ⟨nd, rfl⟩⟩; refine ⟨_, rfl, ?_⟩))
    go_ret
    exact ⟨y0_4, bI HB.out⟩
  · rw [if_neg c4] at H
    have c4b0 : (t331 == 0) = false := beq_eq_false_iff_ne.mpr c4
    have c4b1 : (t331 != 0) = true := bne_iff_ne.mpr c4
    obtain rfl := Option.some.inj H
    go_enter Tryd.func85, Tryd.ntmps85
    go_wp2_with (first | ((with_reducible refine gd 2 ?_); refine bA 2 #[.int .i64 a0_0, .string a0_1, .slice A0_2 l0_2.length c0_2] 34 ?_; intro gb329 hg w11 hbox hb; have BK329 := Aside0.mk (hbox); have GW329 := bg hg HB; have GJ329 := gi GW329; have GE329 := GW329; replace HB := bs HB hb; clear hb hbox hg) | ((with_reducible refine gd 3 ?_); refine bA 3 #[.int .i64 a1_0, .string a1_1, .slice A1_2 l1_2.length c1_2] 34 ?_; intro gb330 hg w12 hbox hb; have BK330 := Aside0.mk (hbox); have GW330 := bg hg HB; have GJ330 := gi GW330; have GE330 := GW330; replace HB := bs HB hb; have NB329_330 := b1 BK329 hg; have NI329_330 := ni NB329_330; have NB330_329 := b2 BK329 hg; have NI330_329 := ni NB330_329; replace BK329 := bk BK329 hb; clear hb hbox hg; have hnb13 := NB329_330.out; have hnc13 := NB330_329.out; obtain ⟨hcz14_0, hcz14_1, hcz14_2, hfz14_0, hfz14_1, hfz14_2⟩ := cs3 BK329; obtain ⟨hcz15_0, hcz15_1, hcz15_2, hfz15_0, hfz15_1, hfz15_2⟩ := cs3 BK330) | ((with_reducible refine gate_callee (f := 113) rfl ?_); refine gB (some 10) Tryd.func113 #[.int .i64 a0_0, .int .i64 a1_0] ?_; (with_reducible refine (cmp_Compare_int.calls a0_0 a1_0 t331 _ A3.out).mono ?_); rintro e w' ⟨rfl, ⟨nd, rfl⟩⟩; refine ⟨_, rfl, ?_⟩))
    go_ret
    exact ⟨y0_4, bI HB.out⟩

end Go.Proofs.YtcmldmlmhpfjhaaDoor.PFnExactTableOk
