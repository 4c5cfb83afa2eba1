-- By a program of this session, out of the translation (the print of the kit, with turns of its own). Lean checks it.
import Derived.Test.YtcmldmlmhpfjhaaDoorPFnExactTableOkx0
import Derived.Test.YtcmldmlmhpfjhaaDoorPFnExactTableOkx1
import Derived.Test.YtcmldmlmhpfjhaaDoorPFnExactTableOkx5
import Derived.Test.YtcmldmlmhpfjhaaDoorPFnExactTableOkx6
import Derived.Test.YtcmldmlmhpfjhaaDoorPFnExactTableOkx11
namespace Go.Proofs.YtcmldmlmhpfjhaaDoor.PFnExactTableOk
open Go.RowKit Go.Proofs.YtcmldmlmhpfjhaaDoorW.PrintWords Go.Proofs.YtcmldmlmhpfjhaaDoorW.PrintLast Go.Proofs.YtcmldmlmhpfjhaaDoorW.PrintMore
attribute [local go_sem] max2_int min2_int max_two min_two max_three min_three max_four min_four   -- for this text's walks alone
set_option linter.unusedVariables false
set_option linter.unusedSimpArgs false

/-! ### laws_eqIntS: function 81 -/
def laws_eqIntS.l0 : Nat → List Int → List Int → Int → Option (Bool)
  | 0, _, _, _ => none
  | k + 1, x0, x1, x5 => if x5 < (x0.length : Int) then (if 0 ≤ x5 then (if x5 < (x1.length : Int) then (if (rd x0 x5) = (rd x1 x5) then (laws_eqIntS.l0 k x0 x1 (wrap64 (x5 + 1))) else (some false)) else (none)) else (none)) else (some true)
def laws_eqIntS.f (k : Nat) (l0 : List Int) (l1 : List Int) : Option (Bool) := if (l0.length : Int) = (l1.length : Int) then (laws_eqIntS.l0 k l0 l1 0) else (some false)
theorem laws_eqIntS.mono_l : ∀ k, (∀ y0 y1 y2, LeO (laws_eqIntS.l0 k y0 y1 y2) (laws_eqIntS.l0 (k + 1) y0 y1 y2))
  | 0 => fun _ _ _ r h => by simp [laws_eqIntS.l0] at h
  | k + 1 => by
    have ih0 := laws_eqIntS.mono_l k
    · intro y0 y1 y2
      unfold laws_eqIntS.l0
      repeat' first
      | (with_reducible exact ih0 _ _ _)
      | (with_reducible exact LeO.refl _)
      | (with_reducible exact LeO.none _)
      | (with_reducible refine LeO.ite ?_ ?_)
      | (with_reducible refine LeO.bind ?_ (fun _ => ?_))
      | exact ih0 _ _ _
      | exact LeO.none _
      | refine LeO.ite ?_ ?_
      | refine LeO.bind ?_ (fun _ => ?_)
theorem laws_eqIntS.mono : ∀ a0 a1 k, LeO (laws_eqIntS.f k a0 a1) (laws_eqIntS.f (k + 1) a0 a1) := by
  intro a0 a1 k
  have ih0 := laws_eqIntS.mono_l k
  unfold laws_eqIntS.f
  repeat' first
      | (with_reducible exact ih0 _ _ _)
      | (with_reducible exact LeO.refl _)
      | (with_reducible exact LeO.none _)
      | (with_reducible refine LeO.ite ?_ ?_)
      | (with_reducible refine LeO.bind ?_ (fun _ => ?_))
      | exact ih0 _ _ _
      | exact LeO.none _
      | refine LeO.ite ?_ ?_
      | refine LeO.bind ?_ (fun _ => ?_)
set_option maxHeartbeats 8000000 in
set_option maxRecDepth 100000 in
theorem laws_eqIntS.calls (k : Nat) (A0 : Option Addr) (c0 : Nat) (l0 : List Int) (A1 : Option Addr) (c1 : Nat) (l1 : List Int) (r : Bool) (w : World) (hr0 : Kd.C (Kd.int .i64) w A0 l0.length l0) (hc0 : l0.length ≤ c0) (hr1 : Kd.C (Kd.int .i64) w A1 l1.length l1) (hc1 : l1.length ≤ c1) (h : laws_eqIntS.f k l0 l1 = some r) :
    Calls Tryd.prog 81 #[.slice A0 l0.length c0, .slice A1 l1.length c1] w fun e w' => e = .returned (.bool r) ∧ Drawn0 w w' := by
  have HR0 := Aside0.mk hr0
  have HC0 := Aside0.mk hc0
  clear hr0 hc0
  have HR1 := Aside0.mk hr1
  have HC1 := Aside0.mk hc1
  clear hr1 hc1
  have H : (if (l0.length : Int) = (l1.length : Int) then (laws_eqIntS.l0 k l0 l1 0) else (some false)) = some r := h
  clear h
  by_cases c3 : (l0.length : Int) = (l1.length : Int)
  · rw [if_pos c3] at H
    have c3b0 : ((l0.length : Int) == (l1.length : Int)) = true := beq_iff_eq.mpr c3
    have c3b1 : ((l0.length : Int) != (l1.length : Int)) = false := bne_eq_false_iff_eq.mpr c3
    have c3b2 : (l0.length == l1.length) = true := by first | simpa using c3 | (simp at c3 ⊢; omega)
    clear c3
    have H' := Aside0.mk H
    clear H
    go_enter Tryd.func81, Tryd.ntmps81
    go_wp2
    repeat (go_quiet (fail); try go_wp2)
    go_loopg [5] k (fun kq v5 w' => ∃ (x5_1 : Int), v5 = .int .i64 x5_1 ∧ Aside0 (laws_eqIntS.l0 kq l0 l1 x5_1 = some r) ∧ Aside0 (kq ≤ k) ∧ Drawn0 w w')
    case atStart => exact ⟨(0), y0_8, H', ⟨Nat.le_refl _⟩, y0_5⟩
    case round =>
      clear H'
      try clear c1
      try clear p2
      try clear c3
      try clear c3b0
      try clear c3b1
      try clear c3b2
      obtain ⟨x5_1, rfl, HA, HK1, ⟨m1, rfl⟩⟩ := hrel
      cases gk with
      | zero => exact absurd HA.out (by simp [laws_eqIntS.l0])
      | succ k1 =>
        have H := HA.out
        clear HA
        simp only [laws_eqIntS.l0] at H
        by_cases c4 : x5_1 < (l0.length : Int)
        · rw [if_pos c4] at H
          have c4b0 : decide (x5_1 < (l0.length : Int)) = true := decide_eq_true c4
          clear c4
          by_cases c5 : 0 ≤ x5_1
          rotate_left
          · rw [if_neg c5] at H
            exact absurd H (by simp)
          rw [if_pos c5] at H
          have c5b0 : decide (0 ≤ x5_1) = true := decide_eq_true c5
          clear c5
          by_cases c6 : x5_1 < (l1.length : Int)
          rotate_left
          · rw [if_neg c6] at H
            exact absurd H (by simp)
          rw [if_pos c6] at H
          have c6b0 : decide (x5_1 < (l1.length : Int)) = true := decide_eq_true c6
          clear c6
          by_cases c7 : (rd l0 x5_1) = (rd l1 x5_1)
          · rw [if_pos c7] at H
            have c7b0 : ((rd l0 x5_1) == (rd l1 x5_1)) = true := beq_iff_eq.mpr c7
            have c7b1 : ((rd l0 x5_1) != (rd l1 x5_1)) = false := bne_eq_false_iff_eq.mpr c7
            clear c7
            have H' := Aside0.mk H
            clear H
            have p339 : 0 ≤ (x5_1 : Int) := of_decide_eq_true y0_7
            have q339 : x5_1 < (l0.length : Int) := of_decide_eq_true y0_7
            obtain ⟨ad339, e339, hx339_0⟩ := Kd.at_int HR0.out x5_1 p339 q339
            cases e339
            replace p339 := eq_true p339
            replace q339 := eq_true q339
            have p340 : 0 ≤ (x5_1 : Int) := of_decide_eq_true y0_7
            have q340 : x5_1 < (l1.length : Int) := of_decide_eq_true y0_7
            obtain ⟨ad340, e340, hx340_0⟩ := Kd.at_int HR1.out x5_1 p340 q340
            cases e340
            replace p340 := eq_true p340
            replace q340 := eq_true q340
            go_wp2
            repeat (go_quiet (fail); try go_wp2)
            go_roundg k1
            case measure => have := HK1.out; omega
            case rel => exact ⟨(wrap64 (x5_1 + 1)), y0_8, H', ⟨y0_12⟩, y0_5⟩
          · rw [if_neg c7] at H
            have c7b0 : ((rd l0 x5_1) == (rd l1 x5_1)) = false := beq_eq_false_iff_ne.mpr c7
            have c7b1 : ((rd l0 x5_1) != (rd l1 x5_1)) = true := bne_iff_ne.mpr c7
            obtain rfl := Option.some.inj H
            have p339 : 0 ≤ (x5_1 : Int) := of_decide_eq_true y0_7
            have q339 : x5_1 < (l0.length : Int) := of_decide_eq_true y0_7
            obtain ⟨ad339, e339, hx339_0⟩ := Kd.at_int HR0.out x5_1 p339 q339
            cases e339
            replace p339 := eq_true p339
            replace q339 := eq_true q339
            have p340 : 0 ≤ (x5_1 : Int) := of_decide_eq_true y0_7
            have q340 : x5_1 < (l1.length : Int) := of_decide_eq_true y0_7
            obtain ⟨ad340, e340, hx340_0⟩ := Kd.at_int HR1.out x5_1 p340 q340
            cases e340
            replace p340 := eq_true p340
            replace q340 := eq_true q340
            go_wp2
            repeat (go_quiet (fail); try go_wp2)
            go_ret
            exact ⟨y0_8, y0_5⟩
        · rw [if_neg c4] at H
          have c4b0 : decide (x5_1 < (l0.length : Int)) = false := decide_eq_false c4
          clear c4
          obtain rfl := Option.some.inj H
          go_wp2
          repeat (go_quiet (fail); try go_wp2)
          go_ret
          exact ⟨y0_8, y0_5⟩
  · rw [if_neg c3] at H
    have c3b0 : ((l0.length : Int) == (l1.length : Int)) = false := beq_eq_false_iff_ne.mpr c3
    have c3b1 : ((l0.length : Int) != (l1.length : Int)) = true := bne_iff_ne.mpr c3
    have c3b2 : (l0.length == l1.length) = false := by first | simpa using c3 | (simp at c3 ⊢; omega)
    obtain rfl := Option.some.inj H
    go_enter Tryd.func81, Tryd.ntmps81
    go_wp2
    repeat (go_quiet (fail); try go_wp2)
    go_ret
    exact ⟨y0_8, y0_5⟩

/-! ### laws_eqPart: function 22 -/
def laws_eqPart.f (k : Nat) (a0_0 : Int) (a0_1 : ByteArray) (l0_2 : List Int) (a1_0 : Int) (a1_1 : ByteArray) (l1_2 : List Int) : Option (Bool) := if a0_0 = a1_0 then (if a0_1.toList = a1_1.toList then ((laws_eqIntS.f k l0_2 l1_2).bind fun t343 => (if t343 = true then (some true) else (some false))) else (some false)) else (some false)
theorem laws_eqPart.mono : ∀ a0 a1 a2 a3 a4 a5 k, LeO (laws_eqPart.f k a0 a1 a2 a3 a4 a5) (laws_eqPart.f (k + 1) a0 a1 a2 a3 a4 a5) := by
  intro a0 a1 a2 a3 a4 a5 k
  unfold laws_eqPart.f
  repeat' first
      | (with_reducible exact laws_eqIntS.mono _ _ _)
      | (with_reducible exact LeO.refl _)
      | (with_reducible exact LeO.none _)
      | (with_reducible refine LeO.ite ?_ ?_)
      | (with_reducible refine LeO.bind ?_ (fun _ => ?_))
      | exact laws_eqIntS.mono _ _ _
      | exact LeO.none _
      | refine LeO.ite ?_ ?_
      | refine LeO.bind ?_ (fun _ => ?_)
set_option maxHeartbeats 8000000 in
set_option maxRecDepth 100000 in
theorem laws_eqPart.calls (k : Nat) (a0_0 : Int) (a0_1 : ByteArray) (A0_2 : Option Addr) (c0_2 : Nat) (l0_2 : List Int) (a1_0 : Int) (a1_1 : ByteArray) (A1_2 : Option Addr) (c1_2 : Nat) (l1_2 : List Int) (r : Bool) (w : World) (hr0_2 : Kd.C (Kd.int .i64) w A0_2 l0_2.length l0_2) (hc0_2 : l0_2.length ≤ c0_2) (hr1_2 : Kd.C (Kd.int .i64) w A1_2 l1_2.length l1_2) (hc1_2 : l1_2.length ≤ c1_2) (h : laws_eqPart.f k a0_0 a0_1 l0_2 a1_0 a1_1 l1_2 = some r) :
    Calls Tryd.prog 22 #[.agg #[.int .i64 a0_0, .string a0_1, .slice A0_2 l0_2.length c0_2], .agg #[.int .i64 a1_0, .string a1_1, .slice A1_2 l1_2.length c1_2]] w fun e w' => e = .returned (.bool r) ∧ Below w.heap.size w w' := by
  have hu34 := Tryd.underlying34
  have HR0_2 := Aside0.mk hr0_2
  have HC0_2 := Aside0.mk hc0_2
  clear hr0_2 hc0_2
  have HR1_2 := Aside0.mk hr1_2
  have HC1_2 := Aside0.mk hc1_2
  clear hr1_2 hc1_2
  have HB := Aside0.mk (Below.refl w.heap.size w)
  have H : (if a0_0 = a1_0 then (if a0_1.toList = a1_1.toList then ((laws_eqIntS.f k l0_2 l1_2).bind fun t343 => (if t343 = true then (some true) else (some false))) else (some false)) else (some false)) = some r := h
  clear h
  by_cases c3 : a0_0 = a1_0
  · rw [if_pos c3] at H
    have c3b0 : (a0_0 == a1_0) = true := beq_iff_eq.mpr c3
    have c3b1 : (a0_0 != a1_0) = false := bne_eq_false_iff_eq.mpr c3
    clear c3
    by_cases c4 : a0_1.toList = a1_1.toList
    · rw [if_pos c4] at H
      have c4b0 : (a0_1.toList == a1_1.toList) = true := beq_iff_eq.mpr c4
      have c4b1 : (a0_1.toList != a1_1.toList) = false := bne_eq_false_iff_eq.mpr c4
      clear c4
      obtain ⟨t343, A50, H⟩ := Option.bind_eq_some_iff.mp H
      try dsimp only at H
      have A5 := Aside0.mk A50
      clear A50
      by_cases c6 : t343 = true
      · subst c6
        rw [if_pos rfl] at H
        obtain rfl := Option.some.inj H
        go_enter Tryd.func22, Tryd.ntmps22
        go_wp2_with (first | ((with_reducible refine gd 2 ?_); refine bA 2 #[.int .i64 a0_0, .string a0_1, .slice A0_2 l0_2.length c0_2] 34 ?_; intro gb341 hg w7 hbox hb; have BK341 := Aside0.mk (hbox); have GW341 := bg hg HB; have GJ341 := gi GW341; have GE341 := GW341; replace HB := bs HB hb; clear hb hbox hg) | ((with_reducible refine gd 3 ?_); refine bA 3 #[.int .i64 a1_0, .string a1_1, .slice A1_2 l1_2.length c1_2] 34 ?_; intro gb342 hg w8 hbox hb; have BK342 := Aside0.mk (hbox); have GW342 := bg hg HB; have GJ342 := gi GW342; have GE342 := GW342; replace HB := bs HB hb; have NB341_342 := b1 BK341 hg; have NI341_342 := ni NB341_342; have NB342_341 := b2 BK341 hg; have NI342_341 := ni NB342_341; replace BK341 := bk BK341 hb; clear hb hbox hg; have hnb9 := NB341_342.out; have hnc9 := NB342_341.out; obtain ⟨hcz10_0, hcz10_1, hcz10_2, hfz10_0, hfz10_1, hfz10_2⟩ := cs3 BK341; obtain ⟨hcz11_0, hcz11_1, hcz11_2, hfz11_0, hfz11_1, hfz11_2⟩ := cs3 BK342) | ((with_reducible refine gate_callee (f := 81) rfl ?_); refine gB (some 19) Tryd.func81 #[.slice A0_2 l0_2.length c0_2, .slice A1_2 l1_2.length c1_2] ?_; (with_reducible refine (laws_eqIntS.calls k _ _ l0_2 _ _ l1_2 true _ ?side1 ?side2 ?side3 ?side4 A5.out).mono ?_); (case side1 => exact ch HR0_2 HB); (case side2 => exact HC0_2.out); (case side3 => exact ch HR1_2 HB); (case side4 => exact HC1_2.out); rintro e w' ⟨rfl, ⟨nd, rfl⟩⟩; refine ⟨_, rfl, ?_⟩))
        go_ret
        exact ⟨y0_4, bI HB.out⟩
      · replace c6 := Bool.eq_false_iff.mpr c6
        subst c6
        rw [if_neg (show ¬ (false = true) by decide)] at H
        obtain rfl := Option.some.inj H
        go_enter Tryd.func22, Tryd.ntmps22
        go_wp2_with (first | ((with_reducible refine gd 2 ?_); refine bA 2 #[.int .i64 a0_0, .string a0_1, .slice A0_2 l0_2.length c0_2] 34 ?_; intro gb341 hg w12 hbox hb; have BK341 := Aside0.mk (hbox); have GW341 := bg hg HB; have GJ341 := gi GW341; have GE341 := GW341; replace HB := bs HB hb; clear hb hbox hg) | ((with_reducible refine gd 3 ?_); refine bA 3 #[.int .i64 a1_0, .string a1_1, .slice A1_2 l1_2.length c1_2] 34 ?_; intro gb342 hg w13 hbox hb; have BK342 := Aside0.mk (hbox); have GW342 := bg hg HB; have GJ342 := gi GW342; have GE342 := GW342; replace HB := bs HB hb; have NB341_342 := b1 BK341 hg; have NI341_342 := ni NB341_342; have NB342_341 := b2 BK341 hg; have NI342_341 := ni NB342_341; replace BK341 := bk BK341 hb; clear hb hbox hg; have hnb14 := NB341_342.out; have hnc14 := NB342_341.out; obtain ⟨hcz15_0, hcz15_1, hcz15_2, hfz15_0, hfz15_1, hfz15_2⟩ := cs3 BK341; obtain ⟨hcz16_0, hcz16_1, hcz16_2, hfz16_0, hfz16_1, hfz16_2⟩ := cs3 BK342) | ((with_reducible refine gate_callee (f := 81) rfl ?_); refine gB (some 19) Tryd.func81 #[.slice A0_2 l0_2.length c0_2, .slice A1_2 l1_2.length c1_2] ?_; (with_reducible refine (laws_eqIntS.calls k _ _ l0_2 _ _ l1_2 false _ ?side1 ?side2 ?side3 ?side4 A5.out).mono ?_); (case side1 => exact ch HR0_2 HB); (case side2 => exact HC0_2.out); (case side3 => exact ch HR1_2 HB); (case side4 => exact HC1_2.out); rintro e w' ⟨rfl, ⟨nd, rfl⟩⟩; refine ⟨_, rfl, ?_⟩))
        go_ret
        exact ⟨y0_4, bI HB.out⟩
    · rw [if_neg c4] at H
      have c4b0 : (a0_1.toList == a1_1.toList) = false := beq_eq_false_iff_ne.mpr c4
      have c4b1 : (a0_1.toList != a1_1.toList) = true := bne_iff_ne.mpr c4
      obtain rfl := Option.some.inj H
      go_enter Tryd.func22, Tryd.ntmps22
      go_wp2_with (first | ((with_reducible refine gd 2 ?_); refine bA 2 #[.int .i64 a0_0, .string a0_1, .slice A0_2 l0_2.length c0_2] 34 ?_; intro gb341 hg w17 hbox hb; have BK341 := Aside0.mk (hbox); have GW341 := bg hg HB; have GJ341 := gi GW341; have GE341 := GW341; replace HB := bs HB hb; clear hb hbox hg) | ((with_reducible refine gd 3 ?_); refine bA 3 #[.int .i64 a1_0, .string a1_1, .slice A1_2 l1_2.length c1_2] 34 ?_; intro gb342 hg w18 hbox hb; have BK342 := Aside0.mk (hbox); have GW342 := bg hg HB; have GJ342 := gi GW342; have GE342 := GW342; replace HB := bs HB hb; have NB341_342 := b1 BK341 hg; have NI341_342 := ni NB341_342; have NB342_341 := b2 BK341 hg; have NI342_341 := ni NB342_341; replace BK341 := bk BK341 hb; clear hb hbox hg; have hnb19 := NB341_342.out; have hnc19 := NB342_341.out; obtain ⟨hcz20_0, hcz20_1, hcz20_2, hfz20_0, hfz20_1, hfz20_2⟩ := cs3 BK341; obtain ⟨hcz21_0, hcz21_1, hcz21_2, hfz21_0, hfz21_1, hfz21_2⟩ := cs3 BK342))
      go_ret
      exact ⟨y0_4, bI HB.out⟩
  · rw [if_neg c3] at H
    have c3b0 : (a0_0 == a1_0) = false := beq_eq_false_iff_ne.mpr c3
    have c3b1 : (a0_0 != a1_0) = true := bne_iff_ne.mpr c3
    obtain rfl := Option.some.inj H
    go_enter Tryd.func22, Tryd.ntmps22
    go_wp2_with (first | ((with_reducible refine gd 2 ?_); refine bA 2 #[.int .i64 a0_0, .string a0_1, .slice A0_2 l0_2.length c0_2] 34 ?_; intro gb341 hg w22 hbox hb; have BK341 := Aside0.mk (hbox); have GW341 := bg hg HB; have GJ341 := gi GW341; have GE341 := GW341; replace HB := bs HB hb; clear hb hbox hg) | ((with_reducible refine gd 3 ?_); refine bA 3 #[.int .i64 a1_0, .string a1_1, .slice A1_2 l1_2.length c1_2] 34 ?_; intro gb342 hg w23 hbox hb; have BK342 := Aside0.mk (hbox); have GW342 := bg hg HB; have GJ342 := gi GW342; have GE342 := GW342; replace HB := bs HB hb; have NB341_342 := b1 BK341 hg; have NI341_342 := ni NB341_342; have NB342_341 := b2 BK341 hg; have NI342_341 := ni NB342_341; replace BK341 := bk BK341 hb; clear hb hbox hg; have hnb24 := NB341_342.out; have hnc24 := NB342_341.out; obtain ⟨hcz25_0, hcz25_1, hcz25_2, hfz25_0, hfz25_1, hfz25_2⟩ := cs3 BK341; obtain ⟨hcz26_0, hcz26_1, hcz26_2, hfz26_0, hfz26_1, hfz26_2⟩ := cs3 BK342))
    go_ret
    exact ⟨y0_4, bI HB.out⟩

/-! ### laws_eqPartS: function 32 -/
def laws_eqPartS.l0 : Nat → List (S34) → List (S34) → Int → Option (Bool)
  | 0, _, _, _ => none
  | k + 1, x0, x1, x5 => if x5 < (x0.length : Int) then (if 0 ≤ x5 then (if x5 < (x1.length : Int) then ((laws_eqPart.f k ((rd_T34 x0 x5).f0) ((rd_T34 x0 x5).f1) ((rd_T34 x0 x5).f2) ((rd_T34 x1 x5).f0) ((rd_T34 x1 x5).f1) ((rd_T34 x1 x5).f2)).bind fun t346 => (if t346 = true then (laws_eqPartS.l0 k x0 x1 (wrap64 (x5 + 1))) else (some false))) else (none)) else (none)) else (some true)
def laws_eqPartS.f (k : Nat) (l0 : List (S34)) (l1 : List (S34)) : Option (Bool) := if (l0.length : Int) = (l1.length : Int) then (laws_eqPartS.l0 k l0 l1 0) else (some false)
theorem laws_eqPartS.mono_l : ∀ k, (∀ y0 y1 y2, LeO (laws_eqPartS.l0 k y0 y1 y2) (laws_eqPartS.l0 (k + 1) y0 y1 y2))
  | 0 => fun _ _ _ r h => by simp [laws_eqPartS.l0] at h
  | k + 1 => by
    have ih0 := laws_eqPartS.mono_l k
    · intro y0 y1 y2
      unfold laws_eqPartS.l0
      repeat' first
      | (with_reducible exact ih0 _ _ _)
      | (with_reducible exact laws_eqPart.mono _ _ _ _ _ _ _)
      | (with_reducible exact LeO.refl _)
      | (with_reducible exact LeO.none _)
      | (with_reducible refine LeO.ite ?_ ?_)
      | (with_reducible refine LeO.bind ?_ (fun _ => ?_))
      | exact ih0 _ _ _
      | exact laws_eqPart.mono _ _ _ _ _ _ _
      | exact LeO.none _
      | refine LeO.ite ?_ ?_
      | refine LeO.bind ?_ (fun _ => ?_)
theorem laws_eqPartS.mono : ∀ a0 a1 k, LeO (laws_eqPartS.f k a0 a1) (laws_eqPartS.f (k + 1) a0 a1) := by
  intro a0 a1 k
  have ih0 := laws_eqPartS.mono_l k
  unfold laws_eqPartS.f
  repeat' first
      | (with_reducible exact ih0 _ _ _)
      | (with_reducible exact laws_eqPart.mono _ _ _ _ _ _ _)
      | (with_reducible exact LeO.refl _)
      | (with_reducible exact LeO.none _)
      | (with_reducible refine LeO.ite ?_ ?_)
      | (with_reducible refine LeO.bind ?_ (fun _ => ?_))
      | exact ih0 _ _ _
      | exact laws_eqPart.mono _ _ _ _ _ _ _
      | exact LeO.none _
      | refine LeO.ite ?_ ?_
      | refine LeO.bind ?_ (fun _ => ?_)
def laws_eqPartS.T6 : Bool × List (List Nat × List Nat) := (true, [([], []), ([], []), ([0, 1], [0, 1]), ([2], [2]), ([], []), ([], []), ([4, 5], [4, 5]), ([6], [6]), ([3, 7], [3, 7]), ([8], [8])])
def laws_eqPartS.B6 : List Nat := [0, 0, 3, 7, 0, 0, 48, 112, 255, 511]
theorem laws_eqPartS.tab6 : rtab .any (opsOf Tryd.f32 6) = laws_eqPartS.T6 := by kernel_rfl
theorem laws_eqPartS.bits6 : waitsOk laws_eqPartS.T6.2 laws_eqPartS.B6 = true := by kernel_rfl
set_option maxHeartbeats 8000000 in
set_option maxRecDepth 100000 in
theorem laws_eqPartS.calls (k : Nat) (A0 : Option Addr) (c0 : Nat) (l0 : List (S34)) (A1 : Option Addr) (c1 : Nat) (l1 : List (S34)) (r : Bool) (w : World) (hr0 : Kd.C k34 w A0 l0.length l0) (hc0 : l0.length ≤ c0) (hr1 : Kd.C k34 w A1 l1.length l1) (hc1 : l1.length ≤ c1) (h : laws_eqPartS.f k l0 l1 = some r) :
    Calls Tryd.prog 32 #[.slice A0 l0.length c0, .slice A1 l1.length c1] w fun e w' => e = .returned (.bool r) ∧ Below w.heap.size w w' := by
  have hu34 := Tryd.underlying34
  have HR0 := Aside0.mk hr0
  have HC0 := Aside0.mk hc0
  clear hr0 hc0
  have HR1 := Aside0.mk hr1
  have HC1 := Aside0.mk hc1
  clear hr1 hc1
  have HB := Aside0.mk (Below.refl w.heap.size w)
  have H : (if (l0.length : Int) = (l1.length : Int) then (laws_eqPartS.l0 k l0 l1 0) else (some false)) = some r := h
  clear h
  by_cases c3 : (l0.length : Int) = (l1.length : Int)
  · rw [if_pos c3] at H
    have c3b0 : ((l0.length : Int) == (l1.length : Int)) = true := beq_iff_eq.mpr c3
    have c3b1 : ((l0.length : Int) != (l1.length : Int)) = false := bne_eq_false_iff_eq.mpr c3
    have c3b2 : (l0.length == l1.length) = true := by first | simpa using c3 | (simp at c3 ⊢; omega)
    clear c3
    have H' := Aside0.mk H
    clear H
    go_enter Tryd.func32, Tryd.ntmps32
    go_wp2
    go_loopg [5] k (fun kq v5 w' => ∃ (x5_1 : Int), v5 = .int .i64 x5_1 ∧ Aside0 (laws_eqPartS.l0 kq l0 l1 x5_1 = some r) ∧ Aside0 (kq ≤ k) ∧ Aside0 (Below w.heap.size w w'))
    case atStart => exact ⟨(0), y0_8, H', ⟨Nat.le_refl _⟩, ⟨bI HB.out⟩⟩
    case round =>
      clear H'
      try clear c1
      try clear p2
      try clear c3
      try clear c3b0
      try clear c3b1
      try clear c3b2
      obtain ⟨x5_1, rfl, HA, HK1, HB⟩ := hrel
      cases gk with
      | zero => exact absurd HA.out (by simp [laws_eqPartS.l0])
      | succ k1 =>
        have H := HA.out
        clear HA
        simp only [laws_eqPartS.l0] at H
        by_cases c4 : x5_1 < (l0.length : Int)
        · rw [if_pos c4] at H
          have c4b0 : decide (x5_1 < (l0.length : Int)) = true := decide_eq_true c4
          clear c4
          by_cases c5 : 0 ≤ x5_1
          rotate_left
          · rw [if_neg c5] at H
            exact absurd H (by simp)
          rw [if_pos c5] at H
          have c5b0 : decide (0 ≤ x5_1) = true := decide_eq_true c5
          clear c5
          by_cases c6 : x5_1 < (l1.length : Int)
          rotate_left
          · rw [if_neg c6] at H
            exact absurd H (by simp)
          rw [if_pos c6] at H
          have c6b0 : decide (x5_1 < (l1.length : Int)) = true := decide_eq_true c6
          clear c6
          obtain ⟨t346, A70, H⟩ := Option.bind_eq_some_iff.mp H
          try dsimp only at H
          have A7 := Aside0.mk A70
          clear A70
          by_cases c8 : t346 = true
          · subst c8
            rw [if_pos rfl] at H
            have H' := Aside0.mk H
            clear H
            try go_wp2
            replace HB := Aside0.mk (below_drew1 HB.out)
            have p344 : 0 ≤ (x5_1 : Int) := of_decide_eq_true y0_7
            have q344 : x5_1 < (l0.length : Int) := of_decide_eq_true y0_7
            obtain ⟨ad344, A344_2, c344_2, e344, hx344_0, hx344_1, hx344_2, hl344_2, hi344_2⟩ := at_T34 HR0.out x5_1 p344 q344
            have hw344_2 := hx344_2
            have hw344_1 := hx344_1
            have hw344_0 := hx344_0
            cases e344
            replace hx344_0 := bx HB hx344_0
            replace hx344_1 := bx HB hx344_1
            replace hx344_2 := bx HB hx344_2
            have HR344_2 := Aside0.mk hi344_2
            have HC344_2 := Aside0.mk hl344_2
            clear hi344_2 hl344_2
            replace p344 := eq_true p344
            replace q344 := eq_true q344
            have p345 : 0 ≤ (x5_1 : Int) := of_decide_eq_true y0_7
            have q345 : x5_1 < (l1.length : Int) := of_decide_eq_true y0_7
            obtain ⟨ad345, A345_2, c345_2, e345, hx345_0, hx345_1, hx345_2, hl345_2, hi345_2⟩ := at_T34 HR1.out x5_1 p345 q345
            have hw345_2 := hx345_2
            have hw345_1 := hx345_1
            have hw345_0 := hx345_0
            cases e345
            replace hx345_0 := bx HB hx345_0
            replace hx345_1 := bx HB hx345_1
            replace hx345_2 := bx HB hx345_2
            have HR345_2 := Aside0.mk hi345_2
            have HC345_2 := Aside0.mk hl345_2
            clear hi345_2 hl345_2
            replace p345 := eq_true p345
            replace q345 := eq_true q345
            refine start_ (n := 10) (S := fun w' => w'.cell? (ad344.add ((x5_1).toNat * 3)) = some (.int .i64 ((rd_T34 l0 x5_1).f0)) ∧ w'.cell? ⟨(ad344.add ((x5_1).toNat * 3)).block, (ad344.add ((x5_1).toNat * 3)).off + 1, none⟩ = some (.string ((rd_T34 l0 x5_1).f1)) ∧ w'.cell? ⟨(ad344.add ((x5_1).toNat * 3)).block, (ad344.add ((x5_1).toNat * 3)).off + 2, none⟩ = some (.slice A344_2 ((rd_T34 l0 x5_1).f2).length c344_2) ∧ w'.cell? (ad345.add ((x5_1).toNat * 3)) = some (.int .i64 ((rd_T34 l1 x5_1).f0)) ∧ w'.cell? ⟨(ad345.add ((x5_1).toNat * 3)).block, (ad345.add ((x5_1).toNat * 3)).off + 1, none⟩ = some (.string ((rd_T34 l1 x5_1).f1)) ∧ w'.cell? ⟨(ad345.add ((x5_1).toNat * 3)).block, (ad345.add ((x5_1).toNat * 3)).off + 2, none⟩ = some (.slice A345_2 ((rd_T34 l1 x5_1).f2).length c345_2)) (ds := []) #[false, false, false, false, false, false, false, false, false, false] (by kernel_rfl) rfl rfl ⟨(bx HB hw344_0), (bx HB hw344_1), (bx HB hw344_2), (bx HB hw345_0), (bx HB hw345_1), (bx HB hw345_2)⟩ (fun hHeld => ?_); refine with_tabW laws_eqPartS.tab6 laws_eqPartS.bits6 (fun HT_ HW_ => ?_)
            generalize wr.drew = w9 at HB HR344_2 HR345_2 hx344_0 hx344_1 hx344_2 hx345_0 hx345_1 hx345_2 hHeld ⊢
            refine pA 0 (some 17) (bz 10 1) HT_ ?_
            refine pA 1 (some 18) (bz 10 3) HT_ ?_
            refine pA 2 (some 19) (bz 10 7) HT_ ?_
            refine pA 4 (some 21) (bz 10 23) HT_ ?_
            refine pA 5 (some 22) (bz 10 55) HT_ ?_
            refine pA 6 (some 23) (bz 10 119) HT_ ?_
            refine tA 3 (some 20) (bz 10 127) HT_ HW_ hHeld ?_
            refine tA 7 (some 24) (bz 10 255) HT_ HW_ hHeld ?_
            refine oA 8 (some 25) (bz 10 511) HT_ (fun K hK => ?_)
            refine gA Tryd.func22 #[.agg #[.int .i64 ((rd_T34 l0 x5_1).f0), .string ((rd_T34 l0 x5_1).f1), .slice A344_2 ((rd_T34 l0 x5_1).f2).length c344_2], .agg #[.int .i64 ((rd_T34 l1 x5_1).f0), .string ((rd_T34 l1 x5_1).f1), .slice A345_2 ((rd_T34 l1 x5_1).f2).length c345_2]] ?_
            with_reducible refine (laws_eqPart.calls k1 ((rd_T34 l0 x5_1).f0) ((rd_T34 l0 x5_1).f1) _ _ ((rd_T34 l0 x5_1).f2) ((rd_T34 l1 x5_1).f0) ((rd_T34 l1 x5_1).f1) _ _ ((rd_T34 l1 x5_1).f2) true _ ?side1 ?side2 ?side3 ?side4 A7.out).mono ?_
            (case side1 => exact ch HR344_2 HB)
            (case side2 => exact HC344_2.out)
            (case side3 => exact ch HR345_2 HB)
            (case side4 => exact HC345_2.out)
            rintro e w10 ⟨rfl, hb⟩
            refine ⟨_, rfl, ?_⟩
            replace HB := bs HB hb
            (try clear hb)
            (try clear hb2)
            (try clear hk)
            (try clear hi)
            refine hK.out _ _ ⟨(bx HB hw344_0), (bx HB hw344_1), (bx HB hw344_2), (bx HB hw345_0), (bx HB hw345_1), (bx HB hw345_2)⟩ (fun hHeld => ?_)
            clear hK K
            refine nA (some 25) ?_
            refine pA 9 (some 26) (bz 10 1023) HT_ ?_
            refine done_ (done_of HT_.out (by kernel_rfl)) ?_
            try go_wp2
            go_roundg k1
            case measure => have := HK1.out; omega
            case rel => exact ⟨(wrap64 (x5_1 + 1)), y0_8, H', ⟨y0_12⟩, ⟨bI HB.out⟩⟩
          · replace c8 := Bool.eq_false_iff.mpr c8
            subst c8
            rw [if_neg (show ¬ (false = true) by decide)] at H
            obtain rfl := Option.some.inj H
            try go_wp2
            replace HB := Aside0.mk (below_drew1 HB.out)
            have p344 : 0 ≤ (x5_1 : Int) := of_decide_eq_true y0_7
            have q344 : x5_1 < (l0.length : Int) := of_decide_eq_true y0_7
            obtain ⟨ad344, A344_2, c344_2, e344, hx344_0, hx344_1, hx344_2, hl344_2, hi344_2⟩ := at_T34 HR0.out x5_1 p344 q344
            have hw344_2 := hx344_2
            have hw344_1 := hx344_1
            have hw344_0 := hx344_0
            cases e344
            replace hx344_0 := bx HB hx344_0
            replace hx344_1 := bx HB hx344_1
            replace hx344_2 := bx HB hx344_2
            have HR344_2 := Aside0.mk hi344_2
            have HC344_2 := Aside0.mk hl344_2
            clear hi344_2 hl344_2
            replace p344 := eq_true p344
            replace q344 := eq_true q344
            have p345 : 0 ≤ (x5_1 : Int) := of_decide_eq_true y0_7
            have q345 : x5_1 < (l1.length : Int) := of_decide_eq_true y0_7
            obtain ⟨ad345, A345_2, c345_2, e345, hx345_0, hx345_1, hx345_2, hl345_2, hi345_2⟩ := at_T34 HR1.out x5_1 p345 q345
            have hw345_2 := hx345_2
            have hw345_1 := hx345_1
            have hw345_0 := hx345_0
            cases e345
            replace hx345_0 := bx HB hx345_0
            replace hx345_1 := bx HB hx345_1
            replace hx345_2 := bx HB hx345_2
            have HR345_2 := Aside0.mk hi345_2
            have HC345_2 := Aside0.mk hl345_2
            clear hi345_2 hl345_2
            replace p345 := eq_true p345
            replace q345 := eq_true q345
            refine start_ (n := 10) (S := fun w' => w'.cell? (ad344.add ((x5_1).toNat * 3)) = some (.int .i64 ((rd_T34 l0 x5_1).f0)) ∧ w'.cell? ⟨(ad344.add ((x5_1).toNat * 3)).block, (ad344.add ((x5_1).toNat * 3)).off + 1, none⟩ = some (.string ((rd_T34 l0 x5_1).f1)) ∧ w'.cell? ⟨(ad344.add ((x5_1).toNat * 3)).block, (ad344.add ((x5_1).toNat * 3)).off + 2, none⟩ = some (.slice A344_2 ((rd_T34 l0 x5_1).f2).length c344_2) ∧ w'.cell? (ad345.add ((x5_1).toNat * 3)) = some (.int .i64 ((rd_T34 l1 x5_1).f0)) ∧ w'.cell? ⟨(ad345.add ((x5_1).toNat * 3)).block, (ad345.add ((x5_1).toNat * 3)).off + 1, none⟩ = some (.string ((rd_T34 l1 x5_1).f1)) ∧ w'.cell? ⟨(ad345.add ((x5_1).toNat * 3)).block, (ad345.add ((x5_1).toNat * 3)).off + 2, none⟩ = some (.slice A345_2 ((rd_T34 l1 x5_1).f2).length c345_2)) (ds := []) #[false, false, false, false, false, false, false, false, false, false] (by kernel_rfl) rfl rfl ⟨(bx HB hw344_0), (bx HB hw344_1), (bx HB hw344_2), (bx HB hw345_0), (bx HB hw345_1), (bx HB hw345_2)⟩ (fun hHeld => ?_); refine with_tabW laws_eqPartS.tab6 laws_eqPartS.bits6 (fun HT_ HW_ => ?_)
            generalize wr.drew = w11 at HB HR344_2 HR345_2 hx344_0 hx344_1 hx344_2 hx345_0 hx345_1 hx345_2 hHeld ⊢
            refine pA 0 (some 17) (bz 10 1) HT_ ?_
            refine pA 1 (some 18) (bz 10 3) HT_ ?_
            refine pA 2 (some 19) (bz 10 7) HT_ ?_
            refine pA 4 (some 21) (bz 10 23) HT_ ?_
            refine pA 5 (some 22) (bz 10 55) HT_ ?_
            refine pA 6 (some 23) (bz 10 119) HT_ ?_
            refine tA 3 (some 20) (bz 10 127) HT_ HW_ hHeld ?_
            refine tA 7 (some 24) (bz 10 255) HT_ HW_ hHeld ?_
            refine oA 8 (some 25) (bz 10 511) HT_ (fun K hK => ?_)
            refine gA Tryd.func22 #[.agg #[.int .i64 ((rd_T34 l0 x5_1).f0), .string ((rd_T34 l0 x5_1).f1), .slice A344_2 ((rd_T34 l0 x5_1).f2).length c344_2], .agg #[.int .i64 ((rd_T34 l1 x5_1).f0), .string ((rd_T34 l1 x5_1).f1), .slice A345_2 ((rd_T34 l1 x5_1).f2).length c345_2]] ?_
            with_reducible refine (laws_eqPart.calls k1 ((rd_T34 l0 x5_1).f0) ((rd_T34 l0 x5_1).f1) _ _ ((rd_T34 l0 x5_1).f2) ((rd_T34 l1 x5_1).f0) ((rd_T34 l1 x5_1).f1) _ _ ((rd_T34 l1 x5_1).f2) false _ ?side1 ?side2 ?side3 ?side4 A7.out).mono ?_
            (case side1 => exact ch HR344_2 HB)
            (case side2 => exact HC344_2.out)
            (case side3 => exact ch HR345_2 HB)
            (case side4 => exact HC345_2.out)
            rintro e w12 ⟨rfl, hb⟩
            refine ⟨_, rfl, ?_⟩
            replace HB := bs HB hb
            (try clear hb)
            (try clear hb2)
            (try clear hk)
            (try clear hi)
            refine hK.out _ _ ⟨(bx HB hw344_0), (bx HB hw344_1), (bx HB hw344_2), (bx HB hw345_0), (bx HB hw345_1), (bx HB hw345_2)⟩ (fun hHeld => ?_)
            clear hK K
            refine nA (some 25) ?_
            refine pA 9 (some 26) (bz 10 1023) HT_ ?_
            refine done_ (done_of HT_.out (by kernel_rfl)) ?_
            try go_wp2
            go_ret
            exact ⟨y0_4, bI HB.out⟩
        · rw [if_neg c4] at H
          have c4b0 : decide (x5_1 < (l0.length : Int)) = false := decide_eq_false c4
          clear c4
          obtain rfl := Option.some.inj H
          go_wp2
          go_ret
          exact ⟨y0_4, bI HB.out⟩
  · rw [if_neg c3] at H
    have c3b0 : ((l0.length : Int) == (l1.length : Int)) = false := beq_eq_false_iff_ne.mpr c3
    have c3b1 : ((l0.length : Int) != (l1.length : Int)) = true := bne_iff_ne.mpr c3
    have c3b2 : (l0.length == l1.length) = false := by first | simpa using c3 | (simp at c3 ⊢; omega)
    obtain rfl := Option.some.inj H
    go_enter Tryd.func32, Tryd.ntmps32
    go_wp2
    go_ret
    exact ⟨y0_4, bI HB.out⟩

/-! ### laws_FnExactTableOk: function 6 -/
def laws_FnExactTableOk.f (k : Nat) (a0_0 : Int) (a0_1 : Int) (l1 : List (S29)) : Option (Bool) := (laws_szPartS.f k l1 1048576).bind fun t348 => (if t348 < 0 then (some true) else ((laws_toConf.f a0_0 a0_1).bind fun bt349 => ((laws_toPartS.f k l1).bind fun t351 => ((spec_TableOk.f k bt349.1 bt349.2 t351).bind fun t354 => ((laws_toPartS.f k l1).bind fun t355 => ((laws_toConf.f a0_0 a0_1).bind fun bt358 => ((impl_TableOk.f k bt358.1 bt358.2 t355).bind fun t360 => (if (t360 != t354) = true then (some false) else ((laws_toPartS.f k l1).bind fun t361 => ((laws_eqPartS.f k t355 t361).bind fun t364 => (if t364 = true then (some true) else (some false))))))))))))
theorem laws_FnExactTableOk.mono : ∀ a0 a1 a2 k, LeO (laws_FnExactTableOk.f k a0 a1 a2) (laws_FnExactTableOk.f (k + 1) a0 a1 a2) := by
  intro a0 a1 a2 k
  unfold laws_FnExactTableOk.f
  repeat' first
      | (with_reducible exact impl_TableOk.mono _ _ _ _)
      | (with_reducible exact laws_eqPartS.mono _ _ _)
      | (with_reducible exact laws_szPartS.mono _ _ _)
      | (with_reducible exact laws_toPartS.mono _ _)
      | (with_reducible exact spec_TableOk.mono _ _ _ _)
      | (with_reducible exact LeO.refl _)
      | (with_reducible exact LeO.none _)
      | (with_reducible refine LeO.ite ?_ ?_)
      | (with_reducible refine LeO.bind ?_ (fun _ => ?_))
      | exact impl_TableOk.mono _ _ _ _
      | exact laws_eqPartS.mono _ _ _
      | exact laws_szPartS.mono _ _ _
      | exact laws_toPartS.mono _ _
      | exact spec_TableOk.mono _ _ _ _
      | exact LeO.none _
      | refine LeO.ite ?_ ?_
      | refine LeO.bind ?_ (fun _ => ?_)
set_option maxHeartbeats 8000000 in
set_option maxRecDepth 100000 in
theorem laws_FnExactTableOk.calls (k : Nat) (a0_0 : Int) (a0_1 : Int) (A1 : Option Addr) (c1 : Nat) (l1 : List (S29)) (r : Bool) (hrt : Aside0 (r = true)) (w : World) (hr1 : Kd.C k29 w A1 l1.length l1) (hc1 : l1.length ≤ c1) (h : laws_FnExactTableOk.f k a0_0 a0_1 l1 = some r) (hG : Glob w := by exact gG HG HB) :
    Calls Tryd.prog 6 #[.agg #[.int .i64 a0_0, .int .i64 a0_1], .slice A1 l1.length c1] w fun e w' => e = .returned (.bool r) ∧ Below w.heap.size w w' := by
  have HG := Aside0.mk hG
  clear hG
  have hu26 := Tryd.underlying26
  have HR1 := Aside0.mk hr1
  have HC1 := Aside0.mk hc1
  clear hr1 hc1
  have HB := Aside0.mk (Below.refl w.heap.size w)
  have H : ((laws_szPartS.f k l1 1048576).bind fun t348 => (if t348 < 0 then (some true) else ((laws_toConf.f a0_0 a0_1).bind fun bt349 => ((laws_toPartS.f k l1).bind fun t351 => ((spec_TableOk.f k bt349.1 bt349.2 t351).bind fun t354 => ((laws_toPartS.f k l1).bind fun t355 => ((laws_toConf.f a0_0 a0_1).bind fun bt358 => ((impl_TableOk.f k bt358.1 bt358.2 t355).bind fun t360 => (if (t360 != t354) = true then (some false) else ((laws_toPartS.f k l1).bind fun t361 => ((laws_eqPartS.f k t355 t361).bind fun t364 => (if t364 = true then (some true) else (some false))))))))))))) = some r := h
  clear h
  obtain ⟨t348, A30, H⟩ := Option.bind_eq_some_iff.mp H
  try dsimp only at H
  have A3 := Aside0.mk A30
  clear A30
  by_cases c4 : t348 < 0
  · rw [if_pos c4] at H
    have c4b0 : decide (t348 < 0) = true := decide_eq_true c4
    clear c4
    obtain rfl := Option.some.inj H
    go_enter Tryd.func6, Tryd.ntmps6
    go_wp2_with (first | ((with_reducible refine gd 2 ?_); refine bA 2 #[.int .i64 a0_0, .int .i64 a0_1] 26 ?_; intro gb347 hg w5 hbox hb; have BK347 := Aside0.mk (hbox); have GW347 := bg hg HB; have GJ347 := gi GW347; have GE347 := GW347; replace HB := bs HB hb; clear hb hbox hg) | ((with_reducible refine gate_callee (f := 28) rfl ?_); refine gB (some 11) Tryd.func28 #[.slice A1 l1.length c1, .int .i64 1048576] ?_; (with_reducible refine (laws_szPartS.calls k _ _ l1 1048576 t348 _ ?side1 ?side2 A3.out).mono ?_); (case side1 => exact ch HR1 HB); (case side2 => exact HC1.out); rintro e w6 ⟨rfl, hb⟩; refine ⟨_, rfl, ?_⟩; replace BK347 := bk BK347 hb; replace HB := bs HB hb; (try clear hb); (try clear hb2); (try clear hk); (try clear hi)))
    go_ret
    exact ⟨y0_4, bI HB.out⟩
  · rw [if_neg c4] at H
    have c4b0 : decide (t348 < 0) = false := decide_eq_false c4
    clear c4
    obtain ⟨⟨t349, t350⟩, A70, H⟩ := Option.bind_eq_some_iff.mp H
    try dsimp only at H
    have A7 := Aside0.mk A70
    clear A70
    obtain ⟨t351, A80, H⟩ := Option.bind_eq_some_iff.mp H
    try dsimp only at H
    have A8 := Aside0.mk A80
    clear A80
    obtain ⟨t354, A90, H⟩ := Option.bind_eq_some_iff.mp H
    try dsimp only at H
    have A9 := Aside0.mk A90
    clear A90
    obtain ⟨t355, A100, H⟩ := Option.bind_eq_some_iff.mp H
    try dsimp only at H
    have A10 := Aside0.mk A100
    clear A100
    obtain ⟨⟨t358, t359⟩, A110, H⟩ := Option.bind_eq_some_iff.mp H
    try dsimp only at H
    have A11 := Aside0.mk A110
    clear A110
    obtain ⟨t360, A120, H⟩ := Option.bind_eq_some_iff.mp H
    try dsimp only at H
    have A12 := Aside0.mk A120
    clear A120
    by_cases c13 : (t360 != t354) = true
    · rw [if_pos c13] at H
      have c13b0 : (t360 != t354) = true := c13
      (try (have c13b1 : decide (t360 = t354) = false := by simpa using c13))
      (try (have c13b2 : (t360 == t354) = false := by simpa using c13))
      (try (have c13b3 : ¬ (t360 = t354) := by simpa using c13))
      clear c13
      exact absurd (hrt.out.symm.trans (Option.some.inj H).symm) (by decide)
    rw [if_neg c13] at H
    have c13b0 : (t360 != t354) = false := by simpa using c13
    (try (have c13b1 : decide (t360 = t354) = true := by simpa using c13))
    (try (have c13b2 : (t360 == t354) = true := by simpa using c13))
    clear c13
    obtain ⟨t361, A140, H⟩ := Option.bind_eq_some_iff.mp H
    try dsimp only at H
    have A14 := Aside0.mk A140
    clear A140
    obtain ⟨t364, A150, H⟩ := Option.bind_eq_some_iff.mp H
    try dsimp only at H
    have A15 := Aside0.mk A150
    clear A150
    by_cases c16 : t364 = true
    · subst c16
      rw [if_pos rfl] at H
      obtain rfl := Option.some.inj H
      go_enter Tryd.func6, Tryd.ntmps6
      go_wp2_with (first | ((with_reducible refine gd 2 ?_); refine bA 2 #[.int .i64 a0_0, .int .i64 a0_1] 26 ?_; intro gb347 hg w17 hbox hb; have BK347 := Aside0.mk (hbox); have GW347 := bg hg HB; have GJ347 := gi GW347; have GE347 := GW347; replace HB := bs HB hb; clear hb hbox hg) | ((with_reducible refine gate_callee (f := 28) rfl ?_); refine gB (some 11) Tryd.func28 #[.slice A1 l1.length c1, .int .i64 1048576] ?_; (with_reducible refine (laws_szPartS.calls k _ _ l1 1048576 t348 _ ?side1 ?side2 A3.out).mono ?_); (case side1 => exact ch HR1 HB); (case side2 => exact HC1.out); rintro e w18 ⟨rfl, hb⟩; refine ⟨_, rfl, ?_⟩; replace BK347 := bk BK347 hb; replace HB := bs HB hb; (try clear hb); (try clear hb2); (try clear hk); (try clear hi); obtain ⟨hcz19_0, hcz19_1, hfz19_0, hfz19_1⟩ := cs2 BK347) | ((with_reducible refine gate_callee (f := 19) rfl ?_); refine gB (some 15) Tryd.func19 #[.agg #[.int .i64 a0_0, .int .i64 a0_1]] ?_; (with_reducible refine (laws_toConf.calls a0_0 a0_1 t349 t350 _ A7.out).mono ?_); rintro e w20 ⟨rfl, hb⟩; refine ⟨_, rfl, ?_⟩; replace BK347 := bk BK347 hb; replace HB := bs HB hb; (try clear hb); (try clear hb2); (try clear hk); (try clear hi)) | ((with_reducible refine gate_callee (f := 30) rfl ?_); refine gB (some 17) Tryd.func30 #[.slice A1 l1.length c1] ?_; (with_reducible refine (laws_toPartS.calls k _ _ l1 t351 _ ?side1 ?side2 A8.out).mono ?_); (case side1 => exact ch HR1 HB); (case side2 => exact HC1.out); rintro e w21 ⟨v352, rfl, ho0, hb⟩; refine ⟨_, rfl, ?_⟩; have HO353 := Aside0.mk (Kd.S_lower ho0 (below_size (bI HB.out))); replace BK347 := bk BK347 hb; replace HB := bs HB hb; (try clear hb); obtain ⟨Ao22, co22, eo22⟩ := Kd.S_slice HO353.out; subst eo22) | ((with_reducible refine gate_callee (f := 29) rfl ?_); refine gB (some 18) Tryd.func29 #[.agg #[.int .i64 t349, .int .i64 t350], .slice Ao22 t351.length co22] ?_; (with_reducible refine (spec_TableOk.calls k t349 t350 _ _ t351 t354 _ ?side1 ?side2 A9.out).mono ?_); (case side1 => repeat (first | exact (Kd.S_reads' HO353.out).2.2 | (with_reducible refine Kd.C_alloc ?_ _) | (with_reducible refine Kd.C_drewN ?_ _) | (with_reducible refine Kd.C_drew ?_))); (case side2 => exact (Kd.S_reads' HO353.out).2.1); rintro e w23 ⟨rfl, hb⟩; refine ⟨_, rfl, ?_⟩; replace HO353 := sb HO353 hb; replace BK347 := bk BK347 hb; replace HB := bs HB hb; (try clear hb); (try clear hb2); (try clear hk); (try clear hi); clear HO353) | ((with_reducible refine gate_callee (f := 30) rfl ?_); refine gB (some 20) Tryd.func30 #[.slice A1 l1.length c1] ?_; (with_reducible refine (laws_toPartS.calls k _ _ l1 t355 _ ?side1 ?side2 A10.out).mono ?_); (case side1 => exact ch HR1 HB); (case side2 => exact HC1.out); rintro e w24 ⟨v356, rfl, ho0, hb⟩; refine ⟨_, rfl, ?_⟩; have HO357 := Aside0.mk (Kd.S_lower ho0 (below_size (bI HB.out))); replace BK347 := bk BK347 hb; replace HB := bs HB hb; (try clear hb); obtain ⟨hcz25_0, hcz25_1, hfz25_0, hfz25_1⟩ := cs2 BK347) | ((with_reducible refine gate_callee (f := 19) rfl ?_); refine gB (some 22) Tryd.func19 #[.agg #[.int .i64 a0_0, .int .i64 a0_1]] ?_; (with_reducible refine (laws_toConf.calls a0_0 a0_1 t358 t359 _ A11.out).mono ?_); rintro e w26 ⟨rfl, hb⟩; refine ⟨_, rfl, ?_⟩; replace HO357 := sb HO357 hb; replace BK347 := bk BK347 hb; replace HB := bs HB hb; (try clear hb); (try clear hb2); (try clear hk); (try clear hi); obtain ⟨Ao27, co27, eo27⟩ := Kd.S_slice HO357.out; subst eo27) | ((with_reducible refine gate_callee (f := 31) rfl ?_); refine gB (some 24) Tryd.func31 #[.agg #[.int .i64 t358, .int .i64 t359], .slice Ao27 t355.length co27] ?_; (with_reducible refine (impl_TableOk.calls k t358 t359 _ _ t355 t360 _ ?side1 ?side2 A12.out).mono ?_); (case side1 => repeat (first | exact (Kd.S_reads' HO357.out).2.2 | (with_reducible refine Kd.C_alloc ?_ _) | (with_reducible refine Kd.C_drewN ?_ _) | (with_reducible refine Kd.C_drew ?_))); (case side2 => exact (Kd.S_reads' HO357.out).2.1); rintro e w28 ⟨rfl, hb⟩; refine ⟨_, rfl, ?_⟩; replace HO357 := sb HO357 hb; replace BK347 := bk BK347 hb; replace HB := bs HB hb; (try clear hb); (try clear hb2); (try clear hk); (try clear hi)) | ((with_reducible refine gate_callee (f := 30) rfl ?_); refine gB (some 30) Tryd.func30 #[.slice A1 l1.length c1] ?_; (with_reducible refine (laws_toPartS.calls k _ _ l1 t361 _ ?side1 ?side2 A14.out).mono ?_); (case side1 => exact ch HR1 HB); (case side2 => exact HC1.out); rintro e w29 ⟨v362, rfl, ho0, hb⟩; refine ⟨_, rfl, ?_⟩; have HO363 := Aside0.mk (Kd.S_lower (Kd.S_new' ho0 (Kd.S_lt (sI HO357.out))) (below_size (bI HB.out))); replace HO357 := Aside0.mk (Kd.S_elder' (sI HO357.out) (Kd.S_base ho0) hb); replace BK347 := bk BK347 hb; replace HB := bs HB hb; (try clear hb); obtain ⟨Ao30, co30, eo30⟩ := Kd.S_slice HO363.out; subst eo30) | ((with_reducible refine gate_callee (f := 32) rfl ?_); refine gB (some 31) Tryd.func32 #[.slice Ao27 t355.length co27, .slice Ao30 t361.length co30] ?_; (with_reducible refine (laws_eqPartS.calls k _ _ t355 _ _ t361 true _ ?side1 ?side2 ?side3 ?side4 A15.out).mono ?_); (case side1 => repeat (first | exact (Kd.S_reads' HO357.out).2.2 | (with_reducible refine Kd.C_alloc ?_ _) | (with_reducible refine Kd.C_drewN ?_ _) | (with_reducible refine Kd.C_drew ?_))); (case side2 => exact (Kd.S_reads' HO357.out).2.1); (case side3 => repeat (first | exact (Kd.S_reads' HO363.out).2.2 | (with_reducible refine Kd.C_alloc ?_ _) | (with_reducible refine Kd.C_drewN ?_ _) | (with_reducible refine Kd.C_drew ?_))); (case side4 => exact (Kd.S_reads' HO363.out).2.1); rintro e w31 ⟨rfl, hb⟩; refine ⟨_, rfl, ?_⟩; replace HO357 := sb HO357 hb; replace HO363 := sb HO363 hb; replace BK347 := bk BK347 hb; replace HB := bs HB hb; (try clear hb); (try clear hb2); (try clear hk); (try clear hi)))
      go_ret
      exact ⟨y0_4, bI HB.out⟩
    · replace c16 := Bool.eq_false_iff.mpr c16
      subst c16
      rw [if_neg (show ¬ (false = true) by decide)] at H
      exact absurd (hrt.out.symm.trans (Option.some.inj H).symm) (by decide)

end Go.Proofs.YtcmldmlmhpfjhaaDoor.PFnExactTableOk
