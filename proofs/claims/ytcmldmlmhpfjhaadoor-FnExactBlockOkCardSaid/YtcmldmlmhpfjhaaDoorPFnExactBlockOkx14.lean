-- By a program of this session, out of the translation (the print of the kit, with turns of its own). Lean checks it.
import Derived.Test.YtcmldmlmhpfjhaaDoorPFnExactBlockOkx0
import Derived.Test.YtcmldmlmhpfjhaaDoorPFnExactBlockOkx1
import Derived.Test.YtcmldmlmhpfjhaaDoorPFnExactBlockOkx6
import Derived.Test.YtcmldmlmhpfjhaaDoorPFnExactBlockOkx7
import Derived.Test.YtcmldmlmhpfjhaaDoorPFnExactBlockOkx13
namespace Go.Proofs.YtcmldmlmhpfjhaaDoor.PFnExactBlockOk
open Go.RowKit Go.Proofs.YtcmldmlmhpfjhaaDoorW.PrintWords Go.Proofs.YtcmldmlmhpfjhaaDoorW.PrintLast Go.Proofs.YtcmldmlmhpfjhaaDoorW.PrintMore
attribute [local go_sem] max2_int min2_int max_two min_two max_three min_three max_four min_four   -- for this text's walks alone
set_option linter.unusedVariables false
set_option linter.unusedSimpArgs false

/-! ### laws_eqIntS: function 81 -/
def laws_eqIntS.l0 : Nat → List Int → List Int → Int → Option (Bool)
  | 0, _, _, _ => none
  | k + 1, x0, x1, x5 => if x5 < (x0.length : Int) then (if 0 ≤ x5 then (if x5 < (x1.length : Int) then (if (rd x0 x5) = (rd x1 x5) then (laws_eqIntS.l0 k x0 x1 (wrap64 (x5 + 1))) else (some false)) else (none)) else (none)) else (some true)
def laws_eqIntS.f (k : Nat) (l0 : List Int) (l1 : List Int) : Option (Bool) := if (l0.length : Int) = (l1.length : Int) then (laws_eqIntS.l0 k l0 l1 0) else (some false)
theorem laws_eqIntS.mono_l : ∀ k, (∀ y0 y1 y2, LeO (laws_eqIntS.l0 k y0 y1 y2) (laws_eqIntS.l0 (k + 1) y0 y1 y2))
  | 0 => fun _ _ _ r h => by simp [laws_eqIntS.l0] at h
  | k + 1 => by
    have ih0 := laws_eqIntS.mono_l k
    · intro y0 y1 y2
      unfold laws_eqIntS.l0
      repeat' first
      | (with_reducible exact ih0 _ _ _)
      | (with_reducible exact LeO.refl _)
      | (with_reducible exact LeO.none _)
      | (with_reducible refine LeO.ite ?_ ?_)
      | (with_reducible refine LeO.bind ?_ (fun _ => ?_))
      | exact ih0 _ _ _
      | exact LeO.none _
      | refine LeO.ite ?_ ?_
      | refine LeO.bind ?_ (fun _ => ?_)
theorem laws_eqIntS.mono : ∀ a0 a1 k, LeO (laws_eqIntS.f k a0 a1) (laws_eqIntS.f (k + 1) a0 a1) := by
  intro a0 a1 k
  have ih0 := laws_eqIntS.mono_l k
  unfold laws_eqIntS.f
  repeat' first
      | (with_reducible exact ih0 _ _ _)
      | (with_reducible exact LeO.refl _)
      | (with_reducible exact LeO.none _)
      | (with_reducible refine LeO.ite ?_ ?_)
      | (with_reducible refine LeO.bind ?_ (fun _ => ?_))
      | exact ih0 _ _ _
      | exact LeO.none _
      | refine LeO.ite ?_ ?_
      | refine LeO.bind ?_ (fun _ => ?_)
set_option maxHeartbeats 8000000 in
set_option maxRecDepth 100000 in
theorem laws_eqIntS.calls (k : Nat) (A0 : Option Addr) (c0 : Nat) (l0 : List Int) (A1 : Option Addr) (c1 : Nat) (l1 : List Int) (r : Bool) (w : World) (hr0 : Kd.C (Kd.int .i64) w A0 l0.length l0) (hc0 : l0.length ≤ c0) (hr1 : Kd.C (Kd.int .i64) w A1 l1.length l1) (hc1 : l1.length ≤ c1) (h : laws_eqIntS.f k l0 l1 = some r) :
    Calls Tryd.prog 81 #[.slice A0 l0.length c0, .slice A1 l1.length c1] w fun e w' => e = .returned (.bool r) ∧ Drawn0 w w' := by
  have HR0 := Aside0.mk hr0
  have HC0 := Aside0.mk hc0
  clear hr0 hc0
  have HR1 := Aside0.mk hr1
  have HC1 := Aside0.mk hc1
  clear hr1 hc1
  have H : (if (l0.length : Int) = (l1.length : Int) then (laws_eqIntS.l0 k l0 l1 0) else (some false)) = some r := h
  clear h
  by_cases c3 : (l0.length : Int) = (l1.length : Int)
  · rw [if_pos c3] at H
    have c3b0 : ((l0.length : Int) == (l1.length : Int)) = true := beq_iff_eq.mpr c3
    have c3b1 : ((l0.length : Int) != (l1.length : Int)) = false := bne_eq_false_iff_eq.mpr c3
    have c3b2 : (l0.length == l1.length) = true := by first | simpa using c3 | (simp at c3 ⊢; omega)
    clear c3
    have H' := Aside0.mk H
    clear H
    go_enter Tryd.func81, Tryd.ntmps81
    go_wp2
    repeat (go_quiet (fail); try go_wp2)
    go_loopg [5] k (fun kq v5 w' => ∃ (x5_1 : Int), v5 = .int .i64 x5_1 ∧ Aside0 (laws_eqIntS.l0 kq l0 l1 x5_1 = some r) ∧ Aside0 (kq ≤ k) ∧ Drawn0 w w')
    case atStart => exact ⟨(0), y0_7, H', ⟨Nat.le_refl _⟩, y0_5⟩
    case round =>
      clear H'
      try clear c1
      try clear p2
      try clear c3
      try clear c3b0
      try clear c3b1
      try clear c3b2
      obtain ⟨x5_1, rfl, HA, HK1, ⟨m1, rfl⟩⟩ := hrel
      cases gk with
      | zero => exact absurd HA.out (by simp [laws_eqIntS.l0])
      | succ k1 =>
        have H := HA.out
        clear HA
        simp only [laws_eqIntS.l0] at H
        by_cases c4 : x5_1 < (l0.length : Int)
        · rw [if_pos c4] at H
          have c4b0 : decide (x5_1 < (l0.length : Int)) = true := decide_eq_true c4
          clear c4
          by_cases c5 : 0 ≤ x5_1
          rotate_left
          · rw [if_neg c5] at H
            exact absurd H (by simp)
          rw [if_pos c5] at H
          have c5b0 : decide (0 ≤ x5_1) = true := decide_eq_true c5
          clear c5
          by_cases c6 : x5_1 < (l1.length : Int)
          rotate_left
          · rw [if_neg c6] at H
            exact absurd H (by simp)
          rw [if_pos c6] at H
          have c6b0 : decide (x5_1 < (l1.length : Int)) = true := decide_eq_true c6
          clear c6
          by_cases c7 : (rd l0 x5_1) = (rd l1 x5_1)
          · rw [if_pos c7] at H
            have c7b0 : ((rd l0 x5_1) == (rd l1 x5_1)) = true := beq_iff_eq.mpr c7
            have c7b1 : ((rd l0 x5_1) != (rd l1 x5_1)) = false := bne_eq_false_iff_eq.mpr c7
            clear c7
            have H' := Aside0.mk H
            clear H
            have p349 : 0 ≤ (x5_1 : Int) := of_decide_eq_true y0_6
            have q349 : x5_1 < (l0.length : Int) := of_decide_eq_true y0_6
            obtain ⟨ad349, e349, hx349_0⟩ := Kd.at_int HR0.out x5_1 p349 q349
            cases e349
            replace p349 := eq_true p349
            replace q349 := eq_true q349
            have p350 : 0 ≤ (x5_1 : Int) := of_decide_eq_true y0_6
            have q350 : x5_1 < (l1.length : Int) := of_decide_eq_true y0_6
            obtain ⟨ad350, e350, hx350_0⟩ := Kd.at_int HR1.out x5_1 p350 q350
            cases e350
            replace p350 := eq_true p350
            replace q350 := eq_true q350
            go_wp2
            repeat (go_quiet (fail); try go_wp2)
            go_roundg k1
            case measure => have := HK1.out; omega
            case rel => exact ⟨(wrap64 (x5_1 + 1)), y0_7, H', ⟨y0_11⟩, y0_5⟩
          · rw [if_neg c7] at H
            have c7b0 : ((rd l0 x5_1) == (rd l1 x5_1)) = false := beq_eq_false_iff_ne.mpr c7
            have c7b1 : ((rd l0 x5_1) != (rd l1 x5_1)) = true := bne_iff_ne.mpr c7
            obtain rfl := Option.some.inj H
            have p349 : 0 ≤ (x5_1 : Int) := of_decide_eq_true y0_6
            have q349 : x5_1 < (l0.length : Int) := of_decide_eq_true y0_6
            obtain ⟨ad349, e349, hx349_0⟩ := Kd.at_int HR0.out x5_1 p349 q349
            cases e349
            replace p349 := eq_true p349
            replace q349 := eq_true q349
            have p350 : 0 ≤ (x5_1 : Int) := of_decide_eq_true y0_6
            have q350 : x5_1 < (l1.length : Int) := of_decide_eq_true y0_6
            obtain ⟨ad350, e350, hx350_0⟩ := Kd.at_int HR1.out x5_1 p350 q350
            cases e350
            replace p350 := eq_true p350
            replace q350 := eq_true q350
            go_wp2
            repeat (go_quiet (fail); try go_wp2)
            go_ret
            exact ⟨y0_7, y0_5⟩
        · rw [if_neg c4] at H
          have c4b0 : decide (x5_1 < (l0.length : Int)) = false := decide_eq_false c4
          clear c4
          obtain rfl := Option.some.inj H
          go_wp2
          repeat (go_quiet (fail); try go_wp2)
          go_ret
          exact ⟨y0_7, y0_5⟩
  · rw [if_neg c3] at H
    have c3b0 : ((l0.length : Int) == (l1.length : Int)) = false := beq_eq_false_iff_ne.mpr c3
    have c3b1 : ((l0.length : Int) != (l1.length : Int)) = true := bne_iff_ne.mpr c3
    have c3b2 : (l0.length == l1.length) = false := by first | simpa using c3 | (simp at c3 ⊢; omega)
    obtain rfl := Option.some.inj H
    go_enter Tryd.func81, Tryd.ntmps81
    go_wp2
    repeat (go_quiet (fail); try go_wp2)
    go_ret
    exact ⟨y0_7, y0_5⟩

/-! ### laws_eqQc: function 27 -/
def laws_eqQc.f (k : Nat) (a0_0 : Int) (a0_1 : ByteArray) (l0_2 : List Int) (a1_0 : Int) (a1_1 : ByteArray) (l1_2 : List Int) : Option (Bool) := if a0_0 = a1_0 then (if a0_1.toList = a1_1.toList then ((laws_eqIntS.f k l0_2 l1_2).bind fun t353 => (if t353 = true then (some true) else (some false))) else (some false)) else (some false)
theorem laws_eqQc.mono : ∀ a0 a1 a2 a3 a4 a5 k, LeO (laws_eqQc.f k a0 a1 a2 a3 a4 a5) (laws_eqQc.f (k + 1) a0 a1 a2 a3 a4 a5) := by
  intro a0 a1 a2 a3 a4 a5 k
  unfold laws_eqQc.f
  repeat' first
      | (with_reducible exact laws_eqIntS.mono _ _ _)
      | (with_reducible exact LeO.refl _)
      | (with_reducible exact LeO.none _)
      | (with_reducible refine LeO.ite ?_ ?_)
      | (with_reducible refine LeO.bind ?_ (fun _ => ?_))
      | exact laws_eqIntS.mono _ _ _
      | exact LeO.none _
      | refine LeO.ite ?_ ?_
      | refine LeO.bind ?_ (fun _ => ?_)
set_option maxHeartbeats 8000000 in
set_option maxRecDepth 100000 in
theorem laws_eqQc.calls (k : Nat) (a0_0 : Int) (a0_1 : ByteArray) (A0_2 : Option Addr) (c0_2 : Nat) (l0_2 : List Int) (a1_0 : Int) (a1_1 : ByteArray) (A1_2 : Option Addr) (c1_2 : Nat) (l1_2 : List Int) (r : Bool) (w : World) (hr0_2 : Kd.C (Kd.int .i64) w A0_2 l0_2.length l0_2) (hc0_2 : l0_2.length ≤ c0_2) (hr1_2 : Kd.C (Kd.int .i64) w A1_2 l1_2.length l1_2) (hc1_2 : l1_2.length ≤ c1_2) (h : laws_eqQc.f k a0_0 a0_1 l0_2 a1_0 a1_1 l1_2 = some r) :
    Calls Tryd.prog 27 #[.agg #[.int .i64 a0_0, .string a0_1, .slice A0_2 l0_2.length c0_2], .agg #[.int .i64 a1_0, .string a1_1, .slice A1_2 l1_2.length c1_2]] w fun e w' => e = .returned (.bool r) ∧ Below w.heap.size w w' := by
  have hu41 := Tryd.underlying41
  have HR0_2 := Aside0.mk hr0_2
  have HC0_2 := Aside0.mk hc0_2
  clear hr0_2 hc0_2
  have HR1_2 := Aside0.mk hr1_2
  have HC1_2 := Aside0.mk hc1_2
  clear hr1_2 hc1_2
  have HB := Aside0.mk (Below.refl w.heap.size w)
  have H : (if a0_0 = a1_0 then (if a0_1.toList = a1_1.toList then ((laws_eqIntS.f k l0_2 l1_2).bind fun t353 => (if t353 = true then (some true) else (some false))) else (some false)) else (some false)) = some r := h
  clear h
  by_cases c3 : a0_0 = a1_0
  · rw [if_pos c3] at H
    have c3b0 : (a0_0 == a1_0) = true := beq_iff_eq.mpr c3
    have c3b1 : (a0_0 != a1_0) = false := bne_eq_false_iff_eq.mpr c3
    clear c3
    by_cases c4 : a0_1.toList = a1_1.toList
    · rw [if_pos c4] at H
      have c4b0 : (a0_1.toList == a1_1.toList) = true := beq_iff_eq.mpr c4
      have c4b1 : (a0_1.toList != a1_1.toList) = false := bne_eq_false_iff_eq.mpr c4
      clear c4
      obtain ⟨t353, A50, H⟩ := Option.bind_eq_some_iff.mp H
      try dsimp only at H
      have A5 := Aside0.mk A50
      clear A50
      by_cases c6 : t353 = true
      · subst c6
        rw [if_pos rfl] at H
        obtain rfl := Option.some.inj H
        go_enter Tryd.func27, Tryd.ntmps27
        go_wp2_with (first | ((with_reducible refine gd 2 ?_); refine bA 2 #[.int .i64 a0_0, .string a0_1, .slice A0_2 l0_2.length c0_2] 41 ?_; intro gb351 hg w7 hbox hb; have BK351 := Aside0.mk (hbox); have GW351 := bg hg HB; have GJ351 := gi GW351; have GE351 := GW351; replace HB := bs HB hb; clear hb hbox hg) | ((with_reducible refine gd 3 ?_); refine bA 3 #[.int .i64 a1_0, .string a1_1, .slice A1_2 l1_2.length c1_2] 41 ?_; intro gb352 hg w8 hbox hb; have BK352 := Aside0.mk (hbox); have GW352 := bg hg HB; have GJ352 := gi GW352; have GE352 := GW352; replace HB := bs HB hb; have NB351_352 := b1 BK351 hg; have NI351_352 := ni NB351_352; have NB352_351 := b2 BK351 hg; have NI352_351 := ni NB352_351; replace BK351 := bk BK351 hb; clear hb hbox hg; have hnb9 := NB351_352.out; have hnc9 := NB352_351.out; obtain ⟨hcz10_0, hcz10_1, hcz10_2, hfz10_0, hfz10_1, hfz10_2⟩ := cs3 BK351; obtain ⟨hcz11_0, hcz11_1, hcz11_2, hfz11_0, hfz11_1, hfz11_2⟩ := cs3 BK352) | ((with_reducible refine gate_callee (f := 81) rfl ?_); refine gB (some 19) Tryd.func81 #[.slice A0_2 l0_2.length c0_2, .slice A1_2 l1_2.length c1_2] ?_; (with_reducible refine (laws_eqIntS.calls k _ _ l0_2 _ _ l1_2 true _ ?side1 ?side2 ?side3 ?side4 A5.out).mono ?_); (case side1 => exact ch HR0_2 HB); (case side2 => exact HC0_2.out); (case side3 => exact ch HR1_2 HB); (case side4 => exact HC1_2.out); rintro e w' ⟨rfl, ⟨nd, rfl⟩⟩; refine ⟨_, rfl, ?_⟩))
        go_ret
        exact ⟨y0_4, bI HB.out⟩
      · replace c6 := Bool.eq_false_iff.mpr c6
        subst c6
        rw [if_neg (show ¬ (false = true) by decide)] at H
        obtain rfl := Option.some.inj H
        go_enter Tryd.func27, Tryd.ntmps27
        go_wp2_with (first | ((with_reducible refine gd 2 ?_); refine bA 2 #[.int .i64 a0_0, .string a0_1, .slice A0_2 l0_2.length c0_2] 41 ?_; intro gb351 hg w12 hbox hb; have BK351 := Aside0.mk (hbox); have GW351 := bg hg HB; have GJ351 := gi GW351; have GE351 := GW351; replace HB := bs HB hb; clear hb hbox hg) | ((with_reducible refine gd 3 ?_); refine bA 3 #[.int .i64 a1_0, .string a1_1, .slice A1_2 l1_2.length c1_2] 41 ?_; intro gb352 hg w13 hbox hb; have BK352 := Aside0.mk (hbox); have GW352 := bg hg HB; have GJ352 := gi GW352; have GE352 := GW352; replace HB := bs HB hb; have NB351_352 := b1 BK351 hg; have NI351_352 := ni NB351_352; have NB352_351 := b2 BK351 hg; have NI352_351 := ni NB352_351; replace BK351 := bk BK351 hb; clear hb hbox hg; have hnb14 := NB351_352.out; have hnc14 := NB352_351.out; obtain ⟨hcz15_0, hcz15_1, hcz15_2, hfz15_0, hfz15_1, hfz15_2⟩ := cs3 BK351; obtain ⟨hcz16_0, hcz16_1, hcz16_2, hfz16_0, hfz16_1, hfz16_2⟩ := cs3 BK352) | ((with_reducible refine gate_callee (f := 81) rfl ?_); refine gB (some 19) Tryd.func81 #[.slice A0_2 l0_2.length c0_2, .slice A1_2 l1_2.length c1_2] ?_; (with_reducible refine (laws_eqIntS.calls k _ _ l0_2 _ _ l1_2 false _ ?side1 ?side2 ?side3 ?side4 A5.out).mono ?_); (case side1 => exact ch HR0_2 HB); (case side2 => exact HC0_2.out); (case side3 => exact ch HR1_2 HB); (case side4 => exact HC1_2.out); rintro e w' ⟨rfl, ⟨nd, rfl⟩⟩; refine ⟨_, rfl, ?_⟩))
        go_ret
        exact ⟨y0_4, bI HB.out⟩
    · rw [if_neg c4] at H
      have c4b0 : (a0_1.toList == a1_1.toList) = false := beq_eq_false_iff_ne.mpr c4
      have c4b1 : (a0_1.toList != a1_1.toList) = true := bne_iff_ne.mpr c4
      obtain rfl := Option.some.inj H
      go_enter Tryd.func27, Tryd.ntmps27
      go_wp2_with (first | ((with_reducible refine gd 2 ?_); refine bA 2 #[.int .i64 a0_0, .string a0_1, .slice A0_2 l0_2.length c0_2] 41 ?_; intro gb351 hg w17 hbox hb; have BK351 := Aside0.mk (hbox); have GW351 := bg hg HB; have GJ351 := gi GW351; have GE351 := GW351; replace HB := bs HB hb; clear hb hbox hg) | ((with_reducible refine gd 3 ?_); refine bA 3 #[.int .i64 a1_0, .string a1_1, .slice A1_2 l1_2.length c1_2] 41 ?_; intro gb352 hg w18 hbox hb; have BK352 := Aside0.mk (hbox); have GW352 := bg hg HB; have GJ352 := gi GW352; have GE352 := GW352; replace HB := bs HB hb; have NB351_352 := b1 BK351 hg; have NI351_352 := ni NB351_352; have NB352_351 := b2 BK351 hg; have NI352_351 := ni NB352_351; replace BK351 := bk BK351 hb; clear hb hbox hg; have hnb19 := NB351_352.out; have hnc19 := NB352_351.out; obtain ⟨hcz20_0, hcz20_1, hcz20_2, hfz20_0, hfz20_1, hfz20_2⟩ := cs3 BK351; obtain ⟨hcz21_0, hcz21_1, hcz21_2, hfz21_0, hfz21_1, hfz21_2⟩ := cs3 BK352))
      go_ret
      exact ⟨y0_4, bI HB.out⟩
  · rw [if_neg c3] at H
    have c3b0 : (a0_0 == a1_0) = false := beq_eq_false_iff_ne.mpr c3
    have c3b1 : (a0_0 != a1_0) = true := bne_iff_ne.mpr c3
    obtain rfl := Option.some.inj H
    go_enter Tryd.func27, Tryd.ntmps27
    go_wp2_with (first | ((with_reducible refine gd 2 ?_); refine bA 2 #[.int .i64 a0_0, .string a0_1, .slice A0_2 l0_2.length c0_2] 41 ?_; intro gb351 hg w22 hbox hb; have BK351 := Aside0.mk (hbox); have GW351 := bg hg HB; have GJ351 := gi GW351; have GE351 := GW351; replace HB := bs HB hb; clear hb hbox hg) | ((with_reducible refine gd 3 ?_); refine bA 3 #[.int .i64 a1_0, .string a1_1, .slice A1_2 l1_2.length c1_2] 41 ?_; intro gb352 hg w23 hbox hb; have BK352 := Aside0.mk (hbox); have GW352 := bg hg HB; have GJ352 := gi GW352; have GE352 := GW352; replace HB := bs HB hb; have NB351_352 := b1 BK351 hg; have NI351_352 := ni NB351_352; have NB352_351 := b2 BK351 hg; have NI352_351 := ni NB352_351; replace BK351 := bk BK351 hb; clear hb hbox hg; have hnb24 := NB351_352.out; have hnc24 := NB352_351.out; obtain ⟨hcz25_0, hcz25_1, hcz25_2, hfz25_0, hfz25_1, hfz25_2⟩ := cs3 BK351; obtain ⟨hcz26_0, hcz26_1, hcz26_2, hfz26_0, hfz26_1, hfz26_2⟩ := cs3 BK352))
    go_ret
    exact ⟨y0_4, bI HB.out⟩

/-! ### laws_eqBlock: function 47 -/
def laws_eqBlock.f (k : Nat) (a0_0 : ByteArray) (a0_1 : Int) (a0_2 : ByteArray) (l0_3 : List Int) (a1_0 : ByteArray) (a1_1 : Int) (a1_2 : ByteArray) (l1_3 : List Int) : Option (Bool) := if a0_0.toList = a1_0.toList then ((laws_eqQc.f k a0_1 a0_2 l0_3 a1_1 a1_2 l1_3).bind fun t356 => (if t356 = true then (some true) else (some false))) else (some false)
theorem laws_eqBlock.mono : ∀ a0 a1 a2 a3 a4 a5 a6 a7 k, LeO (laws_eqBlock.f k a0 a1 a2 a3 a4 a5 a6 a7) (laws_eqBlock.f (k + 1) a0 a1 a2 a3 a4 a5 a6 a7) := by
  intro a0 a1 a2 a3 a4 a5 a6 a7 k
  unfold laws_eqBlock.f
  repeat' first
      | (with_reducible exact laws_eqQc.mono _ _ _ _ _ _ _)
      | (with_reducible exact LeO.refl _)
      | (with_reducible exact LeO.none _)
      | (with_reducible refine LeO.ite ?_ ?_)
      | (with_reducible refine LeO.bind ?_ (fun _ => ?_))
      | exact laws_eqQc.mono _ _ _ _ _ _ _
      | exact LeO.none _
      | refine LeO.ite ?_ ?_
      | refine LeO.bind ?_ (fun _ => ?_)
set_option maxHeartbeats 8000000 in
set_option maxRecDepth 100000 in
theorem laws_eqBlock.calls (k : Nat) (a0_0 : ByteArray) (a0_1 : Int) (a0_2 : ByteArray) (A0_3 : Option Addr) (c0_3 : Nat) (l0_3 : List Int) (a1_0 : ByteArray) (a1_1 : Int) (a1_2 : ByteArray) (A1_3 : Option Addr) (c1_3 : Nat) (l1_3 : List Int) (r : Bool) (w : World) (hr0_3 : Kd.C (Kd.int .i64) w A0_3 l0_3.length l0_3) (hc0_3 : l0_3.length ≤ c0_3) (hr1_3 : Kd.C (Kd.int .i64) w A1_3 l1_3.length l1_3) (hc1_3 : l1_3.length ≤ c1_3) (h : laws_eqBlock.f k a0_0 a0_1 a0_2 l0_3 a1_0 a1_1 a1_2 l1_3 = some r) :
    Calls Tryd.prog 47 #[.agg #[.string a0_0, .int .i64 a0_1, .string a0_2, .slice A0_3 l0_3.length c0_3], .agg #[.string a1_0, .int .i64 a1_1, .string a1_2, .slice A1_3 l1_3.length c1_3]] w fun e w' => e = .returned (.bool r) ∧ Below w.heap.size w w' := by
  have hu70 := Tryd.underlying70
  have hu41 := Tryd.underlying41
  have HR0_3 := Aside0.mk hr0_3
  have HC0_3 := Aside0.mk hc0_3
  clear hr0_3 hc0_3
  have HR1_3 := Aside0.mk hr1_3
  have HC1_3 := Aside0.mk hc1_3
  clear hr1_3 hc1_3
  have HB := Aside0.mk (Below.refl w.heap.size w)
  have H : (if a0_0.toList = a1_0.toList then ((laws_eqQc.f k a0_1 a0_2 l0_3 a1_1 a1_2 l1_3).bind fun t356 => (if t356 = true then (some true) else (some false))) else (some false)) = some r := h
  clear h
  by_cases c3 : a0_0.toList = a1_0.toList
  · rw [if_pos c3] at H
    have c3b0 : (a0_0.toList == a1_0.toList) = true := beq_iff_eq.mpr c3
    have c3b1 : (a0_0.toList != a1_0.toList) = false := bne_eq_false_iff_eq.mpr c3
    clear c3
    obtain ⟨t356, A40, H⟩ := Option.bind_eq_some_iff.mp H
    try dsimp only at H
    have A4 := Aside0.mk A40
    clear A40
    by_cases c5 : t356 = true
    · subst c5
      rw [if_pos rfl] at H
      obtain rfl := Option.some.inj H
      go_enter Tryd.func47, Tryd.ntmps47
      go_wp2_with (first | ((with_reducible refine gd 2 ?_); refine bA 2 #[.string a0_0, .int .i64 a0_1, .string a0_2, .slice A0_3 l0_3.length c0_3] 70 ?_; intro gb354 hg w6 hbox hb; have BK354 := Aside0.mk (hbox); have GW354 := bg hg HB; have GJ354 := gi GW354; have GE354 := GW354; replace HB := bs HB hb; clear hb hbox hg) | ((with_reducible refine gd 3 ?_); refine bA 3 #[.string a1_0, .int .i64 a1_1, .string a1_2, .slice A1_3 l1_3.length c1_3] 70 ?_; intro gb355 hg w7 hbox hb; have BK355 := Aside0.mk (hbox); have GW355 := bg hg HB; have GJ355 := gi GW355; have GE355 := GW355; replace HB := bs HB hb; have NB354_355 := b1 BK354 hg; have NI354_355 := ni NB354_355; have NB355_354 := b2 BK354 hg; have NI355_354 := ni NB355_354; replace BK354 := bk BK354 hb; clear hb hbox hg; have hnb8 := NB354_355.out; have hnc8 := NB355_354.out; obtain ⟨hcz9_0, hcz9_1, hcz9_2, hcz9_3, hfz9_0, hfz9_1, hfz9_2, hfz9_3⟩ := cs4 BK354; obtain ⟨hcz10_0, hcz10_1, hcz10_2, hcz10_3, hfz10_0, hfz10_1, hfz10_2, hfz10_3⟩ := cs4 BK355) | ((with_reducible refine gate_callee (f := 27) rfl ?_); refine gB (some 14) Tryd.func27 #[.agg #[.int .i64 a0_1, .string a0_2, .slice A0_3 l0_3.length c0_3], .agg #[.int .i64 a1_1, .string a1_2, .slice A1_3 l1_3.length c1_3]] ?_; (with_reducible refine (laws_eqQc.calls k a0_1 a0_2 _ _ l0_3 a1_1 a1_2 _ _ l1_3 true _ ?side1 ?side2 ?side3 ?side4 A4.out).mono ?_); (case side1 => exact ch HR0_3 HB); (case side2 => exact HC0_3.out); (case side3 => exact ch HR1_3 HB); (case side4 => exact HC1_3.out); rintro e w11 ⟨rfl, hb⟩; refine ⟨_, rfl, ?_⟩; replace BK354 := bk BK354 hb; replace BK355 := bk BK355 hb; replace HB := bs HB hb; (try clear hb); (try clear hb2); (try clear hk); (try clear hi)))
      go_ret
      exact ⟨y0_4, bI HB.out⟩
    · replace c5 := Bool.eq_false_iff.mpr c5
      subst c5
      rw [if_neg (show ¬ (false = true) by decide)] at H
      obtain rfl := Option.some.inj H
      go_enter Tryd.func47, Tryd.ntmps47
      go_wp2_with (first | ((with_reducible refine gd 2 ?_); refine bA 2 #[.string a0_0, .int .i64 a0_1, .string a0_2, .slice A0_3 l0_3.length c0_3] 70 ?_; intro gb354 hg w12 hbox hb; have BK354 := Aside0.mk (hbox); have GW354 := bg hg HB; have GJ354 := gi GW354; have GE354 := GW354; replace HB := bs HB hb; clear hb hbox hg) | ((with_reducible refine gd 3 ?_); refine bA 3 #[.string a1_0, .int .i64 a1_1, .string a1_2, .slice A1_3 l1_3.length c1_3] 70 ?_; intro gb355 hg w13 hbox hb; have BK355 := Aside0.mk (hbox); have GW355 := bg hg HB; have GJ355 := gi GW355; have GE355 := GW355; replace HB := bs HB hb; have NB354_355 := b1 BK354 hg; have NI354_355 := ni NB354_355; have NB355_354 := b2 BK354 hg; have NI355_354 := ni NB355_354; replace BK354 := bk BK354 hb; clear hb hbox hg; have hnb14 := NB354_355.out; have hnc14 := NB355_354.out; obtain ⟨hcz15_0, hcz15_1, hcz15_2, hcz15_3, hfz15_0, hfz15_1, hfz15_2, hfz15_3⟩ := cs4 BK354; obtain ⟨hcz16_0, hcz16_1, hcz16_2, hcz16_3, hfz16_0, hfz16_1, hfz16_2, hfz16_3⟩ := cs4 BK355) | ((with_reducible refine gate_callee (f := 27) rfl ?_); refine gB (some 14) Tryd.func27 #[.agg #[.int .i64 a0_1, .string a0_2, .slice A0_3 l0_3.length c0_3], .agg #[.int .i64 a1_1, .string a1_2, .slice A1_3 l1_3.length c1_3]] ?_; (with_reducible refine (laws_eqQc.calls k a0_1 a0_2 _ _ l0_3 a1_1 a1_2 _ _ l1_3 false _ ?side1 ?side2 ?side3 ?side4 A4.out).mono ?_); (case side1 => exact ch HR0_3 HB); (case side2 => exact HC0_3.out); (case side3 => exact ch HR1_3 HB); (case side4 => exact HC1_3.out); rintro e w17 ⟨rfl, hb⟩; refine ⟨_, rfl, ?_⟩; replace BK354 := bk BK354 hb; replace BK355 := bk BK355 hb; replace HB := bs HB hb; (try clear hb); (try clear hb2); (try clear hk); (try clear hi)))
      go_ret
      exact ⟨y0_4, bI HB.out⟩
  · rw [if_neg c3] at H
    have c3b0 : (a0_0.toList == a1_0.toList) = false := beq_eq_false_iff_ne.mpr c3
    have c3b1 : (a0_0.toList != a1_0.toList) = true := bne_iff_ne.mpr c3
    obtain rfl := Option.some.inj H
    go_enter Tryd.func47, Tryd.ntmps47
    go_wp2_with (first | ((with_reducible refine gd 2 ?_); refine bA 2 #[.string a0_0, .int .i64 a0_1, .string a0_2, .slice A0_3 l0_3.length c0_3] 70 ?_; intro gb354 hg w18 hbox hb; have BK354 := Aside0.mk (hbox); have GW354 := bg hg HB; have GJ354 := gi GW354; have GE354 := GW354; replace HB := bs HB hb; clear hb hbox hg) | ((with_reducible refine gd 3 ?_); refine bA 3 #[.string a1_0, .int .i64 a1_1, .string a1_2, .slice A1_3 l1_3.length c1_3] 70 ?_; intro gb355 hg w19 hbox hb; have BK355 := Aside0.mk (hbox); have GW355 := bg hg HB; have GJ355 := gi GW355; have GE355 := GW355; replace HB := bs HB hb; have NB354_355 := b1 BK354 hg; have NI354_355 := ni NB354_355; have NB355_354 := b2 BK354 hg; have NI355_354 := ni NB355_354; replace BK354 := bk BK354 hb; clear hb hbox hg; have hnb20 := NB354_355.out; have hnc20 := NB355_354.out; obtain ⟨hcz21_0, hcz21_1, hcz21_2, hcz21_3, hfz21_0, hfz21_1, hfz21_2, hfz21_3⟩ := cs4 BK354; obtain ⟨hcz22_0, hcz22_1, hcz22_2, hcz22_3, hfz22_0, hfz22_1, hfz22_2, hfz22_3⟩ := cs4 BK355))
    go_ret
    exact ⟨y0_4, bI HB.out⟩

/-! ### laws_FnExactBlockOk: function 9 -/
def laws_FnExactBlockOk.f (k : Nat) (a0_0 : Int) (a0_1 : Int) (a1_0 : ByteArray) (a1_1 : Int) (a1_2 : ByteArray) (l1_3 : List Int) : Option (Bool) := (laws_szBlock.f a1_0 a1_1 a1_2 l1_3 1048576).bind fun t359 => (if t359 < 0 then (some true) else ((laws_toConf.f a0_0 a0_1).bind fun bt360 => ((laws_toBlock.f k a1_0 a1_1 a1_2 l1_3).bind fun bt362 => ((spec_BlockOk.f k bt360.1 bt360.2 bt362.1 bt362.2.1 bt362.2.2.1 bt362.2.2.2).bind fun t368 => ((laws_toBlock.f k a1_0 a1_1 a1_2 l1_3).bind fun bt369 => ((laws_toConf.f a0_0 a0_1).bind fun bt376 => ((impl_BlockOk.f k bt376.1 bt376.2 bt369.1 bt369.2.1 bt369.2.2.1 bt369.2.2.2).bind fun t378 => (if (t378 != t368) = true then (some false) else ((laws_toBlock.f k a1_0 a1_1 a1_2 l1_3).bind fun bt379 => ((laws_eqBlock.f k bt369.1 bt369.2.1 bt369.2.2.1 bt369.2.2.2 bt379.1 bt379.2.1 bt379.2.2.1 bt379.2.2.2).bind fun t385 => (if t385 = true then (some true) else (some false))))))))))))
theorem laws_FnExactBlockOk.mono : ∀ a0 a1 a2 a3 a4 a5 k, LeO (laws_FnExactBlockOk.f k a0 a1 a2 a3 a4 a5) (laws_FnExactBlockOk.f (k + 1) a0 a1 a2 a3 a4 a5) := by
  intro a0 a1 a2 a3 a4 a5 k
  unfold laws_FnExactBlockOk.f
  repeat' first
      | (with_reducible exact impl_BlockOk.mono _ _ _ _ _ _ _)
      | (with_reducible exact laws_eqBlock.mono _ _ _ _ _ _ _ _ _)
      | (with_reducible exact laws_toBlock.mono _ _ _ _ _)
      | (with_reducible exact spec_BlockOk.mono _ _ _ _ _ _ _)
      | (with_reducible exact LeO.refl _)
      | (with_reducible exact LeO.none _)
      | (with_reducible refine LeO.ite ?_ ?_)
      | (with_reducible refine LeO.bind ?_ (fun _ => ?_))
      | exact impl_BlockOk.mono _ _ _ _ _ _ _
      | exact laws_eqBlock.mono _ _ _ _ _ _ _ _ _
      | exact laws_toBlock.mono _ _ _ _ _
      | exact spec_BlockOk.mono _ _ _ _ _ _ _
      | exact LeO.none _
      | refine LeO.ite ?_ ?_
      | refine LeO.bind ?_ (fun _ => ?_)
set_option maxHeartbeats 8000000 in
set_option maxRecDepth 100000 in
theorem laws_FnExactBlockOk.calls (k : Nat) (a0_0 : Int) (a0_1 : Int) (a1_0 : ByteArray) (a1_1 : Int) (a1_2 : ByteArray) (A1_3 : Option Addr) (c1_3 : Nat) (l1_3 : List Int) (r : Bool) (hrt : Aside0 (r = true)) (w : World) (hr1_3 : Kd.C (Kd.int .i64) w A1_3 l1_3.length l1_3) (hc1_3 : l1_3.length ≤ c1_3) (h : laws_FnExactBlockOk.f k a0_0 a0_1 a1_0 a1_1 a1_2 l1_3 = some r) (hG : Glob w := by exact gG HG HB) :
    Calls Tryd.prog 9 #[.agg #[.int .i64 a0_0, .int .i64 a0_1], .agg #[.string a1_0, .int .i64 a1_1, .string a1_2, .slice A1_3 l1_3.length c1_3]] w fun e w' => e = .returned (.bool r) ∧ Below w.heap.size w w' := by
  have HG := Aside0.mk hG
  clear hG
  have hu26 := Tryd.underlying26
  have hu66 := Tryd.underlying66
  have hu70 := Tryd.underlying70
  have HR1_3 := Aside0.mk hr1_3
  have HC1_3 := Aside0.mk hc1_3
  clear hr1_3 hc1_3
  have HB := Aside0.mk (Below.refl w.heap.size w)
  have H : ((laws_szBlock.f a1_0 a1_1 a1_2 l1_3 1048576).bind fun t359 => (if t359 < 0 then (some true) else ((laws_toConf.f a0_0 a0_1).bind fun bt360 => ((laws_toBlock.f k a1_0 a1_1 a1_2 l1_3).bind fun bt362 => ((spec_BlockOk.f k bt360.1 bt360.2 bt362.1 bt362.2.1 bt362.2.2.1 bt362.2.2.2).bind fun t368 => ((laws_toBlock.f k a1_0 a1_1 a1_2 l1_3).bind fun bt369 => ((laws_toConf.f a0_0 a0_1).bind fun bt376 => ((impl_BlockOk.f k bt376.1 bt376.2 bt369.1 bt369.2.1 bt369.2.2.1 bt369.2.2.2).bind fun t378 => (if (t378 != t368) = true then (some false) else ((laws_toBlock.f k a1_0 a1_1 a1_2 l1_3).bind fun bt379 => ((laws_eqBlock.f k bt369.1 bt369.2.1 bt369.2.2.1 bt369.2.2.2 bt379.1 bt379.2.1 bt379.2.2.1 bt379.2.2.2).bind fun t385 => (if t385 = true then (some true) else (some false))))))))))))) = some r := h
  clear h
  obtain ⟨t359, A30, H⟩ := Option.bind_eq_some_iff.mp H
  try dsimp only at H
  have A3 := Aside0.mk A30
  clear A30
  by_cases c4 : t359 < 0
  · rw [if_pos c4] at H
    have c4b0 : decide (t359 < 0) = true := decide_eq_true c4
    clear c4
    obtain rfl := Option.some.inj H
    go_enter Tryd.func9, Tryd.ntmps9
    go_wp2_with (first | ((with_reducible refine gd 2 ?_); refine bA 2 #[.int .i64 a0_0, .int .i64 a0_1] 26 ?_; intro gb357 hg w5 hbox hb; have BK357 := Aside0.mk (hbox); have GW357 := bg hg HB; have GJ357 := gi GW357; have GE357 := GW357; replace HB := bs HB hb; clear hb hbox hg) | ((with_reducible refine gd 3 ?_); refine bA 3 #[.string a1_0, .int .i64 a1_1, .string a1_2, .slice A1_3 l1_3.length c1_3] 66 ?_; intro gb358 hg w6 hbox hb; have BK358 := Aside0.mk (hbox); have GW358 := bg hg HB; have GJ358 := gi GW358; have GE358 := GW358; replace HB := bs HB hb; have NB357_358 := b1 BK357 hg; have NI357_358 := ni NB357_358; have NB358_357 := b2 BK357 hg; have NI358_357 := ni NB358_357; replace BK357 := bk BK357 hb; clear hb hbox hg; have hnb7 := NB358_357.out; have hnc7 := NB357_358.out; obtain ⟨hcz8_0, hcz8_1, hcz8_2, hcz8_3, hfz8_0, hfz8_1, hfz8_2, hfz8_3⟩ := cs4 BK358) | ((with_reducible refine gate_callee (f := 43) rfl ?_); refine gB (some 11) Tryd.func43 #[.agg #[.string a1_0, .int .i64 a1_1, .string a1_2, .slice A1_3 l1_3.length c1_3], .int .i64 1048576] ?_; (with_reducible refine (laws_szBlock.calls a1_0 a1_1 a1_2 _ _ l1_3 1048576 t359 _ ?side1 ?side2 A3.out).mono ?_); (case side1 => exact ch HR1_3 HB); (case side2 => exact HC1_3.out); rintro e w9 ⟨rfl, hb⟩; refine ⟨_, rfl, ?_⟩; replace BK357 := bk BK357 hb; replace BK358 := bk BK358 hb; replace HB := bs HB hb; (try clear hb); (try clear hb2); (try clear hk); (try clear hi)))
    go_ret
    exact ⟨y0_4, bI HB.out⟩
  · rw [if_neg c4] at H
    have c4b0 : decide (t359 < 0) = false := decide_eq_false c4
    clear c4
    obtain ⟨⟨t360, t361⟩, A100, H⟩ := Option.bind_eq_some_iff.mp H
    try dsimp only at H
    have A10 := Aside0.mk A100
    clear A100
    obtain ⟨⟨t362, t363, t364, t365⟩, A110, H⟩ := Option.bind_eq_some_iff.mp H
    try dsimp only at H
    have A11 := Aside0.mk A110
    clear A110
    obtain ⟨t368, A120, H⟩ := Option.bind_eq_some_iff.mp H
    try dsimp only at H
    have A12 := Aside0.mk A120
    clear A120
    obtain ⟨⟨t369, t370, t371, t372⟩, A130, H⟩ := Option.bind_eq_some_iff.mp H
    try dsimp only at H
    have A13 := Aside0.mk A130
    clear A130
    obtain ⟨⟨t376, t377⟩, A140, H⟩ := Option.bind_eq_some_iff.mp H
    try dsimp only at H
    have A14 := Aside0.mk A140
    clear A140
    obtain ⟨t378, A150, H⟩ := Option.bind_eq_some_iff.mp H
    try dsimp only at H
    have A15 := Aside0.mk A150
    clear A150
    by_cases c16 : (t378 != t368) = true
    · rw [if_pos c16] at H
      have c16b0 : (t378 != t368) = true := c16
      (try (have c16b1 : decide (t378 = t368) = false := by simpa using c16))
      (try (have c16b2 : (t378 == t368) = false := by simpa using c16))
      (try (have c16b3 : ¬ (t378 = t368) := by simpa using c16))
      clear c16
      exact absurd (hrt.out.symm.trans (Option.some.inj H).symm) (by decide)
    rw [if_neg c16] at H
    have c16b0 : (t378 != t368) = false := by simpa using c16
    (try (have c16b1 : decide (t378 = t368) = true := by simpa using c16))
    (try (have c16b2 : (t378 == t368) = true := by simpa using c16))
    clear c16
    obtain ⟨⟨t379, t380, t381, t382⟩, A170, H⟩ := Option.bind_eq_some_iff.mp H
    try dsimp only at H
    have A17 := Aside0.mk A170
    clear A170
    obtain ⟨t385, A180, H⟩ := Option.bind_eq_some_iff.mp H
    try dsimp only at H
    have A18 := Aside0.mk A180
    clear A180
    by_cases c19 : t385 = true
    · subst c19
      rw [if_pos rfl] at H
      obtain rfl := Option.some.inj H
      go_enter Tryd.func9, Tryd.ntmps9
      try go_wp2_with (first | ((with_reducible refine gd 2 ?_); refine bA 2 #[.int .i64 a0_0, .int .i64 a0_1] 26 ?_; intro gb357 hg w20 hbox hb; have BK357 := Aside0.mk (hbox); have GW357 := bg hg HB; have GJ357 := gi GW357; have GE357 := GW357; replace HB := bs HB hb; clear hb hbox hg) | ((with_reducible refine gd 3 ?_); refine bA 3 #[.string a1_0, .int .i64 a1_1, .string a1_2, .slice A1_3 l1_3.length c1_3] 66 ?_; intro gb358 hg w21 hbox hb; have BK358 := Aside0.mk (hbox); have GW358 := bg hg HB; have GJ358 := gi GW358; have GE358 := GW358; replace HB := bs HB hb; have NB357_358 := b1 BK357 hg; have NI357_358 := ni NB357_358; have NB358_357 := b2 BK357 hg; have NI358_357 := ni NB358_357; replace BK357 := bk BK357 hb; clear hb hbox hg; have hnb22 := NB358_357.out; have hnc22 := NB357_358.out; obtain ⟨hcz23_0, hcz23_1, hcz23_2, hcz23_3, hfz23_0, hfz23_1, hfz23_2, hfz23_3⟩ := cs4 BK358) | ((with_reducible refine gate_callee (f := 43) rfl ?_); refine gB (some 11) Tryd.func43 #[.agg #[.string a1_0, .int .i64 a1_1, .string a1_2, .slice A1_3 l1_3.length c1_3], .int .i64 1048576] ?_; (with_reducible refine (laws_szBlock.calls a1_0 a1_1 a1_2 _ _ l1_3 1048576 t359 _ ?side1 ?side2 A3.out).mono ?_); (case side1 => exact ch HR1_3 HB); (case side2 => exact HC1_3.out); rintro e w24 ⟨rfl, hb⟩; refine ⟨_, rfl, ?_⟩; replace BK357 := bk BK357 hb; replace BK358 := bk BK358 hb; replace HB := bs HB hb; (try clear hb); (try clear hb2); (try clear hk); (try clear hi)))
      replace BK357 := Aside0.mk (blk_drew BK357.out)
      replace BK358 := Aside0.mk (blk_drew BK358.out)
      replace HB := Aside0.mk (below_drew1 HB.out)
      refine start_ (n := 6) (S := fun w' => w'.cell? ⟨gb357, 0, none⟩ = some (.int .i64 a0_0) ∧ w'.cell? ⟨gb357, 1, none⟩ = some (.int .i64 a0_1) ∧ w'.cell? ⟨gb358, 0, none⟩ = some (.string a1_0) ∧ w'.cell? ⟨gb358, 1, none⟩ = some (.int .i64 a1_1) ∧ w'.cell? ⟨gb358, 2, none⟩ = some (.string a1_2) ∧ w'.cell? ⟨gb358, 3, none⟩ = some (.slice A1_3 l1_3.length c1_3)) (ds := []) #[false, false, false, false, false, false] (by kernel_rfl) rfl rfl ⟨bc0 BK357.out, bc1 BK357.out, bc0 BK358.out, bc1 BK358.out, bc2 BK358.out, bc3 BK358.out⟩ (fun hHeld => ?_)
      generalize w24.drew = w25 at BK357 BK358 HB hHeld ⊢
      refine take_ (i := 0) (N := some 14) (v := ?_) (a' := ?_) #[true, false, false, false, false, false] rfl rfl (by kernel_rfl) (fun _ _ _ h => h) (Or.inl ⟨by rfl, ?_⟩) hHeld ?_ ?_
      rotate_left
      · rintro w' ⟨s0, s1, s2, s3, s4, s5⟩
        go_simp
        with_reducible rfl
      rotate_left
      · simp only [Act.put, List.setIfInBounds_toArray, List.set_cons_zero, List.set_cons_succ, i64_w, i32_w]
        rfl
      refine take_ (i := 2) (N := some 16) (v := ?_) (a' := ?_) #[true, false, true, false, false, false] rfl rfl (by kernel_rfl) (fun _ _ _ h => h) (Or.inl ⟨by rfl, ?_⟩) hHeld ?_ ?_
      rotate_left
      · rintro w' ⟨s0, s1, s2, s3, s4, s5⟩
        go_simp
        with_reducible rfl
      rotate_left
      · simp only [Act.put, List.setIfInBounds_toArray, List.set_cons_zero, List.set_cons_succ, i64_w, i32_w]
        rfl
      refine one_ (i := 1) (N := some 15) #[true, true, true, false, false, false] rfl rfl (by kernel_rfl) (by decide) (fun K hK => ?_)
      refine gA Tryd.func19 #[.agg #[.int .i64 a0_0, .int .i64 a0_1]] ?_
      with_reducible refine (laws_toConf.calls a0_0 a0_1 t360 t361 _ A10.out).mono ?_
      rintro e w26 ⟨rfl, hb⟩
      refine ⟨_, rfl, ?_⟩
      replace BK357 := bk BK357 hb
      replace BK358 := bk BK358 hb
      replace HB := bs HB hb
      (try clear hb)
      (try clear hb2)
      (try clear hk)
      (try clear hi)
      refine hK.out _ _ ⟨bc0 BK357.out, bc1 BK357.out, bc0 BK358.out, bc1 BK358.out, bc2 BK358.out, bc3 BK358.out⟩ (fun hHeld => ?_)
      clear hK K
      refine nA (some 15) ?_
      refine one_ (i := 3) (N := some 17) #[true, true, true, true, false, false] rfl rfl (by kernel_rfl) (by decide) (fun K hK => ?_)
      refine gA Tryd.func45 #[.agg #[.string a1_0, .int .i64 a1_1, .string a1_2, .slice A1_3 l1_3.length c1_3]] ?_
      with_reducible refine (laws_toBlock.calls k a1_0 a1_1 a1_2 _ _ l1_3 t362 t363 t364 t365 _ ?side1 ?side2 A11.out).mono ?_
      (case side1 => exact ch HR1_3 HB)
      (case side2 => exact HC1_3.out)
      rintro e w27 ⟨v366, rfl, ho0, hb⟩
      refine ⟨_, rfl, ?_⟩
      have HO367 := Aside0.mk (Kd.R_lower ho0 (below_size (bI HB.out)))
      replace BK357 := bk BK357 hb
      replace BK358 := bk BK358 hb
      replace HB := bs HB hb
      (try clear hb)
      (try clear hb2)
      (try clear hk)
      (try clear hi)
      (try clear ho0)
      obtain ⟨Ao28, co28, eo28⟩ := Kd.R_slice HO367.out
      (first | subst eo28 | (injection eo28 with f1_ f2_ f3_; have f4_ := f1_.symm; have f5_ := f3_.symm; clear f1_ f2_ f3_; subst f4_; subst f5_))
      refine hK.out _ _ ⟨bc0 BK357.out, bc1 BK357.out, bc0 BK358.out, bc1 BK358.out, bc2 BK358.out, bc3 BK358.out⟩ (fun hHeld => ?_)
      clear hK K
      refine nA (some 17) ?_
      refine one_ (i := 4) (N := some 18) #[true, true, true, true, true, false] rfl rfl (by kernel_rfl) (by decide) (fun K hK => ?_)
      refine gA Tryd.func44 #[.agg #[.int .i64 t360, .int .i64 t361], .agg #[.string t362, .int .i64 t363, .string t364, .slice Ao28 t365.length co28]] ?_
      with_reducible refine (spec_BlockOk.calls k t360 t361 t362 t363 t364 _ _ t365 t368 _ ?side1 ?side2 A12.out).mono ?_
      (case side1 => repeat (first | exact (Kd.R_reads' HO367.out).2.2 | (with_reducible refine Kd.C_alloc ?_ _) | (with_reducible refine Kd.C_drewN ?_ _) | (with_reducible refine Kd.C_drew ?_)))
      (case side2 => exact (Kd.R_reads' HO367.out).2.1)
      rintro e w29 ⟨rfl, hb⟩
      refine ⟨_, rfl, ?_⟩
      replace HO367 := rb HO367 hb
      replace BK357 := bk BK357 hb
      replace BK358 := bk BK358 hb
      replace HB := bs HB hb
      (try clear hb)
      (try clear hb2)
      (try clear hk)
      (try clear hi)
      refine hK.out _ _ ⟨bc0 BK357.out, bc1 BK357.out, bc0 BK358.out, bc1 BK358.out, bc2 BK358.out, bc3 BK358.out⟩ (fun hHeld => ?_)
      clear hK K
      refine nA (some 18) ?_
      refine pure_ (i := 5) (N := some 6) (v := ?_) (a' := ?_) #[true, true, true, true, true, true] rfl rfl (by kernel_rfl) (fun _ _ _ h => h) (Or.inl ⟨by rfl, ?_⟩) ?_ ?_
      rotate_left
      · intro w'
        go_simp
        with_reducible rfl
      rotate_left
      · simp only [Act.put, List.setIfInBounds_toArray, List.set_cons_zero, List.set_cons_succ, i64_w, i32_w]
        rfl
      refine done_ (by kernel_rfl) ?_
      have hcz30_0 := bc0 BK358.out
      have hcz30_1 := bc1 BK358.out
      have hcz30_2 := bc2 BK358.out
      have hcz30_3 := bc3 BK358.out
      have hfz30_0 := blk_frozen BK358.out 0
      have hfz30_1 := blk_frozen BK358.out 1
      have hfz30_2 := blk_frozen BK358.out 2
      have hfz30_3 := blk_frozen BK358.out 3
      clear HO367
      try go_wp2_with (first | ((with_reducible refine gate_callee (f := 45) rfl ?_); refine gB (some 20) Tryd.func45 #[.agg #[.string a1_0, .int .i64 a1_1, .string a1_2, .slice A1_3 l1_3.length c1_3]] ?_; (with_reducible refine (laws_toBlock.calls k a1_0 a1_1 a1_2 _ _ l1_3 t369 t370 t371 t372 _ ?side1 ?side2 A13.out).mono ?_); (case side1 => exact ch HR1_3 HB); (case side2 => exact HC1_3.out); rintro e w31 ⟨v373, rfl, ho0, hb⟩; refine ⟨_, rfl, ?_⟩; have HO374 := Aside0.mk (Kd.R_lower ho0 (below_size (bI HB.out))); replace BK357 := bk BK357 hb; replace BK358 := bk BK358 hb; replace HB := bs HB hb; (try clear hb); (try clear ho0)) | ((with_reducible refine gd 7 ?_); refine bA 7 #[.string (⟨#[]⟩ : ByteArray), .int .i64 0, .string (⟨#[]⟩ : ByteArray), .slice none 0 0] 70 ?_; intro gb375 hg w32 hbox hb; replace HO374 := rb HO374 hb; have BK375 := Aside0.mk (hbox); have GW375 := bg hg HB; have GJ375 := gi GW375; have GE375 := GW375; replace HB := bs HB hb; have NB357_375 := b1 BK357 hg; have NI357_375 := ni NB357_375; have NB375_357 := b2 BK357 hg; have NI375_357 := ni NB375_357; replace BK357 := bk BK357 hb; have NB358_375 := b1 BK358 hg; have NI358_375 := ni NB358_375; have NB375_358 := b2 BK358 hg; have NI375_358 := ni NB375_358; replace BK358 := bk BK358 hb; clear hb hbox hg; have hnb33 := NB375_357.out; have hnc33 := NB357_375.out; have hnb34 := NB375_358.out; have hnc34 := NB358_375.out; obtain ⟨hcz35_0, hcz35_1, hcz35_2, hcz35_3, hfz35_0, hfz35_1, hfz35_2, hfz35_3⟩ := cs4 BK375; obtain ⟨Ao36, co36, eo36⟩ := Kd.R_slice HO374.out; subst eo36))
      have n0_ : Aside0 (Kd.R (Kd.int .i64) 3 ((((w32.setCell ⟨gb375, 0, none⟩ (.string t369)).setCell ⟨gb375, 1, none⟩ (.int .i64 t370)).setCell ⟨gb375, 2, none⟩ (.string t371)).setCell ⟨gb375, 3, none⟩ (.slice Ao36 t372.length co36)) w.heap.size (fun _ => True) (.slice Ao36 t372.length co36) t372) := ⟨by (with_reducible repeat (first | apply Kd.R_alloc | apply Kd.R_drewN | apply Kd.R_drew)); exact Kd.R_mono (Kd.R_far (p := ⟨gb375, 3, none⟩) (Kd.R_far (p := ⟨gb375, 2, none⟩) (Kd.R_far (p := ⟨gb375, 1, none⟩) (Kd.R_far (p := ⟨gb375, 0, none⟩) (Kd.R_types HO374.out BK375.out (by decide)) (fun _ hk => hk.2) (.string t369)) (fun _ hk => hk.2) (.int .i64 t370)) (fun _ hk => hk.2) (.string t371)) (fun _ hk => hk.2) (.slice Ao36 t372.length co36)) (fun _ hk => trivial)⟩
      have n1_ : Aside0 (((((w32.setCell ⟨gb375, 0, none⟩ (.string t369)).setCell ⟨gb375, 1, none⟩ (.int .i64 t370)).setCell ⟨gb375, 2, none⟩ (.string t371)).setCell ⟨gb375, 3, none⟩ (.slice Ao36 t372.length co36)).heap[gb357]? = some (.cells #[.int .i64 a0_0, .int .i64 a0_1] 26 (0, 0))) := ⟨gI BK357.out⟩
      have n2_ : Aside0 (((((w32.setCell ⟨gb375, 0, none⟩ (.string t369)).setCell ⟨gb375, 1, none⟩ (.int .i64 t370)).setCell ⟨gb375, 2, none⟩ (.string t371)).setCell ⟨gb375, 3, none⟩ (.slice Ao36 t372.length co36)).heap[gb358]? = some (.cells #[.string a1_0, .int .i64 a1_1, .string a1_2, .slice A1_3 l1_3.length c1_3] 66 (0, 0))) := ⟨gI BK358.out⟩
      have n3_ : Aside0 (((((w32.setCell ⟨gb375, 0, none⟩ (.string t369)).setCell ⟨gb375, 1, none⟩ (.int .i64 t370)).setCell ⟨gb375, 2, none⟩ (.string t371)).setCell ⟨gb375, 3, none⟩ (.slice Ao36 t372.length co36)).heap[gb375]? = some (.cells #[.string t369, .int .i64 t370, .string t371, .slice Ao36 t372.length co36] 70 (0, 0))) := ⟨pI BK375⟩
      have n4_ : Aside0 (Below w.heap.size w ((((w32.setCell ⟨gb375, 0, none⟩ (.string t369)).setCell ⟨gb375, 1, none⟩ (.int .i64 t370)).setCell ⟨gb375, 2, none⟩ (.string t371)).setCell ⟨gb375, 3, none⟩ (.slice Ao36 t372.length co36))) := ⟨bI HB.out⟩
      (try clear HO374)
      (try clear BK357)
      (try clear BK358)
      (try clear BK375)
      (try clear HB)
      generalize ((((w32.setCell ⟨gb375, 0, none⟩ (.string t369)).setCell ⟨gb375, 1, none⟩ (.int .i64 t370)).setCell ⟨gb375, 2, none⟩ (.string t371)).setCell ⟨gb375, 3, none⟩ (.slice Ao36 t372.length co36)) = w37 at n0_ n1_ n2_ n3_ n4_ ⊢
      have HO374 := n0_
      have BK357 := n1_
      have BK358 := n2_
      have BK375 := n3_
      have HB := n4_
      clear n0_ n1_ n2_ n3_ n4_
      replace HO374 := Aside0.mk (Kd.R_drew HO374.out)
      replace BK357 := Aside0.mk (blk_drew BK357.out)
      replace BK358 := Aside0.mk (blk_drew BK358.out)
      replace BK375 := Aside0.mk (blk_drew BK375.out)
      replace HB := Aside0.mk (below_drew1 HB.out)
      refine start_ (n := 5) (S := fun w' => w'.cell? ⟨gb357, 0, none⟩ = some (.int .i64 a0_0) ∧ w'.cell? ⟨gb357, 1, none⟩ = some (.int .i64 a0_1) ∧ w'.cell? ⟨gb375, 0, none⟩ = some (.string t369) ∧ w'.cell? ⟨gb375, 1, none⟩ = some (.int .i64 t370) ∧ w'.cell? ⟨gb375, 2, none⟩ = some (.string t371) ∧ w'.cell? ⟨gb375, 3, none⟩ = some (.slice Ao36 t372.length co36)) (ds := []) #[false, false, false, false, false] (by kernel_rfl) rfl rfl ⟨bc0 BK357.out, bc1 BK357.out, bc0 BK375.out, bc1 BK375.out, bc2 BK375.out, bc3 BK375.out⟩ (fun hHeld => ?_)
      generalize w37.drew = w38 at HO374 BK357 BK358 BK375 HB hHeld ⊢
      refine take_ (i := 0) (N := some 21) (v := ?_) (a' := ?_) #[true, false, false, false, false] rfl rfl (by kernel_rfl) (fun _ _ _ h => h) (Or.inl ⟨by rfl, ?_⟩) hHeld ?_ ?_
      rotate_left
      · rintro w' ⟨s0, s1, s2, s3, s4, s5⟩
        go_simp
        with_reducible rfl
      rotate_left
      · simp only [Act.put, List.setIfInBounds_toArray, List.set_cons_zero, List.set_cons_succ, i64_w, i32_w]
        rfl
      refine take_ (i := 2) (N := some 23) (v := ?_) (a' := ?_) #[true, false, true, false, false] rfl rfl (by kernel_rfl) (fun _ _ _ h => h) (Or.inl ⟨by rfl, ?_⟩) hHeld ?_ ?_
      rotate_left
      · rintro w' ⟨s0, s1, s2, s3, s4, s5⟩
        go_simp
        with_reducible rfl
      rotate_left
      · simp only [Act.put, List.setIfInBounds_toArray, List.set_cons_zero, List.set_cons_succ, i64_w, i32_w]
        rfl
      refine one_ (i := 1) (N := some 22) #[true, true, true, false, false] rfl rfl (by kernel_rfl) (by decide) (fun K hK => ?_)
      refine gA Tryd.func19 #[.agg #[.int .i64 a0_0, .int .i64 a0_1]] ?_
      with_reducible refine (laws_toConf.calls a0_0 a0_1 t376 t377 _ A14.out).mono ?_
      rintro e w39 ⟨rfl, hb⟩
      refine ⟨_, rfl, ?_⟩
      replace HO374 := rb HO374 hb
      replace BK357 := bk BK357 hb
      replace BK358 := bk BK358 hb
      replace BK375 := bk BK375 hb
      replace HB := bs HB hb
      (try clear hb)
      (try clear hb2)
      (try clear hk)
      (try clear hi)
      refine hK.out _ _ ⟨bc0 BK357.out, bc1 BK357.out, bc0 BK375.out, bc1 BK375.out, bc2 BK375.out, bc3 BK375.out⟩ (fun hHeld => ?_)
      clear hK K
      refine nA (some 22) ?_
      refine one_ (i := 3) (N := some 24) #[true, true, true, true, false] rfl rfl (by kernel_rfl) (by decide) (fun K hK => ?_)
      refine gA Tryd.func46 #[.agg #[.int .i64 t376, .int .i64 t377], .agg #[.string t369, .int .i64 t370, .string t371, .slice Ao36 t372.length co36]] ?_
      with_reducible refine (impl_BlockOk.calls k t376 t377 t369 t370 t371 _ _ t372 t378 _ ?side1 ?side2 A15.out).mono ?_
      (case side1 => repeat (first | exact (Kd.R_reads' HO374.out).2.2 | (with_reducible refine Kd.C_alloc ?_ _) | (with_reducible refine Kd.C_drewN ?_ _) | (with_reducible refine Kd.C_drew ?_)))
      (case side2 => exact (Kd.R_reads' HO374.out).2.1)
      rintro e w40 ⟨rfl, hb⟩
      refine ⟨_, rfl, ?_⟩
      replace HO374 := rb HO374 hb
      replace BK357 := bk BK357 hb
      replace BK358 := bk BK358 hb
      replace BK375 := bk BK375 hb
      replace HB := bs HB hb
      (try clear hb)
      (try clear hb2)
      (try clear hk)
      (try clear hi)
      refine hK.out _ _ ⟨bc0 BK357.out, bc1 BK357.out, bc0 BK375.out, bc1 BK375.out, bc2 BK375.out, bc3 BK375.out⟩ (fun hHeld => ?_)
      clear hK K
      refine nA (some 24) ?_
      refine pure_ (i := 4) (N := some 8) (v := ?_) (a' := ?_) #[true, true, true, true, true] rfl rfl (by kernel_rfl) (fun _ _ _ h => h) (Or.inl ⟨by rfl, ?_⟩) ?_ ?_
      rotate_left
      · intro w'
        go_simp
        with_reducible rfl
      rotate_left
      · simp only [Act.put, List.setIfInBounds_toArray, List.set_cons_zero, List.set_cons_succ, i64_w, i32_w]
        rfl
      refine done_ (by kernel_rfl) ?_
      try go_wp2
      replace HO374 := Aside0.mk (Kd.R_drew HO374.out)
      replace BK357 := Aside0.mk (blk_drew BK357.out)
      replace BK358 := Aside0.mk (blk_drew BK358.out)
      replace BK375 := Aside0.mk (blk_drew BK375.out)
      replace HB := Aside0.mk (below_drew1 HB.out)
      refine start_ (n := 5) (S := fun w' => w'.cell? ⟨gb375, 0, none⟩ = some (.string t369) ∧ w'.cell? ⟨gb375, 1, none⟩ = some (.int .i64 t370) ∧ w'.cell? ⟨gb375, 2, none⟩ = some (.string t371) ∧ w'.cell? ⟨gb375, 3, none⟩ = some (.slice Ao36 t372.length co36) ∧ w'.cell? ⟨gb358, 0, none⟩ = some (.string a1_0) ∧ w'.cell? ⟨gb358, 1, none⟩ = some (.int .i64 a1_1) ∧ w'.cell? ⟨gb358, 2, none⟩ = some (.string a1_2) ∧ w'.cell? ⟨gb358, 3, none⟩ = some (.slice A1_3 l1_3.length c1_3)) (ds := []) #[false, false, false, false, false] (by kernel_rfl) rfl rfl ⟨bc0 BK375.out, bc1 BK375.out, bc2 BK375.out, bc3 BK375.out, bc0 BK358.out, bc1 BK358.out, bc2 BK358.out, bc3 BK358.out⟩ (fun hHeld => ?_)
      generalize w40.drew = w41 at HO374 BK357 BK358 BK375 HB hHeld ⊢
      refine take_ (i := 0) (N := some 28) (v := ?_) (a' := ?_) #[true, false, false, false, false] rfl rfl (by kernel_rfl) (fun _ _ _ h => h) (Or.inl ⟨by rfl, ?_⟩) hHeld ?_ ?_
      rotate_left
      · rintro w' ⟨s0, s1, s2, s3, s4, s5, s6, s7⟩
        go_simp
        with_reducible rfl
      rotate_left
      · simp only [Act.put, List.setIfInBounds_toArray, List.set_cons_zero, List.set_cons_succ, i64_w, i32_w]
        rfl
      refine take_ (i := 1) (N := some 29) (v := ?_) (a' := ?_) #[true, true, false, false, false] rfl rfl (by kernel_rfl) (fun _ _ _ h => h) (Or.inl ⟨by rfl, ?_⟩) hHeld ?_ ?_
      rotate_left
      · rintro w' ⟨s0, s1, s2, s3, s4, s5, s6, s7⟩
        go_simp
        with_reducible rfl
      rotate_left
      · simp only [Act.put, List.setIfInBounds_toArray, List.set_cons_zero, List.set_cons_succ, i64_w, i32_w]
        rfl
      refine one_ (i := 2) (N := some 30) #[true, true, true, false, false] rfl rfl (by kernel_rfl) (by decide) (fun K hK => ?_)
      refine gA Tryd.func45 #[.agg #[.string a1_0, .int .i64 a1_1, .string a1_2, .slice A1_3 l1_3.length c1_3]] ?_
      with_reducible refine (laws_toBlock.calls k a1_0 a1_1 a1_2 _ _ l1_3 t379 t380 t381 t382 _ ?side1 ?side2 A17.out).mono ?_
      (case side1 => exact ch HR1_3 HB)
      (case side2 => exact HC1_3.out)
      rintro e w42 ⟨v383, rfl, ho0, hb⟩
      refine ⟨_, rfl, ?_⟩
      have HO384 := Aside0.mk (Kd.R_lower (Kd.R_new' ho0 (Kd.R_lt (rI HO374.out))) (below_size (bI HB.out)))
      replace HO374 := Aside0.mk (Kd.R_elder' (rI HO374.out) (Kd.R_base ho0) hb)
      replace BK357 := bk BK357 hb
      replace BK358 := bk BK358 hb
      replace BK375 := bk BK375 hb
      replace HB := bs HB hb
      (try clear hb)
      (try clear hb2)
      (try clear hk)
      (try clear hi)
      (try clear ho0)
      obtain ⟨Ao43, co43, eo43⟩ := Kd.R_slice HO384.out
      (first | subst eo43 | (injection eo43 with f1_ f2_ f3_; have f4_ := f1_.symm; have f5_ := f3_.symm; clear f1_ f2_ f3_; subst f4_; subst f5_))
      refine hK.out _ _ ⟨bc0 BK375.out, bc1 BK375.out, bc2 BK375.out, bc3 BK375.out, bc0 BK358.out, bc1 BK358.out, bc2 BK358.out, bc3 BK358.out⟩ (fun hHeld => ?_)
      clear hK K
      refine nA (some 30) ?_
      refine one_ (i := 3) (N := some 31) #[true, true, true, true, false] rfl rfl (by kernel_rfl) (by decide) (fun K hK => ?_)
      refine gA Tryd.func47 #[.agg #[.string t369, .int .i64 t370, .string t371, .slice Ao36 t372.length co36], .agg #[.string t379, .int .i64 t380, .string t381, .slice Ao43 t382.length co43]] ?_
      with_reducible refine (laws_eqBlock.calls k t369 t370 t371 _ _ t372 t379 t380 t381 _ _ t382 true _ ?side1 ?side2 ?side3 ?side4 A18.out).mono ?_
      (case side1 => repeat (first | exact (Kd.R_reads' HO374.out).2.2 | (with_reducible refine Kd.C_alloc ?_ _) | (with_reducible refine Kd.C_drewN ?_ _) | (with_reducible refine Kd.C_drew ?_)))
      (case side2 => exact (Kd.R_reads' HO374.out).2.1)
      (case side3 => repeat (first | exact (Kd.R_reads' HO384.out).2.2 | (with_reducible refine Kd.C_alloc ?_ _) | (with_reducible refine Kd.C_drewN ?_ _) | (with_reducible refine Kd.C_drew ?_)))
      (case side4 => exact (Kd.R_reads' HO384.out).2.1)
      rintro e w44 ⟨rfl, hb⟩
      refine ⟨_, rfl, ?_⟩
      replace HO374 := rb HO374 hb
      replace HO384 := rb HO384 hb
      replace BK357 := bk BK357 hb
      replace BK358 := bk BK358 hb
      replace BK375 := bk BK375 hb
      replace HB := bs HB hb
      (try clear hb)
      (try clear hb2)
      (try clear hk)
      (try clear hi)
      refine hK.out _ _ ⟨bc0 BK375.out, bc1 BK375.out, bc2 BK375.out, bc3 BK375.out, bc0 BK358.out, bc1 BK358.out, bc2 BK358.out, bc3 BK358.out⟩ (fun hHeld => ?_)
      clear hK K
      refine nA (some 31) ?_
      refine pure_ (i := 4) (N := some 32) (v := ?_) (a' := ?_) #[true, true, true, true, true] rfl rfl (by kernel_rfl) (fun _ _ _ h => h) (Or.inl ⟨by rfl, ?_⟩) ?_ ?_
      rotate_left
      · intro w'
        go_simp
        with_reducible rfl
      rotate_left
      · simp only [Act.put, List.setIfInBounds_toArray, List.set_cons_zero, List.set_cons_succ, i64_w, i32_w]
        rfl
      refine done_ (by kernel_rfl) ?_
      try go_wp2
      go_ret
      exact ⟨y0_4, bI HB.out⟩
    · replace c19 := Bool.eq_false_iff.mpr c19
      subst c19
      rw [if_neg (show ¬ (false = true) by decide)] at H
      exact absurd (hrt.out.symm.trans (Option.some.inj H).symm) (by decide)

end Go.Proofs.YtcmldmlmhpfjhaaDoor.PFnExactBlockOk
