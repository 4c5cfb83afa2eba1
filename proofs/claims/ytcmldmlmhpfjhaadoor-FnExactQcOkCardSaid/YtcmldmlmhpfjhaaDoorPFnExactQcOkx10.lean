-- By a program of this session, out of the translation (the print of the kit, with turns of its own). Lean checks it.
import Derived.Test.YtcmldmlmhpfjhaaDoorPFnExactQcOkx0
import Derived.Test.YtcmldmlmhpfjhaaDoorPFnExactQcOkx1
import Derived.Test.YtcmldmlmhpfjhaaDoorPFnExactQcOkx4
import Derived.Test.YtcmldmlmhpfjhaaDoorPFnExactQcOkx5
import Derived.Test.YtcmldmlmhpfjhaaDoorPFnExactQcOkx9
namespace Go.Proofs.YtcmldmlmhpfjhaaDoor.PFnExactQcOk
open Go.RowKit Go.Proofs.YtcmldmlmhpfjhaaDoorW.PrintWords Go.Proofs.YtcmldmlmhpfjhaaDoorW.PrintLast Go.Proofs.YtcmldmlmhpfjhaaDoorW.PrintMore
attribute [local go_sem] max2_int min2_int max_two min_two max_three min_three max_four min_four   -- for this text's walks alone
set_option linter.unusedVariables false
set_option linter.unusedSimpArgs false

/-! ### laws_eqIntS: function 81 -/
def laws_eqIntS.l0 : Nat → List Int → List Int → Int → Option (Bool)
  | 0, _, _, _ => none
  | k + 1, x0, x1, x5 => if x5 < (x0.length : Int) then (if 0 ≤ x5 then (if x5 < (x1.length : Int) then (if (rd x0 x5) = (rd x1 x5) then (laws_eqIntS.l0 k x0 x1 (wrap64 (x5 + 1))) else (some false)) else (none)) else (none)) else (some true)
def laws_eqIntS.f (k : Nat) (l0 : List Int) (l1 : List Int) : Option (Bool) := if (l0.length : Int) = (l1.length : Int) then (laws_eqIntS.l0 k l0 l1 0) else (some false)
theorem laws_eqIntS.mono_l : ∀ k, (∀ y0 y1 y2, LeO (laws_eqIntS.l0 k y0 y1 y2) (laws_eqIntS.l0 (k + 1) y0 y1 y2))
  | 0 => fun _ _ _ r h => by simp [laws_eqIntS.l0] at h
  | k + 1 => by
    have ih0 := laws_eqIntS.mono_l k
    · intro y0 y1 y2
      unfold laws_eqIntS.l0
      repeat' first
      | (with_reducible exact ih0 _ _ _)
      | (with_reducible exact LeO.refl _)
      | (with_reducible exact LeO.none _)
      | (with_reducible refine LeO.ite ?_ ?_)
      | (with_reducible refine LeO.bind ?_ (fun _ => ?_))
      | exact ih0 _ _ _
      | exact LeO.none _
      | refine LeO.ite ?_ ?_
      | refine LeO.bind ?_ (fun _ => ?_)
theorem laws_eqIntS.mono : ∀ a0 a1 k, LeO (laws_eqIntS.f k a0 a1) (laws_eqIntS.f (k + 1) a0 a1) := by
  intro a0 a1 k
  have ih0 := laws_eqIntS.mono_l k
  unfold laws_eqIntS.f
  repeat' first
      | (with_reducible exact ih0 _ _ _)
      | (with_reducible exact LeO.refl _)
      | (with_reducible exact LeO.none _)
      | (with_reducible refine LeO.ite ?_ ?_)
      | (with_reducible refine LeO.bind ?_ (fun _ => ?_))
      | exact ih0 _ _ _
      | exact LeO.none _
      | refine LeO.ite ?_ ?_
      | refine LeO.bind ?_ (fun _ => ?_)
set_option maxHeartbeats 8000000 in
set_option maxRecDepth 100000 in
theorem laws_eqIntS.calls (k : Nat) (A0 : Option Addr) (c0 : Nat) (l0 : List Int) (A1 : Option Addr) (c1 : Nat) (l1 : List Int) (r : Bool) (w : World) (hr0 : Kd.C (Kd.int .i64) w A0 l0.length l0) (hc0 : l0.length ≤ c0) (hr1 : Kd.C (Kd.int .i64) w A1 l1.length l1) (hc1 : l1.length ≤ c1) (h : laws_eqIntS.f k l0 l1 = some r) :
    Calls Tryd.prog 81 #[.slice A0 l0.length c0, .slice A1 l1.length c1] w fun e w' => e = .returned (.bool r) ∧ Drawn0 w w' := by
  have HR0 := Aside0.mk hr0
  have HC0 := Aside0.mk hc0
  clear hr0 hc0
  have HR1 := Aside0.mk hr1
  have HC1 := Aside0.mk hc1
  clear hr1 hc1
  have H : (if (l0.length : Int) = (l1.length : Int) then (laws_eqIntS.l0 k l0 l1 0) else (some false)) = some r := h
  clear h
  by_cases c3 : (l0.length : Int) = (l1.length : Int)
  · rw [if_pos c3] at H
    have c3b0 : ((l0.length : Int) == (l1.length : Int)) = true := beq_iff_eq.mpr c3
    have c3b1 : ((l0.length : Int) != (l1.length : Int)) = false := bne_eq_false_iff_eq.mpr c3
    have c3b2 : (l0.length == l1.length) = true := by first | simpa using c3 | (simp at c3 ⊢; omega)
    clear c3
    have H' := Aside0.mk H
    clear H
    go_enter Tryd.func81, Tryd.ntmps81
    go_wp2
    repeat (go_quiet (fail); try go_wp2)
    go_loopg [5] k (fun kq v5 w' => ∃ (x5_1 : Int), v5 = .int .i64 x5_1 ∧ Aside0 (laws_eqIntS.l0 kq l0 l1 x5_1 = some r) ∧ Aside0 (kq ≤ k) ∧ Drawn0 w w')
    case atStart => exact ⟨(0), y0_7, H', ⟨Nat.le_refl _⟩, y0_5⟩
    case round =>
      clear H'
      try clear c1
      try clear p2
      try clear c3
      try clear c3b0
      try clear c3b1
      try clear c3b2
      obtain ⟨x5_1, rfl, HA, HK1, ⟨m1, rfl⟩⟩ := hrel
      cases gk with
      | zero => exact absurd HA.out (by simp [laws_eqIntS.l0])
      | succ k1 =>
        have H := HA.out
        clear HA
        simp only [laws_eqIntS.l0] at H
        by_cases c4 : x5_1 < (l0.length : Int)
        · rw [if_pos c4] at H
          have c4b0 : decide (x5_1 < (l0.length : Int)) = true := decide_eq_true c4
          clear c4
          by_cases c5 : 0 ≤ x5_1
          rotate_left
          · rw [if_neg c5] at H
            exact absurd H (by simp)
          rw [if_pos c5] at H
          have c5b0 : decide (0 ≤ x5_1) = true := decide_eq_true c5
          clear c5
          by_cases c6 : x5_1 < (l1.length : Int)
          rotate_left
          · rw [if_neg c6] at H
            exact absurd H (by simp)
          rw [if_pos c6] at H
          have c6b0 : decide (x5_1 < (l1.length : Int)) = true := decide_eq_true c6
          clear c6
          by_cases c7 : (rd l0 x5_1) = (rd l1 x5_1)
          · rw [if_pos c7] at H
            have c7b0 : ((rd l0 x5_1) == (rd l1 x5_1)) = true := beq_iff_eq.mpr c7
            have c7b1 : ((rd l0 x5_1) != (rd l1 x5_1)) = false := bne_eq_false_iff_eq.mpr c7
            clear c7
            have H' := Aside0.mk H
            clear H
            have p323 : 0 ≤ (x5_1 : Int) := of_decide_eq_true y0_6
            have q323 : x5_1 < (l0.length : Int) := of_decide_eq_true y0_6
            obtain ⟨ad323, e323, hx323_0⟩ := Kd.at_int HR0.out x5_1 p323 q323
            cases e323
            replace p323 := eq_true p323
            replace q323 := eq_true q323
            have p324 : 0 ≤ (x5_1 : Int) := of_decide_eq_true y0_6
            have q324 : x5_1 < (l1.length : Int) := of_decide_eq_true y0_6
            obtain ⟨ad324, e324, hx324_0⟩ := Kd.at_int HR1.out x5_1 p324 q324
            cases e324
            replace p324 := eq_true p324
            replace q324 := eq_true q324
            go_wp2
            repeat (go_quiet (fail); try go_wp2)
            go_roundg k1
            case measure => have := HK1.out; omega
            case rel => exact ⟨(wrap64 (x5_1 + 1)), y0_7, H', ⟨y0_11⟩, y0_5⟩
          · rw [if_neg c7] at H
            have c7b0 : ((rd l0 x5_1) == (rd l1 x5_1)) = false := beq_eq_false_iff_ne.mpr c7
            have c7b1 : ((rd l0 x5_1) != (rd l1 x5_1)) = true := bne_iff_ne.mpr c7
            obtain rfl := Option.some.inj H
            have p323 : 0 ≤ (x5_1 : Int) := of_decide_eq_true y0_6
            have q323 : x5_1 < (l0.length : Int) := of_decide_eq_true y0_6
            obtain ⟨ad323, e323, hx323_0⟩ := Kd.at_int HR0.out x5_1 p323 q323
            cases e323
            replace p323 := eq_true p323
            replace q323 := eq_true q323
            have p324 : 0 ≤ (x5_1 : Int) := of_decide_eq_true y0_6
            have q324 : x5_1 < (l1.length : Int) := of_decide_eq_true y0_6
            obtain ⟨ad324, e324, hx324_0⟩ := Kd.at_int HR1.out x5_1 p324 q324
            cases e324
            replace p324 := eq_true p324
            replace q324 := eq_true q324
            go_wp2
            repeat (go_quiet (fail); try go_wp2)
            go_ret
            exact ⟨y0_7, y0_5⟩
        · rw [if_neg c4] at H
          have c4b0 : decide (x5_1 < (l0.length : Int)) = false := decide_eq_false c4
          clear c4
          obtain rfl := Option.some.inj H
          go_wp2
          repeat (go_quiet (fail); try go_wp2)
          go_ret
          exact ⟨y0_7, y0_5⟩
  · rw [if_neg c3] at H
    have c3b0 : ((l0.length : Int) == (l1.length : Int)) = false := beq_eq_false_iff_ne.mpr c3
    have c3b1 : ((l0.length : Int) != (l1.length : Int)) = true := bne_iff_ne.mpr c3
    have c3b2 : (l0.length == l1.length) = false := by first | simpa using c3 | (simp at c3 ⊢; omega)
    obtain rfl := Option.some.inj H
    go_enter Tryd.func81, Tryd.ntmps81
    go_wp2
    repeat (go_quiet (fail); try go_wp2)
    go_ret
    exact ⟨y0_7, y0_5⟩

/-! ### laws_eqQc: function 27 -/
def laws_eqQc.f (k : Nat) (a0_0 : Int) (a0_1 : ByteArray) (l0_2 : List Int) (a1_0 : Int) (a1_1 : ByteArray) (l1_2 : List Int) : Option (Bool) := if a0_0 = a1_0 then (if a0_1.toList = a1_1.toList then ((laws_eqIntS.f k l0_2 l1_2).bind fun t327 => (if t327 = true then (some true) else (some false))) else (some false)) else (some false)
theorem laws_eqQc.mono : ∀ a0 a1 a2 a3 a4 a5 k, LeO (laws_eqQc.f k a0 a1 a2 a3 a4 a5) (laws_eqQc.f (k + 1) a0 a1 a2 a3 a4 a5) := by
  intro a0 a1 a2 a3 a4 a5 k
  unfold laws_eqQc.f
  repeat' first
      | (with_reducible exact laws_eqIntS.mono _ _ _)
      | (with_reducible exact LeO.refl _)
      | (with_reducible exact LeO.none _)
      | (with_reducible refine LeO.ite ?_ ?_)
      | (with_reducible refine LeO.bind ?_ (fun _ => ?_))
      | exact laws_eqIntS.mono _ _ _
      | exact LeO.none _
      | refine LeO.ite ?_ ?_
      | refine LeO.bind ?_ (fun _ => ?_)
set_option maxHeartbeats 8000000 in
set_option maxRecDepth 100000 in
theorem laws_eqQc.calls (k : Nat) (a0_0 : Int) (a0_1 : ByteArray) (A0_2 : Option Addr) (c0_2 : Nat) (l0_2 : List Int) (a1_0 : Int) (a1_1 : ByteArray) (A1_2 : Option Addr) (c1_2 : Nat) (l1_2 : List Int) (r : Bool) (w : World) (hr0_2 : Kd.C (Kd.int .i64) w A0_2 l0_2.length l0_2) (hc0_2 : l0_2.length ≤ c0_2) (hr1_2 : Kd.C (Kd.int .i64) w A1_2 l1_2.length l1_2) (hc1_2 : l1_2.length ≤ c1_2) (h : laws_eqQc.f k a0_0 a0_1 l0_2 a1_0 a1_1 l1_2 = some r) :
    Calls Tryd.prog 27 #[.agg #[.int .i64 a0_0, .string a0_1, .slice A0_2 l0_2.length c0_2], .agg #[.int .i64 a1_0, .string a1_1, .slice A1_2 l1_2.length c1_2]] w fun e w' => e = .returned (.bool r) ∧ Below w.heap.size w w' := by
  have hu41 := Tryd.underlying41
  have HR0_2 := Aside0.mk hr0_2
  have HC0_2 := Aside0.mk hc0_2
  clear hr0_2 hc0_2
  have HR1_2 := Aside0.mk hr1_2
  have HC1_2 := Aside0.mk hc1_2
  clear hr1_2 hc1_2
  have HB := Aside0.mk (Below.refl w.heap.size w)
  have H : (if a0_0 = a1_0 then (if a0_1.toList = a1_1.toList then ((laws_eqIntS.f k l0_2 l1_2).bind fun t327 => (if t327 = true then (some true) else (some false))) else (some false)) else (some false)) = some r := h
  clear h
  by_cases c3 : a0_0 = a1_0
  · rw [if_pos c3] at H
    have c3b0 : (a0_0 == a1_0) = true := beq_iff_eq.mpr c3
    have c3b1 : (a0_0 != a1_0) = false := bne_eq_false_iff_eq.mpr c3
    clear c3
    by_cases c4 : a0_1.toList = a1_1.toList
    · rw [if_pos c4] at H
      have c4b0 : (a0_1.toList == a1_1.toList) = true := beq_iff_eq.mpr c4
      have c4b1 : (a0_1.toList != a1_1.toList) = false := bne_eq_false_iff_eq.mpr c4
      clear c4
      obtain ⟨t327, A50, H⟩ := Option.bind_eq_some_iff.mp H
      try dsimp only at H
      have A5 := Aside0.mk A50
      clear A50
      by_cases c6 : t327 = true
      · subst c6
        rw [if_pos rfl] at H
        obtain rfl := Option.some.inj H
        go_enter Tryd.func27, Tryd.ntmps27
        go_wp2_with (first | ((with_reducible refine gd 2 ?_); refine bA 2 #[.int .i64 a0_0, .string a0_1, .slice A0_2 l0_2.length c0_2] 41 ?_; intro gb325 hg w7 hbox hb; have BK325 := Aside0.mk (hbox); have GW325 := bg hg HB; have GJ325 := gi GW325; have GE325 := GW325; replace HB := bs HB hb; clear hb hbox hg) | ((with_reducible refine gd 3 ?_); refine bA 3 #[.int .i64 a1_0, .string a1_1, .slice A1_2 l1_2.length c1_2] 41 ?_; intro gb326 hg w8 hbox hb; have BK326 := Aside0.mk (hbox); have GW326 := bg hg HB; have GJ326 := gi GW326; have GE326 := GW326; replace HB := bs HB hb; have NB325_326 := b1 BK325 hg; have NI325_326 := ni NB325_326; have NB326_325 := b2 BK325 hg; have NI326_325 := ni NB326_325; replace BK325 := bk BK325 hb; clear hb hbox hg; have hnb9 := NB325_326.out; have hnc9 := NB326_325.out; obtain ⟨hcz10_0, hcz10_1, hcz10_2, hfz10_0, hfz10_1, hfz10_2⟩ := cs3 BK325; obtain ⟨hcz11_0, hcz11_1, hcz11_2, hfz11_0, hfz11_1, hfz11_2⟩ := cs3 BK326) | ((with_reducible refine gate_callee (f := 81) rfl ?_); refine gB (some 19) Tryd.func81 #[.slice A0_2 l0_2.length c0_2, .slice A1_2 l1_2.length c1_2] ?_; (with_reducible refine (laws_eqIntS.calls k _ _ l0_2 _ _ l1_2 true _ ?side1 ?side2 ?side3 ?side4 A5.out).mono ?_); (case side1 => exact ch HR0_2 HB); (case side2 => exact HC0_2.out); (case side3 => exact ch HR1_2 HB); (case side4 => exact HC1_2.out); rintro e w' ⟨rfl, ⟨nd, rfl⟩⟩; refine ⟨_, rfl, ?_⟩))
        go_ret
        exact ⟨y0_4, bI HB.out⟩
      · replace c6 := Bool.eq_false_iff.mpr c6
        subst c6
        rw [if_neg (show ¬ (false = true) by decide)] at H
        obtain rfl := Option.some.inj H
        go_enter Tryd.func27, Tryd.ntmps27
        go_wp2_with (first | ((with_reducible refine gd 2 ?_); refine bA 2 #[.int .i64 a0_0, .string a0_1, .slice A0_2 l0_2.length c0_2] 41 ?_; intro gb325 hg w12 hbox hb; have BK325 := Aside0.mk (hbox); have GW325 := bg hg HB; have GJ325 := gi GW325; have GE325 := GW325; replace HB := bs HB hb; clear hb hbox hg) | ((with_reducible refine gd 3 ?_); refine bA 3 #[.int .i64 a1_0, .string a1_1, .slice A1_2 l1_2.length c1_2] 41 ?_; intro gb326 hg w13 hbox hb; have BK326 := Aside0.mk (hbox); have GW326 := bg hg HB; have GJ326 := gi GW326; have GE326 := GW326; replace HB := bs HB hb; have NB325_326 := b1 BK325 hg; have NI325_326 := ni NB325_326; have NB326_325 := b2 BK325 hg; have NI326_325 := ni NB326_325; replace BK325 := bk BK325 hb; clear hb hbox hg; have hnb14 := NB325_326.out; have hnc14 := NB326_325.out; obtain ⟨hcz15_0, hcz15_1, hcz15_2, hfz15_0, hfz15_1, hfz15_2⟩ := cs3 BK325; obtain ⟨hcz16_0, hcz16_1, hcz16_2, hfz16_0, hfz16_1, hfz16_2⟩ := cs3 BK326) | ((with_reducible refine gate_callee (f := 81) rfl ?_); refine gB (some 19) Tryd.func81 #[.slice A0_2 l0_2.length c0_2, .slice A1_2 l1_2.length c1_2] ?_; (with_reducible refine (laws_eqIntS.calls k _ _ l0_2 _ _ l1_2 false _ ?side1 ?side2 ?side3 ?side4 A5.out).mono ?_); (case side1 => exact ch HR0_2 HB); (case side2 => exact HC0_2.out); (case side3 => exact ch HR1_2 HB); (case side4 => exact HC1_2.out); rintro e w' ⟨rfl, ⟨nd, rfl⟩⟩; refine ⟨_, rfl, ?_⟩))
        go_ret
        exact ⟨y0_4, bI HB.out⟩
    · rw [if_neg c4] at H
      have c4b0 : (a0_1.toList == a1_1.toList) = false := beq_eq_false_iff_ne.mpr c4
      have c4b1 : (a0_1.toList != a1_1.toList) = true := bne_iff_ne.mpr c4
      obtain rfl := Option.some.inj H
      go_enter Tryd.func27, Tryd.ntmps27
      go_wp2_with (first | ((with_reducible refine gd 2 ?_); refine bA 2 #[.int .i64 a0_0, .string a0_1, .slice A0_2 l0_2.length c0_2] 41 ?_; intro gb325 hg w17 hbox hb; have BK325 := Aside0.mk (hbox); have GW325 := bg hg HB; have GJ325 := gi GW325; have GE325 := GW325; replace HB := bs HB hb; clear hb hbox hg) | ((with_reducible refine gd 3 ?_); refine bA 3 #[.int .i64 a1_0, .string a1_1, .slice A1_2 l1_2.length c1_2] 41 ?_; intro gb326 hg w18 hbox hb; have BK326 := Aside0.mk (hbox); have GW326 := bg hg HB; have GJ326 := gi GW326; have GE326 := GW326; replace HB := bs HB hb; have NB325_326 := b1 BK325 hg; have NI325_326 := ni NB325_326; have NB326_325 := b2 BK325 hg; have NI326_325 := ni NB326_325; replace BK325 := bk BK325 hb; clear hb hbox hg; have hnb19 := NB325_326.out; have hnc19 := NB326_325.out; obtain ⟨hcz20_0, hcz20_1, hcz20_2, hfz20_0, hfz20_1, hfz20_2⟩ := cs3 BK325; obtain ⟨hcz21_0, hcz21_1, hcz21_2, hfz21_0, hfz21_1, hfz21_2⟩ := cs3 BK326))
      go_ret
      exact ⟨y0_4, bI HB.out⟩
  · rw [if_neg c3] at H
    have c3b0 : (a0_0 == a1_0) = false := beq_eq_false_iff_ne.mpr c3
    have c3b1 : (a0_0 != a1_0) = true := bne_iff_ne.mpr c3
    obtain rfl := Option.some.inj H
    go_enter Tryd.func27, Tryd.ntmps27
    go_wp2_with (first | ((with_reducible refine gd 2 ?_); refine bA 2 #[.int .i64 a0_0, .string a0_1, .slice A0_2 l0_2.length c0_2] 41 ?_; intro gb325 hg w22 hbox hb; have BK325 := Aside0.mk (hbox); have GW325 := bg hg HB; have GJ325 := gi GW325; have GE325 := GW325; replace HB := bs HB hb; clear hb hbox hg) | ((with_reducible refine gd 3 ?_); refine bA 3 #[.int .i64 a1_0, .string a1_1, .slice A1_2 l1_2.length c1_2] 41 ?_; intro gb326 hg w23 hbox hb; have BK326 := Aside0.mk (hbox); have GW326 := bg hg HB; have GJ326 := gi GW326; have GE326 := GW326; replace HB := bs HB hb; have NB325_326 := b1 BK325 hg; have NI325_326 := ni NB325_326; have NB326_325 := b2 BK325 hg; have NI326_325 := ni NB326_325; replace BK325 := bk BK325 hb; clear hb hbox hg; have hnb24 := NB325_326.out; have hnc24 := NB326_325.out; obtain ⟨hcz25_0, hcz25_1, hcz25_2, hfz25_0, hfz25_1, hfz25_2⟩ := cs3 BK325; obtain ⟨hcz26_0, hcz26_1, hcz26_2, hfz26_0, hfz26_1, hfz26_2⟩ := cs3 BK326))
    go_ret
    exact ⟨y0_4, bI HB.out⟩

/-! ### laws_FnExactQcOk: function 5 -/
def laws_FnExactQcOk.f (k : Nat) (a0_0 : Int) (a0_1 : Int) (a1_0 : Int) (a1_1 : ByteArray) (l1_2 : List Int) : Option (Bool) := (laws_szQc.f a1_0 a1_1 l1_2 1048576).bind fun t330 => (if t330 < 0 then (some true) else ((laws_toConf.f a0_0 a0_1).bind fun bt331 => ((laws_toQc.f k a1_0 a1_1 l1_2).bind fun bt333 => ((spec_QcOk.f k bt331.1 bt331.2 bt333.1 bt333.2.1 bt333.2.2).bind fun t338 => ((laws_toQc.f k a1_0 a1_1 l1_2).bind fun bt339 => ((laws_toConf.f a0_0 a0_1).bind fun bt345 => ((impl_QcOk.f k bt345.1 bt345.2 bt339.1 bt339.2.1 bt339.2.2).bind fun t347 => (if (t347 != t338) = true then (some false) else ((laws_toQc.f k a1_0 a1_1 l1_2).bind fun bt348 => ((laws_eqQc.f k bt339.1 bt339.2.1 bt339.2.2 bt348.1 bt348.2.1 bt348.2.2).bind fun t353 => (if t353 = true then (some true) else (some false))))))))))))
theorem laws_FnExactQcOk.mono : ∀ a0 a1 a2 a3 a4 k, LeO (laws_FnExactQcOk.f k a0 a1 a2 a3 a4) (laws_FnExactQcOk.f (k + 1) a0 a1 a2 a3 a4) := by
  intro a0 a1 a2 a3 a4 k
  unfold laws_FnExactQcOk.f
  repeat' first
      | (with_reducible exact impl_QcOk.mono _ _ _ _ _ _)
      | (with_reducible exact laws_eqQc.mono _ _ _ _ _ _ _)
      | (with_reducible exact laws_toQc.mono _ _ _ _)
      | (with_reducible exact spec_QcOk.mono _ _ _ _ _ _)
      | (with_reducible exact LeO.refl _)
      | (with_reducible exact LeO.none _)
      | (with_reducible refine LeO.ite ?_ ?_)
      | (with_reducible refine LeO.bind ?_ (fun _ => ?_))
      | exact impl_QcOk.mono _ _ _ _ _ _
      | exact laws_eqQc.mono _ _ _ _ _ _ _
      | exact laws_toQc.mono _ _ _ _
      | exact spec_QcOk.mono _ _ _ _ _ _
      | exact LeO.none _
      | refine LeO.ite ?_ ?_
      | refine LeO.bind ?_ (fun _ => ?_)
set_option maxHeartbeats 8000000 in
set_option maxRecDepth 100000 in
theorem laws_FnExactQcOk.calls (k : Nat) (a0_0 : Int) (a0_1 : Int) (a1_0 : Int) (a1_1 : ByteArray) (A1_2 : Option Addr) (c1_2 : Nat) (l1_2 : List Int) (r : Bool) (hrt : Aside0 (r = true)) (w : World) (hr1_2 : Kd.C (Kd.int .i64) w A1_2 l1_2.length l1_2) (hc1_2 : l1_2.length ≤ c1_2) (h : laws_FnExactQcOk.f k a0_0 a0_1 a1_0 a1_1 l1_2 = some r) (hG : Glob w := by exact gG HG HB) :
    Calls Tryd.prog 5 #[.agg #[.int .i64 a0_0, .int .i64 a0_1], .agg #[.int .i64 a1_0, .string a1_1, .slice A1_2 l1_2.length c1_2]] w fun e w' => e = .returned (.bool r) ∧ Below w.heap.size w w' := by
  have HG := Aside0.mk hG
  clear hG
  have hu26 := Tryd.underlying26
  have hu38 := Tryd.underlying38
  have hu41 := Tryd.underlying41
  have HR1_2 := Aside0.mk hr1_2
  have HC1_2 := Aside0.mk hc1_2
  clear hr1_2 hc1_2
  have HB := Aside0.mk (Below.refl w.heap.size w)
  have H : ((laws_szQc.f a1_0 a1_1 l1_2 1048576).bind fun t330 => (if t330 < 0 then (some true) else ((laws_toConf.f a0_0 a0_1).bind fun bt331 => ((laws_toQc.f k a1_0 a1_1 l1_2).bind fun bt333 => ((spec_QcOk.f k bt331.1 bt331.2 bt333.1 bt333.2.1 bt333.2.2).bind fun t338 => ((laws_toQc.f k a1_0 a1_1 l1_2).bind fun bt339 => ((laws_toConf.f a0_0 a0_1).bind fun bt345 => ((impl_QcOk.f k bt345.1 bt345.2 bt339.1 bt339.2.1 bt339.2.2).bind fun t347 => (if (t347 != t338) = true then (some false) else ((laws_toQc.f k a1_0 a1_1 l1_2).bind fun bt348 => ((laws_eqQc.f k bt339.1 bt339.2.1 bt339.2.2 bt348.1 bt348.2.1 bt348.2.2).bind fun t353 => (if t353 = true then (some true) else (some false))))))))))))) = some r := h
  clear h
  obtain ⟨t330, A30, H⟩ := Option.bind_eq_some_iff.mp H
  try dsimp only at H
  have A3 := Aside0.mk A30
  clear A30
  by_cases c4 : t330 < 0
  · rw [if_pos c4] at H
    have c4b0 : decide (t330 < 0) = true := decide_eq_true c4
    clear c4
    obtain rfl := Option.some.inj H
    go_enter Tryd.func5, Tryd.ntmps5
    go_wp2_with (first | ((with_reducible refine gd 2 ?_); refine bA 2 #[.int .i64 a0_0, .int .i64 a0_1] 26 ?_; intro gb328 hg w5 hbox hb; have BK328 := Aside0.mk (hbox); have GW328 := bg hg HB; have GJ328 := gi GW328; have GE328 := GW328; replace HB := bs HB hb; clear hb hbox hg) | ((with_reducible refine gd 3 ?_); refine bA 3 #[.int .i64 a1_0, .string a1_1, .slice A1_2 l1_2.length c1_2] 38 ?_; intro gb329 hg w6 hbox hb; have BK329 := Aside0.mk (hbox); have GW329 := bg hg HB; have GJ329 := gi GW329; have GE329 := GW329; replace HB := bs HB hb; have NB328_329 := b1 BK328 hg; have NI328_329 := ni NB328_329; have NB329_328 := b2 BK328 hg; have NI329_328 := ni NB329_328; replace BK328 := bk BK328 hb; clear hb hbox hg; have hnb7 := NB329_328.out; have hnc7 := NB328_329.out; obtain ⟨hcz8_0, hcz8_1, hcz8_2, hfz8_0, hfz8_1, hfz8_2⟩ := cs3 BK329) | ((with_reducible refine gate_callee (f := 23) rfl ?_); refine gB (some 11) Tryd.func23 #[.agg #[.int .i64 a1_0, .string a1_1, .slice A1_2 l1_2.length c1_2], .int .i64 1048576] ?_; (with_reducible refine (laws_szQc.calls a1_0 a1_1 _ _ l1_2 1048576 t330 _ ?side1 ?side2 A3.out).mono ?_); (case side1 => exact ch HR1_2 HB); (case side2 => exact HC1_2.out); rintro e w9 ⟨rfl, hb⟩; refine ⟨_, rfl, ?_⟩; replace BK328 := bk BK328 hb; replace BK329 := bk BK329 hb; replace HB := bs HB hb; (try clear hb); (try clear hb2); (try clear hk); (try clear hi)))
    go_ret
    exact ⟨y0_4, bI HB.out⟩
  · rw [if_neg c4] at H
    have c4b0 : decide (t330 < 0) = false := decide_eq_false c4
    clear c4
    obtain ⟨⟨t331, t332⟩, A100, H⟩ := Option.bind_eq_some_iff.mp H
    try dsimp only at H
    have A10 := Aside0.mk A100
    clear A100
    obtain ⟨⟨t333, t334, t335⟩, A110, H⟩ := Option.bind_eq_some_iff.mp H
    try dsimp only at H
    have A11 := Aside0.mk A110
    clear A110
    obtain ⟨t338, A120, H⟩ := Option.bind_eq_some_iff.mp H
    try dsimp only at H
    have A12 := Aside0.mk A120
    clear A120
    obtain ⟨⟨t339, t340, t341⟩, A130, H⟩ := Option.bind_eq_some_iff.mp H
    try dsimp only at H
    have A13 := Aside0.mk A130
    clear A130
    obtain ⟨⟨t345, t346⟩, A140, H⟩ := Option.bind_eq_some_iff.mp H
    try dsimp only at H
    have A14 := Aside0.mk A140
    clear A140
    obtain ⟨t347, A150, H⟩ := Option.bind_eq_some_iff.mp H
    try dsimp only at H
    have A15 := Aside0.mk A150
    clear A150
    by_cases c16 : (t347 != t338) = true
    · rw [if_pos c16] at H
      have c16b0 : (t347 != t338) = true := c16
      (try (have c16b1 : decide (t347 = t338) = false := by simpa using c16))
      (try (have c16b2 : (t347 == t338) = false := by simpa using c16))
      (try (have c16b3 : ¬ (t347 = t338) := by simpa using c16))
      clear c16
      exact absurd (hrt.out.symm.trans (Option.some.inj H).symm) (by decide)
    rw [if_neg c16] at H
    have c16b0 : (t347 != t338) = false := by simpa using c16
    (try (have c16b1 : decide (t347 = t338) = true := by simpa using c16))
    (try (have c16b2 : (t347 == t338) = true := by simpa using c16))
    clear c16
    obtain ⟨⟨t348, t349, t350⟩, A170, H⟩ := Option.bind_eq_some_iff.mp H
    try dsimp only at H
    have A17 := Aside0.mk A170
    clear A170
    obtain ⟨t353, A180, H⟩ := Option.bind_eq_some_iff.mp H
    try dsimp only at H
    have A18 := Aside0.mk A180
    clear A180
    by_cases c19 : t353 = true
    · subst c19
      rw [if_pos rfl] at H
      obtain rfl := Option.some.inj H
      go_enter Tryd.func5, Tryd.ntmps5
      try go_wp2_with (first | ((with_reducible refine gd 2 ?_); refine bA 2 #[.int .i64 a0_0, .int .i64 a0_1] 26 ?_; intro gb328 hg w20 hbox hb; have BK328 := Aside0.mk (hbox); have GW328 := bg hg HB; have GJ328 := gi GW328; have GE328 := GW328; replace HB := bs HB hb; clear hb hbox hg) | ((with_reducible refine gd 3 ?_); refine bA 3 #[.int .i64 a1_0, .string a1_1, .slice A1_2 l1_2.length c1_2] 38 ?_; intro gb329 hg w21 hbox hb; have BK329 := Aside0.mk (hbox); have GW329 := bg hg HB; have GJ329 := gi GW329; have GE329 := GW329; replace HB := bs HB hb; have NB328_329 := b1 BK328 hg; have NI328_329 := ni NB328_329; have NB329_328 := b2 BK328 hg; have NI329_328 := ni NB329_328; replace BK328 := bk BK328 hb; clear hb hbox hg; have hnb22 := NB329_328.out; have hnc22 := NB328_329.out; obtain ⟨hcz23_0, hcz23_1, hcz23_2, hfz23_0, hfz23_1, hfz23_2⟩ := cs3 BK329) | ((with_reducible refine gate_callee (f := 23) rfl ?_); refine gB (some 11) Tryd.func23 #[.agg #[.int .i64 a1_0, .string a1_1, .slice A1_2 l1_2.length c1_2], .int .i64 1048576] ?_; (with_reducible refine (laws_szQc.calls a1_0 a1_1 _ _ l1_2 1048576 t330 _ ?side1 ?side2 A3.out).mono ?_); (case side1 => exact ch HR1_2 HB); (case side2 => exact HC1_2.out); rintro e w24 ⟨rfl, hb⟩; refine ⟨_, rfl, ?_⟩; replace BK328 := bk BK328 hb; replace BK329 := bk BK329 hb; replace HB := bs HB hb; (try clear hb); (try clear hb2); (try clear hk); (try clear hi)))
      replace BK328 := Aside0.mk (blk_drew BK328.out)
      replace BK329 := Aside0.mk (blk_drew BK329.out)
      replace HB := Aside0.mk (below_drew1 HB.out)
      refine start_ (n := 6) (S := fun w' => w'.cell? ⟨gb328, 0, none⟩ = some (.int .i64 a0_0) ∧ w'.cell? ⟨gb328, 1, none⟩ = some (.int .i64 a0_1) ∧ w'.cell? ⟨gb329, 0, none⟩ = some (.int .i64 a1_0) ∧ w'.cell? ⟨gb329, 1, none⟩ = some (.string a1_1) ∧ w'.cell? ⟨gb329, 2, none⟩ = some (.slice A1_2 l1_2.length c1_2)) (ds := []) #[false, false, false, false, false, false] (by kernel_rfl) rfl rfl ⟨bc0 BK328.out, bc1 BK328.out, bc0 BK329.out, bc1 BK329.out, bc2 BK329.out⟩ (fun hHeld => ?_)
      generalize w24.drew = w25 at BK328 BK329 HB hHeld ⊢
      refine take_ (i := 0) (N := some 14) (v := ?_) (a' := ?_) #[true, false, false, false, false, false] rfl rfl (by kernel_rfl) (fun _ _ _ h => h) (Or.inl ⟨by rfl, ?_⟩) hHeld ?_ ?_
      rotate_left
      · rintro w' ⟨s0, s1, s2, s3, s4⟩
        go_simp
        with_reducible rfl
      rotate_left
      · simp only [Act.put, List.setIfInBounds_toArray, List.set_cons_zero, List.set_cons_succ, i64_w, i32_w]
        rfl
      refine take_ (i := 2) (N := some 16) (v := ?_) (a' := ?_) #[true, false, true, false, false, false] rfl rfl (by kernel_rfl) (fun _ _ _ h => h) (Or.inl ⟨by rfl, ?_⟩) hHeld ?_ ?_
      rotate_left
      · rintro w' ⟨s0, s1, s2, s3, s4⟩
        go_simp
        with_reducible rfl
      rotate_left
      · simp only [Act.put, List.setIfInBounds_toArray, List.set_cons_zero, List.set_cons_succ, i64_w, i32_w]
        rfl
      refine one_ (i := 1) (N := some 15) #[true, true, true, false, false, false] rfl rfl (by kernel_rfl) (by decide) (fun K hK => ?_)
      refine gA Tryd.func19 #[.agg #[.int .i64 a0_0, .int .i64 a0_1]] ?_
      with_reducible refine (laws_toConf.calls a0_0 a0_1 t331 t332 _ A10.out).mono ?_
      rintro e w26 ⟨rfl, hb⟩
      refine ⟨_, rfl, ?_⟩
      replace BK328 := bk BK328 hb
      replace BK329 := bk BK329 hb
      replace HB := bs HB hb
      (try clear hb)
      (try clear hb2)
      (try clear hk)
      (try clear hi)
      refine hK.out _ _ ⟨bc0 BK328.out, bc1 BK328.out, bc0 BK329.out, bc1 BK329.out, bc2 BK329.out⟩ (fun hHeld => ?_)
      clear hK K
      refine nA (some 15) ?_
      refine one_ (i := 3) (N := some 17) #[true, true, true, true, false, false] rfl rfl (by kernel_rfl) (by decide) (fun K hK => ?_)
      refine gA Tryd.func25 #[.agg #[.int .i64 a1_0, .string a1_1, .slice A1_2 l1_2.length c1_2]] ?_
      with_reducible refine (laws_toQc.calls k a1_0 a1_1 _ _ l1_2 t333 t334 t335 _ ?side1 ?side2 A11.out).mono ?_
      (case side1 => exact ch HR1_2 HB)
      (case side2 => exact HC1_2.out)
      rintro e w27 ⟨v336, rfl, ho0, hb⟩
      refine ⟨_, rfl, ?_⟩
      have HO337 := Aside0.mk (Kd.R_lower ho0 (below_size (bI HB.out)))
      replace BK328 := bk BK328 hb
      replace BK329 := bk BK329 hb
      replace HB := bs HB hb
      (try clear hb)
      (try clear hb2)
      (try clear hk)
      (try clear hi)
      (try clear ho0)
      obtain ⟨Ao28, co28, eo28⟩ := Kd.R_slice HO337.out
      (first | subst eo28 | (injection eo28 with f1_ f2_ f3_; have f4_ := f1_.symm; have f5_ := f3_.symm; clear f1_ f2_ f3_; subst f4_; subst f5_))
      refine hK.out _ _ ⟨bc0 BK328.out, bc1 BK328.out, bc0 BK329.out, bc1 BK329.out, bc2 BK329.out⟩ (fun hHeld => ?_)
      clear hK K
      refine nA (some 17) ?_
      refine one_ (i := 4) (N := some 18) #[true, true, true, true, true, false] rfl rfl (by kernel_rfl) (by decide) (fun K hK => ?_)
      refine gA Tryd.func24 #[.agg #[.int .i64 t331, .int .i64 t332], .agg #[.int .i64 t333, .string t334, .slice Ao28 t335.length co28]] ?_
      with_reducible refine (spec_QcOk.calls k t331 t332 t333 t334 _ _ t335 t338 _ ?side1 ?side2 A12.out).mono ?_
      (case side1 => repeat (first | exact (Kd.R_reads' HO337.out).2.2 | (with_reducible refine Kd.C_alloc ?_ _) | (with_reducible refine Kd.C_drewN ?_ _) | (with_reducible refine Kd.C_drew ?_)))
      (case side2 => exact (Kd.R_reads' HO337.out).2.1)
      rintro e w29 ⟨rfl, hb⟩
      refine ⟨_, rfl, ?_⟩
      replace HO337 := rb HO337 hb
      replace BK328 := bk BK328 hb
      replace BK329 := bk BK329 hb
      replace HB := bs HB hb
      (try clear hb)
      (try clear hb2)
      (try clear hk)
      (try clear hi)
      refine hK.out _ _ ⟨bc0 BK328.out, bc1 BK328.out, bc0 BK329.out, bc1 BK329.out, bc2 BK329.out⟩ (fun hHeld => ?_)
      clear hK K
      refine nA (some 18) ?_
      refine pure_ (i := 5) (N := some 6) (v := ?_) (a' := ?_) #[true, true, true, true, true, true] rfl rfl (by kernel_rfl) (fun _ _ _ h => h) (Or.inl ⟨by rfl, ?_⟩) ?_ ?_
      rotate_left
      · intro w'
        go_simp
        with_reducible rfl
      rotate_left
      · simp only [Act.put, List.setIfInBounds_toArray, List.set_cons_zero, List.set_cons_succ, i64_w, i32_w]
        rfl
      refine done_ (by kernel_rfl) ?_
      have hcz30_0 := bc0 BK329.out
      have hcz30_1 := bc1 BK329.out
      have hcz30_2 := bc2 BK329.out
      have hfz30_0 := blk_frozen BK329.out 0
      have hfz30_1 := blk_frozen BK329.out 1
      have hfz30_2 := blk_frozen BK329.out 2
      clear HO337
      try go_wp2_with (first | ((with_reducible refine gate_callee (f := 25) rfl ?_); refine gB (some 20) Tryd.func25 #[.agg #[.int .i64 a1_0, .string a1_1, .slice A1_2 l1_2.length c1_2]] ?_; (with_reducible refine (laws_toQc.calls k a1_0 a1_1 _ _ l1_2 t339 t340 t341 _ ?side1 ?side2 A13.out).mono ?_); (case side1 => exact ch HR1_2 HB); (case side2 => exact HC1_2.out); rintro e w31 ⟨v342, rfl, ho0, hb⟩; refine ⟨_, rfl, ?_⟩; have HO343 := Aside0.mk (Kd.R_lower ho0 (below_size (bI HB.out))); replace BK328 := bk BK328 hb; replace BK329 := bk BK329 hb; replace HB := bs HB hb; (try clear hb); (try clear ho0)) | ((with_reducible refine gd 7 ?_); refine bA 7 #[.int .i64 0, .string (⟨#[]⟩ : ByteArray), .slice none 0 0] 41 ?_; intro gb344 hg w32 hbox hb; replace HO343 := rb HO343 hb; have BK344 := Aside0.mk (hbox); have GW344 := bg hg HB; have GJ344 := gi GW344; have GE344 := GW344; replace HB := bs HB hb; have NB328_344 := b1 BK328 hg; have NI328_344 := ni NB328_344; have NB344_328 := b2 BK328 hg; have NI344_328 := ni NB344_328; replace BK328 := bk BK328 hb; have NB329_344 := b1 BK329 hg; have NI329_344 := ni NB329_344; have NB344_329 := b2 BK329 hg; have NI344_329 := ni NB344_329; replace BK329 := bk BK329 hb; clear hb hbox hg; have hnb33 := NB344_328.out; have hnc33 := NB328_344.out; have hnb34 := NB344_329.out; have hnc34 := NB329_344.out; obtain ⟨hcz35_0, hcz35_1, hcz35_2, hfz35_0, hfz35_1, hfz35_2⟩ := cs3 BK344; obtain ⟨Ao36, co36, eo36⟩ := Kd.R_slice HO343.out; subst eo36))
      have n0_ : Aside0 (Kd.R (Kd.int .i64) 3 (((w32.setCell ⟨gb344, 0, none⟩ (.int .i64 t339)).setCell ⟨gb344, 1, none⟩ (.string t340)).setCell ⟨gb344, 2, none⟩ (.slice Ao36 t341.length co36)) w.heap.size (fun _ => True) (.slice Ao36 t341.length co36) t341) := ⟨by (with_reducible repeat (first | apply Kd.R_alloc | apply Kd.R_drewN | apply Kd.R_drew)); exact Kd.R_mono (Kd.R_far (p := ⟨gb344, 2, none⟩) (Kd.R_far (p := ⟨gb344, 1, none⟩) (Kd.R_far (p := ⟨gb344, 0, none⟩) (Kd.R_types HO343.out BK344.out (by decide)) (fun _ hk => hk.2) (.int .i64 t339)) (fun _ hk => hk.2) (.string t340)) (fun _ hk => hk.2) (.slice Ao36 t341.length co36)) (fun _ hk => trivial)⟩
      have n1_ : Aside0 ((((w32.setCell ⟨gb344, 0, none⟩ (.int .i64 t339)).setCell ⟨gb344, 1, none⟩ (.string t340)).setCell ⟨gb344, 2, none⟩ (.slice Ao36 t341.length co36)).heap[gb328]? = some (.cells #[.int .i64 a0_0, .int .i64 a0_1] 26 (0, 0))) := ⟨gI BK328.out⟩
      have n2_ : Aside0 ((((w32.setCell ⟨gb344, 0, none⟩ (.int .i64 t339)).setCell ⟨gb344, 1, none⟩ (.string t340)).setCell ⟨gb344, 2, none⟩ (.slice Ao36 t341.length co36)).heap[gb329]? = some (.cells #[.int .i64 a1_0, .string a1_1, .slice A1_2 l1_2.length c1_2] 38 (0, 0))) := ⟨gI BK329.out⟩
      have n3_ : Aside0 ((((w32.setCell ⟨gb344, 0, none⟩ (.int .i64 t339)).setCell ⟨gb344, 1, none⟩ (.string t340)).setCell ⟨gb344, 2, none⟩ (.slice Ao36 t341.length co36)).heap[gb344]? = some (.cells #[.int .i64 t339, .string t340, .slice Ao36 t341.length co36] 41 (0, 0))) := ⟨pI BK344⟩
      have n4_ : Aside0 (Below w.heap.size w (((w32.setCell ⟨gb344, 0, none⟩ (.int .i64 t339)).setCell ⟨gb344, 1, none⟩ (.string t340)).setCell ⟨gb344, 2, none⟩ (.slice Ao36 t341.length co36))) := ⟨bI HB.out⟩
      (try clear HO343)
      (try clear BK328)
      (try clear BK329)
      (try clear BK344)
      (try clear HB)
      generalize (((w32.setCell ⟨gb344, 0, none⟩ (.int .i64 t339)).setCell ⟨gb344, 1, none⟩ (.string t340)).setCell ⟨gb344, 2, none⟩ (.slice Ao36 t341.length co36)) = w37 at n0_ n1_ n2_ n3_ n4_ ⊢
      have HO343 := n0_
      have BK328 := n1_
      have BK329 := n2_
      have BK344 := n3_
      have HB := n4_
      clear n0_ n1_ n2_ n3_ n4_
      replace HO343 := Aside0.mk (Kd.R_drew HO343.out)
      replace BK328 := Aside0.mk (blk_drew BK328.out)
      replace BK329 := Aside0.mk (blk_drew BK329.out)
      replace BK344 := Aside0.mk (blk_drew BK344.out)
      replace HB := Aside0.mk (below_drew1 HB.out)
      refine start_ (n := 5) (S := fun w' => w'.cell? ⟨gb328, 0, none⟩ = some (.int .i64 a0_0) ∧ w'.cell? ⟨gb328, 1, none⟩ = some (.int .i64 a0_1) ∧ w'.cell? ⟨gb344, 0, none⟩ = some (.int .i64 t339) ∧ w'.cell? ⟨gb344, 1, none⟩ = some (.string t340) ∧ w'.cell? ⟨gb344, 2, none⟩ = some (.slice Ao36 t341.length co36)) (ds := []) #[false, false, false, false, false] (by kernel_rfl) rfl rfl ⟨bc0 BK328.out, bc1 BK328.out, bc0 BK344.out, bc1 BK344.out, bc2 BK344.out⟩ (fun hHeld => ?_)
      generalize w37.drew = w38 at HO343 BK328 BK329 BK344 HB hHeld ⊢
      refine take_ (i := 0) (N := some 21) (v := ?_) (a' := ?_) #[true, false, false, false, false] rfl rfl (by kernel_rfl) (fun _ _ _ h => h) (Or.inl ⟨by rfl, ?_⟩) hHeld ?_ ?_
      rotate_left
      · rintro w' ⟨s0, s1, s2, s3, s4⟩
        go_simp
        with_reducible rfl
      rotate_left
      · simp only [Act.put, List.setIfInBounds_toArray, List.set_cons_zero, List.set_cons_succ, i64_w, i32_w]
        rfl
      refine take_ (i := 2) (N := some 23) (v := ?_) (a' := ?_) #[true, false, true, false, false] rfl rfl (by kernel_rfl) (fun _ _ _ h => h) (Or.inl ⟨by rfl, ?_⟩) hHeld ?_ ?_
      rotate_left
      · rintro w' ⟨s0, s1, s2, s3, s4⟩
        go_simp
        with_reducible rfl
      rotate_left
      · simp only [Act.put, List.setIfInBounds_toArray, List.set_cons_zero, List.set_cons_succ, i64_w, i32_w]
        rfl
      refine one_ (i := 1) (N := some 22) #[true, true, true, false, false] rfl rfl (by kernel_rfl) (by decide) (fun K hK => ?_)
      refine gA Tryd.func19 #[.agg #[.int .i64 a0_0, .int .i64 a0_1]] ?_
      with_reducible refine (laws_toConf.calls a0_0 a0_1 t345 t346 _ A14.out).mono ?_
      rintro e w39 ⟨rfl, hb⟩
      refine ⟨_, rfl, ?_⟩
      replace HO343 := rb HO343 hb
      replace BK328 := bk BK328 hb
      replace BK329 := bk BK329 hb
      replace BK344 := bk BK344 hb
      replace HB := bs HB hb
      (try clear hb)
      (try clear hb2)
      (try clear hk)
      (try clear hi)
      refine hK.out _ _ ⟨bc0 BK328.out, bc1 BK328.out, bc0 BK344.out, bc1 BK344.out, bc2 BK344.out⟩ (fun hHeld => ?_)
      clear hK K
      refine nA (some 22) ?_
      refine one_ (i := 3) (N := some 24) #[true, true, true, true, false] rfl rfl (by kernel_rfl) (by decide) (fun K hK => ?_)
      refine gA Tryd.func26 #[.agg #[.int .i64 t345, .int .i64 t346], .agg #[.int .i64 t339, .string t340, .slice Ao36 t341.length co36]] ?_
      with_reducible refine (impl_QcOk.calls k t345 t346 t339 t340 _ _ t341 t347 _ ?side1 ?side2 A15.out).mono ?_
      (case side1 => repeat (first | exact (Kd.R_reads' HO343.out).2.2 | (with_reducible refine Kd.C_alloc ?_ _) | (with_reducible refine Kd.C_drewN ?_ _) | (with_reducible refine Kd.C_drew ?_)))
      (case side2 => exact (Kd.R_reads' HO343.out).2.1)
      rintro e w40 ⟨rfl, hb⟩
      refine ⟨_, rfl, ?_⟩
      replace HO343 := rb HO343 hb
      replace BK328 := bk BK328 hb
      replace BK329 := bk BK329 hb
      replace BK344 := bk BK344 hb
      replace HB := bs HB hb
      (try clear hb)
      (try clear hb2)
      (try clear hk)
      (try clear hi)
      refine hK.out _ _ ⟨bc0 BK328.out, bc1 BK328.out, bc0 BK344.out, bc1 BK344.out, bc2 BK344.out⟩ (fun hHeld => ?_)
      clear hK K
      refine nA (some 24) ?_
      refine pure_ (i := 4) (N := some 8) (v := ?_) (a' := ?_) #[true, true, true, true, true] rfl rfl (by kernel_rfl) (fun _ _ _ h => h) (Or.inl ⟨by rfl, ?_⟩) ?_ ?_
      rotate_left
      · intro w'
        go_simp
        with_reducible rfl
      rotate_left
      · simp only [Act.put, List.setIfInBounds_toArray, List.set_cons_zero, List.set_cons_succ, i64_w, i32_w]
        rfl
      refine done_ (by kernel_rfl) ?_
      try go_wp2
      replace HO343 := Aside0.mk (Kd.R_drew HO343.out)
      replace BK328 := Aside0.mk (blk_drew BK328.out)
      replace BK329 := Aside0.mk (blk_drew BK329.out)
      replace BK344 := Aside0.mk (blk_drew BK344.out)
      replace HB := Aside0.mk (below_drew1 HB.out)
      refine start_ (n := 5) (S := fun w' => w'.cell? ⟨gb344, 0, none⟩ = some (.int .i64 t339) ∧ w'.cell? ⟨gb344, 1, none⟩ = some (.string t340) ∧ w'.cell? ⟨gb344, 2, none⟩ = some (.slice Ao36 t341.length co36) ∧ w'.cell? ⟨gb329, 0, none⟩ = some (.int .i64 a1_0) ∧ w'.cell? ⟨gb329, 1, none⟩ = some (.string a1_1) ∧ w'.cell? ⟨gb329, 2, none⟩ = some (.slice A1_2 l1_2.length c1_2)) (ds := []) #[false, false, false, false, false] (by kernel_rfl) rfl rfl ⟨bc0 BK344.out, bc1 BK344.out, bc2 BK344.out, bc0 BK329.out, bc1 BK329.out, bc2 BK329.out⟩ (fun hHeld => ?_)
      generalize w40.drew = w41 at HO343 BK328 BK329 BK344 HB hHeld ⊢
      refine take_ (i := 0) (N := some 28) (v := ?_) (a' := ?_) #[true, false, false, false, false] rfl rfl (by kernel_rfl) (fun _ _ _ h => h) (Or.inl ⟨by rfl, ?_⟩) hHeld ?_ ?_
      rotate_left
      · rintro w' ⟨s0, s1, s2, s3, s4, s5⟩
        go_simp
        with_reducible rfl
      rotate_left
      · simp only [Act.put, List.setIfInBounds_toArray, List.set_cons_zero, List.set_cons_succ, i64_w, i32_w]
        rfl
      refine take_ (i := 1) (N := some 29) (v := ?_) (a' := ?_) #[true, true, false, false, false] rfl rfl (by kernel_rfl) (fun _ _ _ h => h) (Or.inl ⟨by rfl, ?_⟩) hHeld ?_ ?_
      rotate_left
      · rintro w' ⟨s0, s1, s2, s3, s4, s5⟩
        go_simp
        with_reducible rfl
      rotate_left
      · simp only [Act.put, List.setIfInBounds_toArray, List.set_cons_zero, List.set_cons_succ, i64_w, i32_w]
        rfl
      refine one_ (i := 2) (N := some 30) #[true, true, true, false, false] rfl rfl (by kernel_rfl) (by decide) (fun K hK => ?_)
      refine gA Tryd.func25 #[.agg #[.int .i64 a1_0, .string a1_1, .slice A1_2 l1_2.length c1_2]] ?_
      with_reducible refine (laws_toQc.calls k a1_0 a1_1 _ _ l1_2 t348 t349 t350 _ ?side1 ?side2 A17.out).mono ?_
      (case side1 => exact ch HR1_2 HB)
      (case side2 => exact HC1_2.out)
      rintro e w42 ⟨v351, rfl, ho0, hb⟩
      refine ⟨_, rfl, ?_⟩
      have HO352 := Aside0.mk (Kd.R_lower (Kd.R_new' ho0 (Kd.R_lt (rI HO343.out))) (below_size (bI HB.out)))
      replace HO343 := Aside0.mk (Kd.R_elder' (rI HO343.out) (Kd.R_base ho0) hb)
      replace BK328 := bk BK328 hb
      replace BK329 := bk BK329 hb
      replace BK344 := bk BK344 hb
      replace HB := bs HB hb
      (try clear hb)
      (try clear hb2)
      (try clear hk)
      (try clear hi)
      (try clear ho0)
      obtain ⟨Ao43, co43, eo43⟩ := Kd.R_slice HO352.out
      (first | subst eo43 | (injection eo43 with f1_ f2_ f3_; have f4_ := f1_.symm; have f5_ := f3_.symm; clear f1_ f2_ f3_; subst f4_; subst f5_))
      refine hK.out _ _ ⟨bc0 BK344.out, bc1 BK344.out, bc2 BK344.out, bc0 BK329.out, bc1 BK329.out, bc2 BK329.out⟩ (fun hHeld => ?_)
      clear hK K
      refine nA (some 30) ?_
      refine one_ (i := 3) (N := some 31) #[true, true, true, true, false] rfl rfl (by kernel_rfl) (by decide) (fun K hK => ?_)
      refine gA Tryd.func27 #[.agg #[.int .i64 t339, .string t340, .slice Ao36 t341.length co36], .agg #[.int .i64 t348, .string t349, .slice Ao43 t350.length co43]] ?_
      with_reducible refine (laws_eqQc.calls k t339 t340 _ _ t341 t348 t349 _ _ t350 true _ ?side1 ?side2 ?side3 ?side4 A18.out).mono ?_
      (case side1 => repeat (first | exact (Kd.R_reads' HO343.out).2.2 | (with_reducible refine Kd.C_alloc ?_ _) | (with_reducible refine Kd.C_drewN ?_ _) | (with_reducible refine Kd.C_drew ?_)))
      (case side2 => exact (Kd.R_reads' HO343.out).2.1)
      (case side3 => repeat (first | exact (Kd.R_reads' HO352.out).2.2 | (with_reducible refine Kd.C_alloc ?_ _) | (with_reducible refine Kd.C_drewN ?_ _) | (with_reducible refine Kd.C_drew ?_)))
      (case side4 => exact (Kd.R_reads' HO352.out).2.1)
      rintro e w44 ⟨rfl, hb⟩
      refine ⟨_, rfl, ?_⟩
      replace HO343 := rb HO343 hb
      replace HO352 := rb HO352 hb
      replace BK328 := bk BK328 hb
      replace BK329 := bk BK329 hb
      replace BK344 := bk BK344 hb
      replace HB := bs HB hb
      (try clear hb)
      (try clear hb2)
      (try clear hk)
      (try clear hi)
      refine hK.out _ _ ⟨bc0 BK344.out, bc1 BK344.out, bc2 BK344.out, bc0 BK329.out, bc1 BK329.out, bc2 BK329.out⟩ (fun hHeld => ?_)
      clear hK K
      refine nA (some 31) ?_
      refine pure_ (i := 4) (N := some 32) (v := ?_) (a' := ?_) #[true, true, true, true, true] rfl rfl (by kernel_rfl) (fun _ _ _ h => h) (Or.inl ⟨by rfl, ?_⟩) ?_ ?_
      rotate_left
      · intro w'
        go_simp
        with_reducible rfl
      rotate_left
      · simp only [Act.put, List.setIfInBounds_toArray, List.set_cons_zero, List.set_cons_succ, i64_w, i32_w]
        rfl
      refine done_ (by kernel_rfl) ?_
      try go_wp2
      go_ret
      exact ⟨y0_4, bI HB.out⟩
    · replace c19 := Bool.eq_false_iff.mpr c19
      subst c19
      rw [if_neg (show ¬ (false = true) by decide)] at H
      exact absurd (hrt.out.symm.trans (Option.some.inj H).symm) (by decide)

end Go.Proofs.YtcmldmlmhpfjhaaDoor.PFnExactQcOk
