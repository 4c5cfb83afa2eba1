-- By a program of this session, out of the translation (the print of the kit, with turns of its own). Lean checks it.
import Derived.Test.YtcmldmlmhpfjhaaDoorPFnExactTableOkx0
namespace Go.Proofs.YtcmldmlmhpfjhaaDoor.PFnExactTableOk
open Go.RowKit Go.Proofs.YtcmldmlmhpfjhaaDoorW.PrintWords Go.Proofs.YtcmldmlmhpfjhaaDoorW.PrintLast Go.Proofs.YtcmldmlmhpfjhaaDoorW.PrintMore
attribute [local go_sem] max2_int min2_int max_two min_two max_three min_three max_four min_four   -- for this text's walks alone
set_option linter.unusedVariables false
set_option linter.unusedSimpArgs false

/-! ### laws_toConf: function 19 -/
def laws_toConf.f (a0_0 : Int) (a0_1 : Int) : Option (Int × Int) := some (a0_0, a0_1)
set_option maxHeartbeats 8000000 in
set_option maxRecDepth 100000 in
theorem laws_toConf.calls (a0_0 : Int) (a0_1 : Int) (r1 : Int) (r2 : Int) (w : World) (h : laws_toConf.f a0_0 a0_1 = some (r1, r2)) :
    Calls Tryd.prog 19 #[.agg #[.int .i64 a0_0, .int .i64 a0_1]] w fun e w' => e = .returned (.agg #[.int .i64 r1, .int .i64 r2]) ∧ Below w.heap.size w w' := by
  have hu26 := Tryd.underlying26
  have hu32 := Tryd.underlying32
  have HB := Aside0.mk (Below.refl w.heap.size w)
  have H : (some (a0_0, a0_1)) = some (r1, r2) := h
  clear h
  simp only [Option.some.injEq, Prod.mk.injEq] at H
  obtain ⟨rfl, rfl⟩ := H
  go_enter Tryd.func19, Tryd.ntmps19
  go_wp2_with (first | ((with_reducible refine gd 1 ?_); refine bA 1 #[.int .i64 a0_0, .int .i64 a0_1] 26 ?_; intro gb101 hg w2 hbox hb; have BK101 := Aside0.mk (hbox); have GW101 := bg hg HB; have GJ101 := gi GW101; have GE101 := GW101; replace HB := bs HB hb; clear hb hbox hg) | ((with_reducible refine gd 2 ?_); refine bA 2 #[.int .i64 0, .int .i64 0] 32 ?_; intro gb102 hg w3 hbox hb; have BK102 := Aside0.mk (hbox); have GW102 := bg hg HB; have GJ102 := gi GW102; have GE102 := GW102; replace HB := bs HB hb; have NB101_102 := b1 BK101 hg; have NI101_102 := ni NB101_102; have NB102_101 := b2 BK101 hg; have NI102_101 := ni NB102_101; replace BK101 := bk BK101 hb; clear hb hbox hg) | ((with_reducible refine gd 3 ?_); refine bA 3 #[.int .i64 0, .int .i64 0] 32 ?_; intro gb103 hg w4 hbox hb; have BK103 := Aside0.mk (hbox); have GW103 := bg hg HB; have GJ103 := gi GW103; have GE103 := GW103; replace HB := bs HB hb; have NB101_103 := b1 BK101 hg; have NI101_103 := ni NB101_103; have NB103_101 := b2 BK101 hg; have NI103_101 := ni NB103_101; replace BK101 := bk BK101 hb; have NB102_103 := b1 BK102 hg; have NI102_103 := ni NB102_103; have NB103_102 := b2 BK102 hg; have NI103_102 := ni NB103_102; replace BK102 := bk BK102 hb; clear hb hbox hg; have hnb5 := NB101_102.out; have hnc5 := NB102_101.out; have hnb6 := NB101_103.out; have hnc6 := NB103_101.out; obtain ⟨hcz7_0, hcz7_1, hfz7_0, hfz7_1⟩ := cs2 BK101; have hnb8 := NB103_102.out; have hnc8 := NB102_103.out; obtain ⟨hcz9_0, hcz9_1, hfz9_0, hfz9_1⟩ := cs2 BK103; obtain ⟨hcz10_0, hcz10_1, hfz10_0, hfz10_1⟩ := cs2 BK102))
  refine bodyPost_ret (results_cell_row rfl _ _ gb102 32 #[.int .i64 a0_0, .int .i64 a0_1] (0, 0) _ rfl (pI BK102) Tryd.underlying32 rfl (by kernel_rfl)) rfl ?_
  exact ⟨y0_4, bI HB.out⟩

/-! ### laws_szIntS: function 69 -/
def laws_szIntS.f (l0 : List Int) (a1 : Int) : Option (Int) := if (wrap64 (a1 - (l0.length : Int))) < 0 then (some (-1)) else (some (wrap64 (a1 - (l0.length : Int))))
set_option maxHeartbeats 8000000 in
set_option maxRecDepth 100000 in
theorem laws_szIntS.calls (A0 : Option Addr) (c0 : Nat) (l0 : List Int) (a1 : Int) (r : Int) (w : World) (hr0 : Kd.C (Kd.int .i64) w A0 l0.length l0) (hc0 : l0.length ≤ c0) (h : laws_szIntS.f l0 a1 = some r) :
    Calls Tryd.prog 69 #[.slice A0 l0.length c0, .int .i64 a1] w fun e w' => e = .returned (.int .i64 r) ∧ Drawn0 w w' := by
  have HR0 := Aside0.mk hr0
  have HC0 := Aside0.mk hc0
  clear hr0 hc0
  have H : (if (wrap64 (a1 - (l0.length : Int))) < 0 then (some (-1)) else (some (wrap64 (a1 - (l0.length : Int))))) = some r := h
  clear h
  by_cases c3 : (wrap64 (a1 - (l0.length : Int))) < 0
  · rw [if_pos c3] at H
    have c3b0 : decide ((wrap64 (a1 - (l0.length : Int))) < 0) = true := decide_eq_true c3
    clear c3
    obtain rfl := Option.some.inj H
    go_enter Tryd.func69, Tryd.ntmps69
    go_wp2
    go_ret
    exact ⟨y0_8, y0_5⟩
  · rw [if_neg c3] at H
    have c3b0 : decide ((wrap64 (a1 - (l0.length : Int))) < 0) = false := decide_eq_false c3
    clear c3
    obtain rfl := Option.some.inj H
    go_enter Tryd.func69, Tryd.ntmps69
    go_wp2
    go_ret
    exact ⟨y0_8, y0_5⟩

/-! ### laws_szPart: function 17 -/
def laws_szPart.f (a0_0 : Int) (a0_1 : ByteArray) (l0_2 : List Int) (a1 : Int) : Option (Int) := if (wrap64 (a1 - (a0_1.size : Int))) < 0 then (some (-1)) else ((laws_szIntS.f l0_2 (wrap64 (a1 - (a0_1.size : Int)))).bind fun t105 => (if t105 < 0 then (some (-1)) else (some t105)))
set_option maxHeartbeats 8000000 in
set_option maxRecDepth 100000 in
theorem laws_szPart.calls (a0_0 : Int) (a0_1 : ByteArray) (A0_2 : Option Addr) (c0_2 : Nat) (l0_2 : List Int) (a1 : Int) (r : Int) (w : World) (hr0_2 : Kd.C (Kd.int .i64) w A0_2 l0_2.length l0_2) (hc0_2 : l0_2.length ≤ c0_2) (h : laws_szPart.f a0_0 a0_1 l0_2 a1 = some r) :
    Calls Tryd.prog 17 #[.agg #[.int .i64 a0_0, .string a0_1, .slice A0_2 l0_2.length c0_2], .int .i64 a1] w fun e w' => e = .returned (.int .i64 r) ∧ Below w.heap.size w w' := by
  have hu29 := Tryd.underlying29
  have HR0_2 := Aside0.mk hr0_2
  have HC0_2 := Aside0.mk hc0_2
  clear hr0_2 hc0_2
  have HB := Aside0.mk (Below.refl w.heap.size w)
  have H : (if (wrap64 (a1 - (a0_1.size : Int))) < 0 then (some (-1)) else ((laws_szIntS.f l0_2 (wrap64 (a1 - (a0_1.size : Int)))).bind fun t105 => (if t105 < 0 then (some (-1)) else (some t105)))) = some r := h
  clear h
  by_cases c3 : (wrap64 (a1 - (a0_1.size : Int))) < 0
  · rw [if_pos c3] at H
    have c3b0 : decide ((wrap64 (a1 - (a0_1.size : Int))) < 0) = true := decide_eq_true c3
    clear c3
    obtain rfl := Option.some.inj H
    go_enter Tryd.func17, Tryd.ntmps17
    go_wp2_with (first | ((with_reducible refine gd 2 ?_); refine bA 2 #[.int .i64 a0_0, .string a0_1, .slice A0_2 l0_2.length c0_2] 29 ?_; intro gb104 hg w4 hbox hb; have BK104 := Aside0.mk (hbox); have GW104 := bg hg HB; have GJ104 := gi GW104; have GE104 := GW104; replace HB := bs HB hb; clear hb hbox hg; obtain ⟨hcz5_0, hcz5_1, hcz5_2, hfz5_0, hfz5_1, hfz5_2⟩ := cs3 BK104))
    go_ret
    exact ⟨y0_4, bI HB.out⟩
  · rw [if_neg c3] at H
    have c3b0 : decide ((wrap64 (a1 - (a0_1.size : Int))) < 0) = false := decide_eq_false c3
    clear c3
    obtain ⟨t105, A60, H⟩ := Option.bind_eq_some_iff.mp H
    try dsimp only at H
    have A6 := Aside0.mk A60
    clear A60
    by_cases c7 : t105 < 0
    · rw [if_pos c7] at H
      have c7b0 : decide (t105 < 0) = true := decide_eq_true c7
      clear c7
      obtain rfl := Option.some.inj H
      go_enter Tryd.func17, Tryd.ntmps17
      go_wp2_with (first | ((with_reducible refine gd 2 ?_); refine bA 2 #[.int .i64 a0_0, .string a0_1, .slice A0_2 l0_2.length c0_2] 29 ?_; intro gb104 hg w8 hbox hb; have BK104 := Aside0.mk (hbox); have GW104 := bg hg HB; have GJ104 := gi GW104; have GE104 := GW104; replace HB := bs HB hb; clear hb hbox hg; obtain ⟨hcz9_0, hcz9_1, hcz9_2, hfz9_0, hfz9_1, hfz9_2⟩ := cs3 BK104) | ((with_reducible refine gate_callee (f := 69) rfl ?_); refine gB (some 15) Tryd.func69 #[.slice A0_2 l0_2.length c0_2, .int .i64 (wrap64 (a1 - (a0_1.size : Int)))] ?_; (with_reducible refine (laws_szIntS.calls _ _ l0_2 (wrap64 (a1 - (a0_1.size : Int))) t105 _ ?side1 ?side2 A6.out).mono ?_); (case side1 => exact ch HR0_2 HB); (case side2 => exact HC0_2.out); rintro e w' ⟨rfl, ⟨nd, rfl⟩⟩; refine ⟨_, rfl, ?_⟩))
      go_ret
      exact ⟨y0_4, bI HB.out⟩
    · rw [if_neg c7] at H
      have c7b0 : decide (t105 < 0) = false := decide_eq_false c7
      clear c7
      obtain rfl := Option.some.inj H
      go_enter Tryd.func17, Tryd.ntmps17
      go_wp2_with (first | ((with_reducible refine gd 2 ?_); refine bA 2 #[.int .i64 a0_0, .string a0_1, .slice A0_2 l0_2.length c0_2] 29 ?_; intro gb104 hg w10 hbox hb; have BK104 := Aside0.mk (hbox); have GW104 := bg hg HB; have GJ104 := gi GW104; have GE104 := GW104; replace HB := bs HB hb; clear hb hbox hg; obtain ⟨hcz11_0, hcz11_1, hcz11_2, hfz11_0, hfz11_1, hfz11_2⟩ := cs3 BK104) | ((with_reducible refine gate_callee (f := 69) rfl ?_); refine gB (some 15) Tryd.func69 #[.slice A0_2 l0_2.length c0_2, .int .i64 (wrap64 (a1 - (a0_1.size : Int)))] ?_; (with_reducible refine (laws_szIntS.calls _ _ l0_2 (wrap64 (a1 - (a0_1.size : Int))) t105 _ ?side1 ?side2 A6.out).mono ?_); (case side1 => exact ch HR0_2 HB); (case side2 => exact HC0_2.out); rintro e w' ⟨rfl, ⟨nd, rfl⟩⟩; refine ⟨_, rfl, ?_⟩))
      go_ret
      exact ⟨y0_4, bI HB.out⟩

/-! ### laws_szPartS: function 28 -/
def laws_szPartS.l0 : Nat → List (S29) → Int → Int → Option (Int)
  | 0, _, _, _ => none
  | k + 1, x0, x1, x5 => if x5 < (x0.length : Int) then (if 0 ≤ x5 then ((laws_szPart.f ((rd_T29 x0 x5).f0) ((rd_T29 x0 x5).f1) ((rd_T29 x0 x5).f2) x1).bind fun t107 => (if t107 < 0 then (some (-1)) else (laws_szPartS.l0 k x0 t107 (wrap64 (x5 + 1))))) else (none)) else (some x1)
def laws_szPartS.f (k : Nat) (l0 : List (S29)) (a1 : Int) : Option (Int) := if (wrap64 (a1 - (l0.length : Int))) < 0 then (some (-1)) else (laws_szPartS.l0 k l0 (wrap64 (a1 - (l0.length : Int))) 0)
theorem laws_szPartS.mono_l : ∀ k, (∀ y0 y1 y2, LeO (laws_szPartS.l0 k y0 y1 y2) (laws_szPartS.l0 (k + 1) y0 y1 y2))
  | 0 => fun _ _ _ r h => by simp [laws_szPartS.l0] at h
  | k + 1 => by
    have ih0 := laws_szPartS.mono_l k
    · intro y0 y1 y2
      unfold laws_szPartS.l0
      repeat' first
      | (with_reducible exact ih0 _ _ _)
      | (with_reducible exact LeO.refl _)
      | (with_reducible exact LeO.none _)
      | (with_reducible refine LeO.ite ?_ ?_)
      | (with_reducible refine LeO.bind ?_ (fun _ => ?_))
      | exact ih0 _ _ _
      | exact LeO.none _
      | refine LeO.ite ?_ ?_
      | refine LeO.bind ?_ (fun _ => ?_)
theorem laws_szPartS.mono : ∀ a0 a1 k, LeO (laws_szPartS.f k a0 a1) (laws_szPartS.f (k + 1) a0 a1) := by
  intro a0 a1 k
  have ih0 := laws_szPartS.mono_l k
  unfold laws_szPartS.f
  repeat' first
      | (with_reducible exact ih0 _ _ _)
      | (with_reducible exact LeO.refl _)
      | (with_reducible exact LeO.none _)
      | (with_reducible refine LeO.ite ?_ ?_)
      | (with_reducible refine LeO.bind ?_ (fun _ => ?_))
      | exact ih0 _ _ _
      | exact LeO.none _
      | refine LeO.ite ?_ ?_
      | refine LeO.bind ?_ (fun _ => ?_)
set_option maxHeartbeats 8000000 in
set_option maxRecDepth 100000 in
theorem laws_szPartS.calls (k : Nat) (A0 : Option Addr) (c0 : Nat) (l0 : List (S29)) (a1 : Int) (r : Int) (w : World) (hr0 : Kd.C k29 w A0 l0.length l0) (hc0 : l0.length ≤ c0) (h : laws_szPartS.f k l0 a1 = some r) :
    Calls Tryd.prog 28 #[.slice A0 l0.length c0, .int .i64 a1] w fun e w' => e = .returned (.int .i64 r) ∧ Below w.heap.size w w' := by
  have hu29 := Tryd.underlying29
  have HR0 := Aside0.mk hr0
  have HC0 := Aside0.mk hc0
  clear hr0 hc0
  have HB := Aside0.mk (Below.refl w.heap.size w)
  have H : (if (wrap64 (a1 - (l0.length : Int))) < 0 then (some (-1)) else (laws_szPartS.l0 k l0 (wrap64 (a1 - (l0.length : Int))) 0)) = some r := h
  clear h
  by_cases c3 : (wrap64 (a1 - (l0.length : Int))) < 0
  · rw [if_pos c3] at H
    have c3b0 : decide ((wrap64 (a1 - (l0.length : Int))) < 0) = true := decide_eq_true c3
    clear c3
    obtain rfl := Option.some.inj H
    go_enter Tryd.func28, Tryd.ntmps28
    go_wp2
    go_ret
    exact ⟨y0_4, bI HB.out⟩
  · rw [if_neg c3] at H
    have c3b0 : decide ((wrap64 (a1 - (l0.length : Int))) < 0) = false := decide_eq_false c3
    clear c3
    have H' := Aside0.mk H
    clear H
    go_enter Tryd.func28, Tryd.ntmps28
    go_wp2
    go_loopg [1, 5] k (fun kq v1 v5 w' => ∃ (x1_1 : Int) (x5_1 : Int), v1 = .int .i64 x1_1 ∧ v5 = .int .i64 x5_1 ∧ Aside0 (laws_szPartS.l0 kq l0 x1_1 x5_1 = some r) ∧ Aside0 (kq ≤ k) ∧ Aside0 (Below w.heap.size w w'))
    case atStart => exact ⟨(wrap64 (a1 - (l0.length : Int))), (0), y0_8, y0_8, H', ⟨Nat.le_refl _⟩, ⟨bI HB.out⟩⟩
    case round =>
      clear H'
      try clear c2
      try clear p2
      try clear c3
      try clear c3b0
      obtain ⟨x1_1, x5_1, rfl, rfl, HA, HK1, HB⟩ := hrel
      cases gk with
      | zero => exact absurd HA.out (by simp [laws_szPartS.l0])
      | succ k1 =>
        have H := HA.out
        clear HA
        simp only [laws_szPartS.l0] at H
        by_cases c4 : x5_1 < (l0.length : Int)
        · rw [if_pos c4] at H
          have c4b0 : decide (x5_1 < (l0.length : Int)) = true := decide_eq_true c4
          clear c4
          by_cases c5 : 0 ≤ x5_1
          rotate_left
          · rw [if_neg c5] at H
            exact absurd H (by simp)
          rw [if_pos c5] at H
          have c5b0 : decide (0 ≤ x5_1) = true := decide_eq_true c5
          clear c5
          obtain ⟨t107, A60, H⟩ := Option.bind_eq_some_iff.mp H
          try dsimp only at H
          have A6 := Aside0.mk A60
          clear A60
          by_cases c7 : t107 < 0
          · rw [if_pos c7] at H
            have c7b0 : decide (t107 < 0) = true := decide_eq_true c7
            clear c7
            obtain rfl := Option.some.inj H
            have p106 : 0 ≤ (x5_1 : Int) := of_decide_eq_true y0_7
            have q106 : x5_1 < (l0.length : Int) := of_decide_eq_true y0_7
            obtain ⟨ad106, A106_2, c106_2, e106, hx106_0, hx106_1, hx106_2, hl106_2, hi106_2⟩ := at_T29 HR0.out x5_1 p106 q106
            cases e106
            replace hx106_0 := bx HB hx106_0
            replace hx106_1 := bx HB hx106_1
            replace hx106_2 := bx HB hx106_2
            have HR106_2 := Aside0.mk hi106_2
            have HC106_2 := Aside0.mk hl106_2
            clear hi106_2 hl106_2
            replace p106 := eq_true p106
            replace q106 := eq_true q106
            go_wp2_with (first | ((with_reducible refine gate_callee (f := 17) rfl ?_); refine gB (some 23) Tryd.func17 #[.agg #[.int .i64 ((rd_T29 l0 x5_1).f0), .string ((rd_T29 l0 x5_1).f1), .slice A106_2 ((rd_T29 l0 x5_1).f2).length c106_2], .int .i64 x1_1] ?_; (with_reducible refine (laws_szPart.calls ((rd_T29 l0 x5_1).f0) ((rd_T29 l0 x5_1).f1) _ _ ((rd_T29 l0 x5_1).f2) x1_1 t107 _ ?side1 ?side2 A6.out).mono ?_); (case side1 => exact ch HR106_2 HB); (case side2 => exact HC106_2.out); rintro e w8 ⟨rfl, hb⟩; refine ⟨_, rfl, ?_⟩; replace HB := bs HB hb; (try clear hb); (try clear hb2); (try clear hk); (try clear hi)))
            go_ret
            exact ⟨y0_4, bI HB.out⟩
          · rw [if_neg c7] at H
            have c7b0 : decide (t107 < 0) = false := decide_eq_false c7
            clear c7
            have H' := Aside0.mk H
            clear H
            have p106 : 0 ≤ (x5_1 : Int) := of_decide_eq_true y0_7
            have q106 : x5_1 < (l0.length : Int) := of_decide_eq_true y0_7
            obtain ⟨ad106, A106_2, c106_2, e106, hx106_0, hx106_1, hx106_2, hl106_2, hi106_2⟩ := at_T29 HR0.out x5_1 p106 q106
            cases e106
            replace hx106_0 := bx HB hx106_0
            replace hx106_1 := bx HB hx106_1
            replace hx106_2 := bx HB hx106_2
            have HR106_2 := Aside0.mk hi106_2
            have HC106_2 := Aside0.mk hl106_2
            clear hi106_2 hl106_2
            replace p106 := eq_true p106
            replace q106 := eq_true q106
            go_wp2_with (first | ((with_reducible refine gate_callee (f := 17) rfl ?_); refine gB (some 23) Tryd.func17 #[.agg #[.int .i64 ((rd_T29 l0 x5_1).f0), .string ((rd_T29 l0 x5_1).f1), .slice A106_2 ((rd_T29 l0 x5_1).f2).length c106_2], .int .i64 x1_1] ?_; (with_reducible refine (laws_szPart.calls ((rd_T29 l0 x5_1).f0) ((rd_T29 l0 x5_1).f1) _ _ ((rd_T29 l0 x5_1).f2) x1_1 t107 _ ?side1 ?side2 A6.out).mono ?_); (case side1 => exact ch HR106_2 HB); (case side2 => exact HC106_2.out); rintro e w9 ⟨rfl, hb⟩; refine ⟨_, rfl, ?_⟩; replace HB := bs HB hb; (try clear hb); (try clear hb2); (try clear hk); (try clear hi)))
            go_roundg k1
            case measure => have := HK1.out; omega
            case rel => exact ⟨(t107), (wrap64 (x5_1 + 1)), y0_8, y0_8, H', ⟨y0_12⟩, ⟨bI HB.out⟩⟩
        · rw [if_neg c4] at H
          have c4b0 : decide (x5_1 < (l0.length : Int)) = false := decide_eq_false c4
          clear c4
          obtain rfl := Option.some.inj H
          go_wp2
          go_ret
          exact ⟨y0_4, bI HB.out⟩

/-! ### spec_l1In: function 71 -/
def spec_l1In.f (a0 : Int) (a1 : Int) (a2 : Int) : Option (Bool) := if a0 ≥ a1 then (some (decide (a0 ≤ a2))) else (some false)
set_option maxHeartbeats 8000000 in
set_option maxRecDepth 100000 in
theorem spec_l1In.calls (a0 : Int) (a1 : Int) (a2 : Int) (r : Bool) (w : World) (h : spec_l1In.f a0 a1 a2 = some r) :
    Calls Tryd.prog 71 #[.int .i64 a0, .int .i64 a1, .int .i64 a2] w fun e w' => e = .returned (.bool r) ∧ Drawn0 w w' := by
  have H : (if a0 ≥ a1 then (some (decide (a0 ≤ a2))) else (some false)) = some r := h
  clear h
  by_cases c4 : a0 ≥ a1
  · rw [if_pos c4] at H
    have c4b0 : decide (a1 ≤ a0) = true := decide_eq_true c4
    clear c4
    obtain rfl := Option.some.inj H
    go_enter Tryd.func71, Tryd.ntmps71
    go_wp2
    go_ret
    exact ⟨y0_8, y0_5⟩
  · rw [if_neg c4] at H
    have c4b0 : decide (a1 ≤ a0) = false := decide_eq_false c4
    clear c4
    obtain rfl := Option.some.inj H
    go_enter Tryd.func71, Tryd.ntmps71
    go_wp2
    go_ret
    exact ⟨y0_8, y0_5⟩

/-! ### spec_ConfOk: function 70 -/
def spec_ConfOk.f (a0_0 : Int) (a0_1 : Int) : Option (Bool) := (spec_l1In.f a0_0 4 7).bind fun t109 => (if t109 = true then ((spec_l1In.f a0_1 1 6).bind fun t110 => (some t110)) else (some false))
set_option maxHeartbeats 8000000 in
set_option maxRecDepth 100000 in
theorem spec_ConfOk.calls (a0_0 : Int) (a0_1 : Int) (r : Bool) (w : World) (h : spec_ConfOk.f a0_0 a0_1 = some r) :
    Calls Tryd.prog 70 #[.agg #[.int .i64 a0_0, .int .i64 a0_1]] w fun e w' => e = .returned (.bool r) ∧ Below w.heap.size w w' := by
  have hu32 := Tryd.underlying32
  have HB := Aside0.mk (Below.refl w.heap.size w)
  have H : ((spec_l1In.f a0_0 4 7).bind fun t109 => (if t109 = true then ((spec_l1In.f a0_1 1 6).bind fun t110 => (some t110)) else (some false))) = some r := h
  clear h
  obtain ⟨t109, A20, H⟩ := Option.bind_eq_some_iff.mp H
  try dsimp only at H
  have A2 := Aside0.mk A20
  clear A20
  by_cases c3 : t109 = true
  · subst c3
    rw [if_pos rfl] at H
    obtain ⟨t110, A40, H⟩ := Option.bind_eq_some_iff.mp H
    try dsimp only at H
    have A4 := Aside0.mk A40
    clear A40
    obtain rfl := Option.some.inj H
    go_enter Tryd.func70, Tryd.ntmps70
    go_wp2_with (first | ((with_reducible refine gd 1 ?_); refine bA 1 #[.int .i64 a0_0, .int .i64 a0_1] 32 ?_; intro gb108 hg w5 hbox hb; have BK108 := Aside0.mk (hbox); have GW108 := bg hg HB; have GJ108 := gi GW108; have GE108 := GW108; replace HB := bs HB hb; clear hb hbox hg; obtain ⟨hcz6_0, hcz6_1, hfz6_0, hfz6_1⟩ := cs2 BK108) | ((with_reducible refine gate_callee (f := 71) rfl ?_); refine gB (some 5) Tryd.func71 #[.int .i64 a0_0, .int .i64 4, .int .i64 7] ?_; (with_reducible refine (spec_l1In.calls a0_0 4 7 true _ A2.out).mono ?_); rintro e w' ⟨rfl, ⟨nd, rfl⟩⟩; refine ⟨_, rfl, ?_⟩) | (go_at_call 71; (with_reducible refine (spec_l1In.calls a0_1 1 6 t110 _ A4.out).mono ?_); rintro e w' ⟨rfl, ⟨nd, rfl⟩⟩))
    go_ret
    exact ⟨y0_4, bI HB.out⟩
  · replace c3 := Bool.eq_false_iff.mpr c3
    subst c3
    rw [if_neg (show ¬ (false = true) by decide)] at H
    obtain rfl := Option.some.inj H
    go_enter Tryd.func70, Tryd.ntmps70
    go_wp2_with (first | ((with_reducible refine gd 1 ?_); refine bA 1 #[.int .i64 a0_0, .int .i64 a0_1] 32 ?_; intro gb108 hg w7 hbox hb; have BK108 := Aside0.mk (hbox); have GW108 := bg hg HB; have GJ108 := gi GW108; have GE108 := GW108; replace HB := bs HB hb; clear hb hbox hg; obtain ⟨hcz8_0, hcz8_1, hfz8_0, hfz8_1⟩ := cs2 BK108) | ((with_reducible refine gate_callee (f := 71) rfl ?_); refine gB (some 5) Tryd.func71 #[.int .i64 a0_0, .int .i64 4, .int .i64 7] ?_; (with_reducible refine (spec_l1In.calls a0_0 4 7 false _ A2.out).mono ?_); rintro e w' ⟨rfl, ⟨nd, rfl⟩⟩; refine ⟨_, rfl, ?_⟩))
    go_ret
    exact ⟨y0_4, bI HB.out⟩

/-! ### spec_SetOk: function 72 -/
def spec_SetOk.l0 : Nat → Int → List Int → Int → Option (Bool)
  | 0, _, _, _ => none
  | k + 1, x0, x1, x5 => if x5 < (x1.length : Int) then (if 0 ≤ x5 then (if (rd x1 x5) < 0 then (some false) else (if (rd x1 x5) ≥ x0 then (some false) else (if x5 > 0 then (if 0 ≤ (wrap64 (x5 - 1)) then (if (wrap64 (x5 - 1)) < (x1.length : Int) then (if (rd x1 (wrap64 (x5 - 1))) ≥ (rd x1 x5) then (some false) else (spec_SetOk.l0 k x0 x1 (wrap64 (x5 + 1)))) else (none)) else (none)) else (spec_SetOk.l0 k x0 x1 (wrap64 (x5 + 1)))))) else (none)) else (some true)
def spec_SetOk.f (k : Nat) (a0 : Int) (l1 : List Int) : Option (Bool) := spec_SetOk.l0 k a0 l1 0
theorem spec_SetOk.mono_l : ∀ k, (∀ y0 y1 y2, LeO (spec_SetOk.l0 k y0 y1 y2) (spec_SetOk.l0 (k + 1) y0 y1 y2))
  | 0 => fun _ _ _ r h => by simp [spec_SetOk.l0] at h
  | k + 1 => by
    have ih0 := spec_SetOk.mono_l k
    · intro y0 y1 y2
      unfold spec_SetOk.l0
      repeat' first
      | (with_reducible exact ih0 _ _ _)
      | (with_reducible exact LeO.refl _)
      | (with_reducible exact LeO.none _)
      | (with_reducible refine LeO.ite ?_ ?_)
      | (with_reducible refine LeO.bind ?_ (fun _ => ?_))
      | exact ih0 _ _ _
      | exact LeO.none _
      | refine LeO.ite ?_ ?_
      | refine LeO.bind ?_ (fun _ => ?_)
theorem spec_SetOk.mono : ∀ a0 a1 k, LeO (spec_SetOk.f k a0 a1) (spec_SetOk.f (k + 1) a0 a1) := by
  intro a0 a1 k
  have ih0 := spec_SetOk.mono_l k
  unfold spec_SetOk.f
  repeat' first
      | (with_reducible exact ih0 _ _ _)
      | (with_reducible exact LeO.refl _)
      | (with_reducible exact LeO.none _)
      | (with_reducible refine LeO.ite ?_ ?_)
      | (with_reducible refine LeO.bind ?_ (fun _ => ?_))
      | exact ih0 _ _ _
      | exact LeO.none _
      | refine LeO.ite ?_ ?_
      | refine LeO.bind ?_ (fun _ => ?_)
set_option maxHeartbeats 8000000 in
set_option maxRecDepth 100000 in
theorem spec_SetOk.calls (k : Nat) (a0 : Int) (A1 : Option Addr) (c1 : Nat) (l1 : List Int) (r : Bool) (w : World) (hr1 : Kd.C (Kd.int .i64) w A1 l1.length l1) (hc1 : l1.length ≤ c1) (h : spec_SetOk.f k a0 l1 = some r) :
    Calls Tryd.prog 72 #[.int .i64 a0, .slice A1 l1.length c1] w fun e w' => e = .returned (.bool r) ∧ Drawn0 w w' := by
  have HR1 := Aside0.mk hr1
  have HC1 := Aside0.mk hc1
  clear hr1 hc1
  have H : (spec_SetOk.l0 k a0 l1 0) = some r := h
  clear h
  have H' := Aside0.mk H
  clear H
  go_enter Tryd.func72, Tryd.ntmps72
  go_wp2
  repeat (go_quiet (fail); try go_wp2)
  go_loopg [5] k (fun kq v5 w' => ∃ (x5_1 : Int), v5 = .int .i64 x5_1 ∧ Aside0 (spec_SetOk.l0 kq a0 l1 x5_1 = some r) ∧ Aside0 (kq ≤ k) ∧ Drawn0 w w')
  case atStart => exact ⟨(0), y0_8, H', ⟨Nat.le_refl _⟩, y0_5⟩
  case round =>
    clear H'
    try clear c1
    try clear p2
    obtain ⟨x5_1, rfl, HA, HK1, ⟨m1, rfl⟩⟩ := hrel
    cases gk with
    | zero => exact absurd HA.out (by simp [spec_SetOk.l0])
    | succ k1 =>
      have H := HA.out
      clear HA
      simp only [spec_SetOk.l0] at H
      by_cases c3 : x5_1 < (l1.length : Int)
      · rw [if_pos c3] at H
        have c3b0 : decide (x5_1 < (l1.length : Int)) = true := decide_eq_true c3
        clear c3
        by_cases c4 : 0 ≤ x5_1
        rotate_left
        · rw [if_neg c4] at H
          exact absurd H (by simp)
        rw [if_pos c4] at H
        have c4b0 : decide (0 ≤ x5_1) = true := decide_eq_true c4
        clear c4
        by_cases c5 : (rd l1 x5_1) < 0
        · rw [if_pos c5] at H
          have c5b0 : decide ((rd l1 x5_1) < 0) = true := decide_eq_true c5
          clear c5
          obtain rfl := Option.some.inj H
          have p111 : 0 ≤ (x5_1 : Int) := of_decide_eq_true y0_7
          have q111 : x5_1 < (l1.length : Int) := of_decide_eq_true y0_7
          obtain ⟨ad111, e111, hx111_0⟩ := Kd.at_int HR1.out x5_1 p111 q111
          cases e111
          replace p111 := eq_true p111
          replace q111 := eq_true q111
          go_wp2
          repeat (go_quiet (fail); try go_wp2)
          go_ret
          exact ⟨y0_8, y0_5⟩
        · rw [if_neg c5] at H
          have c5b0 : decide ((rd l1 x5_1) < 0) = false := decide_eq_false c5
          clear c5
          by_cases c6 : (rd l1 x5_1) ≥ a0
          · rw [if_pos c6] at H
            have c6b0 : decide (a0 ≤ (rd l1 x5_1)) = true := decide_eq_true c6
            clear c6
            obtain rfl := Option.some.inj H
            have p111 : 0 ≤ (x5_1 : Int) := of_decide_eq_true y0_7
            have q111 : x5_1 < (l1.length : Int) := of_decide_eq_true y0_7
            obtain ⟨ad111, e111, hx111_0⟩ := Kd.at_int HR1.out x5_1 p111 q111
            cases e111
            replace p111 := eq_true p111
            replace q111 := eq_true q111
            have p112 : 0 ≤ (x5_1 : Int) := of_decide_eq_true y0_7
            have q112 : x5_1 < (l1.length : Int) := of_decide_eq_true y0_7
            obtain ⟨ad112, e112, hx112_0⟩ := Kd.at_int HR1.out x5_1 p112 q112
            obtain rfl : ad111 = ad112 := (by injection e112)
            replace p112 := eq_true p112
            replace q112 := eq_true q112
            go_wp2
            repeat (go_quiet (fail); try go_wp2)
            go_ret
            exact ⟨y0_8, y0_5⟩
          · rw [if_neg c6] at H
            have c6b0 : decide (a0 ≤ (rd l1 x5_1)) = false := decide_eq_false c6
            clear c6
            by_cases c7 : x5_1 > 0
            · rw [if_pos c7] at H
              have c7b0 : decide (0 < x5_1) = true := decide_eq_true c7
              clear c7
              obtain ⟨ji8, hji8⟩ : ∃ j_ : Int, (wrap64 (x5_1 - 1)) = j_ := ⟨_, rfl⟩
              replace H : (if 0 ≤ (ji8) then (if (ji8) < (l1.length : Int) then (if (rd l1 (ji8)) ≥ (rd l1 x5_1) then (some false) else (spec_SetOk.l0 k1 a0 l1 (wrap64 (x5_1 + 1)))) else (none)) else (none)) = some r := by first | (rw [hji8] at H; exact H) | (simp only [hji8] at H ⊢; exact H)
              have hji8w : (IntKind.i64.wrap (x5_1 - 1)) = ji8 := (i64_w _).trans hji8
              by_cases c9 : 0 ≤ (ji8)
              rotate_left
              · rw [if_neg c9] at H
                exact absurd H (by simp)
              rw [if_pos c9] at H
              have c9b0 : decide (0 ≤ (ji8)) = true := decide_eq_true c9
              clear c9
              by_cases c10 : (ji8) < (l1.length : Int)
              rotate_left
              · rw [if_neg c10] at H
                exact absurd H (by simp)
              rw [if_pos c10] at H
              have c10b0 : decide ((ji8) < (l1.length : Int)) = true := decide_eq_true c10
              clear c10
              by_cases c11 : (rd l1 (ji8)) ≥ (rd l1 x5_1)
              · rw [if_pos c11] at H
                have c11b0 : decide ((rd l1 x5_1) ≤ (rd l1 (ji8))) = true := decide_eq_true c11
                clear c11
                obtain rfl := Option.some.inj H
                have p111 : 0 ≤ (x5_1 : Int) := of_decide_eq_true y0_7
                have q111 : x5_1 < (l1.length : Int) := of_decide_eq_true y0_7
                obtain ⟨ad111, e111, hx111_0⟩ := Kd.at_int HR1.out x5_1 p111 q111
                cases e111
                replace p111 := eq_true p111
                replace q111 := eq_true q111
                have p112 : 0 ≤ (x5_1 : Int) := of_decide_eq_true y0_7
                have q112 : x5_1 < (l1.length : Int) := of_decide_eq_true y0_7
                obtain ⟨ad112, e112, hx112_0⟩ := Kd.at_int HR1.out x5_1 p112 q112
                obtain rfl : ad111 = ad112 := (by injection e112)
                replace p112 := eq_true p112
                replace q112 := eq_true q112
                have p113 : 0 ≤ ((ji8) : Int) := of_decide_eq_true y0_7
                have q113 : (ji8) < (l1.length : Int) := of_decide_eq_true y0_7
                obtain ⟨ad113, e113, hx113_0⟩ := Kd.at_int HR1.out (ji8) p113 q113
                obtain rfl : ad111 = ad113 := (by injection e113)
                replace p113 := eq_true p113
                replace q113 := eq_true q113
                have p114 : 0 ≤ (x5_1 : Int) := of_decide_eq_true y0_7
                have q114 : x5_1 < (l1.length : Int) := of_decide_eq_true y0_7
                obtain ⟨ad114, e114, hx114_0⟩ := Kd.at_int HR1.out x5_1 p114 q114
                obtain rfl : ad111 = ad114 := (by injection e114)
                replace p114 := eq_true p114
                replace q114 := eq_true q114
                go_wp2
                repeat (go_quiet (fail); try go_wp2)
                go_ret
                exact ⟨by first | rfl | (simp; done) | (simp only [← hji8] <;> (first | rfl | simp)) | (simp [*]; done), y0_5⟩
              · rw [if_neg c11] at H
                have c11b0 : decide ((rd l1 x5_1) ≤ (rd l1 (ji8))) = false := decide_eq_false c11
                clear c11
                have H' := Aside0.mk H
                clear H
                have p111 : 0 ≤ (x5_1 : Int) := of_decide_eq_true y0_7
                have q111 : x5_1 < (l1.length : Int) := of_decide_eq_true y0_7
                obtain ⟨ad111, e111, hx111_0⟩ := Kd.at_int HR1.out x5_1 p111 q111
                cases e111
                replace p111 := eq_true p111
                replace q111 := eq_true q111
                have p112 : 0 ≤ (x5_1 : Int) := of_decide_eq_true y0_7
                have q112 : x5_1 < (l1.length : Int) := of_decide_eq_true y0_7
                obtain ⟨ad112, e112, hx112_0⟩ := Kd.at_int HR1.out x5_1 p112 q112
                obtain rfl : ad111 = ad112 := (by injection e112)
                replace p112 := eq_true p112
                replace q112 := eq_true q112
                have p113 : 0 ≤ ((ji8) : Int) := of_decide_eq_true y0_7
                have q113 : (ji8) < (l1.length : Int) := of_decide_eq_true y0_7
                obtain ⟨ad113, e113, hx113_0⟩ := Kd.at_int HR1.out (ji8) p113 q113
                obtain rfl : ad111 = ad113 := (by injection e113)
                replace p113 := eq_true p113
                replace q113 := eq_true q113
                have p114 : 0 ≤ (x5_1 : Int) := of_decide_eq_true y0_7
                have q114 : x5_1 < (l1.length : Int) := of_decide_eq_true y0_7
                obtain ⟨ad114, e114, hx114_0⟩ := Kd.at_int HR1.out x5_1 p114 q114
                obtain rfl : ad111 = ad114 := (by injection e114)
                replace p114 := eq_true p114
                replace q114 := eq_true q114
                go_wp2
                repeat (go_quiet (fail); try go_wp2)
                go_roundg k1
                case measure => have := HK1.out; omega
                case rel => exact ⟨(wrap64 (x5_1 + 1)), y0_8, H', ⟨y0_12⟩, y0_5⟩
            · rw [if_neg c7] at H
              have c7b0 : decide (0 < x5_1) = false := decide_eq_false c7
              clear c7
              have H' := Aside0.mk H
              clear H
              have p111 : 0 ≤ (x5_1 : Int) := of_decide_eq_true y0_7
              have q111 : x5_1 < (l1.length : Int) := of_decide_eq_true y0_7
              obtain ⟨ad111, e111, hx111_0⟩ := Kd.at_int HR1.out x5_1 p111 q111
              cases e111
              replace p111 := eq_true p111
              replace q111 := eq_true q111
              have p112 : 0 ≤ (x5_1 : Int) := of_decide_eq_true y0_7
              have q112 : x5_1 < (l1.length : Int) := of_decide_eq_true y0_7
              obtain ⟨ad112, e112, hx112_0⟩ := Kd.at_int HR1.out x5_1 p112 q112
              obtain rfl : ad111 = ad112 := (by injection e112)
              replace p112 := eq_true p112
              replace q112 := eq_true q112
              go_wp2
              repeat (go_quiet (fail); try go_wp2)
              go_roundg k1
              case measure => have := HK1.out; omega
              case rel => exact ⟨(wrap64 (x5_1 + 1)), y0_8, H', ⟨y0_12⟩, y0_5⟩
      · rw [if_neg c3] at H
        have c3b0 : decide (x5_1 < (l1.length : Int)) = false := decide_eq_false c3
        clear c3
        obtain rfl := Option.some.inj H
        go_wp2
        repeat (go_quiet (fail); try go_wp2)
        go_ret
        exact ⟨y0_8, y0_5⟩

/-! ### spec_Split: function 102 -/
def spec_Split.l0 : Nat → ByteArray → Int → List ByteArray → Int → Int → Option (List ByteArray)
  | 0, _, _, _, _, _ => none
  | k + 1, x0, x1, x5, x6, x7 => if x7 ≤ (x0.size : Int) then (if x7 = (x0.size : Int) then (if 0 ≤ x6 then (if x6 ≤ x7 then (if x5.length < 8796093022208 then (spec_Split.l0 k x0 x1 (x5 ++ [x0.extract (x6 : Int).toNat (x7 : Int).toNat]) (wrap64 (x7 + 1)) (wrap64 (x7 + 1))) else (none)) else (none)) else (none)) else (if 0 ≤ x7 then (if x7 < (x0.size : Int) then (if (bt x0 x7) = x1 then (if 0 ≤ x6 then (if x6 ≤ x7 then (if x5.length < 8796093022208 then (spec_Split.l0 k x0 x1 (x5 ++ [x0.extract (x6 : Int).toNat (x7 : Int).toNat]) (wrap64 (x7 + 1)) (wrap64 (x7 + 1))) else (none)) else (none)) else (none)) else (spec_Split.l0 k x0 x1 x5 x6 (wrap64 (x7 + 1)))) else (none)) else (none))) else (some x5)
def spec_Split.f (k : Nat) (a0 : ByteArray) (a1 : Int) : Option (List ByteArray) := spec_Split.l0 k a0 a1 (([] : List ByteArray)) 0 0
theorem spec_Split.mono_l : ∀ k, (∀ y0 y1 y2 y3 y4, LeO (spec_Split.l0 k y0 y1 y2 y3 y4) (spec_Split.l0 (k + 1) y0 y1 y2 y3 y4))
  | 0 => fun _ _ _ _ _ r h => by simp [spec_Split.l0] at h
  | k + 1 => by
    have ih0 := spec_Split.mono_l k
    · intro y0 y1 y2 y3 y4
      unfold spec_Split.l0
      repeat' first
      | (with_reducible exact ih0 _ _ _ _ _)
      | (with_reducible exact LeO.refl _)
      | (with_reducible exact LeO.none _)
      | (with_reducible refine LeO.ite ?_ ?_)
      | (with_reducible refine LeO.bind ?_ (fun _ => ?_))
      | exact ih0 _ _ _ _ _
      | exact LeO.none _
      | refine LeO.ite ?_ ?_
      | refine LeO.bind ?_ (fun _ => ?_)
theorem spec_Split.mono : ∀ a0 a1 k, LeO (spec_Split.f k a0 a1) (spec_Split.f (k + 1) a0 a1) := by
  intro a0 a1 k
  have ih0 := spec_Split.mono_l k
  unfold spec_Split.f
  repeat' first
      | (with_reducible exact ih0 _ _ _ _ _)
      | (with_reducible exact LeO.refl _)
      | (with_reducible exact LeO.none _)
      | (with_reducible refine LeO.ite ?_ ?_)
      | (with_reducible refine LeO.bind ?_ (fun _ => ?_))
      | exact ih0 _ _ _ _ _
      | exact LeO.none _
      | refine LeO.ite ?_ ?_
      | refine LeO.bind ?_ (fun _ => ?_)
set_option maxHeartbeats 8000000 in
set_option maxRecDepth 100000 in
theorem spec_Split.calls (k : Nat) (a0 : ByteArray) (a1 : Int) (r : List ByteArray) (w : World) (h : spec_Split.f k a0 a1 = some r) :
    Calls Tryd.prog 102 #[.string a0, .int .u8 a1] w fun e w' => ∃ v0_ : Value, e = .returned (v0_) ∧ Kd.R Kd.string 9 w' w.heap.size (fun _ => True) v0_ r ∧ Below w.heap.size w w' := by
  have HB := Aside0.mk (Below.refl w.heap.size w)
  have H : (spec_Split.l0 k a0 a1 (([] : List ByteArray)) 0 0) = some r := h
  clear h
  obtain ⟨y115, hy115⟩ : ∃ y_ : List ByteArray, y_ = (([] : List ByteArray)) := ⟨_, rfl⟩
  replace H : (spec_Split.l0 k a0 a1 y115 0 0) = some r := by first | (rw [hy115]; with_reducible exact H) | (have H2_ := (Option.bind_some _ _).symm.trans H; rw [hy115]; with_reducible exact H2_) | (have H2_ := (Option.bind_some _ _).symm.trans H; with_reducible exact H2_) | with_reducible exact H | (rw [hy115]; exact H) | exact H
  have Ny115 := Aside0.mk hy115
  clear hy115
  have H' := Aside0.mk H
  clear H
  go_enter Tryd.func102, Tryd.ntmps102
  go_wp2_with (first | ((with_reducible refine gate_dst (N := 8) rfl ?_); refine Kd.R_lit Kd.string _ 9 ?hg (N := 8) ?hd (xs := ([] : List ByteArray)) (inner := []) (ok := fun _ => True) (okp := fun _ => True) ?hr ?hp (fun _ hk => hk) trivial (Below.refl _ _) (Nat.le_refl _) (by simp) ?_; (case hd => rfl); (case hg => rfl); (case hr => first | (go_simp; done) | (go_simp; rfl)); (case hp => exact (Reps.none _ _)); intro v116 w3 ho4 hb hg_ hnew_; clear hg_ hnew_; (first | rw [← Ny115.out] at ho4 | (simp only [Int.reduceToNat] at ho4; rw [← Ny115.out] at ho4)); have HO117 := Aside0.mk (Kd.R_lower ho4 (below_size (bI HB.out))); replace HB := bs HB hb; clear hb ho4))
  go_loopg [5, 6, 7] k (fun kq v5 v6 v7 w' => ∃ (x5_1 : List ByteArray) (x6_1 : Int) (x7_1 : Int), v6 = .int .i64 x6_1 ∧ v7 = .int .i64 x7_1 ∧ Aside0 (spec_Split.l0 kq a0 a1 x5_1 x6_1 x7_1 = some r) ∧ Aside0 (kq ≤ k) ∧ Aside0 (Kd.R Kd.string 9 w' w.heap.size (fun _ => True) v5 x5_1) ∧ Aside0 (Below w.heap.size w w'))
  case atStart => exact ⟨(y115), (0), (0), y0_8, y0_8, H', ⟨Nat.le_refl _⟩, ⟨by (with_reducible repeat (first | apply Kd.R_alloc | apply Kd.R_drewN | apply Kd.R_drew)); exact HO117.out⟩, ⟨bI HB.out⟩⟩
  case round =>
    clear H'
    try clear c1
    try clear p2
    obtain ⟨x5_1, x6_1, x7_1, rfl, rfl, HA, HK1, HO_5, HB⟩ := hrel
    cases gk with
    | zero => exact absurd HA.out (by simp [spec_Split.l0])
    | succ k1 =>
      have H := HA.out
      clear HA
      simp only [spec_Split.l0] at H
      by_cases c5 : x7_1 ≤ (a0.size : Int)
      · rw [if_pos c5] at H
        have c5b0 : decide (x7_1 ≤ (a0.size : Int)) = true := decide_eq_true c5
        clear c5
        by_cases c6 : x7_1 = (a0.size : Int)
        · rw [if_pos c6] at H
          have c6b0 : (x7_1 == (a0.size : Int)) = true := beq_iff_eq.mpr c6
          have c6b1 : (x7_1 != (a0.size : Int)) = false := bne_eq_false_iff_eq.mpr c6
          clear c6
          by_cases c7 : 0 ≤ x6_1
          rotate_left
          · rw [if_neg c7] at H
            exact absurd H (by simp)
          rw [if_pos c7] at H
          have c7b0 := eq_true c7
          have c7b1 : decide (0 ≤ x6_1) = true := decide_eq_true c7
          clear c7
          by_cases c8 : x6_1 ≤ x7_1
          rotate_left
          · rw [if_neg c8] at H
            exact absurd H (by simp)
          rw [if_pos c8] at H
          have c8b0 := eq_true c8
          have c8b1 : decide (x6_1 ≤ x7_1) = true := decide_eq_true c8
          clear c8
          have c9b0 := eq_true (of_decide_eq_true y0_7 : x7_1 ≤ (a0.size : Int))
          by_cases c10 : x5_1.length < 8796093022208
          rotate_left
          · rw [if_neg c10] at H
            exact absurd H (by simp)
          rw [if_pos c10] at H
          have LMc10 := Aside0.mk c10
          clear c10
          obtain ⟨y118, hy118⟩ : ∃ y_ : List ByteArray, y_ = (x5_1 ++ [a0.extract (x6_1 : Int).toNat (x7_1 : Int).toNat]) := ⟨_, rfl⟩
          replace H : (spec_Split.l0 k1 a0 a1 y118 (wrap64 (x7_1 + 1)) (wrap64 (x7_1 + 1))) = some r := by first | (rw [hy118]; with_reducible exact H) | (have H2_ := (Option.bind_some _ _).symm.trans H; rw [hy118]; with_reducible exact H2_) | (have H2_ := (Option.bind_some _ _).symm.trans H; with_reducible exact H2_) | with_reducible exact H | (rw [hy118]; exact H) | exact H
          have Ny118 := Aside0.mk hy118
          clear hy118
          have H' := Aside0.mk H
          clear H
          go_wp2_with (first | ((with_reducible refine gate_builtin (b := .append) (xs := #[.tmp 26, .tmp 31]) rfl ?_); at_builtin; refine Kd.R_append Kd.string (w0 := w) w.heap.size rfl (.tmp 26) (.tmp 31) 123 9 (.string ⟨#[]⟩) 16 rfl Tryd.underlying123 info9 rfl (by decide) (by omega) u5 x5_1 (a0.extract (x6_1 : Int).toNat (x7_1 : Int).toNat) [.string (a0.extract (x6_1 : Int).toNat (x7_1 : Int).toNat)] (fun _ => True) (fun _ => False) rfl rfl ?aP (fun _ hk => hk.elim) ?aF ?aO ?aB ?aS ?aL ?_; (case aP => exact rfl); (case aB => exact (bI HB.out)); (case aF => exact (fun _ _ => trivial)); (case aO => exact (rI HO_5.out)); (case aS => exact (below_size (bI HB.out))); (case aL => have := LMc10.out; omega); intro v119 w11 ho hb hg hat; rw [← Ny118.out] at ho; have n0_ := Aside0.mk (hb); have n1_ := Aside0.mk (ho); clear HB; clear HO_5; have HB := n0_; have HO120 := n1_; clear n0_ n1_; clear ho hb hg hat))
          go_roundg k1
          case measure => have := HK1.out; omega
          case rel => exact ⟨(y118), (wrap64 (x7_1 + 1)), (wrap64 (x7_1 + 1)), y0_8, y0_8, H', ⟨y0_12⟩, ⟨by (with_reducible repeat (first | apply Kd.R_alloc | apply Kd.R_drewN | apply Kd.R_drew)); exact HO120.out⟩, ⟨bI HB.out⟩⟩
        · rw [if_neg c6] at H
          have c6b0 : (x7_1 == (a0.size : Int)) = false := beq_eq_false_iff_ne.mpr c6
          have c6b1 : (x7_1 != (a0.size : Int)) = true := bne_iff_ne.mpr c6
          by_cases c12 : 0 ≤ x7_1
          rotate_left
          · rw [if_neg c12] at H
            exact absurd H (by simp)
          rw [if_pos c12] at H
          have c12b0 : decide (0 ≤ x7_1) = true := decide_eq_true c12
          clear c12
          by_cases c13 : x7_1 < (a0.size : Int)
          rotate_left
          · rw [if_neg c13] at H
            exact absurd H (by simp)
          rw [if_pos c13] at H
          have c13b0 : decide (x7_1 < (a0.size : Int)) = true := decide_eq_true c13
          clear c13
          by_cases c15 : (bt a0 x7_1) = a1
          · rw [if_pos c15] at H
            have c15b0 : ((bt a0 x7_1) == a1) = true := beq_iff_eq.mpr c15
            have c15b1 : ((bt a0 x7_1) != a1) = false := bne_eq_false_iff_eq.mpr c15
            clear c15
            by_cases c16 : 0 ≤ x6_1
            rotate_left
            · rw [if_neg c16] at H
              exact absurd H (by simp)
            rw [if_pos c16] at H
            have c16b0 := eq_true c16
            have c16b1 : decide (0 ≤ x6_1) = true := decide_eq_true c16
            clear c16
            by_cases c17 : x6_1 ≤ x7_1
            rotate_left
            · rw [if_neg c17] at H
              exact absurd H (by simp)
            rw [if_pos c17] at H
            have c17b0 := eq_true c17
            have c17b1 : decide (x6_1 ≤ x7_1) = true := decide_eq_true c17
            clear c17
            have c18b0 := eq_true (of_decide_eq_true y0_7 : x7_1 ≤ (a0.size : Int))
            by_cases c19 : x5_1.length < 8796093022208
            rotate_left
            · rw [if_neg c19] at H
              exact absurd H (by simp)
            rw [if_pos c19] at H
            have LMc19 := Aside0.mk c19
            clear c19
            obtain ⟨y121, hy121⟩ : ∃ y_ : List ByteArray, y_ = (x5_1 ++ [a0.extract (x6_1 : Int).toNat (x7_1 : Int).toNat]) := ⟨_, rfl⟩
            replace H : (spec_Split.l0 k1 a0 a1 y121 (wrap64 (x7_1 + 1)) (wrap64 (x7_1 + 1))) = some r := by first | (rw [hy121]; with_reducible exact H) | (have H2_ := (Option.bind_some _ _).symm.trans H; rw [hy121]; with_reducible exact H2_) | (have H2_ := (Option.bind_some _ _).symm.trans H; with_reducible exact H2_) | with_reducible exact H | (rw [hy121]; exact H) | exact H
            have Ny121 := Aside0.mk hy121
            clear hy121
            have H' := Aside0.mk H
            clear H
            have p14 : 0 ≤ (x7_1 : Int) := of_decide_eq_true y0_7
            have q14 : x7_1 < (a0.size : Int) := of_decide_eq_true y0_7
            have hx14 := bt_at a0 x7_1
            replace p14 := eq_true p14
            replace q14 := eq_true q14
            go_wp2_with (first | ((with_reducible refine gate_builtin (b := .append) (xs := #[.tmp 26, .tmp 31]) rfl ?_); at_builtin; refine Kd.R_append Kd.string (w0 := w) w.heap.size rfl (.tmp 26) (.tmp 31) 123 9 (.string ⟨#[]⟩) 16 rfl Tryd.underlying123 info9 rfl (by decide) (by omega) u5 x5_1 (a0.extract (x6_1 : Int).toNat (x7_1 : Int).toNat) [.string (a0.extract (x6_1 : Int).toNat (x7_1 : Int).toNat)] (fun _ => True) (fun _ => False) rfl rfl ?aP (fun _ hk => hk.elim) ?aF ?aO ?aB ?aS ?aL ?_; (case aP => exact rfl); (case aB => exact (bI HB.out)); (case aF => exact (fun _ _ => trivial)); (case aO => exact (rI HO_5.out)); (case aS => exact (below_size (bI HB.out))); (case aL => have := LMc19.out; omega); intro v122 w20 ho hb hg hat; rw [← Ny121.out] at ho; have n0_ := Aside0.mk (hb); have n1_ := Aside0.mk (ho); clear HB; clear HO_5; have HB := n0_; have HO123 := n1_; clear n0_ n1_; clear ho hb hg hat))
            go_roundg k1
            case measure => have := HK1.out; omega
            case rel => exact ⟨(y121), (wrap64 (x7_1 + 1)), (wrap64 (x7_1 + 1)), y0_8, y0_8, H', ⟨y0_12⟩, ⟨by (with_reducible repeat (first | apply Kd.R_alloc | apply Kd.R_drewN | apply Kd.R_drew)); exact HO123.out⟩, ⟨bI HB.out⟩⟩
          · rw [if_neg c15] at H
            have c15b0 : ((bt a0 x7_1) == a1) = false := beq_eq_false_iff_ne.mpr c15
            have c15b1 : ((bt a0 x7_1) != a1) = true := bne_iff_ne.mpr c15
            have H' := Aside0.mk H
            clear H
            have p14 : 0 ≤ (x7_1 : Int) := of_decide_eq_true y0_7
            have q14 : x7_1 < (a0.size : Int) := of_decide_eq_true y0_7
            have hx14 := bt_at a0 x7_1
            replace p14 := eq_true p14
            replace q14 := eq_true q14
            go_wp2
            go_roundg k1
            case measure => have := HK1.out; omega
            case rel => exact ⟨(x5_1), (x6_1), (wrap64 (x7_1 + 1)), y0_8, y0_8, H', ⟨y0_12⟩, ⟨y0_3⟩, ⟨bI HB.out⟩⟩
      · rw [if_neg c5] at H
        have c5b0 : decide (x7_1 ≤ (a0.size : Int)) = false := decide_eq_false c5
        clear c5
        obtain rfl := Option.some.inj H
        go_wp2
        go_ret
        exact ⟨_, y0_4, y0_3, bI HB.out⟩

/-! ### spec_l2Cut: function 103 -/
def spec_l2Cut.l0 : Nat → ByteArray → Int → Int → Option (ByteArray × ByteArray × Bool)
  | 0, _, _, _ => none
  | k + 1, x0, x1, x7 => if x7 < (x0.size : Int) then (if 0 ≤ x7 then (if (bt x0 x7) = x1 then (if x7 ≤ (x0.size : Int) then (if 0 ≤ (wrap64 (x7 + 1)) then (if (wrap64 (x7 + 1)) ≤ (x0.size : Int) then (some (x0.extract 0 (x7 : Int).toNat, x0.extract ((wrap64 (x7 + 1)) : Int).toNat x0.size, true)) else (none)) else (none)) else (none)) else (spec_l2Cut.l0 k x0 x1 (wrap64 (x7 + 1)))) else (none)) else (some ((⟨#[]⟩ : ByteArray), (⟨#[]⟩ : ByteArray), false))
def spec_l2Cut.f (k : Nat) (a0 : ByteArray) (a1 : Int) : Option (ByteArray × ByteArray × Bool) := spec_l2Cut.l0 k a0 a1 0
theorem spec_l2Cut.mono_l : ∀ k, (∀ y0 y1 y2, LeO (spec_l2Cut.l0 k y0 y1 y2) (spec_l2Cut.l0 (k + 1) y0 y1 y2))
  | 0 => fun _ _ _ r h => by simp [spec_l2Cut.l0] at h
  | k + 1 => by
    have ih0 := spec_l2Cut.mono_l k
    · intro y0 y1 y2
      unfold spec_l2Cut.l0
      repeat' first
      | (with_reducible exact ih0 _ _ _)
      | (with_reducible exact LeO.refl _)
      | (with_reducible exact LeO.none _)
      | (with_reducible refine LeO.ite ?_ ?_)
      | (with_reducible refine LeO.bind ?_ (fun _ => ?_))
      | exact ih0 _ _ _
      | exact LeO.none _
      | refine LeO.ite ?_ ?_
      | refine LeO.bind ?_ (fun _ => ?_)
theorem spec_l2Cut.mono : ∀ a0 a1 k, LeO (spec_l2Cut.f k a0 a1) (spec_l2Cut.f (k + 1) a0 a1) := by
  intro a0 a1 k
  have ih0 := spec_l2Cut.mono_l k
  unfold spec_l2Cut.f
  repeat' first
      | (with_reducible exact ih0 _ _ _)
      | (with_reducible exact LeO.refl _)
      | (with_reducible exact LeO.none _)
      | (with_reducible refine LeO.ite ?_ ?_)
      | (with_reducible refine LeO.bind ?_ (fun _ => ?_))
      | exact ih0 _ _ _
      | exact LeO.none _
      | refine LeO.ite ?_ ?_
      | refine LeO.bind ?_ (fun _ => ?_)
set_option maxHeartbeats 8000000 in
set_option maxRecDepth 100000 in
theorem spec_l2Cut.calls (k : Nat) (a0 : ByteArray) (a1 : Int) (r1 : ByteArray) (r2 : ByteArray) (r3 : Bool) (w : World) (h : spec_l2Cut.f k a0 a1 = some (r1, r2, r3)) :
    Calls Tryd.prog 103 #[.string a0, .int .u8 a1] w fun e w' => e = .returned (.tuple #[.string r1, .string r2, .bool r3]) ∧ Drawn0 w w' := by
  have H : (spec_l2Cut.l0 k a0 a1 0) = some (r1, r2, r3) := h
  clear h
  have H' := Aside0.mk H
  clear H
  go_enter Tryd.func103, Tryd.ntmps103
  go_wp2
  repeat (go_quiet (fail); try go_wp2)
  go_loopg [7] k (fun kq v7 w' => ∃ (x7_1 : Int), v7 = .int .i64 x7_1 ∧ Aside0 (spec_l2Cut.l0 kq a0 a1 x7_1 = some (r1, r2, r3)) ∧ Aside0 (kq ≤ k) ∧ Drawn0 w w')
  case atStart => exact ⟨(0), y0_8, H', ⟨Nat.le_refl _⟩, y0_5⟩
  case round =>
    clear H'
    try clear c1
    try clear p2
    obtain ⟨x7_1, rfl, HA, HK1, ⟨m1, rfl⟩⟩ := hrel
    cases gk with
    | zero => exact absurd HA.out (by simp [spec_l2Cut.l0])
    | succ k1 =>
      have H := HA.out
      clear HA
      simp only [spec_l2Cut.l0] at H
      by_cases c3 : x7_1 < (a0.size : Int)
      · rw [if_pos c3] at H
        have c3b0 : decide (x7_1 < (a0.size : Int)) = true := decide_eq_true c3
        clear c3
        by_cases c4 : 0 ≤ x7_1
        rotate_left
        · rw [if_neg c4] at H
          exact absurd H (by simp)
        rw [if_pos c4] at H
        have c4b0 : decide (0 ≤ x7_1) = true := decide_eq_true c4
        clear c4
        by_cases c6 : (bt a0 x7_1) = a1
        · rw [if_pos c6] at H
          have c6b0 : ((bt a0 x7_1) == a1) = true := beq_iff_eq.mpr c6
          have c6b1 : ((bt a0 x7_1) != a1) = false := bne_eq_false_iff_eq.mpr c6
          clear c6
          have c7b0 := eq_true (of_decide_eq_true y0_7 : 0 ≤ x7_1)
          by_cases c8 : x7_1 ≤ (a0.size : Int)
          rotate_left
          · rw [if_neg c8] at H
            exact absurd H (by simp)
          rw [if_pos c8] at H
          have c8b0 := eq_true c8
          have c8b1 : decide (x7_1 ≤ (a0.size : Int)) = true := decide_eq_true c8
          clear c8
          obtain ⟨ji9, hji9⟩ : ∃ j_ : Int, (wrap64 (x7_1 + 1)) = j_ := ⟨_, rfl⟩
          replace H : (if 0 ≤ (ji9) then (if (ji9) ≤ (a0.size : Int) then (some (a0.extract 0 (x7_1 : Int).toNat, a0.extract ((ji9) : Int).toNat a0.size, true)) else (none)) else (none)) = some (r1, r2, r3) := by first | (rw [hji9] at H; exact H) | (simp only [hji9] at H ⊢; exact H)
          have hji9w : (IntKind.i64.wrap (x7_1 + 1)) = ji9 := (i64_w _).trans hji9
          by_cases c10 : 0 ≤ (ji9)
          rotate_left
          · rw [if_neg c10] at H
            exact absurd H (by simp)
          rw [if_pos c10] at H
          have c10b0 := eq_true c10
          have c10b1 : decide (0 ≤ (ji9)) = true := decide_eq_true c10
          clear c10
          by_cases c11 : (ji9) ≤ (a0.size : Int)
          rotate_left
          · rw [if_neg c11] at H
            exact absurd H (by simp)
          rw [if_pos c11] at H
          have c11b0 := eq_true c11
          have c11b1 : decide ((ji9) ≤ (a0.size : Int)) = true := decide_eq_true c11
          clear c11
          simp only [Option.some.injEq, Prod.mk.injEq] at H
          obtain ⟨rfl, rfl, rfl⟩ := H
          have p5 : 0 ≤ (x7_1 : Int) := of_decide_eq_true y0_7
          have q5 : x7_1 < (a0.size : Int) := of_decide_eq_true y0_7
          have hx5 := bt_at a0 x7_1
          replace p5 := eq_true p5
          replace q5 := eq_true q5
          go_wp2
          repeat (go_quiet (fail); try go_wp2)
          go_ret3
          exact ⟨by first | rfl | (simp; done) | (simp only [← hji9] <;> (first | rfl | simp)) | (simp [*]; done), y0_5⟩
        · rw [if_neg c6] at H
          have c6b0 : ((bt a0 x7_1) == a1) = false := beq_eq_false_iff_ne.mpr c6
          have c6b1 : ((bt a0 x7_1) != a1) = true := bne_iff_ne.mpr c6
          have H' := Aside0.mk H
          clear H
          have p5 : 0 ≤ (x7_1 : Int) := of_decide_eq_true y0_7
          have q5 : x7_1 < (a0.size : Int) := of_decide_eq_true y0_7
          have hx5 := bt_at a0 x7_1
          replace p5 := eq_true p5
          replace q5 := eq_true q5
          go_wp2
          repeat (go_quiet (fail); try go_wp2)
          go_roundg k1
          case measure => have := HK1.out; omega
          case rel => exact ⟨(wrap64 (x7_1 + 1)), y0_8, H', ⟨y0_12⟩, y0_5⟩
      · rw [if_neg c3] at H
        have c3b0 : decide (x7_1 < (a0.size : Int)) = false := decide_eq_false c3
        clear c3
        simp only [Option.some.injEq, Prod.mk.injEq] at H
        obtain ⟨rfl, rfl, rfl⟩ := H
        go_wp2
        repeat (go_quiet (fail); try go_wp2)
        go_ret3
        exact ⟨y0_8, y0_5⟩

end Go.Proofs.YtcmldmlmhpfjhaaDoor.PFnExactTableOk
