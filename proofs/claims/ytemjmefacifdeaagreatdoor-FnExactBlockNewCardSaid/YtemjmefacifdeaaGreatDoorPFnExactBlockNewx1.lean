-- By a program of this session, out of the translation (the print of the kit, with turns of its own). Lean checks it.
import Derived.Test.YtemjmefacifdeaaGreatDoorPFnExactBlockNewx0
namespace Go.Proofs.YtemjmefacifdeaaGreatDoor.PFnExactBlockNew
open Go.RowKit Go.Proofs.YtemjmefacifdeaaGreatDoorW.PrintWords Go.Proofs.YtemjmefacifdeaaGreatDoorW.PrintLast Go.Proofs.YtemjmefacifdeaaGreatDoorW.PrintMore
attribute [local go_sem] max2_int min2_int max_two min_two max_three min_three max_four min_four   -- for this text's walks alone
set_option linter.unusedVariables false
set_option linter.unusedSimpArgs false

/-! ### laws_toConf: function 14 -/
def laws_toConf.f (a0_0 : Int) (a0_1 : Int) : Option (Int × Int) := some (a0_0, a0_1)
set_option maxHeartbeats 8000000 in
set_option maxRecDepth 100000 in
theorem laws_toConf.calls (a0_0 : Int) (a0_1 : Int) (r1 : Int) (r2 : Int) (w : World) (h : laws_toConf.f a0_0 a0_1 = some (r1, r2)) :
  Calls Tryz.prog 14 #[.agg #[.int .i64 a0_0, .int .i64 a0_1]] w fun e w' => e = .returned (.agg #[.int .i64 r1, .int .i64 r2]) ∧ Below w.heap.size w w' := by
 have hu23 := Tryz.underlying23; have hu38 := Tryz.underlying38; have HB := Aside0.mk (Below.refl w.heap.size w); have H : (some (a0_0, a0_1)) = some (r1, r2) := h; clear h
 simp only [Option.some.injEq, Prod.mk.injEq] at H
 obtain ⟨rfl, rfl⟩ := H
 go_enter Tryz.func14, Tryz.ntmps14
 go_wp2_with (first | ((with_reducible refine gd 1 ?_); refine bA 1 #[.int .i64 a0_0, .int .i64 a0_1] 23 ?_; intro gb101 hg w2 hbox hb; have BK101 := Aside0.mk (hbox); have GW101 := bg hg HB; have GJ101 := gi GW101; have GE101 := GW101; replace HB := bs HB hb; clear hb hbox hg) | ((with_reducible refine gd 2 ?_); refine bA 2 #[.int .i64 0, .int .i64 0] 38 ?_; intro gb102 hg w3 hbox hb; have BK102 := Aside0.mk (hbox); have GW102 := bg hg HB; have GJ102 := gi GW102; have GE102 := GW102; replace HB := bs HB hb; have NB101_102 := b1 BK101 hg; have NI101_102 := ni NB101_102; have NB102_101 := b2 BK101 hg; have NI102_101 := ni NB102_101; replace BK101 := bk BK101 hb; clear hb hbox hg) | ((with_reducible refine gd 3 ?_); refine bA 3 #[.int .i64 0, .int .i64 0] 38 ?_; intro gb103 hg w4 hbox hb; have BK103 := Aside0.mk (hbox); have GW103 := bg hg HB; have GJ103 := gi GW103; have GE103 := GW103; replace HB := bs HB hb; have NB101_103 := b1 BK101 hg; have NI101_103 := ni NB101_103; have NB103_101 := b2 BK101 hg; have NI103_101 := ni NB103_101; replace BK101 := bk BK101 hb; have NB102_103 := b1 BK102 hg; have NI102_103 := ni NB102_103; have NB103_102 := b2 BK102 hg; have NI103_102 := ni NB103_102; replace BK102 := bk BK102 hb; clear hb hbox hg; have hnb5 := NB101_102.out; have hnc5 := NB102_101.out; have hnb6 := NB101_103.out; have hnc6 := NB103_101.out; obtain ⟨hcz7_0, hcz7_1, hfz7_0, hfz7_1⟩ := cs2 BK101; have hnb8 := NB103_102.out; have hnc8 := NB102_103.out; obtain ⟨hcz9_0, hcz9_1, hfz9_0, hfz9_1⟩ := cs2 BK103; obtain ⟨hcz10_0, hcz10_1, hfz10_0, hfz10_1⟩ := cs2 BK102))
 refine bodyPost_ret (results_cell_row rfl _ _ gb102 38 #[.int .i64 a0_0, .int .i64 a0_1] (0, 0) _ rfl (pI BK102) Tryz.underlying38 rfl (by kernel_rfl)) rfl ?_
 exact ⟨y0_10, bI HB.out⟩

/-! ### laws_eqIntS: function 76 -/
def laws_eqIntS.l0 : Nat → List Int → List Int → Int → Option (Bool)
 | 0, _, _, _ => none
 | k + 1, x0, x1, x5 => if x5 < (x0.length : Int) then (if 0 ≤ x5 then (if x5 < (x1.length : Int) then (if (rd x0 x5) = (rd x1 x5) then (laws_eqIntS.l0 k x0 x1 (wrap64 (x5 + 1))) else (some false)) else (none)) else (none)) else (some true)
def laws_eqIntS.f (k : Nat) (l0 : List Int) (l1 : List Int) : Option (Bool) := if (l0.length : Int) = (l1.length : Int) then (laws_eqIntS.l0 k l0 l1 0) else (some false)
theorem laws_eqIntS.mono_l : ∀ k, (∀ y0 y1 y2, LeO (laws_eqIntS.l0 k y0 y1 y2) (laws_eqIntS.l0 (k + 1) y0 y1 y2))
 | 0 => fun _ _ _ r h => by simp [laws_eqIntS.l0] at h
 | k + 1 => by
  have ih0 := laws_eqIntS.mono_l k
  intro y0 y1 y2
  unfold laws_eqIntS.l0
  repeat' first | (with_reducible exact ih0 _ _ _) | (with_reducible exact LeO.refl _) | (with_reducible exact LeO.none _) | (with_reducible refine LeO.ite ?_ ?_) | (with_reducible refine LeO.bind ?_ (fun _ => ?_))
theorem laws_eqIntS.mono : ∀ a0 a1 k, LeO (laws_eqIntS.f k a0 a1) (laws_eqIntS.f (k + 1) a0 a1) := by
 intro a0 a1 k
 have ih0 := laws_eqIntS.mono_l k
 unfold laws_eqIntS.f
 repeat' first | (with_reducible exact ih0 _ _ _) | (with_reducible exact LeO.refl _) | (with_reducible exact LeO.none _) | (with_reducible refine LeO.ite ?_ ?_) | (with_reducible refine LeO.bind ?_ (fun _ => ?_))
set_option maxHeartbeats 8000000 in
set_option maxRecDepth 100000 in
theorem laws_eqIntS.calls (k : Nat) (A0 : Option Addr) (c0 : Nat) (l0 : List Int) (A1 : Option Addr) (c1 : Nat) (l1 : List Int) (r : Bool) (w : World) (hr0 : Kd.C (Kd.int .i64) w A0 l0.length l0) (hc0 : l0.length ≤ c0) (hr1 : Kd.C (Kd.int .i64) w A1 l1.length l1) (hc1 : l1.length ≤ c1) (h : laws_eqIntS.f k l0 l1 = some r) :
  Calls Tryz.prog 76 #[.slice A0 l0.length c0, .slice A1 l1.length c1] w fun e w' => e = .returned (.bool r) ∧ Drawn0 w w' := by
 have HR0 := Aside0.mk hr0; have HC0 := Aside0.mk hc0; clear hr0 hc0; have HR1 := Aside0.mk hr1; have HC1 := Aside0.mk hc1; clear hr1 hc1; have H : (if (l0.length : Int) = (l1.length : Int) then (laws_eqIntS.l0 k l0 l1 0) else (some false)) = some r := h; clear h
 by_cases c3 : (l0.length : Int) = (l1.length : Int)
 ·
  rw [if_pos c3] at H
  have c3b0 : ((l0.length : Int) == (l1.length : Int)) = true := beq_iff_eq.mpr c3; have c3b1 : ((l0.length : Int) != (l1.length : Int)) = false := bne_eq_false_iff_eq.mpr c3
  have c3b2 : (l0.length == l1.length) = true := by first | simpa using c3 | (simp at c3 ⊢; omega)
  clear c3; have H' := Aside0.mk H; clear H
  go_enter Tryz.func76, Tryz.ntmps76
  go_wp2
  repeat (go_quiet (fail); try go_wp2)
  go_loopg [5] k (fun kq v5 w' => ∃ (x5_1 : Int), v5 = .int .i64 x5_1 ∧ Aside0 (laws_eqIntS.l0 kq l0 l1 x5_1 = some r) ∧ Aside0 (kq ≤ k) ∧ Drawn0 w w')
  case atStart => exact ⟨(0), y0_13, H', ⟨Nat.le_refl _⟩, y0_11⟩
  case round =>
   clear H'
   try clear c1
   try clear p2
   try clear c3
   try clear c3b0
   try clear c3b1
   try clear c3b2
   obtain ⟨x5_1, rfl, HA, HK1, ⟨m1, rfl⟩⟩ := hrel; cases gk with
   | zero => exact absurd HA.out (by simp [laws_eqIntS.l0])
   | succ k1 =>
    have H := HA.out; clear HA
    simp only [laws_eqIntS.l0] at H
    by_cases c4 : x5_1 < (l0.length : Int)
    ·
     rw [if_pos c4] at H
     have c4b0 : decide (x5_1 < (l0.length : Int)) = true := decide_eq_true c4; clear c4
     by_cases c5 : 0 ≤ x5_1
     rotate_left
     ·
      rw [if_neg c5] at H
      exact absurd H (by simp)
     rw [if_pos c5] at H
     have c5b0 : decide (0 ≤ x5_1) = true := decide_eq_true c5; clear c5
     by_cases c6 : x5_1 < (l1.length : Int)
     rotate_left
     ·
      rw [if_neg c6] at H
      exact absurd H (by simp)
     rw [if_pos c6] at H
     have c6b0 : decide (x5_1 < (l1.length : Int)) = true := decide_eq_true c6; clear c6
     by_cases c7 : (rd l0 x5_1) = (rd l1 x5_1)
     ·
      rw [if_pos c7] at H
      have c7b0 : ((rd l0 x5_1) == (rd l1 x5_1)) = true := beq_iff_eq.mpr c7; have c7b1 : ((rd l0 x5_1) != (rd l1 x5_1)) = false := bne_eq_false_iff_eq.mpr c7; clear c7; have H' := Aside0.mk H; clear H; have p104 : 0 ≤ (x5_1 : Int) := of_decide_eq_true y0_12; have q104 : x5_1 < (l0.length : Int) := of_decide_eq_true y0_12; obtain ⟨ad104, e104, hx104_0⟩ := Kd.at_int HR0.out x5_1 p104 q104; cases e104; replace p104 := eq_true p104; replace q104 := eq_true q104; have p105 : 0 ≤ (x5_1 : Int) := of_decide_eq_true y0_12; have q105 : x5_1 < (l1.length : Int) := of_decide_eq_true y0_12; obtain ⟨ad105, e105, hx105_0⟩ := Kd.at_int HR1.out x5_1 p105 q105; cases e105; replace p105 := eq_true p105; replace q105 := eq_true q105
      go_wp2
      repeat (go_quiet (fail); try go_wp2)
      go_roundg k1
      case measure => have := HK1.out; omega
      case rel => exact ⟨(wrap64 (x5_1 + 1)), y0_13, H', ⟨y0_18⟩, y0_11⟩
     rw [if_neg c7] at H
     have c7b0 : ((rd l0 x5_1) == (rd l1 x5_1)) = false := beq_eq_false_iff_ne.mpr c7; have c7b1 : ((rd l0 x5_1) != (rd l1 x5_1)) = true := bne_iff_ne.mpr c7; obtain rfl := Option.some.inj H; have p104 : 0 ≤ (x5_1 : Int) := of_decide_eq_true y0_12; have q104 : x5_1 < (l0.length : Int) := of_decide_eq_true y0_12; obtain ⟨ad104, e104, hx104_0⟩ := Kd.at_int HR0.out x5_1 p104 q104; cases e104; replace p104 := eq_true p104; replace q104 := eq_true q104; have p105 : 0 ≤ (x5_1 : Int) := of_decide_eq_true y0_12; have q105 : x5_1 < (l1.length : Int) := of_decide_eq_true y0_12; obtain ⟨ad105, e105, hx105_0⟩ := Kd.at_int HR1.out x5_1 p105 q105; cases e105; replace p105 := eq_true p105; replace q105 := eq_true q105
     go_wp2
     repeat (go_quiet (fail); try go_wp2)
     go_ret
     exact ⟨y0_13, y0_11⟩
    rw [if_neg c4] at H
    have c4b0 : decide (x5_1 < (l0.length : Int)) = false := decide_eq_false c4; clear c4; obtain rfl := Option.some.inj H
    go_wp2
    repeat (go_quiet (fail); try go_wp2)
    go_ret
    exact ⟨y0_13, y0_11⟩
 rw [if_neg c3] at H
 have c3b0 : ((l0.length : Int) == (l1.length : Int)) = false := beq_eq_false_iff_ne.mpr c3; have c3b1 : ((l0.length : Int) != (l1.length : Int)) = true := bne_iff_ne.mpr c3
 have c3b2 : (l0.length == l1.length) = false := by first | simpa using c3 | (simp at c3 ⊢; omega)
 obtain rfl := Option.some.inj H
 go_enter Tryz.func76, Tryz.ntmps76
 go_wp2
 repeat (go_quiet (fail); try go_wp2)
 go_ret
 exact ⟨y0_13, y0_11⟩

/-! ### laws_eqQc: function 27 -/
def laws_eqQc.f (k : Nat) (a0_0 : Int) (a0_1 : ByteArray) (l0_2 : List Int) (a1_0 : Int) (a1_1 : ByteArray) (l1_2 : List Int) : Option (Bool) := if a0_0 = a1_0 then (if a0_1.toList = a1_1.toList then ((laws_eqIntS.f k l0_2 l1_2).bind fun t108 => (if t108 = true then (some true) else (some false))) else (some false)) else (some false)
theorem laws_eqQc.mono : ∀ a0 a1 a2 a3 a4 a5 k, LeO (laws_eqQc.f k a0 a1 a2 a3 a4 a5) (laws_eqQc.f (k + 1) a0 a1 a2 a3 a4 a5) := by
 intro a0 a1 a2 a3 a4 a5 k
 unfold laws_eqQc.f
 repeat' first | (with_reducible exact laws_eqIntS.mono _ _ _) | (with_reducible exact LeO.refl _) | (with_reducible exact LeO.none _) | (with_reducible refine LeO.ite ?_ ?_) | (with_reducible refine LeO.bind ?_ (fun _ => ?_))
set_option maxHeartbeats 8000000 in
set_option maxRecDepth 100000 in
theorem laws_eqQc.calls (k : Nat) (a0_0 : Int) (a0_1 : ByteArray) (A0_2 : Option Addr) (c0_2 : Nat) (l0_2 : List Int) (a1_0 : Int) (a1_1 : ByteArray) (A1_2 : Option Addr) (c1_2 : Nat) (l1_2 : List Int) (r : Bool) (w : World) (hr0_2 : Kd.C (Kd.int .i64) w A0_2 l0_2.length l0_2) (hc0_2 : l0_2.length ≤ c0_2) (hr1_2 : Kd.C (Kd.int .i64) w A1_2 l1_2.length l1_2) (hc1_2 : l1_2.length ≤ c1_2) (h : laws_eqQc.f k a0_0 a0_1 l0_2 a1_0 a1_1 l1_2 = some r) :
  Calls Tryz.prog 27 #[.agg #[.int .i64 a0_0, .string a0_1, .slice A0_2 l0_2.length c0_2], .agg #[.int .i64 a1_0, .string a1_1, .slice A1_2 l1_2.length c1_2]] w fun e w' => e = .returned (.bool r) ∧ Below w.heap.size w w' := by
 have hu33 := Tryz.underlying33; have HR0_2 := Aside0.mk hr0_2; have HC0_2 := Aside0.mk hc0_2; clear hr0_2 hc0_2; have HR1_2 := Aside0.mk hr1_2; have HC1_2 := Aside0.mk hc1_2; clear hr1_2 hc1_2; have HB := Aside0.mk (Below.refl w.heap.size w)
 have H : (if a0_0 = a1_0 then (if a0_1.toList = a1_1.toList then ((laws_eqIntS.f k l0_2 l1_2).bind fun t108 => (if t108 = true then (some true) else (some false))) else (some false)) else (some false)) = some r := h
 clear h
 by_cases c3 : a0_0 = a1_0
 ·
  rw [if_pos c3] at H
  have c3b0 : (a0_0 == a1_0) = true := beq_iff_eq.mpr c3; have c3b1 : (a0_0 != a1_0) = false := bne_eq_false_iff_eq.mpr c3; clear c3
  by_cases c4 : a0_1.toList = a1_1.toList
  ·
   rw [if_pos c4] at H
   have c4b0 : (a0_1.toList == a1_1.toList) = true := beq_iff_eq.mpr c4; have c4b1 : (a0_1.toList != a1_1.toList) = false := bne_eq_false_iff_eq.mpr c4; clear c4; obtain ⟨t108, A50, H⟩ := Option.bind_eq_some_iff.mp H
   try dsimp only at H
   have A5 := Aside0.mk A50; clear A50
   by_cases c6 : t108 = true
   ·
    subst c6
    rw [if_pos rfl] at H
    obtain rfl := Option.some.inj H
    go_enter Tryz.func27, Tryz.ntmps27
    go_wp2_with (first | ((with_reducible refine gd 2 ?_); refine bA 2 #[.int .i64 a0_0, .string a0_1, .slice A0_2 l0_2.length c0_2] 33 ?_; intro gb106 hg w7 hbox hb; have BK106 := Aside0.mk (hbox); have GW106 := bg hg HB; have GJ106 := gi GW106; have GE106 := GW106; replace HB := bs HB hb; clear hb hbox hg) | ((with_reducible refine gd 3 ?_); refine bA 3 #[.int .i64 a1_0, .string a1_1, .slice A1_2 l1_2.length c1_2] 33 ?_; intro gb107 hg w8 hbox hb; have BK107 := Aside0.mk (hbox); have GW107 := bg hg HB; have GJ107 := gi GW107; have GE107 := GW107; replace HB := bs HB hb; have NB106_107 := b1 BK106 hg; have NI106_107 := ni NB106_107; have NB107_106 := b2 BK106 hg; have NI107_106 := ni NB107_106; replace BK106 := bk BK106 hb; clear hb hbox hg; have hnb9 := NB106_107.out; have hnc9 := NB107_106.out; obtain ⟨hcz10_0, hcz10_1, hcz10_2, hfz10_0, hfz10_1, hfz10_2⟩ := cs3 BK106; obtain ⟨hcz11_0, hcz11_1, hcz11_2, hfz11_0, hfz11_1, hfz11_2⟩ := cs3 BK107) | ((with_reducible refine gate_callee (f := 76) rfl ?_); refine gB (some 19) Tryz.func76 #[.slice A0_2 l0_2.length c0_2, .slice A1_2 l1_2.length c1_2] ?_; (with_reducible refine (laws_eqIntS.calls k _ _ l0_2 _ _ l1_2 true _ ?side1 ?side2 ?side3 ?side4 A5.out).mono ?_); (case side1 => exact ch HR0_2 HB); (case side2 => exact HC0_2.out); (case side3 => exact ch HR1_2 HB); (case side4 => exact HC1_2.out); rintro e w' ⟨rfl, ⟨nd, rfl⟩⟩; refine ⟨_, rfl, ?_⟩))
    go_ret
    exact ⟨y0_10, bI HB.out⟩
   replace c6 := Bool.eq_false_iff.mpr c6; subst c6
   rw [if_neg (show ¬ (false = true) by decide)] at H
   obtain rfl := Option.some.inj H
   go_enter Tryz.func27, Tryz.ntmps27
   go_wp2_with (first | ((with_reducible refine gd 2 ?_); refine bA 2 #[.int .i64 a0_0, .string a0_1, .slice A0_2 l0_2.length c0_2] 33 ?_; intro gb106 hg w12 hbox hb; have BK106 := Aside0.mk (hbox); have GW106 := bg hg HB; have GJ106 := gi GW106; have GE106 := GW106; replace HB := bs HB hb; clear hb hbox hg) | ((with_reducible refine gd 3 ?_); refine bA 3 #[.int .i64 a1_0, .string a1_1, .slice A1_2 l1_2.length c1_2] 33 ?_; intro gb107 hg w13 hbox hb; have BK107 := Aside0.mk (hbox); have GW107 := bg hg HB; have GJ107 := gi GW107; have GE107 := GW107; replace HB := bs HB hb; have NB106_107 := b1 BK106 hg; have NI106_107 := ni NB106_107; have NB107_106 := b2 BK106 hg; have NI107_106 := ni NB107_106; replace BK106 := bk BK106 hb; clear hb hbox hg; have hnb14 := NB106_107.out; have hnc14 := NB107_106.out; obtain ⟨hcz15_0, hcz15_1, hcz15_2, hfz15_0, hfz15_1, hfz15_2⟩ := cs3 BK106; obtain ⟨hcz16_0, hcz16_1, hcz16_2, hfz16_0, hfz16_1, hfz16_2⟩ := cs3 BK107) | ((with_reducible refine gate_callee (f := 76) rfl ?_); refine gB (some 19) Tryz.func76 #[.slice A0_2 l0_2.length c0_2, .slice A1_2 l1_2.length c1_2] ?_; (with_reducible refine (laws_eqIntS.calls k _ _ l0_2 _ _ l1_2 false _ ?side1 ?side2 ?side3 ?side4 A5.out).mono ?_); (case side1 => exact ch HR0_2 HB); (case side2 => exact HC0_2.out); (case side3 => exact ch HR1_2 HB); (case side4 => exact HC1_2.out); rintro e w' ⟨rfl, ⟨nd, rfl⟩⟩; refine ⟨_, rfl, ?_⟩))
   go_ret
   exact ⟨y0_10, bI HB.out⟩
  rw [if_neg c4] at H
  have c4b0 : (a0_1.toList == a1_1.toList) = false := beq_eq_false_iff_ne.mpr c4; have c4b1 : (a0_1.toList != a1_1.toList) = true := bne_iff_ne.mpr c4; obtain rfl := Option.some.inj H
  go_enter Tryz.func27, Tryz.ntmps27
  go_wp2_with (first | ((with_reducible refine gd 2 ?_); refine bA 2 #[.int .i64 a0_0, .string a0_1, .slice A0_2 l0_2.length c0_2] 33 ?_; intro gb106 hg w17 hbox hb; have BK106 := Aside0.mk (hbox); have GW106 := bg hg HB; have GJ106 := gi GW106; have GE106 := GW106; replace HB := bs HB hb; clear hb hbox hg) | ((with_reducible refine gd 3 ?_); refine bA 3 #[.int .i64 a1_0, .string a1_1, .slice A1_2 l1_2.length c1_2] 33 ?_; intro gb107 hg w18 hbox hb; have BK107 := Aside0.mk (hbox); have GW107 := bg hg HB; have GJ107 := gi GW107; have GE107 := GW107; replace HB := bs HB hb; have NB106_107 := b1 BK106 hg; have NI106_107 := ni NB106_107; have NB107_106 := b2 BK106 hg; have NI107_106 := ni NB107_106; replace BK106 := bk BK106 hb; clear hb hbox hg; have hnb19 := NB106_107.out; have hnc19 := NB107_106.out; obtain ⟨hcz20_0, hcz20_1, hcz20_2, hfz20_0, hfz20_1, hfz20_2⟩ := cs3 BK106; obtain ⟨hcz21_0, hcz21_1, hcz21_2, hfz21_0, hfz21_1, hfz21_2⟩ := cs3 BK107))
  go_ret
  exact ⟨y0_10, bI HB.out⟩
 rw [if_neg c3] at H
 have c3b0 : (a0_0 == a1_0) = false := beq_eq_false_iff_ne.mpr c3; have c3b1 : (a0_0 != a1_0) = true := bne_iff_ne.mpr c3; obtain rfl := Option.some.inj H
 go_enter Tryz.func27, Tryz.ntmps27
 go_wp2_with (first | ((with_reducible refine gd 2 ?_); refine bA 2 #[.int .i64 a0_0, .string a0_1, .slice A0_2 l0_2.length c0_2] 33 ?_; intro gb106 hg w22 hbox hb; have BK106 := Aside0.mk (hbox); have GW106 := bg hg HB; have GJ106 := gi GW106; have GE106 := GW106; replace HB := bs HB hb; clear hb hbox hg) | ((with_reducible refine gd 3 ?_); refine bA 3 #[.int .i64 a1_0, .string a1_1, .slice A1_2 l1_2.length c1_2] 33 ?_; intro gb107 hg w23 hbox hb; have BK107 := Aside0.mk (hbox); have GW107 := bg hg HB; have GJ107 := gi GW107; have GE107 := GW107; replace HB := bs HB hb; have NB106_107 := b1 BK106 hg; have NI106_107 := ni NB106_107; have NB107_106 := b2 BK106 hg; have NI107_106 := ni NB107_106; replace BK106 := bk BK106 hb; clear hb hbox hg; have hnb24 := NB106_107.out; have hnc24 := NB107_106.out; obtain ⟨hcz25_0, hcz25_1, hcz25_2, hfz25_0, hfz25_1, hfz25_2⟩ := cs3 BK106; obtain ⟨hcz26_0, hcz26_1, hcz26_2, hfz26_0, hfz26_1, hfz26_2⟩ := cs3 BK107))
 go_ret
 exact ⟨y0_10, bI HB.out⟩

/-! ### laws_eqBlock: function 19 -/
def laws_eqBlock.f (k : Nat) (a0_0 : ByteArray) (a0_1 : Int) (a0_2 : ByteArray) (l0_3 : List Int) (a1_0 : ByteArray) (a1_1 : Int) (a1_2 : ByteArray) (l1_3 : List Int) : Option (Bool) := if a0_0.toList = a1_0.toList then ((laws_eqQc.f k a0_1 a0_2 l0_3 a1_1 a1_2 l1_3).bind fun t111 => (if t111 = true then (some true) else (some false))) else (some false)
theorem laws_eqBlock.mono : ∀ a0 a1 a2 a3 a4 a5 a6 a7 k, LeO (laws_eqBlock.f k a0 a1 a2 a3 a4 a5 a6 a7) (laws_eqBlock.f (k + 1) a0 a1 a2 a3 a4 a5 a6 a7) := by
 intro a0 a1 a2 a3 a4 a5 a6 a7 k
 unfold laws_eqBlock.f
 repeat' first | (with_reducible exact laws_eqQc.mono _ _ _ _ _ _ _) | (with_reducible exact LeO.refl _) | (with_reducible exact LeO.none _) | (with_reducible refine LeO.ite ?_ ?_) | (with_reducible refine LeO.bind ?_ (fun _ => ?_))
set_option maxHeartbeats 8000000 in
set_option maxRecDepth 100000 in
theorem laws_eqBlock.calls (k : Nat) (a0_0 : ByteArray) (a0_1 : Int) (a0_2 : ByteArray) (A0_3 : Option Addr) (c0_3 : Nat) (l0_3 : List Int) (a1_0 : ByteArray) (a1_1 : Int) (a1_2 : ByteArray) (A1_3 : Option Addr) (c1_3 : Nat) (l1_3 : List Int) (r : Bool) (w : World) (hr0_3 : Kd.C (Kd.int .i64) w A0_3 l0_3.length l0_3) (hc0_3 : l0_3.length ≤ c0_3) (hr1_3 : Kd.C (Kd.int .i64) w A1_3 l1_3.length l1_3) (hc1_3 : l1_3.length ≤ c1_3) (h : laws_eqBlock.f k a0_0 a0_1 a0_2 l0_3 a1_0 a1_1 a1_2 l1_3 = some r) :
  Calls Tryz.prog 19 #[.agg #[.string a0_0, .int .i64 a0_1, .string a0_2, .slice A0_3 l0_3.length c0_3], .agg #[.string a1_0, .int .i64 a1_1, .string a1_2, .slice A1_3 l1_3.length c1_3]] w fun e w' => e = .returned (.bool r) ∧ Below w.heap.size w w' := by
 have hu42 := Tryz.underlying42; have hu33 := Tryz.underlying33; have HR0_3 := Aside0.mk hr0_3; have HC0_3 := Aside0.mk hc0_3; clear hr0_3 hc0_3; have HR1_3 := Aside0.mk hr1_3; have HC1_3 := Aside0.mk hc1_3; clear hr1_3 hc1_3; have HB := Aside0.mk (Below.refl w.heap.size w)
 have H : (if a0_0.toList = a1_0.toList then ((laws_eqQc.f k a0_1 a0_2 l0_3 a1_1 a1_2 l1_3).bind fun t111 => (if t111 = true then (some true) else (some false))) else (some false)) = some r := h
 clear h
 by_cases c3 : a0_0.toList = a1_0.toList
 ·
  rw [if_pos c3] at H
  have c3b0 : (a0_0.toList == a1_0.toList) = true := beq_iff_eq.mpr c3; have c3b1 : (a0_0.toList != a1_0.toList) = false := bne_eq_false_iff_eq.mpr c3; clear c3; obtain ⟨t111, A40, H⟩ := Option.bind_eq_some_iff.mp H
  try dsimp only at H
  have A4 := Aside0.mk A40; clear A40
  by_cases c5 : t111 = true
  ·
   subst c5
   rw [if_pos rfl] at H
   obtain rfl := Option.some.inj H
   go_enter Tryz.func19, Tryz.ntmps19
   go_wp2_with (first | ((with_reducible refine gd 2 ?_); refine bA 2 #[.string a0_0, .int .i64 a0_1, .string a0_2, .slice A0_3 l0_3.length c0_3] 42 ?_; intro gb109 hg w6 hbox hb; have BK109 := Aside0.mk (hbox); have GW109 := bg hg HB; have GJ109 := gi GW109; have GE109 := GW109; replace HB := bs HB hb; clear hb hbox hg) | ((with_reducible refine gd 3 ?_); refine bA 3 #[.string a1_0, .int .i64 a1_1, .string a1_2, .slice A1_3 l1_3.length c1_3] 42 ?_; intro gb110 hg w7 hbox hb; have BK110 := Aside0.mk (hbox); have GW110 := bg hg HB; have GJ110 := gi GW110; have GE110 := GW110; replace HB := bs HB hb; have NB109_110 := b1 BK109 hg; have NI109_110 := ni NB109_110; have NB110_109 := b2 BK109 hg; have NI110_109 := ni NB110_109; replace BK109 := bk BK109 hb; clear hb hbox hg; have hnb8 := NB109_110.out; have hnc8 := NB110_109.out; obtain ⟨hcz9_0, hcz9_1, hcz9_2, hcz9_3, hfz9_0, hfz9_1, hfz9_2, hfz9_3⟩ := cs4 BK109; obtain ⟨hcz10_0, hcz10_1, hcz10_2, hcz10_3, hfz10_0, hfz10_1, hfz10_2, hfz10_3⟩ := cs4 BK110) | ((with_reducible refine gate_callee (f := 27) rfl ?_); refine gB (some 14) Tryz.func27 #[.agg #[.int .i64 a0_1, .string a0_2, .slice A0_3 l0_3.length c0_3], .agg #[.int .i64 a1_1, .string a1_2, .slice A1_3 l1_3.length c1_3]] ?_; (with_reducible refine (laws_eqQc.calls k a0_1 a0_2 _ _ l0_3 a1_1 a1_2 _ _ l1_3 true _ ?side1 ?side2 ?side3 ?side4 A4.out).mono ?_); (case side1 => exact ch HR0_3 HB); (case side2 => exact HC0_3.out); (case side3 => exact ch HR1_3 HB); (case side4 => exact HC1_3.out); rintro e w11 ⟨rfl, hb⟩; refine ⟨_, rfl, ?_⟩; replace BK109 := bk BK109 hb; replace BK110 := bk BK110 hb; replace HB := bs HB hb; (try clear hb); (try clear hb2); (try clear hk); (try clear hi)))
   go_ret
   exact ⟨y0_10, bI HB.out⟩
  replace c5 := Bool.eq_false_iff.mpr c5; subst c5
  rw [if_neg (show ¬ (false = true) by decide)] at H
  obtain rfl := Option.some.inj H
  go_enter Tryz.func19, Tryz.ntmps19
  go_wp2_with (first | ((with_reducible refine gd 2 ?_); refine bA 2 #[.string a0_0, .int .i64 a0_1, .string a0_2, .slice A0_3 l0_3.length c0_3] 42 ?_; intro gb109 hg w12 hbox hb; have BK109 := Aside0.mk (hbox); have GW109 := bg hg HB; have GJ109 := gi GW109; have GE109 := GW109; replace HB := bs HB hb; clear hb hbox hg) | ((with_reducible refine gd 3 ?_); refine bA 3 #[.string a1_0, .int .i64 a1_1, .string a1_2, .slice A1_3 l1_3.length c1_3] 42 ?_; intro gb110 hg w13 hbox hb; have BK110 := Aside0.mk (hbox); have GW110 := bg hg HB; have GJ110 := gi GW110; have GE110 := GW110; replace HB := bs HB hb; have NB109_110 := b1 BK109 hg; have NI109_110 := ni NB109_110; have NB110_109 := b2 BK109 hg; have NI110_109 := ni NB110_109; replace BK109 := bk BK109 hb; clear hb hbox hg; have hnb14 := NB109_110.out; have hnc14 := NB110_109.out; obtain ⟨hcz15_0, hcz15_1, hcz15_2, hcz15_3, hfz15_0, hfz15_1, hfz15_2, hfz15_3⟩ := cs4 BK109; obtain ⟨hcz16_0, hcz16_1, hcz16_2, hcz16_3, hfz16_0, hfz16_1, hfz16_2, hfz16_3⟩ := cs4 BK110) | ((with_reducible refine gate_callee (f := 27) rfl ?_); refine gB (some 14) Tryz.func27 #[.agg #[.int .i64 a0_1, .string a0_2, .slice A0_3 l0_3.length c0_3], .agg #[.int .i64 a1_1, .string a1_2, .slice A1_3 l1_3.length c1_3]] ?_; (with_reducible refine (laws_eqQc.calls k a0_1 a0_2 _ _ l0_3 a1_1 a1_2 _ _ l1_3 false _ ?side1 ?side2 ?side3 ?side4 A4.out).mono ?_); (case side1 => exact ch HR0_3 HB); (case side2 => exact HC0_3.out); (case side3 => exact ch HR1_3 HB); (case side4 => exact HC1_3.out); rintro e w17 ⟨rfl, hb⟩; refine ⟨_, rfl, ?_⟩; replace BK109 := bk BK109 hb; replace BK110 := bk BK110 hb; replace HB := bs HB hb; (try clear hb); (try clear hb2); (try clear hk); (try clear hi)))
  go_ret
  exact ⟨y0_10, bI HB.out⟩
 rw [if_neg c3] at H
 have c3b0 : (a0_0.toList == a1_0.toList) = false := beq_eq_false_iff_ne.mpr c3; have c3b1 : (a0_0.toList != a1_0.toList) = true := bne_iff_ne.mpr c3; obtain rfl := Option.some.inj H
 go_enter Tryz.func19, Tryz.ntmps19
 go_wp2_with (first | ((with_reducible refine gd 2 ?_); refine bA 2 #[.string a0_0, .int .i64 a0_1, .string a0_2, .slice A0_3 l0_3.length c0_3] 42 ?_; intro gb109 hg w18 hbox hb; have BK109 := Aside0.mk (hbox); have GW109 := bg hg HB; have GJ109 := gi GW109; have GE109 := GW109; replace HB := bs HB hb; clear hb hbox hg) | ((with_reducible refine gd 3 ?_); refine bA 3 #[.string a1_0, .int .i64 a1_1, .string a1_2, .slice A1_3 l1_3.length c1_3] 42 ?_; intro gb110 hg w19 hbox hb; have BK110 := Aside0.mk (hbox); have GW110 := bg hg HB; have GJ110 := gi GW110; have GE110 := GW110; replace HB := bs HB hb; have NB109_110 := b1 BK109 hg; have NI109_110 := ni NB109_110; have NB110_109 := b2 BK109 hg; have NI110_109 := ni NB110_109; replace BK109 := bk BK109 hb; clear hb hbox hg; have hnb20 := NB109_110.out; have hnc20 := NB110_109.out; obtain ⟨hcz21_0, hcz21_1, hcz21_2, hcz21_3, hfz21_0, hfz21_1, hfz21_2, hfz21_3⟩ := cs4 BK109; obtain ⟨hcz22_0, hcz22_1, hcz22_2, hcz22_3, hfz22_0, hfz22_1, hfz22_2, hfz22_3⟩ := cs4 BK110))
 go_ret
 exact ⟨y0_10, bI HB.out⟩

/-! ### laws_markIntS: function 77 -/
def laws_markIntS.l0 : Nat → List Int → Int → Int → Option (Int × List Int)
 | 0, _, _, _ => none
 | k + 1, x0, x1, x5 => if x5 < (x0.length : Int) then (if 0 ≤ x5 then (laws_markIntS.l0 k (x0.set (x5 : Int).toNat x1) (wrap64 (x1 + 1)) (wrap64 (x5 + 1))) else (none)) else (some (x1, x0))
def laws_markIntS.f (k : Nat) (l0 : List Int) (a1 : Int) : Option (Int × List Int) := laws_markIntS.l0 k l0 a1 0
theorem laws_markIntS.mono_l : ∀ k, (∀ y0 y1 y2, LeO (laws_markIntS.l0 k y0 y1 y2) (laws_markIntS.l0 (k + 1) y0 y1 y2))
 | 0 => fun _ _ _ r h => by simp [laws_markIntS.l0] at h
 | k + 1 => by
  have ih0 := laws_markIntS.mono_l k
  intro y0 y1 y2
  unfold laws_markIntS.l0
  repeat' first | (with_reducible exact ih0 _ _ _) | (with_reducible exact LeO.refl _) | (with_reducible exact LeO.none _) | (with_reducible refine LeO.ite ?_ ?_) | (with_reducible refine LeO.bind ?_ (fun _ => ?_))
theorem laws_markIntS.mono : ∀ a0 a1 k, LeO (laws_markIntS.f k a0 a1) (laws_markIntS.f (k + 1) a0 a1) := by
 intro a0 a1 k
 have ih0 := laws_markIntS.mono_l k
 unfold laws_markIntS.f
 repeat' first | (with_reducible exact ih0 _ _ _) | (with_reducible exact LeO.refl _) | (with_reducible exact LeO.none _) | (with_reducible refine LeO.ite ?_ ?_) | (with_reducible refine LeO.bind ?_ (fun _ => ?_))
set_option maxHeartbeats 8000000 in
set_option maxRecDepth 100000 in
theorem laws_markIntS.calls (k : Nat) (P0_ : Nat → Prop) (u9000_ : Value) (l0 : List Int) (a1 : Int) (r1 : Int) (r2 : List Int) (w0 w : World) (hB : Below w0.heap.size w0 w) (ho0 : Kd.R (Kd.int .i64) 3 w w0.heap.size P0_ u9000_ l0) (h : laws_markIntS.f k l0 a1 = some (r1, r2)) :
  Calls Tryz.prog 77 #[u9000_, .int .i64 a1] w fun e w' => e = .returned (.int .i64 r1) ∧ Kd.R (Kd.int .i64) 3 w' w0.heap.size (fun k_ => (P0_ k_ ∨ w.heap.size ≤ k_)) u9000_ r2 ∧ Below w0.heap.size w0 w' ∧ Kept w w' (fun k_ => P0_ k_) := by
 have HO0 := Aside0.mk (show Kd.R (Kd.int .i64) 3 w w0.heap.size (fun k_ => (P0_ k_ ∨ w.heap.size ≤ k_)) u9000_ l0 from Kd.R_mono ho0 (fun k_ hk => (.inl hk)))
 have HK := Aside0.mk (Kept.refl w (fun k_ => P0_ k_))
 have HW0 := Aside0.mk hB.size; have HB := Aside0.mk hB; clear hB; have H : (laws_markIntS.l0 k l0 a1 0) = some (r1, r2) := h; clear h; have H' := Aside0.mk H; clear H
 go_enter Tryz.func77, Tryz.ntmps77
 go_wp2
 go_loopg [1, 5] k (fun kq v1 v5 w' => ∃ (x0_1 : List Int) (x1_1 : Int) (x5_1 : Int), v1 = .int .i64 x1_1 ∧ v5 = .int .i64 x5_1 ∧ Aside0 (laws_markIntS.l0 kq x0_1 x1_1 x5_1 = some (r1, r2)) ∧ Aside0 (kq ≤ k) ∧ Aside0 (Kd.R (Kd.int .i64) 3 w' w0.heap.size (fun k_ => (P0_ k_ ∨ w.heap.size ≤ k_)) u9000_ x0_1) ∧ Aside0 (Kept w w' (fun k_ => P0_ k_)) ∧ Aside0 (Below w0.heap.size w0 w'))
 case atStart => exact ⟨(l0), (a1), (0), y0_13, y0_13, H', ⟨Nat.le_refl _⟩, ⟨by (with_reducible repeat (first | apply Kd.R_alloc | apply Kd.R_drewN | apply Kd.R_drew)); exact HO0.out⟩, ⟨y0_5⟩, ⟨bI HB.out⟩⟩
 case round =>
  clear H'
  try clear p2
  obtain ⟨x0_1, x1_1, x5_1, rfl, rfl, HA, HK1, HO_0, HK, HB⟩ := hrel; cases gk with
  | zero => exact absurd HA.out (by simp [laws_markIntS.l0])
  | succ k1 =>
   have H := HA.out; clear HA
   simp only [laws_markIntS.l0] at H
   by_cases c3 : x5_1 < (x0_1.length : Int)
   ·
    rw [if_pos c3] at H
    have c3b0 : decide (x5_1 < (x0_1.length : Int)) = true := decide_eq_true c3; clear c3
    by_cases c4 : 0 ≤ x5_1
    rotate_left
    ·
     rw [if_neg c4] at H
     exact absurd H (by simp)
    rw [if_pos c4] at H
    have c4b0 : decide (0 ≤ x5_1) = true := decide_eq_true c4; clear c4; obtain ⟨y112, hy112⟩ : ∃ y_ : List Int, y_ = (x0_1.set (x5_1 : Int).toNat x1_1) := ⟨_, rfl⟩
    replace H : (laws_markIntS.l0 k1 y112 (wrap64 (x1_1 + 1)) (wrap64 (x5_1 + 1))) = some (r1, r2) := by first | (rw [hy112]; with_reducible exact H) | (have H2_ := (Option.bind_some _ _).symm.trans H; rw [hy112]; with_reducible exact H2_) | (have H2_ := (Option.bind_some _ _).symm.trans H; with_reducible exact H2_) | with_reducible exact H | (rw [hy112]; exact H) | exact H
    have Ny112 := Aside0.mk hy112; clear hy112; have H' := Aside0.mk H; clear H; obtain ⟨Ao6, co6, eo6⟩ := Kd.R_slice HO_0.out; subst eo6; have p5 : 0 ≤ (x5_1 : Int) := of_decide_eq_true y0_12; have q5 : (x5_1 : Int) < ((x0_1.length : Int) : Int) := of_decide_eq_true y0_12
    obtain ⟨go5, co5, eo5, gb5, gl5, cl5, HG5⟩ := Kd.R_form HO_0.out (by omega)
    (first | cases eo5 | (injection eo5 with ea_ en_ ec_; (first | subst ea_ | (injection ea_ with ea_; subst ea_)); subst ec_; clear en_))
    have GB5 := Aside0.mk gb5; have GG5 := Aside0.mk HG5; clear gb5 gl5 HG5
    have HMgo5 := Aside0.mk (show (P0_ go5 ∨ w.heap.size ≤ go5) from (HO_0.out.1 _ rfl))
    obtain ⟨hx5_0, hf5_0⟩ := Kd.R_celln 0 HO_0.out (x5_1 : Int) p5 q5; replace p5 := eq_true p5; replace q5 := eq_true q5; have HP7 := Kd.R_putg HO_0.out (x5_1 : Int) x1_1
    go_wp2_with (first | ((with_reducible refine gate_store (t := 3) (p := 15) rfl ?_); refine store_event (t := 3) (p := 15) (v := ?vo_w8) (w1 := (wr.setCell ⟨go5, (x5_1 : Int).toNat, none⟩ (.int .i64 x1_1))) ?hg ?ho ?hn ?hr ?_; (case ho => rfl); (case hg => rfl); (case hn => rfl); (case hr => first | (go_simp; done) | (go_simp; rfl)); intro w8 hw; have hg : wr.grownBy w8 (some go5) := (by rw [hw]; exact HP7.2); have hp_ : Kd.R (Kd.int .i64) 3 w8 w0.heap.size (fun k_ => (P0_ k_ ∨ w.heap.size ≤ k_)) (.slice (some ⟨go5, 0, none⟩) x0_1.length co6) y112 := (by rw [hw, Ny112.out]; exact HP7.1); clear HP7; replace HB := Aside0.mk ((y0_14 : Below w0.heap.size w0 w8)); replace HK := Aside0.mk (Kept.of_grown (S := (fun k_ => P0_ k_)) hg y0_5 (fun k_ e_ => (HO_0.out.1 k_ e_))); replace HO_0 := Aside0.mk (hp_); clear hg hw hp_))
    go_roundg k1
    case measure => have := HK1.out; omega
    case rel => exact ⟨(y112), (wrap64 (x1_1 + 1)), (wrap64 (x5_1 + 1)), y0_13, y0_13, H', ⟨y0_18⟩, ⟨y0_6⟩, ⟨y0_5⟩, ⟨bI HB.out⟩⟩
   rw [if_neg c3] at H
   have c3b0 : decide (x5_1 < (x0_1.length : Int)) = false := decide_eq_false c3; clear c3
   simp only [Option.some.injEq, Prod.mk.injEq] at H
   obtain ⟨rfl, rfl⟩ := H; obtain ⟨Ao9, co9, eo9⟩ := Kd.R_slice HO_0.out; subst eo9
   go_wp2
   go_ret
   exact ⟨y0_10, y0_6, bI HB.out, y0_5⟩

/-! ### laws_markQc: function 28 -/
def laws_markQc.f (k : Nat) (a0_0 : Int) (a0_1 : ByteArray) (l0_2 : List Int) (a1 : Int) : Option (Int × List Int) := (laws_markIntS.f k l0_2 a1).bind fun bt114 => (some (bt114.1, bt114.2))
theorem laws_markQc.mono : ∀ a0 a1 a2 a3 k, LeO (laws_markQc.f k a0 a1 a2 a3) (laws_markQc.f (k + 1) a0 a1 a2 a3) := by
 intro a0 a1 a2 a3 k
 unfold laws_markQc.f
 repeat' first | (with_reducible exact laws_markIntS.mono _ _ _) | (with_reducible exact LeO.refl _) | (with_reducible exact LeO.none _) | (with_reducible refine LeO.ite ?_ ?_) | (with_reducible refine LeO.bind ?_ (fun _ => ?_))
set_option maxHeartbeats 8000000 in
set_option maxRecDepth 100000 in
theorem laws_markQc.calls (k : Nat) (a0_0 : Int) (a0_1 : ByteArray) (P0_2_ : Nat → Prop) (u9000_ : Value) (l0_2 : List Int) (a1 : Int) (r1 : Int) (r2 : List Int) (w0 w : World) (hB : Below w0.heap.size w0 w) (ho0_2 : Kd.R (Kd.int .i64) 3 w w0.heap.size P0_2_ u9000_ l0_2) (h : laws_markQc.f k a0_0 a0_1 l0_2 a1 = some (r1, r2)) :
  Calls Tryz.prog 28 #[.agg #[.int .i64 a0_0, .string a0_1, u9000_], .int .i64 a1] w fun e w' => e = .returned (.int .i64 r1) ∧ Kd.R (Kd.int .i64) 3 w' w0.heap.size (fun k_ => (P0_2_ k_ ∨ w.heap.size ≤ k_)) u9000_ r2 ∧ Below w0.heap.size w0 w' ∧ Kept w w' (fun k_ => P0_2_ k_) := by
 have hu33 := Tryz.underlying33
 have HO0_2 := Aside0.mk (show Kd.R (Kd.int .i64) 3 w w0.heap.size (fun k_ => (P0_2_ k_ ∨ w.heap.size ≤ k_)) u9000_ l0_2 from Kd.R_mono ho0_2 (fun k_ hk => (.inl hk)))
 have HK := Aside0.mk (Kept.refl w (fun k_ => P0_2_ k_))
 have HW0 := Aside0.mk hB.size; have HB := Aside0.mk hB; clear hB
 have H : ((laws_markIntS.f k l0_2 a1).bind fun bt114 => (some (bt114.1, bt114.2))) = some (r1, r2) := h
 clear h; obtain ⟨⟨t114, t115⟩, A30, H⟩ := Option.bind_eq_some_iff.mp H
 try dsimp only at H
 have A3 := Aside0.mk A30; clear A30
 simp only [Option.some.injEq, Prod.mk.injEq] at H
 obtain ⟨rfl, rfl⟩ := H; obtain ⟨Ao4, co4, eo4⟩ := Kd.R_slice HO0_2.out; subst eo4
 go_enter Tryz.func28, Tryz.ntmps28
 go_wp2_with (first | ((with_reducible refine gd 2 ?_); refine bA 2 #[.int .i64 a0_0, .string a0_1, .slice Ao4 l0_2.length co4] 33 ?_; intro gb113 hg w5 hbox hb; replace HO0_2 := rb HO0_2 hb; have BK113 := Aside0.mk (hbox); have GW113 := Aside0.mk ((by rw [hg]; exact (by first | exact HK.out.1 | exact (show Kept w _ (fun k_ => P0_2_ k_) from y0_5).1) : w.heap.size ≤ gb113)); have GJ113 := gi GW113; replace HK := Aside0.mk (Kept.below (S := (fun k_ => P0_2_ k_)) y0_5 hb); have GE113 := bg hg HB; have GI113 := gi GE113; replace HB := bs HB hb; clear hb hbox hg; obtain ⟨hcz6_0, hcz6_1, hcz6_2, hfz6_0, hfz6_1, hfz6_2⟩ := cs3 BK113) | ((with_reducible refine gate_callee (f := 77) rfl ?_); refine gB (some 8) Tryz.func77 #[.slice Ao4 l0_2.length co4, .int .i64 a1] ?_; (with_reducible refine (laws_markIntS.calls k (fun k_ => some k_ = (.slice Ao4 l0_2.length co4 : Value).ownBlock) (.slice Ao4 l0_2.length co4) l0_2 a1 t114 t115 w0 _ ?side1 ?side2 A3.out).mono ?_); (case side1 => exact bI HB.out); (case side2 => exact Kd.R_tight rfl HO0_2.out); rintro e w7 ⟨rfl, hy0, hb, hkp⟩; refine ⟨_, rfl, ?_⟩; replace BK113 := Aside0.mk (blk_kept (kI BK113.out) hkp (fun hs_ => (fun e_ => (Kd.R_ne HO0_2.out BK113.out (by decide)) e_) hs_)); replace HK := Aside0.mk (Kept.then_ (S := (fun k_ => P0_2_ k_)) (by repeat (first | (with_reducible first | exact HK.out | apply Kept.alloc | apply Kept.drewN | apply Kept.drew | refine Kept.setCell ?_ (.inr GW113.out) _) | exact HK.out)) hkp (fun k_ hs_ => (fun e_ => (HO0_2.out.1 k_ e_.symm)) hs_)); replace HO0_2 := Aside0.mk (Kd.R_reok rfl hy0 (fun k_ e_ => HO0_2.out.1 k_ e_)); replace HB := Aside0.mk (hb); (try clear hb); (try clear hkp); (try clear hy0)))
 go_ret
 exact ⟨y0_10, by (with_reducible repeat (first | apply Kd.R_alloc | apply Kd.R_drewN | apply Kd.R_drew)); exact HO0_2.out, bI HB.out, by repeat (first | (with_reducible first | exact HK.out | apply Kept.alloc | apply Kept.drewN | apply Kept.drew | refine Kept.setCell ?_ (.inr GW113.out) _) | exact HK.out)⟩

/-! ### laws_markBlock: function 21 -/
def laws_markBlock.f (k : Nat) (a0_0 : ByteArray) (a0_1 : Int) (a0_2 : ByteArray) (l0_3 : List Int) (a1 : Int) : Option (Int × List Int) := (laws_markQc.f k a0_1 a0_2 l0_3 a1).bind fun bt117 => (some (bt117.1, bt117.2))
theorem laws_markBlock.mono : ∀ a0 a1 a2 a3 a4 k, LeO (laws_markBlock.f k a0 a1 a2 a3 a4) (laws_markBlock.f (k + 1) a0 a1 a2 a3 a4) := by
 intro a0 a1 a2 a3 a4 k
 unfold laws_markBlock.f
 repeat' first | (with_reducible exact laws_markQc.mono _ _ _ _ _) | (with_reducible exact LeO.refl _) | (with_reducible exact LeO.none _) | (with_reducible refine LeO.ite ?_ ?_) | (with_reducible refine LeO.bind ?_ (fun _ => ?_))
set_option maxHeartbeats 8000000 in
set_option maxRecDepth 100000 in
theorem laws_markBlock.calls (k : Nat) (a0_0 : ByteArray) (a0_1 : Int) (a0_2 : ByteArray) (P0_3_ : Nat → Prop) (u9000_ : Value) (l0_3 : List Int) (a1 : Int) (r1 : Int) (r2 : List Int) (w0 w : World) (hB : Below w0.heap.size w0 w) (ho0_3 : Kd.R (Kd.int .i64) 3 w w0.heap.size P0_3_ u9000_ l0_3) (h : laws_markBlock.f k a0_0 a0_1 a0_2 l0_3 a1 = some (r1, r2)) :
  Calls Tryz.prog 21 #[.agg #[.string a0_0, .int .i64 a0_1, .string a0_2, u9000_], .int .i64 a1] w fun e w' => e = .returned (.int .i64 r1) ∧ Kd.R (Kd.int .i64) 3 w' w0.heap.size (fun k_ => (P0_3_ k_ ∨ w.heap.size ≤ k_)) u9000_ r2 ∧ Below w0.heap.size w0 w' ∧ Kept w w' (fun k_ => P0_3_ k_) := by
 have hu42 := Tryz.underlying42; have hu33 := Tryz.underlying33
 have HO0_3 := Aside0.mk (show Kd.R (Kd.int .i64) 3 w w0.heap.size (fun k_ => (P0_3_ k_ ∨ w.heap.size ≤ k_)) u9000_ l0_3 from Kd.R_mono ho0_3 (fun k_ hk => (.inl hk)))
 have HK := Aside0.mk (Kept.refl w (fun k_ => P0_3_ k_))
 have HW0 := Aside0.mk hB.size; have HB := Aside0.mk hB; clear hB
 have H : ((laws_markQc.f k a0_1 a0_2 l0_3 a1).bind fun bt117 => (some (bt117.1, bt117.2))) = some (r1, r2) := h
 clear h; obtain ⟨⟨t117, t118⟩, A30, H⟩ := Option.bind_eq_some_iff.mp H
 try dsimp only at H
 have A3 := Aside0.mk A30; clear A30
 simp only [Option.some.injEq, Prod.mk.injEq] at H
 obtain ⟨rfl, rfl⟩ := H; obtain ⟨Ao4, co4, eo4⟩ := Kd.R_slice HO0_3.out; subst eo4
 go_enter Tryz.func21, Tryz.ntmps21
 go_wp2_with (first | ((with_reducible refine gd 2 ?_); refine bA 2 #[.string a0_0, .int .i64 a0_1, .string a0_2, .slice Ao4 l0_3.length co4] 42 ?_; intro gb116 hg w5 hbox hb; replace HO0_3 := rb HO0_3 hb; have BK116 := Aside0.mk (hbox); have GW116 := Aside0.mk ((by rw [hg]; exact (by first | exact HK.out.1 | exact (show Kept w _ (fun k_ => P0_3_ k_) from y0_5).1) : w.heap.size ≤ gb116)); have GJ116 := gi GW116; replace HK := Aside0.mk (Kept.below (S := (fun k_ => P0_3_ k_)) y0_5 hb); have GE116 := bg hg HB; have GI116 := gi GE116; replace HB := bs HB hb; clear hb hbox hg; obtain ⟨hcz6_0, hcz6_1, hcz6_2, hcz6_3, hfz6_0, hfz6_1, hfz6_2, hfz6_3⟩ := cs4 BK116) | ((with_reducible refine gate_callee (f := 28) rfl ?_); refine gB (some 8) Tryz.func28 #[.agg #[.int .i64 a0_1, .string a0_2, .slice Ao4 l0_3.length co4], .int .i64 a1] ?_; (with_reducible refine (laws_markQc.calls k a0_1 a0_2 (fun k_ => some k_ = (.slice Ao4 l0_3.length co4 : Value).ownBlock) (.slice Ao4 l0_3.length co4) l0_3 a1 t117 t118 w0 _ ?side1 ?side2 A3.out).mono ?_); (case side1 => exact bI HB.out); (case side2 => exact Kd.R_tight rfl HO0_3.out); rintro e w7 ⟨rfl, hy0, hb, hkp⟩; refine ⟨_, rfl, ?_⟩; replace BK116 := Aside0.mk (blk_kept (kI BK116.out) hkp (fun hs_ => (fun e_ => (Kd.R_ne HO0_3.out BK116.out (by decide)) e_) hs_)); replace HK := Aside0.mk (Kept.then_ (S := (fun k_ => P0_3_ k_)) (by repeat (first | (with_reducible first | exact HK.out | apply Kept.alloc | apply Kept.drewN | apply Kept.drew | refine Kept.setCell ?_ (.inr GW116.out) _) | exact HK.out)) hkp (fun k_ hs_ => (fun e_ => (HO0_3.out.1 k_ e_.symm)) hs_)); replace HO0_3 := Aside0.mk (Kd.R_reok rfl hy0 (fun k_ e_ => HO0_3.out.1 k_ e_)); replace HB := Aside0.mk (hb); (try clear hb); (try clear hkp); (try clear hy0)))
 go_ret
 exact ⟨y0_10, by (with_reducible repeat (first | apply Kd.R_alloc | apply Kd.R_drewN | apply Kd.R_drew)); exact HO0_3.out, bI HB.out, by repeat (first | (with_reducible first | exact HK.out | apply Kept.alloc | apply Kept.drewN | apply Kept.drew | refine Kept.setCell ?_ (.inr GW116.out) _) | exact HK.out)⟩

/-! ### laws_szIntS: function 65 -/
def laws_szIntS.f (l0 : List Int) (a1 : Int) : Option (Int) := if (wrap64 (a1 - (l0.length : Int))) < 0 then (some (-1)) else (some (wrap64 (a1 - (l0.length : Int))))
set_option maxHeartbeats 8000000 in
set_option maxRecDepth 100000 in
theorem laws_szIntS.calls (A0 : Option Addr) (c0 : Nat) (l0 : List Int) (a1 : Int) (r : Int) (w : World) (hr0 : Kd.C (Kd.int .i64) w A0 l0.length l0) (hc0 : l0.length ≤ c0) (h : laws_szIntS.f l0 a1 = some r) :
  Calls Tryz.prog 65 #[.slice A0 l0.length c0, .int .i64 a1] w fun e w' => e = .returned (.int .i64 r) ∧ Drawn0 w w' := by
 have HR0 := Aside0.mk hr0; have HC0 := Aside0.mk hc0; clear hr0 hc0; have H : (if (wrap64 (a1 - (l0.length : Int))) < 0 then (some (-1)) else (some (wrap64 (a1 - (l0.length : Int))))) = some r := h; clear h
 by_cases c3 : (wrap64 (a1 - (l0.length : Int))) < 0
 ·
  rw [if_pos c3] at H
  have c3b0 : decide ((wrap64 (a1 - (l0.length : Int))) < 0) = true := decide_eq_true c3; clear c3; obtain rfl := Option.some.inj H
  go_enter Tryz.func65, Tryz.ntmps65
  go_wp2
  go_ret
  exact ⟨y0_13, y0_11⟩
 rw [if_neg c3] at H
 have c3b0 : decide ((wrap64 (a1 - (l0.length : Int))) < 0) = false := decide_eq_false c3; clear c3; obtain rfl := Option.some.inj H
 go_enter Tryz.func65, Tryz.ntmps65
 go_wp2
 go_ret
 exact ⟨y0_13, y0_11⟩

/-! ### laws_szQc: function 23 -/
def laws_szQc.f (a0_0 : Int) (a0_1 : ByteArray) (l0_2 : List Int) (a1 : Int) : Option (Int) := if (wrap64 (a1 - (a0_1.size : Int))) < 0 then (some (-1)) else ((laws_szIntS.f l0_2 (wrap64 (a1 - (a0_1.size : Int)))).bind fun t120 => (if t120 < 0 then (some (-1)) else (some t120)))
set_option maxHeartbeats 8000000 in
set_option maxRecDepth 100000 in
theorem laws_szQc.calls (a0_0 : Int) (a0_1 : ByteArray) (A0_2 : Option Addr) (c0_2 : Nat) (l0_2 : List Int) (a1 : Int) (r : Int) (w : World) (hr0_2 : Kd.C (Kd.int .i64) w A0_2 l0_2.length l0_2) (hc0_2 : l0_2.length ≤ c0_2) (h : laws_szQc.f a0_0 a0_1 l0_2 a1 = some r) :
  Calls Tryz.prog 23 #[.agg #[.int .i64 a0_0, .string a0_1, .slice A0_2 l0_2.length c0_2], .int .i64 a1] w fun e w' => e = .returned (.int .i64 r) ∧ Below w.heap.size w w' := by
 have hu26 := Tryz.underlying26; have HR0_2 := Aside0.mk hr0_2; have HC0_2 := Aside0.mk hc0_2; clear hr0_2 hc0_2; have HB := Aside0.mk (Below.refl w.heap.size w)
 have H : (if (wrap64 (a1 - (a0_1.size : Int))) < 0 then (some (-1)) else ((laws_szIntS.f l0_2 (wrap64 (a1 - (a0_1.size : Int)))).bind fun t120 => (if t120 < 0 then (some (-1)) else (some t120)))) = some r := h
 clear h
 by_cases c3 : (wrap64 (a1 - (a0_1.size : Int))) < 0
 ·
  rw [if_pos c3] at H
  have c3b0 : decide ((wrap64 (a1 - (a0_1.size : Int))) < 0) = true := decide_eq_true c3; clear c3; obtain rfl := Option.some.inj H
  go_enter Tryz.func23, Tryz.ntmps23
  go_wp2_with (first | ((with_reducible refine gd 2 ?_); refine bA 2 #[.int .i64 a0_0, .string a0_1, .slice A0_2 l0_2.length c0_2] 26 ?_; intro gb119 hg w4 hbox hb; have BK119 := Aside0.mk (hbox); have GW119 := bg hg HB; have GJ119 := gi GW119; have GE119 := GW119; replace HB := bs HB hb; clear hb hbox hg; obtain ⟨hcz5_0, hcz5_1, hcz5_2, hfz5_0, hfz5_1, hfz5_2⟩ := cs3 BK119))
  go_ret
  exact ⟨y0_10, bI HB.out⟩
 rw [if_neg c3] at H
 have c3b0 : decide ((wrap64 (a1 - (a0_1.size : Int))) < 0) = false := decide_eq_false c3; clear c3; obtain ⟨t120, A60, H⟩ := Option.bind_eq_some_iff.mp H
 try dsimp only at H
 have A6 := Aside0.mk A60; clear A60
 by_cases c7 : t120 < 0
 ·
  rw [if_pos c7] at H
  have c7b0 : decide (t120 < 0) = true := decide_eq_true c7; clear c7; obtain rfl := Option.some.inj H
  go_enter Tryz.func23, Tryz.ntmps23
  go_wp2_with (first | ((with_reducible refine gd 2 ?_); refine bA 2 #[.int .i64 a0_0, .string a0_1, .slice A0_2 l0_2.length c0_2] 26 ?_; intro gb119 hg w8 hbox hb; have BK119 := Aside0.mk (hbox); have GW119 := bg hg HB; have GJ119 := gi GW119; have GE119 := GW119; replace HB := bs HB hb; clear hb hbox hg; obtain ⟨hcz9_0, hcz9_1, hcz9_2, hfz9_0, hfz9_1, hfz9_2⟩ := cs3 BK119) | ((with_reducible refine gate_callee (f := 65) rfl ?_); refine gB (some 15) Tryz.func65 #[.slice A0_2 l0_2.length c0_2, .int .i64 (wrap64 (a1 - (a0_1.size : Int)))] ?_; (with_reducible refine (laws_szIntS.calls _ _ l0_2 (wrap64 (a1 - (a0_1.size : Int))) t120 _ ?side1 ?side2 A6.out).mono ?_); (case side1 => exact ch HR0_2 HB); (case side2 => exact HC0_2.out); rintro e w' ⟨rfl, ⟨nd, rfl⟩⟩; refine ⟨_, rfl, ?_⟩))
  go_ret
  exact ⟨y0_10, bI HB.out⟩
 rw [if_neg c7] at H
 have c7b0 : decide (t120 < 0) = false := decide_eq_false c7; clear c7; obtain rfl := Option.some.inj H
 go_enter Tryz.func23, Tryz.ntmps23
 go_wp2_with (first | ((with_reducible refine gd 2 ?_); refine bA 2 #[.int .i64 a0_0, .string a0_1, .slice A0_2 l0_2.length c0_2] 26 ?_; intro gb119 hg w10 hbox hb; have BK119 := Aside0.mk (hbox); have GW119 := bg hg HB; have GJ119 := gi GW119; have GE119 := GW119; replace HB := bs HB hb; clear hb hbox hg; obtain ⟨hcz11_0, hcz11_1, hcz11_2, hfz11_0, hfz11_1, hfz11_2⟩ := cs3 BK119) | ((with_reducible refine gate_callee (f := 65) rfl ?_); refine gB (some 15) Tryz.func65 #[.slice A0_2 l0_2.length c0_2, .int .i64 (wrap64 (a1 - (a0_1.size : Int)))] ?_; (with_reducible refine (laws_szIntS.calls _ _ l0_2 (wrap64 (a1 - (a0_1.size : Int))) t120 _ ?side1 ?side2 A6.out).mono ?_); (case side1 => exact ch HR0_2 HB); (case side2 => exact HC0_2.out); rintro e w' ⟨rfl, ⟨nd, rfl⟩⟩; refine ⟨_, rfl, ?_⟩))
 go_ret
 exact ⟨y0_10, bI HB.out⟩

/-! ### laws_toIntS: function 71 -/
def laws_toIntS.l0 : Nat → List Int → List Int → Int → Option (List Int)
 | 0, _, _, _ => none
 | k + 1, x0, x3, x4 => if x4 < (x0.length : Int) then (if 0 ≤ x4 then (if x4 < (x3.length : Int) then (laws_toIntS.l0 k x0 (x3.set (x4 : Int).toNat (rd x0 x4)) (wrap64 (x4 + 1))) else (none)) else (none)) else (some x3)
def laws_toIntS.f (k : Nat) (l0 : List Int) : Option (List Int) := if 0 ≤ (l0.length : Int) then (if ((l0.length : Int) : Int).toNat ≤ 35184372088832 then (laws_toIntS.l0 k l0 (List.replicate ((l0.length : Int) : Int).toNat 0) 0) else (none)) else (none)
theorem laws_toIntS.mono_l : ∀ k, (∀ y0 y1 y2, LeO (laws_toIntS.l0 k y0 y1 y2) (laws_toIntS.l0 (k + 1) y0 y1 y2))
 | 0 => fun _ _ _ r h => by simp [laws_toIntS.l0] at h
 | k + 1 => by
  have ih0 := laws_toIntS.mono_l k
  intro y0 y1 y2
  unfold laws_toIntS.l0
  repeat' first | (with_reducible exact ih0 _ _ _) | (with_reducible exact LeO.refl _) | (with_reducible exact LeO.none _) | (with_reducible refine LeO.ite ?_ ?_) | (with_reducible refine LeO.bind ?_ (fun _ => ?_))
theorem laws_toIntS.mono : ∀ a0 k, LeO (laws_toIntS.f k a0) (laws_toIntS.f (k + 1) a0) := by
 intro a0 k
 have ih0 := laws_toIntS.mono_l k
 unfold laws_toIntS.f
 repeat' first | (with_reducible exact ih0 _ _ _) | (with_reducible exact LeO.refl _) | (with_reducible exact LeO.none _) | (with_reducible refine LeO.ite ?_ ?_) | (with_reducible refine LeO.bind ?_ (fun _ => ?_))
set_option maxHeartbeats 8000000 in
set_option maxRecDepth 100000 in
theorem laws_toIntS.calls (k : Nat) (A0 : Option Addr) (c0 : Nat) (l0 : List Int) (r : List Int) (w : World) (hr0 : Kd.C (Kd.int .i64) w A0 l0.length l0) (hc0 : l0.length ≤ c0) (h : laws_toIntS.f k l0 = some r) :
  Calls Tryz.prog 71 #[.slice A0 l0.length c0] w fun e w' => ∃ v0_ : Value, e = .returned (v0_) ∧ Kd.R (Kd.int .i64) 3 w' w.heap.size (fun _ => True) v0_ r ∧ Below w.heap.size w w' := by
 have HR0 := Aside0.mk hr0; have HC0 := Aside0.mk hc0; clear hr0 hc0; have HB := Aside0.mk (Below.refl w.heap.size w); have H : (if 0 ≤ (l0.length : Int) then (if ((l0.length : Int) : Int).toNat ≤ 35184372088832 then (laws_toIntS.l0 k l0 (List.replicate ((l0.length : Int) : Int).toNat 0) 0) else (none)) else (none)) = some r := h; clear h
 by_cases c2 : 0 ≤ (l0.length : Int)
 ·
  rw [if_pos c2] at H
  have c2b0 := eq_true c2; have c2b1 : decide (0 ≤ (l0.length : Int)) = true := decide_eq_true c2; clear c2
  by_cases c3 : ((l0.length : Int) : Int).toNat ≤ 35184372088832
  rotate_left
  ·
   rw [if_neg c3] at H
   exact absurd H (by simp)
  rw [if_pos c3] at H
  have c3b0 := eq_true c3; have c3b1 : decide (((l0.length : Int) : Int).toNat ≤ 35184372088832) = true := decide_eq_true c3; clear c3; obtain ⟨y121, hy121⟩ : ∃ y_ : List Int, y_ = (List.replicate ((l0.length : Int) : Int).toNat 0) := ⟨_, rfl⟩
  replace H : (laws_toIntS.l0 k l0 y121 0) = some r := by first | (rw [hy121]; with_reducible exact H) | (have H2_ := (Option.bind_some _ _).symm.trans H; rw [hy121]; with_reducible exact H2_) | (have H2_ := (Option.bind_some _ _).symm.trans H; with_reducible exact H2_) | with_reducible exact H | (rw [hy121]; exact H) | exact H
  have Ny121 := Aside0.mk hy121; clear hy121; have H' := Aside0.mk H; clear H
  go_enter Tryz.func71, Tryz.ntmps71
  go_wp2_with (first | ((with_reducible refine gate_dst (N := 7) rfl ?_); refine Kd.R_make (Kd.int .i64) _ 3 rfl (N := 7) rfl 24 _ _ rfl (l0.length : Int) rfl rfl Tryz.underlying24 (.int .i64 0) 8 info3 rfl (by decide) (by omega) 0 (ok := fun _ => True) (okp := fun _ => True) rfl (fun _ hk => hk) trivial (of_decide_eq_true y0_12) (Nat.le_trans (Nat.mul_le_mul_right _ (of_decide_eq_true y0_12 : (l0.length : Int).toNat ≤ 35184372088832)) (by omega)) (Below.refl _ _) (Nat.le_refl _) ?_; intro v122 w4 ho5 hb hg_ hnew_; clear hg_ hnew_; (first | rw [← Ny121.out] at ho5 | (simp only [Int.reduceToNat] at ho5; rw [← Ny121.out] at ho5)); have HO123 := Aside0.mk (Kd.R_lower ho5 (below_size (bI HB.out))); replace HB := bs HB hb; clear hb ho5))
  go_loopg [4] k (fun kq v4 w' => ∃ (x3_1 : List Int) (x4_1 : Int), v4 = .int .i64 x4_1 ∧ Aside0 (laws_toIntS.l0 kq l0 x3_1 x4_1 = some r) ∧ Aside0 (kq ≤ k) ∧ Aside0 (Kd.R (Kd.int .i64) 3 w' w.heap.size (fun _ => True) v122 x3_1) ∧ Aside0 (Below w.heap.size w w'))
  case atStart => exact ⟨(y121), (0), y0_13, H', ⟨Nat.le_refl _⟩, ⟨by (with_reducible repeat (first | apply Kd.R_alloc | apply Kd.R_drewN | apply Kd.R_drew)); exact HO123.out⟩, ⟨bI HB.out⟩⟩
  case round =>
   clear H'
   try clear c2
   try clear c2b0
   try clear c2b1
   try clear p2
   try clear c3
   try clear c3b0
   try clear c3b1
   obtain ⟨x3_1, x4_1, rfl, HA, HK1, HO_3, HB⟩ := hrel; cases gk with
   | zero => exact absurd HA.out (by simp [laws_toIntS.l0])
   | succ k1 =>
    have H := HA.out; clear HA
    simp only [laws_toIntS.l0] at H
    by_cases c6 : x4_1 < (l0.length : Int)
    ·
     rw [if_pos c6] at H
     have c6b0 : decide (x4_1 < (l0.length : Int)) = true := decide_eq_true c6; clear c6
     by_cases c7 : 0 ≤ x4_1
     rotate_left
     ·
      rw [if_neg c7] at H
      exact absurd H (by simp)
     rw [if_pos c7] at H
     have c7b0 : decide (0 ≤ x4_1) = true := decide_eq_true c7; clear c7
     by_cases c8 : x4_1 < (x3_1.length : Int)
     rotate_left
     ·
      rw [if_neg c8] at H
      exact absurd H (by simp)
     rw [if_pos c8] at H
     have c8b0 : decide (x4_1 < (x3_1.length : Int)) = true := decide_eq_true c8; clear c8; obtain ⟨y125, hy125⟩ : ∃ y_ : List Int, y_ = (x3_1.set (x4_1 : Int).toNat (rd l0 x4_1)) := ⟨_, rfl⟩
     replace H : (laws_toIntS.l0 k1 l0 y125 (wrap64 (x4_1 + 1))) = some r := by first | (rw [hy125]; with_reducible exact H) | (have H2_ := (Option.bind_some _ _).symm.trans H; rw [hy125]; with_reducible exact H2_) | (have H2_ := (Option.bind_some _ _).symm.trans H; with_reducible exact H2_) | with_reducible exact H | (rw [hy125]; exact H) | exact H
     have Ny125 := Aside0.mk hy125; clear hy125; have H' := Aside0.mk H; clear H; have p124 : 0 ≤ (x4_1 : Int) := of_decide_eq_true y0_12; have q124 : x4_1 < (l0.length : Int) := of_decide_eq_true y0_12; obtain ⟨ad124, e124, hx124_0⟩ := Kd.at_int HR0.out x4_1 p124 q124; cases e124; replace hx124_0 := bx HB hx124_0; replace p124 := eq_true p124; replace q124 := eq_true q124; have p9 : 0 ≤ (x4_1 : Int) := of_decide_eq_true y0_12; have q9 : (x4_1 : Int) < ((x3_1.length : Int) : Int) := of_decide_eq_true y0_12
     obtain ⟨go9, co9, eo9, gb9, gl9, cl9, HG9⟩ := Kd.R_form HO_3.out (by omega)
     (first | cases eo9 | (injection eo9 with ea_ en_ ec_; (first | subst ea_ | (injection ea_ with ea_; subst ea_)); subst ec_; clear en_))
     have GB9 := Aside0.mk gb9; have GG9 := Aside0.mk HG9; clear gb9 gl9 HG9; obtain ⟨hx9_0, hf9_0⟩ := Kd.R_celln 0 HO_3.out (x4_1 : Int) p9 q9; replace p9 := eq_true p9; replace q9 := eq_true q9; have HP10 := Kd.R_putg HO_3.out (x4_1 : Int) (rd l0 x4_1)
     go_wp2_with (first | ((with_reducible refine gate_store (t := 3) (p := 20) rfl ?_); refine store_event (t := 3) (p := 20) (v := ?vo_w11) (w1 := (wr.setCell ⟨go9, (x4_1 : Int).toNat, none⟩ (.int .i64 (rd l0 x4_1)))) ?hg ?ho ?hn ?hr ?_; (case ho => rfl); (case hg => rfl); (case hn => rfl); (case hr => first | (go_simp; done) | (go_simp; rfl)); intro w11 hw; have hg : wr.grownBy w11 (some go9) := (by rw [hw]; exact HP10.2); have hp_ : Kd.R (Kd.int .i64) 3 w11 w.heap.size (fun _ => True) (.slice (some ⟨go9, 0, none⟩) x3_1.length co9) y125 := (by rw [hw, Ny125.out]; exact HP10.1); clear HP10; replace HO_3 := Aside0.mk (hp_); replace HB := Aside0.mk ((by rw [hw]; exact below_set (HB.out) GB9.out : Below w.heap.size w w11)); clear hg hw hp_))
     go_roundg k1
     case measure => have := HK1.out; omega
     case rel => exact ⟨(y125), (wrap64 (x4_1 + 1)), y0_13, H', ⟨y0_18⟩, ⟨y0_7⟩, ⟨bI HB.out⟩⟩
    rw [if_neg c6] at H
    have c6b0 : decide (x4_1 < (l0.length : Int)) = false := decide_eq_false c6; clear c6; obtain rfl := Option.some.inj H
    go_wp2
    go_ret
    exact ⟨_, y0_10, y0_7, bI HB.out⟩
 rw [if_neg c2] at H
 exact absurd H (by simp)

/-! ### laws_toQc: function 25 -/
def laws_toQc.f (k : Nat) (a0_0 : Int) (a0_1 : ByteArray) (l0_2 : List Int) : Option (Int × ByteArray × List Int) := (laws_toIntS.f k l0_2).bind fun t129 => (some (a0_0, a0_1, t129))
theorem laws_toQc.mono : ∀ a0 a1 a2 k, LeO (laws_toQc.f k a0 a1 a2) (laws_toQc.f (k + 1) a0 a1 a2) := by
 intro a0 a1 a2 k
 unfold laws_toQc.f
 repeat' first | (with_reducible exact laws_toIntS.mono _ _) | (with_reducible exact LeO.refl _) | (with_reducible exact LeO.none _) | (with_reducible refine LeO.ite ?_ ?_) | (with_reducible refine LeO.bind ?_ (fun _ => ?_))
set_option maxHeartbeats 8000000 in
set_option maxRecDepth 100000 in
theorem laws_toQc.calls (k : Nat) (a0_0 : Int) (a0_1 : ByteArray) (A0_2 : Option Addr) (c0_2 : Nat) (l0_2 : List Int) (r1 : Int) (r2 : ByteArray) (r3 : List Int) (w : World) (hr0_2 : Kd.C (Kd.int .i64) w A0_2 l0_2.length l0_2) (hc0_2 : l0_2.length ≤ c0_2) (h : laws_toQc.f k a0_0 a0_1 l0_2 = some (r1, r2, r3)) :
  Calls Tryz.prog 25 #[.agg #[.int .i64 a0_0, .string a0_1, .slice A0_2 l0_2.length c0_2]] w fun e w' => ∃ v2_ : Value, e = .returned (.agg #[.int .i64 r1, .string r2, v2_]) ∧ Kd.R (Kd.int .i64) 3 w' w.heap.size (fun _ => True) v2_ r3 ∧ Below w.heap.size w w' := by
 have hu26 := Tryz.underlying26; have hu33 := Tryz.underlying33; have HR0_2 := Aside0.mk hr0_2; have HC0_2 := Aside0.mk hc0_2; clear hr0_2 hc0_2; have HB := Aside0.mk (Below.refl w.heap.size w)
 have H : ((laws_toIntS.f k l0_2).bind fun t129 => (some (a0_0, a0_1, t129))) = some (r1, r2, r3) := h
 clear h; obtain ⟨t129, A20, H⟩ := Option.bind_eq_some_iff.mp H
 try dsimp only at H
 have A2 := Aside0.mk A20; clear A20
 simp only [Option.some.injEq, Prod.mk.injEq] at H
 obtain ⟨rfl, rfl, rfl⟩ := H
 go_enter Tryz.func25, Tryz.ntmps25
 go_wp2_with (first | ((with_reducible refine gd 1 ?_); refine bA 1 #[.int .i64 a0_0, .string a0_1, .slice A0_2 l0_2.length c0_2] 26 ?_; intro gb126 hg w3 hbox hb; have BK126 := Aside0.mk (hbox); have GW126 := bg hg HB; have GJ126 := gi GW126; have GE126 := GW126; replace HB := bs HB hb; clear hb hbox hg) | ((with_reducible refine gd 2 ?_); refine bA 2 #[.int .i64 0, .string (⟨#[]⟩ : ByteArray), .slice none 0 0] 33 ?_; intro gb127 hg w4 hbox hb; have BK127 := Aside0.mk (hbox); have GW127 := bg hg HB; have GJ127 := gi GW127; have GE127 := GW127; replace HB := bs HB hb; have NB126_127 := b1 BK126 hg; have NI126_127 := ni NB126_127; have NB127_126 := b2 BK126 hg; have NI127_126 := ni NB127_126; replace BK126 := bk BK126 hb; clear hb hbox hg) | ((with_reducible refine gd 3 ?_); refine bA 3 #[.int .i64 0, .string (⟨#[]⟩ : ByteArray), .slice none 0 0] 33 ?_; intro gb128 hg w5 hbox hb; have BK128 := Aside0.mk (hbox); have GW128 := bg hg HB; have GJ128 := gi GW128; have GE128 := GW128; replace HB := bs HB hb; have NB126_128 := b1 BK126 hg; have NI126_128 := ni NB126_128; have NB128_126 := b2 BK126 hg; have NI128_126 := ni NB128_126; replace BK126 := bk BK126 hb; have NB127_128 := b1 BK127 hg; have NI127_128 := ni NB127_128; have NB128_127 := b2 BK127 hg; have NI128_127 := ni NB128_127; replace BK127 := bk BK127 hb; clear hb hbox hg; have hnb6 := NB126_127.out; have hnc6 := NB127_126.out; have hnb7 := NB126_128.out; have hnc7 := NB128_126.out; obtain ⟨hcz8_0, hcz8_1, hcz8_2, hfz8_0, hfz8_1, hfz8_2⟩ := cs3 BK126; have hnb9 := NB128_127.out; have hnc9 := NB127_128.out; obtain ⟨hcz10_0, hcz10_1, hcz10_2, hfz10_0, hfz10_1, hfz10_2⟩ := cs3 BK128) | ((with_reducible refine gate_callee (f := 71) rfl ?_); refine gB (some 12) Tryz.func71 #[.slice A0_2 l0_2.length c0_2] ?_; (with_reducible refine (laws_toIntS.calls k _ _ l0_2 t129 _ ?side1 ?side2 A2.out).mono ?_); (case side1 => exact Kd.C_below HR0_2.out (bI HB.out)); (case side2 => exact HC0_2.out); rintro e w11 ⟨v130, rfl, ho0, hb⟩; refine ⟨_, rfl, ?_⟩; have HO131 := Aside0.mk (Kd.R_lower ho0 (below_size (bI HB.out))); replace BK126 := Aside0.mk (blk_below (g := gb126) (o := .cells #[.int .i64 a0_0, .string a0_1, .slice A0_2 l0_2.length c0_2] 26 (0, 0)) (gI BK126.out) hb); replace BK127 := Aside0.mk (blk_below (g := gb127) (o := .cells #[.int .i64 0, .string (⟨#[]⟩ : ByteArray), .slice none 0 0] 33 (0, 0)) (gI BK127.out) hb); replace BK128 := bp BK128 hb #[.int .i64 a0_0, .string a0_1, .slice none 0 0]; replace HB := bs HB hb; (try clear hb); (try clear ho0); obtain ⟨Ao12, co12, eo12⟩ := Kd.R_slice HO131.out; subst eo12; obtain ⟨hcz13_0, hcz13_1, hcz13_2, hfz13_0, hfz13_1, hfz13_2⟩ := cs3 BK128; obtain ⟨hcz14_0, hcz14_1, hcz14_2, hfz14_0, hfz14_1, hfz14_2⟩ := cs3 BK127))
 refine bodyPost_ret (results_cell_row rfl _ _ gb127 33 #[.int .i64 a0_0, .string a0_1, .slice Ao12 t129.length co12] (0, 0) _ rfl (pI BK127) Tryz.underlying33 rfl (by kernel_rfl)) rfl ?_
 exact ⟨_, y0_10, by (with_reducible repeat (first | apply Kd.R_alloc | apply Kd.R_drewN | apply Kd.R_drew)); exact Kd.R_mono (Kd.R_far (p := ⟨gb127, 2, none⟩) (Kd.R_far (p := ⟨gb127, 1, none⟩) (Kd.R_far (p := ⟨gb127, 0, none⟩) (Kd.R_far (p := ⟨gb128, 2, none⟩) (Kd.R_types (Kd.R_types HO131.out BK128.out (by decide)) BK127.out (by decide)) (fun _ hk => hk.1.2) (.slice Ao12 t129.length co12)) (fun _ hk => hk.2) (.int .i64 a0_0)) (fun _ hk => hk.2) (.string a0_1)) (fun _ hk => hk.2) (.slice Ao12 t129.length co12)) (fun _ hk => trivial), bI HB.out⟩

/-! ### laws_szTxS: function 29 -/
def laws_szTxS.f (l0 : List (S101)) (a1 : Int) : Option (Int) := if (wrap64 (a1 - (l0.length : Int))) < 0 then (some (-1)) else (some (wrap64 (a1 - (l0.length : Int))))
set_option maxHeartbeats 8000000 in
set_option maxRecDepth 100000 in
theorem laws_szTxS.calls (A0 : Option Addr) (c0 : Nat) (l0 : List (S101)) (a1 : Int) (r : Int) (w : World) (hr0 : Kd.C k101 w A0 l0.length l0) (hc0 : l0.length ≤ c0) (h : laws_szTxS.f l0 a1 = some r) :
  Calls Tryz.prog 29 #[.slice A0 l0.length c0, .int .i64 a1] w fun e w' => e = .returned (.int .i64 r) ∧ Drawn0 w w' := by
 have HR0 := Aside0.mk hr0; have HC0 := Aside0.mk hc0; clear hr0 hc0; have H : (if (wrap64 (a1 - (l0.length : Int))) < 0 then (some (-1)) else (some (wrap64 (a1 - (l0.length : Int))))) = some r := h; clear h
 by_cases c3 : (wrap64 (a1 - (l0.length : Int))) < 0
 ·
  rw [if_pos c3] at H
  have c3b0 : decide ((wrap64 (a1 - (l0.length : Int))) < 0) = true := decide_eq_true c3; clear c3; obtain rfl := Option.some.inj H
  go_enter Tryz.func29, Tryz.ntmps29
  go_wp2
  go_ret
  exact ⟨y0_13, y0_11⟩
 rw [if_neg c3] at H
 have c3b0 : decide ((wrap64 (a1 - (l0.length : Int))) < 0) = false := decide_eq_false c3; clear c3; obtain rfl := Option.some.inj H
 go_enter Tryz.func29, Tryz.ntmps29
 go_wp2
 go_ret
 exact ⟨y0_13, y0_11⟩

end Go.Proofs.YtemjmefacifdeaaGreatDoor.PFnExactBlockNew
