-- By a program of this session, out of the translation (the print of the kit, with turns of its own). Lean checks it.
import Derived.Test.YtemjmefacifdeaaGreatDoorPFnSettlesThreex0
import Derived.Test.YtemjmefacifdeaaGreatDoorPFnSettlesThreex9
namespace Go.Proofs.YtemjmefacifdeaaGreatDoor.PFnSettlesThree
open Go.RowKit Go.Proofs.YtemjmefacifdeaaGreatDoorW.PrintWords Go.Proofs.YtemjmefacifdeaaGreatDoorW.PrintLast Go.Proofs.YtemjmefacifdeaaGreatDoorW.PrintMore
attribute [local go_sem] max2_int min2_int max_two min_two max_three min_three max_four min_four   -- for this text's walks alone
set_option linter.unusedVariables false
set_option linter.unusedSimpArgs false

/-! ### slices_Equal_int_int: function 101 -/
def slices_Equal_int_int.l0 : Nat → List Int → List Int → Int → Int → Option (Bool)
 | 0, _, _, _, _ => none
 | k + 1, x0, x1, x12, x13 => if x13 < x12 then (if 0 ≤ x13 then (if x13 < (x0.length : Int) then (if x13 < (x1.length : Int) then (if (rd x0 x13) = (rd x1 x13) then (slices_Equal_int_int.l0 k x0 x1 x12 (wrap64 (x13 + 1))) else (some false)) else (none)) else (none)) else (none)) else (some true)
def slices_Equal_int_int.f (k : Nat) (l0 : List Int) (l1 : List Int) : Option (Bool) := if (l0.length : Int) = (l1.length : Int) then (slices_Equal_int_int.l0 k l0 l1 (l0.length : Int) 0) else (some false)
theorem slices_Equal_int_int.mono_l : ∀ k, (∀ y0 y1 y2 y3, LeO (slices_Equal_int_int.l0 k y0 y1 y2 y3) (slices_Equal_int_int.l0 (k + 1) y0 y1 y2 y3))
 | 0 => fun _ _ _ _ r h => by simp [slices_Equal_int_int.l0] at h
 | k + 1 => by
  have ih0 := slices_Equal_int_int.mono_l k
  intro y0 y1 y2 y3
  unfold slices_Equal_int_int.l0
  repeat' first | (with_reducible exact ih0 _ _ _ _) | (with_reducible exact LeO.refl _) | (with_reducible exact LeO.none _) | (with_reducible refine LeO.ite ?_ ?_) | (with_reducible refine LeO.bind ?_ (fun _ => ?_))
theorem slices_Equal_int_int.mono : ∀ a0 a1 k, LeO (slices_Equal_int_int.f k a0 a1) (slices_Equal_int_int.f (k + 1) a0 a1) := by
 intro a0 a1 k
 have ih0 := slices_Equal_int_int.mono_l k
 unfold slices_Equal_int_int.f
 repeat' first | (with_reducible exact ih0 _ _ _ _) | (with_reducible exact LeO.refl _) | (with_reducible exact LeO.none _) | (with_reducible refine LeO.ite ?_ ?_) | (with_reducible refine LeO.bind ?_ (fun _ => ?_))
set_option maxHeartbeats 8000000 in
set_option maxRecDepth 100000 in
theorem slices_Equal_int_int.calls (k : Nat) (A0 : Option Addr) (c0 : Nat) (l0 : List Int) (A1 : Option Addr) (c1 : Nat) (l1 : List Int) (r : Bool) (w : World) (hr0 : Kd.C (Kd.int .i64) w A0 l0.length l0) (hc0 : l0.length ≤ c0) (hr1 : Kd.C (Kd.int .i64) w A1 l1.length l1) (hc1 : l1.length ≤ c1) (h : slices_Equal_int_int.f k l0 l1 = some r) :
  Calls Tryz.prog 101 #[.slice A0 l0.length c0, .slice A1 l1.length c1] w fun e w' => e = .returned (.bool r) ∧ Drawn0 w w' := by
 have HR0 := Aside0.mk hr0; have HC0 := Aside0.mk hc0; clear hr0 hc0; have HR1 := Aside0.mk hr1; have HC1 := Aside0.mk hc1; clear hr1 hc1; have H : (if (l0.length : Int) = (l1.length : Int) then (slices_Equal_int_int.l0 k l0 l1 (l0.length : Int) 0) else (some false)) = some r := h; clear h
 by_cases c3 : (l0.length : Int) = (l1.length : Int)
 ·
  rw [if_pos c3] at H
  have c3b0 : ((l0.length : Int) == (l1.length : Int)) = true := beq_iff_eq.mpr c3; have c3b1 : ((l0.length : Int) != (l1.length : Int)) = false := bne_eq_false_iff_eq.mpr c3
  have c3b2 : (l0.length == l1.length) = true := by first | simpa using c3 | (simp at c3 ⊢; omega)
  clear c3; have H' := Aside0.mk H; clear H
  go_enter Tryz.func101, Tryz.ntmps101
  go_wp2
  repeat (go_quiet (fail); try go_wp2)
  go_loopg [13] k (fun kq v13 w' => ∃ (x13_1 : Int), v13 = .int .i64 x13_1 ∧ Aside0 (slices_Equal_int_int.l0 kq l0 l1 (l0.length : Int) x13_1 = some r) ∧ Aside0 (kq ≤ k) ∧ Drawn0 w w')
  case atStart => exact ⟨(0), y0_9, H', ⟨Nat.le_refl _⟩, y0_7⟩
  case round =>
   clear H'
   try clear c1
   try clear p2
   try clear c3
   try clear c3b0
   try clear c3b1
   try clear c3b2
   obtain ⟨x13_1, rfl, HA, HK1, ⟨m1, rfl⟩⟩ := hrel; cases gk with
   | zero => exact absurd HA.out (by simp [slices_Equal_int_int.l0])
   | succ k1 =>
    have H := HA.out; clear HA
    simp only [slices_Equal_int_int.l0] at H
    by_cases c4 : x13_1 < (l0.length : Int)
    ·
     rw [if_pos c4] at H
     have c4b0 : decide (x13_1 < (l0.length : Int)) = true := decide_eq_true c4; clear c4
     by_cases c5 : 0 ≤ x13_1
     rotate_left
     ·
      rw [if_neg c5] at H
      exact absurd H (by simp)
     rw [if_pos c5] at H
     have c5b0 : decide (0 ≤ x13_1) = true := decide_eq_true c5; clear c5
     by_cases c6 : x13_1 < (l0.length : Int)
     rotate_left
     ·
      rw [if_neg c6] at H
      exact absurd H (by simp)
     rw [if_pos c6] at H
     have c6b0 : decide (x13_1 < (l0.length : Int)) = true := decide_eq_true c6; clear c6
     by_cases c7 : x13_1 < (l1.length : Int)
     rotate_left
     ·
      rw [if_neg c7] at H
      exact absurd H (by simp)
     rw [if_pos c7] at H
     have c7b0 : decide (x13_1 < (l1.length : Int)) = true := decide_eq_true c7; clear c7
     by_cases c8 : (rd l0 x13_1) = (rd l1 x13_1)
     ·
      rw [if_pos c8] at H
      have c8b0 : ((rd l0 x13_1) == (rd l1 x13_1)) = true := beq_iff_eq.mpr c8; have c8b1 : ((rd l0 x13_1) != (rd l1 x13_1)) = false := bne_eq_false_iff_eq.mpr c8; clear c8; have H' := Aside0.mk H; clear H; have p358 : 0 ≤ (x13_1 : Int) := of_decide_eq_true y0_8; have q358 : x13_1 < (l0.length : Int) := of_decide_eq_true y0_8; obtain ⟨ad358, e358, hx358_0⟩ := Kd.at_int HR0.out x13_1 p358 q358; cases e358; replace p358 := eq_true p358; replace q358 := eq_true q358; have p359 : 0 ≤ (x13_1 : Int) := of_decide_eq_true y0_8; have q359 : x13_1 < (l1.length : Int) := of_decide_eq_true y0_8; obtain ⟨ad359, e359, hx359_0⟩ := Kd.at_int HR1.out x13_1 p359 q359; cases e359; replace p359 := eq_true p359; replace q359 := eq_true q359
      go_wp2
      repeat (go_quiet (fail); try go_wp2)
      go_roundg k1
      case measure => have := HK1.out; omega
      case rel => exact ⟨(wrap64 (x13_1 + 1)), y0_9, H', ⟨y0_13⟩, y0_7⟩
     rw [if_neg c8] at H
     have c8b0 : ((rd l0 x13_1) == (rd l1 x13_1)) = false := beq_eq_false_iff_ne.mpr c8; have c8b1 : ((rd l0 x13_1) != (rd l1 x13_1)) = true := bne_iff_ne.mpr c8; obtain rfl := Option.some.inj H; have p358 : 0 ≤ (x13_1 : Int) := of_decide_eq_true y0_8; have q358 : x13_1 < (l0.length : Int) := of_decide_eq_true y0_8; obtain ⟨ad358, e358, hx358_0⟩ := Kd.at_int HR0.out x13_1 p358 q358; cases e358; replace p358 := eq_true p358; replace q358 := eq_true q358; have p359 : 0 ≤ (x13_1 : Int) := of_decide_eq_true y0_8; have q359 : x13_1 < (l1.length : Int) := of_decide_eq_true y0_8; obtain ⟨ad359, e359, hx359_0⟩ := Kd.at_int HR1.out x13_1 p359 q359; cases e359; replace p359 := eq_true p359; replace q359 := eq_true q359
     go_wp2
     repeat (go_quiet (fail); try go_wp2)
     go_ret
     exact ⟨y0_9, y0_7⟩
    rw [if_neg c4] at H
    have c4b0 : decide (x13_1 < (l0.length : Int)) = false := decide_eq_false c4; clear c4; obtain rfl := Option.some.inj H
    go_wp2
    repeat (go_quiet (fail); try go_wp2)
    go_ret
    exact ⟨y0_9, y0_7⟩
 rw [if_neg c3] at H
 have c3b0 : ((l0.length : Int) == (l1.length : Int)) = false := beq_eq_false_iff_ne.mpr c3; have c3b1 : ((l0.length : Int) != (l1.length : Int)) = true := bne_iff_ne.mpr c3
 have c3b2 : (l0.length == l1.length) = false := by first | simpa using c3 | (simp at c3 ⊢; omega)
 obtain rfl := Option.some.inj H
 go_enter Tryz.func101, Tryz.ntmps101
 go_wp2
 repeat (go_quiet (fail); try go_wp2)
 go_ret
 exact ⟨y0_9, y0_7⟩

/-! ### impl_QcSame: function 57 -/
def impl_QcSame.f (k : Nat) (a0_0 : Int) (a0_1 : ByteArray) (l0_2 : List Int) (a1_0 : Int) (a1_1 : ByteArray) (l1_2 : List Int) : Option (Bool) := if a0_0 = a1_0 then (if a0_1.toList = a1_1.toList then ((slices_Equal_int_int.f k l0_2 l1_2).bind fun t362 => (some t362)) else (some false)) else (some false)
theorem impl_QcSame.mono : ∀ a0 a1 a2 a3 a4 a5 k, LeO (impl_QcSame.f k a0 a1 a2 a3 a4 a5) (impl_QcSame.f (k + 1) a0 a1 a2 a3 a4 a5) := by
 intro a0 a1 a2 a3 a4 a5 k
 unfold impl_QcSame.f
 repeat' first | (with_reducible exact slices_Equal_int_int.mono _ _ _) | (with_reducible exact LeO.refl _) | (with_reducible exact LeO.none _) | (with_reducible refine LeO.ite ?_ ?_) | (with_reducible refine LeO.bind ?_ (fun _ => ?_))
set_option maxHeartbeats 8000000 in
set_option maxRecDepth 100000 in
theorem impl_QcSame.calls (k : Nat) (a0_0 : Int) (a0_1 : ByteArray) (A0_2 : Option Addr) (c0_2 : Nat) (l0_2 : List Int) (a1_0 : Int) (a1_1 : ByteArray) (A1_2 : Option Addr) (c1_2 : Nat) (l1_2 : List Int) (r : Bool) (w : World) (hr0_2 : Kd.C (Kd.int .i64) w A0_2 l0_2.length l0_2) (hc0_2 : l0_2.length ≤ c0_2) (hr1_2 : Kd.C (Kd.int .i64) w A1_2 l1_2.length l1_2) (hc1_2 : l1_2.length ≤ c1_2) (h : impl_QcSame.f k a0_0 a0_1 l0_2 a1_0 a1_1 l1_2 = some r) :
  Calls Tryz.prog 57 #[.agg #[.int .i64 a0_0, .string a0_1, .slice A0_2 l0_2.length c0_2], .agg #[.int .i64 a1_0, .string a1_1, .slice A1_2 l1_2.length c1_2]] w fun e w' => e = .returned (.bool r) ∧ Below w.heap.size w w' := by
 have hu33 := Tryz.underlying33; have HR0_2 := Aside0.mk hr0_2; have HC0_2 := Aside0.mk hc0_2; clear hr0_2 hc0_2; have HR1_2 := Aside0.mk hr1_2; have HC1_2 := Aside0.mk hc1_2; clear hr1_2 hc1_2; have HB := Aside0.mk (Below.refl w.heap.size w)
 have H : (if a0_0 = a1_0 then (if a0_1.toList = a1_1.toList then ((slices_Equal_int_int.f k l0_2 l1_2).bind fun t362 => (some t362)) else (some false)) else (some false)) = some r := h
 clear h
 by_cases c3 : a0_0 = a1_0
 ·
  rw [if_pos c3] at H
  have c3b0 : (a0_0 == a1_0) = true := beq_iff_eq.mpr c3; have c3b1 : (a0_0 != a1_0) = false := bne_eq_false_iff_eq.mpr c3; clear c3
  by_cases c4 : a0_1.toList = a1_1.toList
  ·
   rw [if_pos c4] at H
   have c4b0 : (a0_1.toList == a1_1.toList) = true := beq_iff_eq.mpr c4; have c4b1 : (a0_1.toList != a1_1.toList) = false := bne_eq_false_iff_eq.mpr c4; clear c4; obtain ⟨t362, A50, H⟩ := Option.bind_eq_some_iff.mp H
   try dsimp only at H
   have A5 := Aside0.mk A50; clear A50; obtain rfl := Option.some.inj H
   go_enter Tryz.func57, Tryz.ntmps57
   go_wp2_with (first | ((with_reducible refine gd 2 ?_); refine bA 2 #[.int .i64 a0_0, .string a0_1, .slice A0_2 l0_2.length c0_2] 33 ?_; intro gb360 hg w6 hbox hb; have BK360 := Aside0.mk (hbox); have GW360 := bg hg HB; have GJ360 := gi GW360; have GE360 := GW360; replace HB := bs HB hb; clear hb hbox hg) | ((with_reducible refine gd 3 ?_); refine bA 3 #[.int .i64 a1_0, .string a1_1, .slice A1_2 l1_2.length c1_2] 33 ?_; intro gb361 hg w7 hbox hb; have BK361 := Aside0.mk (hbox); have GW361 := bg hg HB; have GJ361 := gi GW361; have GE361 := GW361; replace HB := bs HB hb; have NB360_361 := b1 BK360 hg; have NI360_361 := ni NB360_361; have NB361_360 := b2 BK360 hg; have NI361_360 := ni NB361_360; replace BK360 := bk BK360 hb; clear hb hbox hg; have hnb8 := NB360_361.out; have hnc8 := NB361_360.out; obtain ⟨hcz9_0, hcz9_1, hcz9_2, hfz9_0, hfz9_1, hfz9_2⟩ := cs3 BK360; obtain ⟨hcz10_0, hcz10_1, hcz10_2, hfz10_0, hfz10_1, hfz10_2⟩ := cs3 BK361) | (go_at_call 101; (with_reducible refine (slices_Equal_int_int.calls k _ _ l0_2 _ _ l1_2 t362 _ ?side1 ?side2 ?side3 ?side4 A5.out).mono ?_); (case side1 => exact ch HR0_2 HB); (case side2 => exact HC0_2.out); (case side3 => exact ch HR1_2 HB); (case side4 => exact HC1_2.out); rintro e w' ⟨rfl, ⟨nd, rfl⟩⟩))
   go_ret
   exact ⟨y0_6, bI HB.out⟩
  rw [if_neg c4] at H
  have c4b0 : (a0_1.toList == a1_1.toList) = false := beq_eq_false_iff_ne.mpr c4; have c4b1 : (a0_1.toList != a1_1.toList) = true := bne_iff_ne.mpr c4; obtain rfl := Option.some.inj H
  go_enter Tryz.func57, Tryz.ntmps57
  go_wp2_with (first | ((with_reducible refine gd 2 ?_); refine bA 2 #[.int .i64 a0_0, .string a0_1, .slice A0_2 l0_2.length c0_2] 33 ?_; intro gb360 hg w11 hbox hb; have BK360 := Aside0.mk (hbox); have GW360 := bg hg HB; have GJ360 := gi GW360; have GE360 := GW360; replace HB := bs HB hb; clear hb hbox hg) | ((with_reducible refine gd 3 ?_); refine bA 3 #[.int .i64 a1_0, .string a1_1, .slice A1_2 l1_2.length c1_2] 33 ?_; intro gb361 hg w12 hbox hb; have BK361 := Aside0.mk (hbox); have GW361 := bg hg HB; have GJ361 := gi GW361; have GE361 := GW361; replace HB := bs HB hb; have NB360_361 := b1 BK360 hg; have NI360_361 := ni NB360_361; have NB361_360 := b2 BK360 hg; have NI361_360 := ni NB361_360; replace BK360 := bk BK360 hb; clear hb hbox hg; have hnb13 := NB360_361.out; have hnc13 := NB361_360.out; obtain ⟨hcz14_0, hcz14_1, hcz14_2, hfz14_0, hfz14_1, hfz14_2⟩ := cs3 BK360; obtain ⟨hcz15_0, hcz15_1, hcz15_2, hfz15_0, hfz15_1, hfz15_2⟩ := cs3 BK361))
  go_ret
  exact ⟨y0_6, bI HB.out⟩
 rw [if_neg c3] at H
 have c3b0 : (a0_0 == a1_0) = false := beq_eq_false_iff_ne.mpr c3; have c3b1 : (a0_0 != a1_0) = true := bne_iff_ne.mpr c3; obtain rfl := Option.some.inj H
 go_enter Tryz.func57, Tryz.ntmps57
 go_wp2_with (first | ((with_reducible refine gd 2 ?_); refine bA 2 #[.int .i64 a0_0, .string a0_1, .slice A0_2 l0_2.length c0_2] 33 ?_; intro gb360 hg w16 hbox hb; have BK360 := Aside0.mk (hbox); have GW360 := bg hg HB; have GJ360 := gi GW360; have GE360 := GW360; replace HB := bs HB hb; clear hb hbox hg) | ((with_reducible refine gd 3 ?_); refine bA 3 #[.int .i64 a1_0, .string a1_1, .slice A1_2 l1_2.length c1_2] 33 ?_; intro gb361 hg w17 hbox hb; have BK361 := Aside0.mk (hbox); have GW361 := bg hg HB; have GJ361 := gi GW361; have GE361 := GW361; replace HB := bs HB hb; have NB360_361 := b1 BK360 hg; have NI360_361 := ni NB360_361; have NB361_360 := b2 BK360 hg; have NI361_360 := ni NB361_360; replace BK360 := bk BK360 hb; clear hb hbox hg; have hnb18 := NB360_361.out; have hnc18 := NB361_360.out; obtain ⟨hcz19_0, hcz19_1, hcz19_2, hfz19_0, hfz19_1, hfz19_2⟩ := cs3 BK360; obtain ⟨hcz20_0, hcz20_1, hcz20_2, hfz20_0, hfz20_1, hfz20_2⟩ := cs3 BK361))
 go_ret
 exact ⟨y0_6, bI HB.out⟩

/-! ### impl_NameOk: function 95 -/
def impl_NameOk.f (k : Nat) (a0 : ByteArray) : Option (Bool) := (impl_Steps.f k a0).bind fun bt363 => (some bt363.2)
theorem impl_NameOk.mono : ∀ a0 k, LeO (impl_NameOk.f k a0) (impl_NameOk.f (k + 1) a0) := by
 intro a0 k
 unfold impl_NameOk.f
 repeat' first | (with_reducible exact impl_Steps.mono _ _) | (with_reducible exact LeO.refl _) | (with_reducible exact LeO.none _) | (with_reducible refine LeO.ite ?_ ?_) | (with_reducible refine LeO.bind ?_ (fun _ => ?_))
set_option maxHeartbeats 8000000 in
set_option maxRecDepth 100000 in
theorem impl_NameOk.calls (k : Nat) (a0 : ByteArray) (r : Bool) (w : World) (h : impl_NameOk.f k a0 = some r) (hG : Glob w := by exact gG HG HB) :
  Calls Tryz.prog 95 #[.string a0] w fun e w' => e = .returned (.bool r) ∧ Below w.heap.size w w' := by
 have HG := Aside0.mk hG; clear hG; have HB := Aside0.mk (Below.refl w.heap.size w)
 have H : ((impl_Steps.f k a0).bind fun bt363 => (some bt363.2)) = some r := h
 clear h; obtain ⟨⟨t363, t364⟩, A20, H⟩ := Option.bind_eq_some_iff.mp H
 try dsimp only at H
 have A2 := Aside0.mk A20; clear A20; obtain rfl := Option.some.inj H
 go_enter Tryz.func95, Tryz.ntmps95
 go_wp2_with (first | ((with_reducible refine gate_callee (f := 90) rfl ?_); refine gB (some 7) Tryz.func90 #[.string a0] ?_; (with_reducible refine (impl_Steps.calls k a0 t363 t364 _ A2.out).mono ?_); rintro e w3 ⟨v365, rfl, ho0, hb⟩; refine ⟨_, rfl, ?_⟩; have HO366 := Aside0.mk (Kd.S_lower ho0 (below_size (bI HB.out))); replace HB := bs HB hb; (try clear hb); (try clear ho0)))
 go_ret
 exact ⟨y0_6, bI HB.out⟩

/-! ### impl_SetOk: function 96 -/
def impl_SetOk.l0 : Nat → Int → List Int → List Int → Int → Int → Option (Bool)
 | 0, _, _, _, _, _ => none
 | k + 1, x0, x1, x7, x8, x9 => if x9 < x8 then (if 0 ≤ x9 then (if x9 < (x7.length : Int) then (if (rd x7 x9) < 0 then (some false) else (if (rd x7 x9) ≥ x0 then (some false) else (if x9 > 0 then (if 0 ≤ (wrap64 (x9 - 1)) then (if (wrap64 (x9 - 1)) < (x1.length : Int) then (if (rd x1 (wrap64 (x9 - 1))) ≥ (rd x7 x9) then (some false) else (impl_SetOk.l0 k x0 x1 x7 x8 (wrap64 (x9 + 1)))) else (none)) else (none)) else (impl_SetOk.l0 k x0 x1 x7 x8 (wrap64 (x9 + 1)))))) else (none)) else (none)) else (some true)
def impl_SetOk.f (k : Nat) (a0 : Int) (l1 : List Int) : Option (Bool) := impl_SetOk.l0 k a0 l1 l1 (l1.length : Int) 0
theorem impl_SetOk.mono_l : ∀ k, (∀ y0 y1 y2 y3 y4, LeO (impl_SetOk.l0 k y0 y1 y2 y3 y4) (impl_SetOk.l0 (k + 1) y0 y1 y2 y3 y4))
 | 0 => fun _ _ _ _ _ r h => by simp [impl_SetOk.l0] at h
 | k + 1 => by
  have ih0 := impl_SetOk.mono_l k
  intro y0 y1 y2 y3 y4
  unfold impl_SetOk.l0
  repeat' first | (with_reducible exact ih0 _ _ _ _ _) | (with_reducible exact LeO.refl _) | (with_reducible exact LeO.none _) | (with_reducible refine LeO.ite ?_ ?_) | (with_reducible refine LeO.bind ?_ (fun _ => ?_))
theorem impl_SetOk.mono : ∀ a0 a1 k, LeO (impl_SetOk.f k a0 a1) (impl_SetOk.f (k + 1) a0 a1) := by
 intro a0 a1 k
 have ih0 := impl_SetOk.mono_l k
 unfold impl_SetOk.f
 repeat' first | (with_reducible exact ih0 _ _ _ _ _) | (with_reducible exact LeO.refl _) | (with_reducible exact LeO.none _) | (with_reducible refine LeO.ite ?_ ?_) | (with_reducible refine LeO.bind ?_ (fun _ => ?_))
set_option maxHeartbeats 8000000 in
set_option maxRecDepth 100000 in
theorem impl_SetOk.calls (k : Nat) (a0 : Int) (A1 : Option Addr) (c1 : Nat) (l1 : List Int) (r : Bool) (w : World) (hr1 : Kd.C (Kd.int .i64) w A1 l1.length l1) (hc1 : l1.length ≤ c1) (h : impl_SetOk.f k a0 l1 = some r) :
  Calls Tryz.prog 96 #[.int .i64 a0, .slice A1 l1.length c1] w fun e w' => e = .returned (.bool r) ∧ Drawn0 w w' := by
 have HR1 := Aside0.mk hr1; have HC1 := Aside0.mk hc1; clear hr1 hc1; have H : (impl_SetOk.l0 k a0 l1 l1 (l1.length : Int) 0) = some r := h; clear h; have H' := Aside0.mk H; clear H
 go_enter Tryz.func96, Tryz.ntmps96
 go_wp2
 go_loopg [9] k (fun kq v9 w' => ∃ (x9_1 : Int), v9 = .int .i64 x9_1 ∧ Aside0 (impl_SetOk.l0 kq a0 l1 l1 (l1.length : Int) x9_1 = some r) ∧ Aside0 (kq ≤ k) ∧ Drawn0 w w')
 case atStart => exact ⟨(0), y0_9, H', ⟨Nat.le_refl _⟩, y0_7⟩
 case round =>
  clear H'
  try clear c1
  try clear p2
  obtain ⟨x9_1, rfl, HA, HK1, ⟨m1, rfl⟩⟩ := hrel; cases gk with
  | zero => exact absurd HA.out (by simp [impl_SetOk.l0])
  | succ k1 =>
   have H := HA.out; clear HA
   simp only [impl_SetOk.l0] at H
   by_cases c3 : x9_1 < (l1.length : Int)
   ·
    rw [if_pos c3] at H
    have c3b0 : decide (x9_1 < (l1.length : Int)) = true := decide_eq_true c3; clear c3
    by_cases c4 : 0 ≤ x9_1
    rotate_left
    ·
     rw [if_neg c4] at H
     exact absurd H (by simp)
    rw [if_pos c4] at H
    have c4b0 : decide (0 ≤ x9_1) = true := decide_eq_true c4; clear c4
    by_cases c5 : x9_1 < (l1.length : Int)
    rotate_left
    ·
     rw [if_neg c5] at H
     exact absurd H (by simp)
    rw [if_pos c5] at H
    have c5b0 : decide (x9_1 < (l1.length : Int)) = true := decide_eq_true c5; clear c5
    by_cases c6 : (rd l1 x9_1) < 0
    ·
     rw [if_pos c6] at H
     have c6b0 : decide ((rd l1 x9_1) < 0) = true := decide_eq_true c6; clear c6; obtain rfl := Option.some.inj H; have p367 : 0 ≤ (x9_1 : Int) := of_decide_eq_true y0_8; have q367 : x9_1 < (l1.length : Int) := of_decide_eq_true y0_8; obtain ⟨ad367, e367, hx367_0⟩ := Kd.at_int HR1.out x9_1 p367 q367; cases e367; replace p367 := eq_true p367; replace q367 := eq_true q367
     go_wp2
     go_ret
     exact ⟨y0_9, y0_7⟩
    rw [if_neg c6] at H
    have c6b0 : decide ((rd l1 x9_1) < 0) = false := decide_eq_false c6; clear c6
    by_cases c7 : (rd l1 x9_1) ≥ a0
    ·
     rw [if_pos c7] at H
     have c7b0 : decide (a0 ≤ (rd l1 x9_1)) = true := decide_eq_true c7; clear c7; obtain rfl := Option.some.inj H; have p367 : 0 ≤ (x9_1 : Int) := of_decide_eq_true y0_8; have q367 : x9_1 < (l1.length : Int) := of_decide_eq_true y0_8; obtain ⟨ad367, e367, hx367_0⟩ := Kd.at_int HR1.out x9_1 p367 q367; cases e367; replace p367 := eq_true p367; replace q367 := eq_true q367
     go_wp2
     go_ret
     exact ⟨y0_9, y0_7⟩
    rw [if_neg c7] at H
    have c7b0 : decide (a0 ≤ (rd l1 x9_1)) = false := decide_eq_false c7; clear c7
    by_cases c8 : x9_1 > 0
    ·
     rw [if_pos c8] at H
     have c8b0 : decide (0 < x9_1) = true := decide_eq_true c8; clear c8; obtain ⟨ji9, hji9⟩ : ∃ j_ : Int, (wrap64 (x9_1 - 1)) = j_ := ⟨_, rfl⟩
     replace H : (if 0 ≤ (ji9) then (if (ji9) < (l1.length : Int) then (if (rd l1 (ji9)) ≥ (rd l1 x9_1) then (some false) else (impl_SetOk.l0 k1 a0 l1 l1 (l1.length : Int) (wrap64 (x9_1 + 1)))) else (none)) else (none)) = some r := by first | (rw [hji9] at H; exact H) | (simp only [hji9] at H ⊢; exact H)
     have hji9w : (IntKind.i64.wrap (x9_1 - 1)) = ji9 := (i64_w _).trans hji9
     by_cases c10 : 0 ≤ (ji9)
     rotate_left
     ·
      rw [if_neg c10] at H
      exact absurd H (by simp)
     rw [if_pos c10] at H
     have c10b0 : decide (0 ≤ (ji9)) = true := decide_eq_true c10; clear c10
     by_cases c11 : (ji9) < (l1.length : Int)
     rotate_left
     ·
      rw [if_neg c11] at H
      exact absurd H (by simp)
     rw [if_pos c11] at H
     have c11b0 : decide ((ji9) < (l1.length : Int)) = true := decide_eq_true c11; clear c11
     by_cases c12 : (rd l1 (ji9)) ≥ (rd l1 x9_1)
     ·
      rw [if_pos c12] at H
      have c12b0 : decide ((rd l1 x9_1) ≤ (rd l1 (ji9))) = true := decide_eq_true c12; clear c12; obtain rfl := Option.some.inj H; have p367 : 0 ≤ (x9_1 : Int) := of_decide_eq_true y0_8; have q367 : x9_1 < (l1.length : Int) := of_decide_eq_true y0_8; obtain ⟨ad367, e367, hx367_0⟩ := Kd.at_int HR1.out x9_1 p367 q367; cases e367; replace p367 := eq_true p367; replace q367 := eq_true q367; have p368 : 0 ≤ ((ji9) : Int) := of_decide_eq_true y0_8; have q368 : (ji9) < (l1.length : Int) := of_decide_eq_true y0_8; obtain ⟨ad368, e368, hx368_0⟩ := Kd.at_int HR1.out (ji9) p368 q368
      obtain rfl : ad367 = ad368 := (by injection e368)
      replace p368 := eq_true p368; replace q368 := eq_true q368
      go_wp2
      go_ret
      exact ⟨by first | rfl | (simp; done) | (simp only [← hji9] <;> (first | rfl | simp)) | (simp [*]; done), y0_7⟩
     rw [if_neg c12] at H
     have c12b0 : decide ((rd l1 x9_1) ≤ (rd l1 (ji9))) = false := decide_eq_false c12; clear c12; have H' := Aside0.mk H; clear H; have p367 : 0 ≤ (x9_1 : Int) := of_decide_eq_true y0_8; have q367 : x9_1 < (l1.length : Int) := of_decide_eq_true y0_8; obtain ⟨ad367, e367, hx367_0⟩ := Kd.at_int HR1.out x9_1 p367 q367; cases e367; replace p367 := eq_true p367; replace q367 := eq_true q367; have p368 : 0 ≤ ((ji9) : Int) := of_decide_eq_true y0_8; have q368 : (ji9) < (l1.length : Int) := of_decide_eq_true y0_8; obtain ⟨ad368, e368, hx368_0⟩ := Kd.at_int HR1.out (ji9) p368 q368
     obtain rfl : ad367 = ad368 := (by injection e368)
     replace p368 := eq_true p368; replace q368 := eq_true q368
     go_wp2
     go_roundg k1
     case measure => have := HK1.out; omega
     case rel => exact ⟨(wrap64 (x9_1 + 1)), y0_9, H', ⟨y0_13⟩, y0_7⟩
    rw [if_neg c8] at H
    have c8b0 : decide (0 < x9_1) = false := decide_eq_false c8; clear c8; have H' := Aside0.mk H; clear H; have p367 : 0 ≤ (x9_1 : Int) := of_decide_eq_true y0_8; have q367 : x9_1 < (l1.length : Int) := of_decide_eq_true y0_8; obtain ⟨ad367, e367, hx367_0⟩ := Kd.at_int HR1.out x9_1 p367 q367; cases e367; replace p367 := eq_true p367; replace q367 := eq_true q367
    go_wp2
    go_roundg k1
    case measure => have := HK1.out; omega
    case rel => exact ⟨(wrap64 (x9_1 + 1)), y0_9, H', ⟨y0_13⟩, y0_7⟩
   rw [if_neg c3] at H
   have c3b0 : decide (x9_1 < (l1.length : Int)) = false := decide_eq_false c3; clear c3; obtain rfl := Option.some.inj H
   go_wp2
   go_ret
   exact ⟨y0_9, y0_7⟩

end Go.Proofs.YtemjmefacifdeaaGreatDoor.PFnSettlesThree
