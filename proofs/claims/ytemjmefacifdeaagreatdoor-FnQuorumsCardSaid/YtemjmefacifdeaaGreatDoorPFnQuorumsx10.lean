-- By a program of this session, out of the translation (the print of the kit, with turns of its own). Lean checks it.
import Derived.Test.YtemjmefacifdeaaGreatDoorPFnQuorumsx0
import Derived.Test.YtemjmefacifdeaaGreatDoorPFnQuorumsx2
import Derived.Test.YtemjmefacifdeaaGreatDoorPFnQuorumsx9
namespace Go.Proofs.YtemjmefacifdeaaGreatDoor.PFnQuorums
open Go.RowKit Go.Proofs.YtemjmefacifdeaaGreatDoorW.PrintWords Go.Proofs.YtemjmefacifdeaaGreatDoorW.PrintLast Go.Proofs.YtemjmefacifdeaaGreatDoorW.PrintMore
attribute [local go_sem] max2_int min2_int max_two min_two max_three min_three max_four min_four   -- for this text's walks alone
attribute [local go_sem] cell_in frozen_in
set_option synthInstance.maxSize 1000000
set_option synthInstance.maxHeartbeats 2000000
set_option linter.unusedVariables false
set_option linter.unusedSimpArgs false

/-! ### slices_Equal_int_int: function 101 -/
def slices_Equal_int_int.l0 : Nat → List Int → List Int → Int → Int → Option (Bool)
 | 0, _, _, _, _ => none
 | k + 1, x0, x1, x12, x13 => if x13 < x12 then (if 0 ≤ x13 then (if x13 < (x0.length : Int) then (if x13 < (x1.length : Int) then (if (rd x0 x13) = (rd x1 x13) then (slices_Equal_int_int.l0 k x0 x1 x12 (wrap64 (x13 + 1))) else (some false)) else (none)) else (none)) else (none)) else (some true)
def slices_Equal_int_int.f (k : Nat) (l0 : List Int) (l1 : List Int) : Option (Bool) := if (l0.length : Int) = (l1.length : Int) then (slices_Equal_int_int.l0 k l0 l1 (l0.length : Int) 0) else (some false)
theorem slices_Equal_int_int.mono_l : ∀ k, (∀ y0 y1 y2 y3, LeO (slices_Equal_int_int.l0 k y0 y1 y2 y3) (slices_Equal_int_int.l0 (k + 1) y0 y1 y2 y3))
 | 0 => fun _ _ _ _ r h => by simp [slices_Equal_int_int.l0] at h
 | k + 1 => by
  have ih0 := slices_Equal_int_int.mono_l k
  intro y0 y1 y2 y3
  unfold slices_Equal_int_int.l0
  repeat' first | (with_reducible exact ih0 _ _ _ _) | (with_reducible exact LeO.refl _) | (with_reducible exact LeO.none _) | (with_reducible refine LeO.ite ?_ ?_) | (with_reducible refine LeO.bind ?_ (fun _ => ?_))
theorem slices_Equal_int_int.mono : ∀ a0 a1 k, LeO (slices_Equal_int_int.f k a0 a1) (slices_Equal_int_int.f (k + 1) a0 a1) := by
 intro a0 a1 k
 have ih0 := slices_Equal_int_int.mono_l k
 unfold slices_Equal_int_int.f
 repeat' first | (with_reducible exact ih0 _ _ _ _) | (with_reducible exact LeO.refl _) | (with_reducible exact LeO.none _) | (with_reducible refine LeO.ite ?_ ?_) | (with_reducible refine LeO.bind ?_ (fun _ => ?_))
set_option maxHeartbeats 8000000 in
set_option maxRecDepth 100000 in
theorem slices_Equal_int_int.calls (k : Nat) (A0 : Option Addr) (c0 : Nat) (l0 : List Int) (A1 : Option Addr) (c1 : Nat) (l1 : List Int) (r : Bool) (w : World) (hr0 : Kd.C (Kd.int .i64) w A0 l0.length l0) (hc0 : l0.length ≤ c0) (hr1 : Kd.C (Kd.int .i64) w A1 l1.length l1) (hc1 : l1.length ≤ c1) (h : slices_Equal_int_int.f k l0 l1 = some r) :
  Calls Tryz.prog 101 #[.slice A0 l0.length c0, .slice A1 l1.length c1] w fun e w' => e = .returned (.bool r) ∧ Drawn0 w w' := by
 have HR0 := Aside0.mk hr0; have HC0 := Aside0.mk hc0; clear hr0 hc0; have HR1 := Aside0.mk hr1; have HC1 := Aside0.mk hc1; clear hr1 hc1; have H := h; unfold slices_Equal_int_int.f at H; clear h
 by_cases c3 : (l0.length : Int) = (l1.length : Int)
 ·
  rw [if_pos c3] at H
  have c3b0 : ((l0.length : Int) == (l1.length : Int)) = true := beq_iff_eq.mpr c3; have c3b1 : ((l0.length : Int) != (l1.length : Int)) = false := bne_eq_false_iff_eq.mpr c3
  have c3b2 : (l0.length == l1.length) = true := by first | simpa using c3 | (simp at c3 ⊢; omega)
  clear c3; have H' := Aside0.mk H; clear H
  go_enter Tryz.func101, Tryz.ntmps101
  go_wp2
  repeat (go_quiet (fail); try go_wp2)
  go_loopg [13] k (fun kq v13 w' => ∃ (x13_1 : Int), v13 = .int .i64 x13_1 ∧ Aside0 (slices_Equal_int_int.l0 kq l0 l1 (l0.length : Int) x13_1 = some r) ∧ Aside0 (kq ≤ k) ∧ Drawn0 w w')
  case atStart => exact ⟨(0), y0_15, H', ⟨Nat.le_refl _⟩, y0_13⟩
  case round =>
   clear H'
   try clear c1
   try clear p2
   try clear c3
   try clear c3b0
   try clear c3b1
   try clear c3b2
   obtain ⟨x13_1, rfl, HA, HK1, ⟨m1, rfl⟩⟩ := hrel; cases gk with
   | zero => exact absurd HA.out (by simp [slices_Equal_int_int.l0])
   | succ k1 =>
    have H := HA.out; clear HA
    simp only [slices_Equal_int_int.l0] at H
    by_cases c4 : x13_1 < (l0.length : Int)
    ·
     rw [if_pos c4] at H
     have c4b0 : decide (x13_1 < (l0.length : Int)) = true := decide_eq_true c4; clear c4
     by_cases c5 : 0 ≤ x13_1
     rotate_left
     ·
      rw [if_neg c5] at H
      exact absurd H (by simp)
     rw [if_pos c5] at H
     have c5b0 : decide (0 ≤ x13_1) = true := decide_eq_true c5; clear c5
     by_cases c6 : x13_1 < (l0.length : Int)
     rotate_left
     ·
      rw [if_neg c6] at H
      exact absurd H (by simp)
     rw [if_pos c6] at H
     have c6b0 : decide (x13_1 < (l0.length : Int)) = true := decide_eq_true c6; clear c6
     by_cases c7 : x13_1 < (l1.length : Int)
     rotate_left
     ·
      rw [if_neg c7] at H
      exact absurd H (by simp)
     rw [if_pos c7] at H
     have c7b0 : decide (x13_1 < (l1.length : Int)) = true := decide_eq_true c7; clear c7
     by_cases c8 : (rd l0 x13_1) = (rd l1 x13_1)
     ·
      rw [if_pos c8] at H
      have c8b0 : ((rd l0 x13_1) == (rd l1 x13_1)) = true := beq_iff_eq.mpr c8; have c8b1 : ((rd l0 x13_1) != (rd l1 x13_1)) = false := bne_eq_false_iff_eq.mpr c8; clear c8; have H' := Aside0.mk H; clear H; have p596 : 0 ≤ (x13_1 : Int) := of_decide_eq_true y0_14; have q596 : x13_1 < (l0.length : Int) := of_decide_eq_true y0_14; obtain ⟨ad596, e596, hx596_0⟩ := Kd.at_int HR0.out x13_1 p596 q596; cases e596; replace p596 := eq_true p596; replace q596 := eq_true q596; have p597 : 0 ≤ (x13_1 : Int) := of_decide_eq_true y0_14; have q597 : x13_1 < (l1.length : Int) := of_decide_eq_true y0_14; obtain ⟨ad597, e597, hx597_0⟩ := Kd.at_int HR1.out x13_1 p597 q597; cases e597; replace p597 := eq_true p597; replace q597 := eq_true q597
      go_wp2
      repeat (go_quiet (fail); try go_wp2)
      go_roundg k1
      case measure => have := HK1.out; omega
      case rel => exact ⟨(wrap64 (x13_1 + 1)), y0_15, H', ⟨y0_17⟩, y0_13⟩
     rw [if_neg c8] at H
     have c8b0 : ((rd l0 x13_1) == (rd l1 x13_1)) = false := beq_eq_false_iff_ne.mpr c8; have c8b1 : ((rd l0 x13_1) != (rd l1 x13_1)) = true := bne_iff_ne.mpr c8; obtain rfl := Option.some.inj H; have p596 : 0 ≤ (x13_1 : Int) := of_decide_eq_true y0_14; have q596 : x13_1 < (l0.length : Int) := of_decide_eq_true y0_14; obtain ⟨ad596, e596, hx596_0⟩ := Kd.at_int HR0.out x13_1 p596 q596; cases e596; replace p596 := eq_true p596; replace q596 := eq_true q596; have p597 : 0 ≤ (x13_1 : Int) := of_decide_eq_true y0_14; have q597 : x13_1 < (l1.length : Int) := of_decide_eq_true y0_14; obtain ⟨ad597, e597, hx597_0⟩ := Kd.at_int HR1.out x13_1 p597 q597; cases e597; replace p597 := eq_true p597; replace q597 := eq_true q597
     go_wp2
     repeat (go_quiet (fail); try go_wp2)
     go_ret
     exact ⟨y0_15, y0_13⟩
    rw [if_neg c4] at H
    have c4b0 : decide (x13_1 < (l0.length : Int)) = false := decide_eq_false c4; clear c4; obtain rfl := Option.some.inj H
    go_wp2
    repeat (go_quiet (fail); try go_wp2)
    go_ret
    exact ⟨y0_15, y0_13⟩
 rw [if_neg c3] at H
 have c3b0 : ((l0.length : Int) == (l1.length : Int)) = false := beq_eq_false_iff_ne.mpr c3; have c3b1 : ((l0.length : Int) != (l1.length : Int)) = true := bne_iff_ne.mpr c3
 have c3b2 : (l0.length == l1.length) = false := by first | simpa using c3 | (simp at c3 ⊢; omega)
 obtain rfl := Option.some.inj H
 go_enter Tryz.func101, Tryz.ntmps101
 go_wp2
 repeat (go_quiet (fail); try go_wp2)
 go_ret
 exact ⟨y0_15, y0_13⟩

/-! ### impl_QcSame: function 57 -/
def impl_QcSame.f (k : Nat) (a0_0 : Int) (a0_1 : ByteArray) (l0_2 : List Int) (a1_0 : Int) (a1_1 : ByteArray) (l1_2 : List Int) : Option (Bool) := if a0_0 = a1_0 then (if a0_1.toList = a1_1.toList then ((slices_Equal_int_int.f k l0_2 l1_2).bind fun t600 => (some t600)) else (some false)) else (some false)
theorem impl_QcSame.mono : ∀ a0 a1 a2 a3 a4 a5 k, LeO (impl_QcSame.f k a0 a1 a2 a3 a4 a5) (impl_QcSame.f (k + 1) a0 a1 a2 a3 a4 a5) := by
 intro a0 a1 a2 a3 a4 a5 k
 unfold impl_QcSame.f
 repeat' first | (with_reducible exact slices_Equal_int_int.mono _ _ _) | (with_reducible exact LeO.refl _) | (with_reducible exact LeO.none _) | (with_reducible refine LeO.ite ?_ ?_) | (with_reducible refine LeO.bind ?_ (fun _ => ?_))
set_option maxHeartbeats 8000000 in
set_option maxRecDepth 100000 in
theorem impl_QcSame.calls (k : Nat) (a0_0 : Int) (a0_1 : ByteArray) (A0_2 : Option Addr) (c0_2 : Nat) (l0_2 : List Int) (a1_0 : Int) (a1_1 : ByteArray) (A1_2 : Option Addr) (c1_2 : Nat) (l1_2 : List Int) (r : Bool) (w : World) (hr0_2 : Kd.C (Kd.int .i64) w A0_2 l0_2.length l0_2) (hc0_2 : l0_2.length ≤ c0_2) (hr1_2 : Kd.C (Kd.int .i64) w A1_2 l1_2.length l1_2) (hc1_2 : l1_2.length ≤ c1_2) (h : impl_QcSame.f k a0_0 a0_1 l0_2 a1_0 a1_1 l1_2 = some r) :
  Calls Tryz.prog 57 #[.agg #[.int .i64 a0_0, .string a0_1, .slice A0_2 l0_2.length c0_2], .agg #[.int .i64 a1_0, .string a1_1, .slice A1_2 l1_2.length c1_2]] w fun e w' => e = .returned (.bool r) ∧ Below w.heap.size w w' := by
 have hu33 := Tryz.underlying33; have HR0_2 := Aside0.mk hr0_2; have HC0_2 := Aside0.mk hc0_2; clear hr0_2 hc0_2; have HR1_2 := Aside0.mk hr1_2; have HC1_2 := Aside0.mk hc1_2; clear hr1_2 hc1_2; have HB := Aside0.mk (Below.refl w.heap.size w)
 have H := h; unfold impl_QcSame.f at H
 clear h
 go_enter Tryz.func57, Tryz.ntmps57
 have H' := Aside0.mk H; clear H
 go_upto_region 1 with (first | ((with_reducible refine gd 2 ?_); refine bL 2 #[.int .i64 a0_0, .string a0_1, .slice A0_2 l0_2.length c0_2] 33 ?_; intro gb598 w3 _ _ _) | ((with_reducible refine gd 3 ?_); refine bL 3 #[.int .i64 a1_0, .string a1_1, .slice A1_2 l1_2.length c1_2] 33 ?_; intro gb599 w4 _ _ _))
 have H := H'.out; clear H'
 by_cases c5 : a0_0 = a1_0
 ·
  rw [if_pos c5] at H
  have c5b0 : (a0_0 == a1_0) = true := beq_iff_eq.mpr c5; have c5b1 : (a0_0 != a1_0) = false := bne_eq_false_iff_eq.mpr c5; clear c5
  (first | rw [c5b0] | (simp only [i64_w, i32_w]; rw [c5b0]) | skip)
  by_cases c6 : a0_1.toList = a1_1.toList
  ·
   rw [if_pos c6] at H
   have c6b0 : (a0_1.toList == a1_1.toList) = true := beq_iff_eq.mpr c6; have c6b1 : (a0_1.toList != a1_1.toList) = false := bne_eq_false_iff_eq.mpr c6; clear c6; obtain ⟨t600, A7, H⟩ := oB H; (try dsimp only at H); obtain rfl := Option.some.inj H
   go_wp2_with (first | (go_at_call 101; refine aD (slices_Equal_int_int.calls (hr0 := pC HR0_2) (hc0 := HC0_2.out) (hr1 := pC HR1_2) (hc1 := HC1_2.out) (w := _) (h := A7.out)) ?_; intro w8 _))
   go_ret
   exact ⟨y0_15, UpW.out⟩
  rw [if_neg c6] at H
  have c6b0 : (a0_1.toList == a1_1.toList) = false := beq_eq_false_iff_ne.mpr c6; have c6b1 : (a0_1.toList != a1_1.toList) = true := bne_iff_ne.mpr c6; obtain rfl := Option.some.inj H
  go_wp2
  go_ret
  exact ⟨y0_15, UpW.out⟩
 rw [if_neg c5] at H
 have c5b0 : (a0_0 == a1_0) = false := beq_eq_false_iff_ne.mpr c5; have c5b1 : (a0_0 != a1_0) = true := bne_iff_ne.mpr c5
 (first | rw [c5b0] | (simp only [i64_w, i32_w]; rw [c5b0]) | skip)
 obtain rfl := Option.some.inj H
 go_wp2
 go_ret
 exact ⟨y0_15, UpW.out⟩

/-! ### impl_NameOk: function 95 -/
def impl_NameOk.f (k : Nat) (a0 : ByteArray) : Option (Bool) := (impl_Steps.f k a0).bind fun bt601 => (some bt601.2)
theorem impl_NameOk.mono : ∀ a0 k, LeO (impl_NameOk.f k a0) (impl_NameOk.f (k + 1) a0) := by
 intro a0 k
 unfold impl_NameOk.f
 repeat' first | (with_reducible exact impl_Steps.mono _ _) | (with_reducible exact LeO.refl _) | (with_reducible exact LeO.none _) | (with_reducible refine LeO.ite ?_ ?_) | (with_reducible refine LeO.bind ?_ (fun _ => ?_))
set_option maxHeartbeats 8000000 in
set_option maxRecDepth 100000 in
theorem impl_NameOk.calls (k : Nat) (a0 : ByteArray) (r : Bool) (w : World) (h : impl_NameOk.f k a0 = some r) (hG : Glob w := by exact gG HG HB) :
  Calls Tryz.prog 95 #[.string a0] w fun e w' => e = .returned (.bool r) ∧ Below w.heap.size w w' := by
 have HG := Aside0.mk hG; clear hG; have HB := Aside0.mk (Below.refl w.heap.size w)
 have H := h; unfold impl_NameOk.f at H
 clear h; obtain ⟨⟨t601, t602⟩, A2, H⟩ := oB H; (try dsimp only at H); obtain rfl := Option.some.inj H
 go_enter Tryz.func95, Tryz.ntmps95
 go_wp2_with (first | ((with_reducible refine gate_callee (f := 90) rfl ?_); refine gS1 (some 7) Tryz.func90 (impl_Steps.calls (w := _) (h := A2.out)) ?_; intro Ao603 co603 w3 _ HO604))
 go_ret
 exact ⟨y0_15, UpW.out⟩

/-! ### impl_SetOk: function 96 -/
def impl_SetOk.l0 : Nat → Int → List Int → List Int → Int → Int → Option (Bool)
 | 0, _, _, _, _, _ => none
 | k + 1, x0, x1, x7, x8, x9 => if x9 < x8 then (if 0 ≤ x9 then (if x9 < (x7.length : Int) then (if (rd x7 x9) < 0 then (some false) else (if (rd x7 x9) ≥ x0 then (some false) else (if x9 > 0 then (if 0 ≤ (wrap64 (x9 - 1)) then (if (wrap64 (x9 - 1)) < (x1.length : Int) then (if (rd x1 (wrap64 (x9 - 1))) ≥ (rd x7 x9) then (some false) else (impl_SetOk.l0 k x0 x1 x7 x8 (wrap64 (x9 + 1)))) else (none)) else (none)) else (impl_SetOk.l0 k x0 x1 x7 x8 (wrap64 (x9 + 1)))))) else (none)) else (none)) else (some true)
def impl_SetOk.f (k : Nat) (a0 : Int) (l1 : List Int) : Option (Bool) := impl_SetOk.l0 k a0 l1 l1 (l1.length : Int) 0
theorem impl_SetOk.mono_l : ∀ k, (∀ y0 y1 y2 y3 y4, LeO (impl_SetOk.l0 k y0 y1 y2 y3 y4) (impl_SetOk.l0 (k + 1) y0 y1 y2 y3 y4))
 | 0 => fun _ _ _ _ _ r h => by simp [impl_SetOk.l0] at h
 | k + 1 => by
  have ih0 := impl_SetOk.mono_l k
  intro y0 y1 y2 y3 y4
  unfold impl_SetOk.l0
  repeat' first | (with_reducible exact ih0 _ _ _ _ _) | (with_reducible exact LeO.refl _) | (with_reducible exact LeO.none _) | (with_reducible refine LeO.ite ?_ ?_) | (with_reducible refine LeO.bind ?_ (fun _ => ?_))
theorem impl_SetOk.mono : ∀ a0 a1 k, LeO (impl_SetOk.f k a0 a1) (impl_SetOk.f (k + 1) a0 a1) := by
 intro a0 a1 k
 have ih0 := impl_SetOk.mono_l k
 unfold impl_SetOk.f
 repeat' first | (with_reducible exact ih0 _ _ _ _ _) | (with_reducible exact LeO.refl _) | (with_reducible exact LeO.none _) | (with_reducible refine LeO.ite ?_ ?_) | (with_reducible refine LeO.bind ?_ (fun _ => ?_))
set_option maxHeartbeats 8000000 in
set_option maxRecDepth 100000 in
theorem impl_SetOk.calls (k : Nat) (a0 : Int) (A1 : Option Addr) (c1 : Nat) (l1 : List Int) (r : Bool) (w : World) (hr1 : Kd.C (Kd.int .i64) w A1 l1.length l1) (hc1 : l1.length ≤ c1) (h : impl_SetOk.f k a0 l1 = some r) :
  Calls Tryz.prog 96 #[.int .i64 a0, .slice A1 l1.length c1] w fun e w' => e = .returned (.bool r) ∧ Drawn0 w w' := by
 have HR1 := Aside0.mk hr1; have HC1 := Aside0.mk hc1; clear hr1 hc1; have H := h; unfold impl_SetOk.f at H; clear h; have H' := Aside0.mk H; clear H
 go_enter Tryz.func96, Tryz.ntmps96
 go_wp2
 go_loopg [9] k (fun kq v9 w' => ∃ (x9_1 : Int), v9 = .int .i64 x9_1 ∧ Aside0 (impl_SetOk.l0 kq a0 l1 l1 (l1.length : Int) x9_1 = some r) ∧ Aside0 (kq ≤ k) ∧ Drawn0 w w')
 case atStart => exact ⟨(0), y0_15, H', ⟨Nat.le_refl _⟩, y0_13⟩
 case round =>
  clear H'
  try clear c1
  try clear p2
  obtain ⟨x9_1, rfl, HA, HK1, ⟨m1, rfl⟩⟩ := hrel; cases gk with
  | zero => exact absurd HA.out (by simp [impl_SetOk.l0])
  | succ k1 =>
   have H := HA.out; clear HA
   simp only [impl_SetOk.l0] at H
   by_cases c3 : x9_1 < (l1.length : Int)
   ·
    rw [if_pos c3] at H
    have c3b0 : decide (x9_1 < (l1.length : Int)) = true := decide_eq_true c3; clear c3
    by_cases c4 : 0 ≤ x9_1
    rotate_left
    ·
     rw [if_neg c4] at H
     exact absurd H (by simp)
    rw [if_pos c4] at H
    have c4b0 : decide (0 ≤ x9_1) = true := decide_eq_true c4; clear c4
    by_cases c5 : x9_1 < (l1.length : Int)
    rotate_left
    ·
     rw [if_neg c5] at H
     exact absurd H (by simp)
    rw [if_pos c5] at H
    have c5b0 : decide (x9_1 < (l1.length : Int)) = true := decide_eq_true c5; clear c5
    by_cases c6 : (rd l1 x9_1) < 0
    ·
     rw [if_pos c6] at H
     have c6b0 : decide ((rd l1 x9_1) < 0) = true := decide_eq_true c6; clear c6; obtain rfl := Option.some.inj H; have p605 : 0 ≤ (x9_1 : Int) := of_decide_eq_true y0_14; have q605 : x9_1 < (l1.length : Int) := of_decide_eq_true y0_14; obtain ⟨ad605, e605, hx605_0⟩ := Kd.at_int HR1.out x9_1 p605 q605; cases e605; replace p605 := eq_true p605; replace q605 := eq_true q605
     go_wp2
     go_ret
     exact ⟨y0_15, y0_13⟩
    rw [if_neg c6] at H
    have c6b0 : decide ((rd l1 x9_1) < 0) = false := decide_eq_false c6; clear c6
    by_cases c7 : (rd l1 x9_1) ≥ a0
    ·
     rw [if_pos c7] at H
     have c7b0 : decide (a0 ≤ (rd l1 x9_1)) = true := decide_eq_true c7; clear c7; obtain rfl := Option.some.inj H; have p605 : 0 ≤ (x9_1 : Int) := of_decide_eq_true y0_14; have q605 : x9_1 < (l1.length : Int) := of_decide_eq_true y0_14; obtain ⟨ad605, e605, hx605_0⟩ := Kd.at_int HR1.out x9_1 p605 q605; cases e605; replace p605 := eq_true p605; replace q605 := eq_true q605
     go_wp2
     go_ret
     exact ⟨y0_15, y0_13⟩
    rw [if_neg c7] at H
    have c7b0 : decide (a0 ≤ (rd l1 x9_1)) = false := decide_eq_false c7; clear c7
    by_cases c8 : x9_1 > 0
    ·
     rw [if_pos c8] at H
     have c8b0 : decide (0 < x9_1) = true := decide_eq_true c8; clear c8; obtain ⟨ji9, hji9⟩ : ∃ j_ : Int, (wrap64 (x9_1 - 1)) = j_ := ⟨_, rfl⟩
     replace H : (if 0 ≤ (ji9) then (if (ji9) < (l1.length : Int) then (if (rd l1 (ji9)) ≥ (rd l1 x9_1) then (some false) else (impl_SetOk.l0 k1 a0 l1 l1 (l1.length : Int) (wrap64 (x9_1 + 1)))) else (none)) else (none)) = some r := by first | (rw [hji9] at H; exact H) | (simp only [hji9] at H ⊢; exact H)
     have hji9w : (IntKind.i64.wrap (x9_1 - 1)) = ji9 := (i64_w _).trans hji9
     by_cases c10 : 0 ≤ (ji9)
     rotate_left
     ·
      rw [if_neg c10] at H
      exact absurd H (by simp)
     rw [if_pos c10] at H
     have c10b0 : decide (0 ≤ (ji9)) = true := decide_eq_true c10; clear c10
     by_cases c11 : (ji9) < (l1.length : Int)
     rotate_left
     ·
      rw [if_neg c11] at H
      exact absurd H (by simp)
     rw [if_pos c11] at H
     have c11b0 : decide ((ji9) < (l1.length : Int)) = true := decide_eq_true c11; clear c11
     by_cases c12 : (rd l1 (ji9)) ≥ (rd l1 x9_1)
     ·
      rw [if_pos c12] at H
      have c12b0 : decide ((rd l1 x9_1) ≤ (rd l1 (ji9))) = true := decide_eq_true c12; clear c12; obtain rfl := Option.some.inj H; have p605 : 0 ≤ (x9_1 : Int) := of_decide_eq_true y0_14; have q605 : x9_1 < (l1.length : Int) := of_decide_eq_true y0_14; obtain ⟨ad605, e605, hx605_0⟩ := Kd.at_int HR1.out x9_1 p605 q605; cases e605; replace p605 := eq_true p605; replace q605 := eq_true q605; have p606 : 0 ≤ ((ji9) : Int) := of_decide_eq_true y0_14; have q606 : (ji9) < (l1.length : Int) := of_decide_eq_true y0_14; obtain ⟨ad606, e606, hx606_0⟩ := Kd.at_int HR1.out (ji9) p606 q606
      obtain rfl : ad605 = ad606 := (by injection e606)
      replace p606 := eq_true p606; replace q606 := eq_true q606
      go_wp2
      go_ret
      exact ⟨by first | rfl | (simp; done) | (simp only [← hji9] <;> (first | rfl | simp)) | (simp [*]; done), y0_13⟩
     rw [if_neg c12] at H
     have c12b0 : decide ((rd l1 x9_1) ≤ (rd l1 (ji9))) = false := decide_eq_false c12; clear c12; have H' := Aside0.mk H; clear H; have p605 : 0 ≤ (x9_1 : Int) := of_decide_eq_true y0_14; have q605 : x9_1 < (l1.length : Int) := of_decide_eq_true y0_14; obtain ⟨ad605, e605, hx605_0⟩ := Kd.at_int HR1.out x9_1 p605 q605; cases e605; replace p605 := eq_true p605; replace q605 := eq_true q605; have p606 : 0 ≤ ((ji9) : Int) := of_decide_eq_true y0_14; have q606 : (ji9) < (l1.length : Int) := of_decide_eq_true y0_14; obtain ⟨ad606, e606, hx606_0⟩ := Kd.at_int HR1.out (ji9) p606 q606
     obtain rfl : ad605 = ad606 := (by injection e606)
     replace p606 := eq_true p606; replace q606 := eq_true q606
     go_wp2
     go_roundg k1
     case measure => have := HK1.out; omega
     case rel => exact ⟨(wrap64 (x9_1 + 1)), y0_15, H', ⟨y0_17⟩, y0_13⟩
    rw [if_neg c8] at H
    have c8b0 : decide (0 < x9_1) = false := decide_eq_false c8; clear c8; have H' := Aside0.mk H; clear H; have p605 : 0 ≤ (x9_1 : Int) := of_decide_eq_true y0_14; have q605 : x9_1 < (l1.length : Int) := of_decide_eq_true y0_14; obtain ⟨ad605, e605, hx605_0⟩ := Kd.at_int HR1.out x9_1 p605 q605; cases e605; replace p605 := eq_true p605; replace q605 := eq_true q605
    go_wp2
    go_roundg k1
    case measure => have := HK1.out; omega
    case rel => exact ⟨(wrap64 (x9_1 + 1)), y0_15, H', ⟨y0_17⟩, y0_13⟩
   rw [if_neg c3] at H
   have c3b0 : decide (x9_1 < (l1.length : Int)) = false := decide_eq_false c3; clear c3; obtain rfl := Option.some.inj H
   go_wp2
   go_ret
   exact ⟨y0_15, y0_13⟩

/-! ### impl_QcOk: function 48 -/
def impl_QcOk.f (k : Nat) (a0_0 : Int) (a0_1 : Int) (a1_0 : Int) (a1_1 : ByteArray) (l1_2 : List Int) : Option (Bool) := (impl_ConfOk.f a0_0 a0_1).bind fun t609 => (if t609 = true then ((impl_QcFirst.f).bind fun bt610 => ((impl_QcSame.f k a1_0 a1_1 l1_2 bt610.1 bt610.2.1 bt610.2.2).bind fun t615 => (if t615 = true then (some true) else (if a1_0 ≥ 1 then ((impl_NameOk.f k a1_1).bind fun t616 => (if t616 = true then ((impl_ViewOf.f k a1_1).bind fun t617 => (if a1_0 = t617 then ((impl_SetOk.f k a0_0 l1_2).bind fun t618 => (if t618 = true then ((impl_Quorum.f a0_0 a0_1).bind fun t619 => (some (decide ((l1_2.length : Int) ≥ t619)))) else (some false))) else (some false))) else (some false))) else (some false))))) else (some false))
theorem impl_QcOk.mono : ∀ a0 a1 a2 a3 a4 k, LeO (impl_QcOk.f k a0 a1 a2 a3 a4) (impl_QcOk.f (k + 1) a0 a1 a2 a3 a4) := by
 intro a0 a1 a2 a3 a4 k
 unfold impl_QcOk.f
 repeat' first | (with_reducible exact impl_NameOk.mono _ _) | (with_reducible exact impl_QcSame.mono _ _ _ _ _ _ _) | (with_reducible exact impl_SetOk.mono _ _ _) | (with_reducible exact impl_ViewOf.mono _ _) | (with_reducible exact LeO.refl _) | (with_reducible exact LeO.none _) | (with_reducible refine LeO.ite ?_ ?_) | (with_reducible refine LeO.bind ?_ (fun _ => ?_))
def impl_QcOk.T3 : Bool × List (List Nat × List Nat) := (true, [([], []), ([], []), ([0, 1, 1], [0, 1]), ([2, 2], [2]), ([3], [3]), ([4, 3], [3, 4]), ([5, 3], [3, 5]), ([6, 3, 3], [3, 6]), ([7], [7]), ([8, 7], [7, 8]), ([9, 7, 7], [7, 9]), ([7, 10, 3], [3, 7, 10]), ([11, 10, 3], [3, 11]), ([12], [12]), ([13, 12], [12, 13]), ([12], [12]), ([15, 12], [12, 15]), ([16, 12, 12], [12, 16]), ([14, 17, 12], [12, 14, 17]), ([12, 18, 3], [3, 12, 18]), ([19, 17, 3], [3, 19]), ([20], [20]), ([21, 20], [20, 21]), ([20], [20]), ([23, 20], [20, 23]), ([22, 24, 20, 20], [20, 22, 24]), ([20, 25, 3], [3, 20, 25]), ([26, 25, 3], [3, 26]), ([27], [27]), ([28, 27], [27, 28]), ([29, 27], [27, 29]), ([27], [27]), ([31, 27, 27], [27, 31]), ([30, 32, 27], [27, 30, 32]), ([27, 33, 3], [3, 27, 33]), ([3, 34], [3, 34]), ([35, 32, 0, 1, 2, 3, 4, 5, 6, 7, 8, 9, 10, 11, 12, 13, 14, 15, 16, 17, 18, 19, 20, 21, 22, 23, 24, 25, 26, 27, 28, 29, 30, 31, 32, 33, 34, 35], [35])])
def impl_QcOk.B3 : List Nat := [0, 0, 3, 7, 15, 31, 63, 127, 255, 511, 1023, 2047, 4095, 8191, 16383, 8191, 40959, 106495, 262143, 524287, 1048575, 2097151, 4194303, 2097151, 10485759, 33554431, 67108863, 134217727, 268435455, 536870911, 1073741823, 268435455, 2415919103, 8589934591, 17179869183, 34359738367, 68719476735]
theorem impl_QcOk.tab3 : rtab .any (opsOf Tryz.f48 3) = impl_QcOk.T3 := by kernel_rfl
theorem impl_QcOk.bits3 : waitsOk impl_QcOk.T3.2 impl_QcOk.B3 = true := by kernel_rfl
set_option maxHeartbeats 8000000 in
set_option maxRecDepth 100000 in
theorem impl_QcOk.calls (k : Nat) (a0_0 : Int) (a0_1 : Int) (a1_0 : Int) (a1_1 : ByteArray) (A1_2 : Option Addr) (c1_2 : Nat) (l1_2 : List Int) (r : Bool) (w : World) (hr1_2 : Kd.C (Kd.int .i64) w A1_2 l1_2.length l1_2) (hc1_2 : l1_2.length ≤ c1_2) (h : impl_QcOk.f k a0_0 a0_1 a1_0 a1_1 l1_2 = some r) (hG : Glob w := by exact gG HG HB) :
  Calls Tryz.prog 48 #[.agg #[.int .i64 a0_0, .int .i64 a0_1], .agg #[.int .i64 a1_0, .string a1_1, .slice A1_2 l1_2.length c1_2]] w fun e w' => e = .returned (.bool r) ∧ Below w.heap.size w w' := by
 have HG := Aside0.mk hG; clear hG; have hu38 := Tryz.underlying38; have hu33 := Tryz.underlying33; have HR1_2 := Aside0.mk hr1_2; have HC1_2 := Aside0.mk hc1_2; clear hr1_2 hc1_2; have HB := Aside0.mk (Below.refl w.heap.size w)
 have H := h; unfold impl_QcOk.f at H
 clear h; obtain ⟨t609, A3, H⟩ := oB H; (try dsimp only at H)
 go_enter Tryz.func48, Tryz.ntmps48
 have H' := Aside0.mk H; clear H
 go_upto_if 7 with (first | ((with_reducible refine gd 2 ?_); refine bL 2 #[.int .i64 a0_0, .int .i64 a0_1] 38 ?_; intro gb607 w4 _ _ _) | ((with_reducible refine gd 3 ?_); refine bL 3 #[.int .i64 a1_0, .string a1_1, .slice A1_2 l1_2.length c1_2] 33 ?_; intro gb608 w5 _ _ _) | ((with_reducible refine gate_callee (f := 54) rfl ?_); refine gC (some 6) Tryz.func54 (impl_ConfOk.calls (w := _) (h := A3.out)) ?_; intro w6 _))
 have H := H'.out; clear H'
 by_cases c7 : t609 = true
 ·
  subst c7
  rw [if_pos rfl] at H
  obtain ⟨⟨t610, t611, t612⟩, A8, H⟩ := oB H; (try dsimp only at H); obtain ⟨t615, A9, H⟩ := oB H; (try dsimp only at H)
  by_cases c10 : t615 = true
  ·
   subst c10
   rw [if_pos rfl] at H
   obtain rfl := Option.some.inj H
   try go_wp2
   refine sB [] impl_QcOk.tab3 impl_QcOk.bits3 ?_; intro w11 _ HT_ HW_
   refine tB 0 (some 8) (bz 37 1) HT_ HW_ ?_
   refine o1 1 (some 9) (bz 37 3) HT_ rfl (kC1 Tryz.func39 (impl_QcFirst.calls (w := _) (h := A8.out)) ?_); intro Ao613 co613 w12 _ HO614
   refine nA (some 9) ?_
   refine o1 2 (some 10) (bz 37 7) HT_ rfl (kC Tryz.func57 (impl_QcSame.calls (hr0_2 := pC HR1_2) (hc0_2 := HC1_2.out) (hr1_2 := rC HO614) (hc1_2 := rL HO614) (w := _) (h := A9.out)) ?_); intro w13 _
   refine nA (some 10) ?_
   refine pA 3 (some 11) (bz 37 15) HT_ ?_
   refine pU 4 (some 12) (bz 37 31) HT_ ?_
   refine pU 5 (some 13) (bz 37 63) HT_ ?_
   refine pU 6 (some 14) (bz 37 127) HT_ ?_
   refine pU 7 (some 15) (bz 37 255) HT_ ?_
   refine pU 8 (some 16) (bz 37 511) HT_ ?_
   refine pU 9 (some 17) (bz 37 1023) HT_ ?_
   refine pU 10 (some 18) (bz 37 2047) HT_ ?_
   refine pU 11 (some 19) (bz 37 4095) HT_ ?_
   refine pU 12 (some 20) (bz 37 0x1fff) HT_ ?_
   refine pU 13 (some 21) (bz 37 0x3fff) HT_ ?_
   refine pU 14 (some 22) (bz 37 0x7fff) HT_ ?_
   refine pU 15 (some 23) (bz 37 0xffff) HT_ ?_
   refine pU 16 (some 24) (bz 37 0x1ffff) HT_ ?_
   refine pU 17 (some 25) (bz 37 0x3ffff) HT_ ?_
   refine pU 18 (some 26) (bz 37 0x7ffff) HT_ ?_
   refine pU 19 (some 27) (bz 37 0xfffff) HT_ ?_
   refine pU 20 (some 28) (bz 37 0x1fffff) HT_ ?_
   refine pU 21 (some 29) (bz 37 0x3fffff) HT_ ?_
   refine pU 22 (some 30) (bz 37 0x7fffff) HT_ ?_
   refine pU 23 (some 31) (bz 37 0xffffff) HT_ ?_
   refine pU 24 (some 32) (bz 37 0x1ffffff) HT_ ?_
   refine pU 25 (some 33) (bz 37 0x3ffffff) HT_ ?_
   refine pU 26 (some 34) (bz 37 0x7ffffff) HT_ ?_
   refine pU 27 (some 35) (bz 37 0xfffffff) HT_ ?_
   refine pU 28 (some 36) (bz 37 0x1fffffff) HT_ ?_
   refine pU 29 (some 37) (bz 37 0x3fffffff) HT_ ?_
   refine pU 30 (some 38) (bz 37 0x7fffffff) HT_ ?_
   refine pU 31 (some 39) (bz 37 0xffffffff) HT_ ?_
   refine pU 32 (some 40) (bz 37 0x1ffffffff) HT_ ?_
   refine pU 33 (some 41) (bz 37 0x3ffffffff) HT_ ?_
   refine pU 34 (some 42) (bz 37 0x7ffffffff) HT_ ?_
   refine pA 35 (some 43) (bz 37 0xfffffffff) HT_ ?_
   refine pA 36 (some 4) (bz 37 0x1fffffffff) HT_ ?_
   refine done_ (done_of HT_.out (by kernel_rfl)) ?_
   try go_wp2
   go_ret
   exact ⟨y0_15, UpW.out⟩
  replace c10 := Bool.eq_false_iff.mpr c10; subst c10
  rw [if_neg (show ¬ (false = true) by decide)] at H
  by_cases c14 : a1_0 ≥ 1
  ·
   rw [if_pos c14] at H
   have c14b0 : decide (1 ≤ a1_0) = true := decide_eq_true c14; clear c14
   (first | rw [c14b0] | (simp only [i64_w, i32_w]; rw [c14b0]) | skip)
   obtain ⟨t616, A15, H⟩ := oB H; (try dsimp only at H)
   by_cases c16 : t616 = true
   ·
    subst c16
    rw [if_pos rfl] at H
    obtain ⟨t617, A17, H⟩ := oB H; (try dsimp only at H)
    by_cases c18 : a1_0 = t617
    ·
     rw [if_pos c18] at H
     have c18b0 : (a1_0 == t617) = true := beq_iff_eq.mpr c18; have c18b1 : (a1_0 != t617) = false := bne_eq_false_iff_eq.mpr c18; clear c18; obtain ⟨t618, A19, H⟩ := oB H; (try dsimp only at H)
     by_cases c20 : t618 = true
     ·
      subst c20
      rw [if_pos rfl] at H
      obtain ⟨t619, A21, H⟩ := oB H; (try dsimp only at H); obtain rfl := Option.some.inj H
      try go_wp2
      refine sB [] impl_QcOk.tab3 impl_QcOk.bits3 ?_; intro w22 _ HT_ HW_
      refine tB 0 (some 8) (bz 37 1) HT_ HW_ ?_
      refine o1 1 (some 9) (bz 37 3) HT_ rfl (kC1 Tryz.func39 (impl_QcFirst.calls (w := _) (h := A8.out)) ?_); intro Ao613 co613 w23 _ HO614
      refine nA (some 9) ?_
      refine o1 2 (some 10) (bz 37 7) HT_ rfl (kC Tryz.func57 (impl_QcSame.calls (hr0_2 := pC HR1_2) (hc0_2 := HC1_2.out) (hr1_2 := rC HO614) (hc1_2 := rL HO614) (w := _) (h := A9.out)) ?_); intro w24 _
      refine nA (some 10) ?_
      refine pA 3 (some 11) (bz 37 15) HT_ ?_
      refine pA 4 (some 12) (bz 37 31) HT_ ?_
      refine tB 5 (some 13) (bz 37 63) HT_ HW_ ?_
      refine pA 6 (some 14) (bz 37 127) HT_ ?_
      refine pA 7 (some 15) (bz 37 255) HT_ ?_
      refine pA 8 (some 16) (bz 37 511) HT_ ?_
      refine tB 9 (some 17) (bz 37 1023) HT_ HW_ ?_
      refine o1 10 (some 18) (bz 37 2047) HT_ rfl (kC Tryz.func95 (impl_NameOk.calls (w := _) (h := A15.out)) ?_); intro w25 _
      refine nA (some 18) ?_
      refine pA 11 (some 19) (bz 37 4095) HT_ ?_
      refine pA 12 (some 20) (bz 37 0x1fff) HT_ ?_
      refine pA 13 (some 21) (bz 37 0x3fff) HT_ ?_
      refine tB 14 (some 22) (bz 37 0x7fff) HT_ HW_ ?_
      refine pA 15 (some 23) (bz 37 0xffff) HT_ ?_
      refine tB 16 (some 24) (bz 37 0x1ffff) HT_ HW_ ?_
      refine o1 17 (some 25) (bz 37 0x3ffff) HT_ rfl (kC Tryz.func44 (impl_ViewOf.calls (w := _) (h := A17.out)) ?_); intro w26 _
      refine nA (some 25) ?_
      refine pA 18 (some 26) (bz 37 0x7ffff) HT_ ?_
      refine pA 19 (some 27) (bz 37 0xfffff) HT_ ?_
      refine pA 20 (some 28) (bz 37 0x1fffff) HT_ ?_
      refine pA 21 (some 29) (bz 37 0x3fffff) HT_ ?_
      refine tB 22 (some 30) (bz 37 0x7fffff) HT_ HW_ ?_
      refine pA 23 (some 31) (bz 37 0xffffff) HT_ ?_
      refine tB 24 (some 32) (bz 37 0x1ffffff) HT_ HW_ ?_
      refine o1 25 (some 33) (bz 37 0x3ffffff) HT_ rfl (kD Tryz.func96 (impl_SetOk.calls (hr1 := pC HR1_2) (hc1 := HC1_2.out) (w := _) (h := A19.out)) ?_); intro w27 _
      refine nA (some 33) ?_
      refine pA 26 (some 34) (bz 37 0x7ffffff) HT_ ?_
      refine pA 27 (some 35) (bz 37 0xfffffff) HT_ ?_
      refine pA 28 (some 36) (bz 37 0x1fffffff) HT_ ?_
      refine tB 29 (some 37) (bz 37 0x3fffffff) HT_ HW_ ?_
      refine pA 30 (some 38) (bz 37 0x7fffffff) HT_ ?_
      refine tB 31 (some 39) (bz 37 0xffffffff) HT_ HW_ ?_
      refine o1 32 (some 40) (bz 37 0x1ffffffff) HT_ rfl (kC Tryz.func52 (impl_Quorum.calls (w := _) (h := A21.out)) ?_); intro w28 _
      refine nA (some 40) ?_
      refine pA 33 (some 41) (bz 37 0x3ffffffff) HT_ ?_
      refine pA 34 (some 42) (bz 37 0x7ffffffff) HT_ ?_
      refine pA 35 (some 43) (bz 37 0xfffffffff) HT_ ?_
      refine pA 36 (some 4) (bz 37 0x1fffffffff) HT_ ?_
      refine done_ (done_of HT_.out (by kernel_rfl)) ?_
      try go_wp2
      go_ret
      exact ⟨y0_15, UpW.out⟩
     replace c20 := Bool.eq_false_iff.mpr c20; subst c20
     rw [if_neg (show ¬ (false = true) by decide)] at H
     obtain rfl := Option.some.inj H
     try go_wp2
     refine sB [] impl_QcOk.tab3 impl_QcOk.bits3 ?_; intro w29 _ HT_ HW_
     refine tB 0 (some 8) (bz 37 1) HT_ HW_ ?_
     refine o1 1 (some 9) (bz 37 3) HT_ rfl (kC1 Tryz.func39 (impl_QcFirst.calls (w := _) (h := A8.out)) ?_); intro Ao613 co613 w30 _ HO614
     refine nA (some 9) ?_
     refine o1 2 (some 10) (bz 37 7) HT_ rfl (kC Tryz.func57 (impl_QcSame.calls (hr0_2 := pC HR1_2) (hc0_2 := HC1_2.out) (hr1_2 := rC HO614) (hc1_2 := rL HO614) (w := _) (h := A9.out)) ?_); intro w31 _
     refine nA (some 10) ?_
     refine pA 3 (some 11) (bz 37 15) HT_ ?_
     refine pA 4 (some 12) (bz 37 31) HT_ ?_
     refine tB 5 (some 13) (bz 37 63) HT_ HW_ ?_
     refine pA 6 (some 14) (bz 37 127) HT_ ?_
     refine pA 7 (some 15) (bz 37 255) HT_ ?_
     refine pA 8 (some 16) (bz 37 511) HT_ ?_
     refine tB 9 (some 17) (bz 37 1023) HT_ HW_ ?_
     refine o1 10 (some 18) (bz 37 2047) HT_ rfl (kC Tryz.func95 (impl_NameOk.calls (w := _) (h := A15.out)) ?_); intro w32 _
     refine nA (some 18) ?_
     refine pA 11 (some 19) (bz 37 4095) HT_ ?_
     refine pA 12 (some 20) (bz 37 0x1fff) HT_ ?_
     refine pA 13 (some 21) (bz 37 0x3fff) HT_ ?_
     refine tB 14 (some 22) (bz 37 0x7fff) HT_ HW_ ?_
     refine pA 15 (some 23) (bz 37 0xffff) HT_ ?_
     refine tB 16 (some 24) (bz 37 0x1ffff) HT_ HW_ ?_
     refine o1 17 (some 25) (bz 37 0x3ffff) HT_ rfl (kC Tryz.func44 (impl_ViewOf.calls (w := _) (h := A17.out)) ?_); intro w33 _
     refine nA (some 25) ?_
     refine pA 18 (some 26) (bz 37 0x7ffff) HT_ ?_
     refine pA 19 (some 27) (bz 37 0xfffff) HT_ ?_
     refine pA 20 (some 28) (bz 37 0x1fffff) HT_ ?_
     refine pA 21 (some 29) (bz 37 0x3fffff) HT_ ?_
     refine tB 22 (some 30) (bz 37 0x7fffff) HT_ HW_ ?_
     refine pA 23 (some 31) (bz 37 0xffffff) HT_ ?_
     refine tB 24 (some 32) (bz 37 0x1ffffff) HT_ HW_ ?_
     refine o1 25 (some 33) (bz 37 0x3ffffff) HT_ rfl (kD Tryz.func96 (impl_SetOk.calls (hr1 := pC HR1_2) (hc1 := HC1_2.out) (w := _) (h := A19.out)) ?_); intro w34 _
     refine nA (some 33) ?_
     refine pA 26 (some 34) (bz 37 0x7ffffff) HT_ ?_
     refine pA 27 (some 35) (bz 37 0xfffffff) HT_ ?_
     refine pU 28 (some 36) (bz 37 0x1fffffff) HT_ ?_
     refine pU 29 (some 37) (bz 37 0x3fffffff) HT_ ?_
     refine pU 30 (some 38) (bz 37 0x7fffffff) HT_ ?_
     refine pU 31 (some 39) (bz 37 0xffffffff) HT_ ?_
     refine pU 32 (some 40) (bz 37 0x1ffffffff) HT_ ?_
     refine pU 33 (some 41) (bz 37 0x3ffffffff) HT_ ?_
     refine pA 34 (some 42) (bz 37 0x7ffffffff) HT_ ?_
     refine pA 35 (some 43) (bz 37 0xfffffffff) HT_ ?_
     refine pA 36 (some 4) (bz 37 0x1fffffffff) HT_ ?_
     refine done_ (done_of HT_.out (by kernel_rfl)) ?_
     try go_wp2
     go_ret
     exact ⟨y0_15, UpW.out⟩
    rw [if_neg c18] at H
    have c18b0 : (a1_0 == t617) = false := beq_eq_false_iff_ne.mpr c18; have c18b1 : (a1_0 != t617) = true := bne_iff_ne.mpr c18; obtain rfl := Option.some.inj H
    try go_wp2
    refine sB [] impl_QcOk.tab3 impl_QcOk.bits3 ?_; intro w35 _ HT_ HW_
    refine tB 0 (some 8) (bz 37 1) HT_ HW_ ?_
    refine o1 1 (some 9) (bz 37 3) HT_ rfl (kC1 Tryz.func39 (impl_QcFirst.calls (w := _) (h := A8.out)) ?_); intro Ao613 co613 w36 _ HO614
    refine nA (some 9) ?_
    refine o1 2 (some 10) (bz 37 7) HT_ rfl (kC Tryz.func57 (impl_QcSame.calls (hr0_2 := pC HR1_2) (hc0_2 := HC1_2.out) (hr1_2 := rC HO614) (hc1_2 := rL HO614) (w := _) (h := A9.out)) ?_); intro w37 _
    refine nA (some 10) ?_
    refine pA 3 (some 11) (bz 37 15) HT_ ?_
    refine pA 4 (some 12) (bz 37 31) HT_ ?_
    refine tB 5 (some 13) (bz 37 63) HT_ HW_ ?_
    refine pA 6 (some 14) (bz 37 127) HT_ ?_
    refine pA 7 (some 15) (bz 37 255) HT_ ?_
    refine pA 8 (some 16) (bz 37 511) HT_ ?_
    refine tB 9 (some 17) (bz 37 1023) HT_ HW_ ?_
    refine o1 10 (some 18) (bz 37 2047) HT_ rfl (kC Tryz.func95 (impl_NameOk.calls (w := _) (h := A15.out)) ?_); intro w38 _
    refine nA (some 18) ?_
    refine pA 11 (some 19) (bz 37 4095) HT_ ?_
    refine pA 12 (some 20) (bz 37 0x1fff) HT_ ?_
    refine pA 13 (some 21) (bz 37 0x3fff) HT_ ?_
    refine tB 14 (some 22) (bz 37 0x7fff) HT_ HW_ ?_
    refine pA 15 (some 23) (bz 37 0xffff) HT_ ?_
    refine tB 16 (some 24) (bz 37 0x1ffff) HT_ HW_ ?_
    refine o1 17 (some 25) (bz 37 0x3ffff) HT_ rfl (kC Tryz.func44 (impl_ViewOf.calls (w := _) (h := A17.out)) ?_); intro w39 _
    refine nA (some 25) ?_
    refine pA 18 (some 26) (bz 37 0x7ffff) HT_ ?_
    refine pA 19 (some 27) (bz 37 0xfffff) HT_ ?_
    refine pA 20 (some 28) (bz 37 0x1fffff) HT_ ?_
    refine pU 21 (some 29) (bz 37 0x3fffff) HT_ ?_
    refine pU 22 (some 30) (bz 37 0x7fffff) HT_ ?_
    refine pU 23 (some 31) (bz 37 0xffffff) HT_ ?_
    refine pU 24 (some 32) (bz 37 0x1ffffff) HT_ ?_
    refine pU 25 (some 33) (bz 37 0x3ffffff) HT_ ?_
    refine pA 26 (some 34) (bz 37 0x7ffffff) HT_ ?_
    refine pA 27 (some 35) (bz 37 0xfffffff) HT_ ?_
    refine pU 28 (some 36) (bz 37 0x1fffffff) HT_ ?_
    refine pU 29 (some 37) (bz 37 0x3fffffff) HT_ ?_
    refine pU 30 (some 38) (bz 37 0x7fffffff) HT_ ?_
    refine pU 31 (some 39) (bz 37 0xffffffff) HT_ ?_
    refine pU 32 (some 40) (bz 37 0x1ffffffff) HT_ ?_
    refine pU 33 (some 41) (bz 37 0x3ffffffff) HT_ ?_
    refine pA 34 (some 42) (bz 37 0x7ffffffff) HT_ ?_
    refine pA 35 (some 43) (bz 37 0xfffffffff) HT_ ?_
    refine pA 36 (some 4) (bz 37 0x1fffffffff) HT_ ?_
    refine done_ (done_of HT_.out (by kernel_rfl)) ?_
    try go_wp2
    go_ret
    exact ⟨y0_15, UpW.out⟩
   replace c16 := Bool.eq_false_iff.mpr c16; subst c16
   rw [if_neg (show ¬ (false = true) by decide)] at H
   obtain rfl := Option.some.inj H
   try go_wp2
   refine sB [] impl_QcOk.tab3 impl_QcOk.bits3 ?_; intro w40 _ HT_ HW_
   refine tB 0 (some 8) (bz 37 1) HT_ HW_ ?_
   refine o1 1 (some 9) (bz 37 3) HT_ rfl (kC1 Tryz.func39 (impl_QcFirst.calls (w := _) (h := A8.out)) ?_); intro Ao613 co613 w41 _ HO614
   refine nA (some 9) ?_
   refine o1 2 (some 10) (bz 37 7) HT_ rfl (kC Tryz.func57 (impl_QcSame.calls (hr0_2 := pC HR1_2) (hc0_2 := HC1_2.out) (hr1_2 := rC HO614) (hc1_2 := rL HO614) (w := _) (h := A9.out)) ?_); intro w42 _
   refine nA (some 10) ?_
   refine pA 3 (some 11) (bz 37 15) HT_ ?_
   refine pA 4 (some 12) (bz 37 31) HT_ ?_
   refine tB 5 (some 13) (bz 37 63) HT_ HW_ ?_
   refine pA 6 (some 14) (bz 37 127) HT_ ?_
   refine pA 7 (some 15) (bz 37 255) HT_ ?_
   refine pA 8 (some 16) (bz 37 511) HT_ ?_
   refine tB 9 (some 17) (bz 37 1023) HT_ HW_ ?_
   refine o1 10 (some 18) (bz 37 2047) HT_ rfl (kC Tryz.func95 (impl_NameOk.calls (w := _) (h := A15.out)) ?_); intro w43 _
   refine nA (some 18) ?_
   refine pA 11 (some 19) (bz 37 4095) HT_ ?_
   refine pA 12 (some 20) (bz 37 0x1fff) HT_ ?_
   refine pU 13 (some 21) (bz 37 0x3fff) HT_ ?_
   refine pU 14 (some 22) (bz 37 0x7fff) HT_ ?_
   refine pU 15 (some 23) (bz 37 0xffff) HT_ ?_
   refine pU 16 (some 24) (bz 37 0x1ffff) HT_ ?_
   refine pU 17 (some 25) (bz 37 0x3ffff) HT_ ?_
   refine pU 18 (some 26) (bz 37 0x7ffff) HT_ ?_
   refine pA 19 (some 27) (bz 37 0xfffff) HT_ ?_
   refine pA 20 (some 28) (bz 37 0x1fffff) HT_ ?_
   refine pU 21 (some 29) (bz 37 0x3fffff) HT_ ?_
   refine pU 22 (some 30) (bz 37 0x7fffff) HT_ ?_
   refine pU 23 (some 31) (bz 37 0xffffff) HT_ ?_
   refine pU 24 (some 32) (bz 37 0x1ffffff) HT_ ?_
   refine pU 25 (some 33) (bz 37 0x3ffffff) HT_ ?_
   refine pA 26 (some 34) (bz 37 0x7ffffff) HT_ ?_
   refine pA 27 (some 35) (bz 37 0xfffffff) HT_ ?_
   refine pU 28 (some 36) (bz 37 0x1fffffff) HT_ ?_
   refine pU 29 (some 37) (bz 37 0x3fffffff) HT_ ?_
   refine pU 30 (some 38) (bz 37 0x7fffffff) HT_ ?_
   refine pU 31 (some 39) (bz 37 0xffffffff) HT_ ?_
   refine pU 32 (some 40) (bz 37 0x1ffffffff) HT_ ?_
   refine pU 33 (some 41) (bz 37 0x3ffffffff) HT_ ?_
   refine pA 34 (some 42) (bz 37 0x7ffffffff) HT_ ?_
   refine pA 35 (some 43) (bz 37 0xfffffffff) HT_ ?_
   refine pA 36 (some 4) (bz 37 0x1fffffffff) HT_ ?_
   refine done_ (done_of HT_.out (by kernel_rfl)) ?_
   try go_wp2
   go_ret
   exact ⟨y0_15, UpW.out⟩
  rw [if_neg c14] at H
  have c14b0 : decide (1 ≤ a1_0) = false := decide_eq_false c14; clear c14
  (first | rw [c14b0] | (simp only [i64_w, i32_w]; rw [c14b0]) | skip)
  obtain rfl := Option.some.inj H
  try go_wp2
  refine sB [] impl_QcOk.tab3 impl_QcOk.bits3 ?_; intro w44 _ HT_ HW_
  refine tB 0 (some 8) (bz 37 1) HT_ HW_ ?_
  refine o1 1 (some 9) (bz 37 3) HT_ rfl (kC1 Tryz.func39 (impl_QcFirst.calls (w := _) (h := A8.out)) ?_); intro Ao613 co613 w45 _ HO614
  refine nA (some 9) ?_
  refine o1 2 (some 10) (bz 37 7) HT_ rfl (kC Tryz.func57 (impl_QcSame.calls (hr0_2 := pC HR1_2) (hc0_2 := HC1_2.out) (hr1_2 := rC HO614) (hc1_2 := rL HO614) (w := _) (h := A9.out)) ?_); intro w46 _
  refine nA (some 10) ?_
  refine pA 3 (some 11) (bz 37 15) HT_ ?_
  refine pA 4 (some 12) (bz 37 31) HT_ ?_
  refine tB 5 (some 13) (bz 37 63) HT_ HW_ ?_
  refine pA 6 (some 14) (bz 37 127) HT_ ?_
  refine pA 7 (some 15) (bz 37 255) HT_ ?_
  refine pU 8 (some 16) (bz 37 511) HT_ ?_
  refine pU 9 (some 17) (bz 37 1023) HT_ ?_
  refine pU 10 (some 18) (bz 37 2047) HT_ ?_
  refine pA 11 (some 19) (bz 37 4095) HT_ ?_
  refine pA 12 (some 20) (bz 37 0x1fff) HT_ ?_
  refine pU 13 (some 21) (bz 37 0x3fff) HT_ ?_
  refine pU 14 (some 22) (bz 37 0x7fff) HT_ ?_
  refine pU 15 (some 23) (bz 37 0xffff) HT_ ?_
  refine pU 16 (some 24) (bz 37 0x1ffff) HT_ ?_
  refine pU 17 (some 25) (bz 37 0x3ffff) HT_ ?_
  refine pU 18 (some 26) (bz 37 0x7ffff) HT_ ?_
  refine pA 19 (some 27) (bz 37 0xfffff) HT_ ?_
  refine pA 20 (some 28) (bz 37 0x1fffff) HT_ ?_
  refine pU 21 (some 29) (bz 37 0x3fffff) HT_ ?_
  refine pU 22 (some 30) (bz 37 0x7fffff) HT_ ?_
  refine pU 23 (some 31) (bz 37 0xffffff) HT_ ?_
  refine pU 24 (some 32) (bz 37 0x1ffffff) HT_ ?_
  refine pU 25 (some 33) (bz 37 0x3ffffff) HT_ ?_
  refine pA 26 (some 34) (bz 37 0x7ffffff) HT_ ?_
  refine pA 27 (some 35) (bz 37 0xfffffff) HT_ ?_
  refine pU 28 (some 36) (bz 37 0x1fffffff) HT_ ?_
  refine pU 29 (some 37) (bz 37 0x3fffffff) HT_ ?_
  refine pU 30 (some 38) (bz 37 0x7fffffff) HT_ ?_
  refine pU 31 (some 39) (bz 37 0xffffffff) HT_ ?_
  refine pU 32 (some 40) (bz 37 0x1ffffffff) HT_ ?_
  refine pU 33 (some 41) (bz 37 0x3ffffffff) HT_ ?_
  refine pA 34 (some 42) (bz 37 0x7ffffffff) HT_ ?_
  refine pA 35 (some 43) (bz 37 0xfffffffff) HT_ ?_
  refine pA 36 (some 4) (bz 37 0x1fffffffff) HT_ ?_
  refine done_ (done_of HT_.out (by kernel_rfl)) ?_
  try go_wp2
  go_ret
  exact ⟨y0_15, UpW.out⟩
 replace c7 := Bool.eq_false_iff.mpr c7; subst c7
 rw [if_neg (show ¬ (false = true) by decide)] at H
 obtain rfl := Option.some.inj H
 go_wp2
 go_ret
 exact ⟨y0_15, UpW.out⟩

end Go.Proofs.YtemjmefacifdeaaGreatDoor.PFnQuorums
