-- By a program of this session, out of the translation (the print of the kit, with turns of its own). Lean checks it.
import Derived.Test.YtemjmefacifdeaaGreatDoorPFnLockHoldsx0
import Derived.Test.YtemjmefacifdeaaGreatDoorPFnLockHoldsx2
import Derived.Test.YtemjmefacifdeaaGreatDoorPFnLockHoldsx3
import Derived.Test.YtemjmefacifdeaaGreatDoorPFnLockHoldsx4
import Derived.Test.YtemjmefacifdeaaGreatDoorPFnLockHoldsx6
namespace Go.Proofs.YtemjmefacifdeaaGreatDoor.PFnLockHolds
open Go.RowKit Go.Proofs.YtemjmefacifdeaaGreatDoorW.PrintWords Go.Proofs.YtemjmefacifdeaaGreatDoorW.PrintLast Go.Proofs.YtemjmefacifdeaaGreatDoorW.PrintMore
attribute [local go_sem] max2_int min2_int max_two min_two max_three min_three max_four min_four   -- for this text's walks alone
attribute [local go_sem] cell_in frozen_in
set_option synthInstance.maxSize 1000000
set_option synthInstance.maxHeartbeats 2000000
set_option linter.unusedVariables false
set_option linter.unusedSimpArgs false

/-! ### spec_SetOk: function 98 -/
def spec_SetOk.l0 : Nat → Int → List Int → Int → Option (Bool)
 | 0, _, _, _ => none
 | k + 1, x0, x1, x5 => if x5 < (x1.length : Int) then (if 0 ≤ x5 then (if (rd x1 x5) < 0 then (some false) else (if (rd x1 x5) ≥ x0 then (some false) else (if x5 > 0 then (if 0 ≤ (wrap64 (x5 - 1)) then (if (wrap64 (x5 - 1)) < (x1.length : Int) then (if (rd x1 (wrap64 (x5 - 1))) ≥ (rd x1 x5) then (some false) else (spec_SetOk.l0 k x0 x1 (wrap64 (x5 + 1)))) else (none)) else (none)) else (spec_SetOk.l0 k x0 x1 (wrap64 (x5 + 1)))))) else (none)) else (some true)
def spec_SetOk.f (k : Nat) (a0 : Int) (l1 : List Int) : Option (Bool) := spec_SetOk.l0 k a0 l1 0
theorem spec_SetOk.mono_l : ∀ k, (∀ y0 y1 y2, LeO (spec_SetOk.l0 k y0 y1 y2) (spec_SetOk.l0 (k + 1) y0 y1 y2))
 | 0 => fun _ _ _ r h => by simp [spec_SetOk.l0] at h
 | k + 1 => by
  have ih0 := spec_SetOk.mono_l k
  intro y0 y1 y2
  unfold spec_SetOk.l0
  repeat' first | (with_reducible exact ih0 _ _ _) | (with_reducible exact LeO.refl _) | (with_reducible exact LeO.none _) | (with_reducible refine LeO.ite ?_ ?_) | (with_reducible refine LeO.bind ?_ (fun _ => ?_))
theorem spec_SetOk.mono : ∀ a0 a1 k, LeO (spec_SetOk.f k a0 a1) (spec_SetOk.f (k + 1) a0 a1) := by
 intro a0 a1 k
 have ih0 := spec_SetOk.mono_l k
 unfold spec_SetOk.f
 repeat' first | (with_reducible exact ih0 _ _ _) | (with_reducible exact LeO.refl _) | (with_reducible exact LeO.none _) | (with_reducible refine LeO.ite ?_ ?_) | (with_reducible refine LeO.bind ?_ (fun _ => ?_))
set_option maxHeartbeats 8000000 in
set_option maxRecDepth 100000 in
theorem spec_SetOk.calls (k : Nat) (a0 : Int) (A1 : Option Addr) (c1 : Nat) (l1 : List Int) (r : Bool) (w : World) (hr1 : Kd.C (Kd.int .i64) w A1 l1.length l1) (hc1 : l1.length ≤ c1) (h : spec_SetOk.f k a0 l1 = some r) :
  Calls Tryz.prog 98 #[.int .i64 a0, .slice A1 l1.length c1] w fun e w' => e = .returned (.bool r) ∧ Drawn0 w w' := by
 have HR1 := Aside0.mk hr1; have HC1 := Aside0.mk hc1; clear hr1 hc1; have H : (spec_SetOk.l0 k a0 l1 0) = some r := h; clear h; have H' := Aside0.mk H; clear H
 go_enter Tryz.func98, Tryz.ntmps98
 go_wp2
 repeat (go_quiet (fail); try go_wp2)
 go_loopg [5] k (fun kq v5 w' => ∃ (x5_1 : Int), v5 = .int .i64 x5_1 ∧ Aside0 (spec_SetOk.l0 kq a0 l1 x5_1 = some r) ∧ Aside0 (kq ≤ k) ∧ Drawn0 w w')
 case atStart => exact ⟨(0), y0_18, H', ⟨Nat.le_refl _⟩, y0_16⟩
 case round =>
  clear H'
  try clear c1
  try clear p2
  obtain ⟨x5_1, rfl, HA, HK1, ⟨m1, rfl⟩⟩ := hrel; cases gk with
  | zero => exact absurd HA.out (by simp [spec_SetOk.l0])
  | succ k1 =>
   have H := HA.out; clear HA
   simp only [spec_SetOk.l0] at H
   by_cases c3 : x5_1 < (l1.length : Int)
   ·
    rw [if_pos c3] at H
    have c3b0 : decide (x5_1 < (l1.length : Int)) = true := decide_eq_true c3; clear c3
    by_cases c4 : 0 ≤ x5_1
    rotate_left
    ·
     rw [if_neg c4] at H
     exact absurd H (by simp)
    rw [if_pos c4] at H
    have c4b0 : decide (0 ≤ x5_1) = true := decide_eq_true c4; clear c4
    by_cases c5 : (rd l1 x5_1) < 0
    ·
     rw [if_pos c5] at H
     have c5b0 : decide ((rd l1 x5_1) < 0) = true := decide_eq_true c5; clear c5; obtain rfl := Option.some.inj H; have p430 : 0 ≤ (x5_1 : Int) := of_decide_eq_true y0_17; have q430 : x5_1 < (l1.length : Int) := of_decide_eq_true y0_17; obtain ⟨ad430, e430, hx430_0⟩ := Kd.at_int HR1.out x5_1 p430 q430; cases e430; replace p430 := eq_true p430; replace q430 := eq_true q430
     go_wp2
     repeat (go_quiet (fail); try go_wp2)
     go_ret
     exact ⟨y0_18, y0_16⟩
    rw [if_neg c5] at H
    have c5b0 : decide ((rd l1 x5_1) < 0) = false := decide_eq_false c5; clear c5
    by_cases c6 : (rd l1 x5_1) ≥ a0
    ·
     rw [if_pos c6] at H
     have c6b0 : decide (a0 ≤ (rd l1 x5_1)) = true := decide_eq_true c6; clear c6; obtain rfl := Option.some.inj H; have p430 : 0 ≤ (x5_1 : Int) := of_decide_eq_true y0_17; have q430 : x5_1 < (l1.length : Int) := of_decide_eq_true y0_17; obtain ⟨ad430, e430, hx430_0⟩ := Kd.at_int HR1.out x5_1 p430 q430; cases e430; replace p430 := eq_true p430; replace q430 := eq_true q430; have p431 : 0 ≤ (x5_1 : Int) := of_decide_eq_true y0_17; have q431 : x5_1 < (l1.length : Int) := of_decide_eq_true y0_17; obtain ⟨ad431, e431, hx431_0⟩ := Kd.at_int HR1.out x5_1 p431 q431
     obtain rfl : ad430 = ad431 := (by injection e431)
     replace p431 := eq_true p431; replace q431 := eq_true q431
     go_wp2
     repeat (go_quiet (fail); try go_wp2)
     go_ret
     exact ⟨y0_18, y0_16⟩
    rw [if_neg c6] at H
    have c6b0 : decide (a0 ≤ (rd l1 x5_1)) = false := decide_eq_false c6; clear c6
    by_cases c7 : x5_1 > 0
    ·
     rw [if_pos c7] at H
     have c7b0 : decide (0 < x5_1) = true := decide_eq_true c7; clear c7; obtain ⟨ji8, hji8⟩ : ∃ j_ : Int, (wrap64 (x5_1 - 1)) = j_ := ⟨_, rfl⟩
     replace H : (if 0 ≤ (ji8) then (if (ji8) < (l1.length : Int) then (if (rd l1 (ji8)) ≥ (rd l1 x5_1) then (some false) else (spec_SetOk.l0 k1 a0 l1 (wrap64 (x5_1 + 1)))) else (none)) else (none)) = some r := by first | (rw [hji8] at H; exact H) | (simp only [hji8] at H ⊢; exact H)
     have hji8w : (IntKind.i64.wrap (x5_1 - 1)) = ji8 := (i64_w _).trans hji8
     by_cases c9 : 0 ≤ (ji8)
     rotate_left
     ·
      rw [if_neg c9] at H
      exact absurd H (by simp)
     rw [if_pos c9] at H
     have c9b0 : decide (0 ≤ (ji8)) = true := decide_eq_true c9; clear c9
     by_cases c10 : (ji8) < (l1.length : Int)
     rotate_left
     ·
      rw [if_neg c10] at H
      exact absurd H (by simp)
     rw [if_pos c10] at H
     have c10b0 : decide ((ji8) < (l1.length : Int)) = true := decide_eq_true c10; clear c10
     by_cases c11 : (rd l1 (ji8)) ≥ (rd l1 x5_1)
     ·
      rw [if_pos c11] at H
      have c11b0 : decide ((rd l1 x5_1) ≤ (rd l1 (ji8))) = true := decide_eq_true c11; clear c11; obtain rfl := Option.some.inj H; have p430 : 0 ≤ (x5_1 : Int) := of_decide_eq_true y0_17; have q430 : x5_1 < (l1.length : Int) := of_decide_eq_true y0_17; obtain ⟨ad430, e430, hx430_0⟩ := Kd.at_int HR1.out x5_1 p430 q430; cases e430; replace p430 := eq_true p430; replace q430 := eq_true q430; have p431 : 0 ≤ (x5_1 : Int) := of_decide_eq_true y0_17; have q431 : x5_1 < (l1.length : Int) := of_decide_eq_true y0_17; obtain ⟨ad431, e431, hx431_0⟩ := Kd.at_int HR1.out x5_1 p431 q431
      obtain rfl : ad430 = ad431 := (by injection e431)
      replace p431 := eq_true p431; replace q431 := eq_true q431; have p432 : 0 ≤ ((ji8) : Int) := of_decide_eq_true y0_17; have q432 : (ji8) < (l1.length : Int) := of_decide_eq_true y0_17; obtain ⟨ad432, e432, hx432_0⟩ := Kd.at_int HR1.out (ji8) p432 q432
      obtain rfl : ad430 = ad432 := (by injection e432)
      replace p432 := eq_true p432; replace q432 := eq_true q432; have p433 : 0 ≤ (x5_1 : Int) := of_decide_eq_true y0_17; have q433 : x5_1 < (l1.length : Int) := of_decide_eq_true y0_17; obtain ⟨ad433, e433, hx433_0⟩ := Kd.at_int HR1.out x5_1 p433 q433
      obtain rfl : ad430 = ad433 := (by injection e433)
      replace p433 := eq_true p433; replace q433 := eq_true q433
      go_wp2
      repeat (go_quiet (fail); try go_wp2)
      go_ret
      exact ⟨by first | rfl | (simp; done) | (simp only [← hji8] <;> (first | rfl | simp)) | (simp [*]; done), y0_16⟩
     rw [if_neg c11] at H
     have c11b0 : decide ((rd l1 x5_1) ≤ (rd l1 (ji8))) = false := decide_eq_false c11; clear c11; have H' := Aside0.mk H; clear H; have p430 : 0 ≤ (x5_1 : Int) := of_decide_eq_true y0_17; have q430 : x5_1 < (l1.length : Int) := of_decide_eq_true y0_17; obtain ⟨ad430, e430, hx430_0⟩ := Kd.at_int HR1.out x5_1 p430 q430; cases e430; replace p430 := eq_true p430; replace q430 := eq_true q430; have p431 : 0 ≤ (x5_1 : Int) := of_decide_eq_true y0_17; have q431 : x5_1 < (l1.length : Int) := of_decide_eq_true y0_17; obtain ⟨ad431, e431, hx431_0⟩ := Kd.at_int HR1.out x5_1 p431 q431
     obtain rfl : ad430 = ad431 := (by injection e431)
     replace p431 := eq_true p431; replace q431 := eq_true q431; have p432 : 0 ≤ ((ji8) : Int) := of_decide_eq_true y0_17; have q432 : (ji8) < (l1.length : Int) := of_decide_eq_true y0_17; obtain ⟨ad432, e432, hx432_0⟩ := Kd.at_int HR1.out (ji8) p432 q432
     obtain rfl : ad430 = ad432 := (by injection e432)
     replace p432 := eq_true p432; replace q432 := eq_true q432; have p433 : 0 ≤ (x5_1 : Int) := of_decide_eq_true y0_17; have q433 : x5_1 < (l1.length : Int) := of_decide_eq_true y0_17; obtain ⟨ad433, e433, hx433_0⟩ := Kd.at_int HR1.out x5_1 p433 q433
     obtain rfl : ad430 = ad433 := (by injection e433)
     replace p433 := eq_true p433; replace q433 := eq_true q433
     go_wp2
     repeat (go_quiet (fail); try go_wp2)
     go_roundg k1
     case measure => have := HK1.out; omega
     case rel => exact ⟨(wrap64 (x5_1 + 1)), y0_18, H', ⟨y0_20⟩, y0_16⟩
    rw [if_neg c7] at H
    have c7b0 : decide (0 < x5_1) = false := decide_eq_false c7; clear c7; have H' := Aside0.mk H; clear H; have p430 : 0 ≤ (x5_1 : Int) := of_decide_eq_true y0_17; have q430 : x5_1 < (l1.length : Int) := of_decide_eq_true y0_17; obtain ⟨ad430, e430, hx430_0⟩ := Kd.at_int HR1.out x5_1 p430 q430; cases e430; replace p430 := eq_true p430; replace q430 := eq_true q430; have p431 : 0 ≤ (x5_1 : Int) := of_decide_eq_true y0_17; have q431 : x5_1 < (l1.length : Int) := of_decide_eq_true y0_17; obtain ⟨ad431, e431, hx431_0⟩ := Kd.at_int HR1.out x5_1 p431 q431
    obtain rfl : ad430 = ad431 := (by injection e431)
    replace p431 := eq_true p431; replace q431 := eq_true q431
    go_wp2
    repeat (go_quiet (fail); try go_wp2)
    go_roundg k1
    case measure => have := HK1.out; omega
    case rel => exact ⟨(wrap64 (x5_1 + 1)), y0_18, H', ⟨y0_20⟩, y0_16⟩
   rw [if_neg c3] at H
   have c3b0 : decide (x5_1 < (l1.length : Int)) = false := decide_eq_false c3; clear c3; obtain rfl := Option.some.inj H
   go_wp2
   repeat (go_quiet (fail); try go_wp2)
   go_ret
   exact ⟨y0_18, y0_16⟩

/-! ### spec_QcOk: function 49 -/
def spec_QcOk.f (k : Nat) (a0_0 : Int) (a0_1 : Int) (a1_0 : Int) (a1_1 : ByteArray) (l1_2 : List Int) : Option (Bool) := (spec_ConfOk.f a0_0 a0_1).bind fun t436 => (if t436 = true then ((spec_NameOk.f k a1_1).bind fun t437 => (if t437 = true then ((spec_ViewOf.f k a1_1).bind fun t438 => (if t438 = a1_0 then (if a1_1.toList = ([] : List UInt8) then (some ((l1_2.length : Int) == 0)) else ((spec_SetOk.f k a0_0 l1_2).bind fun t439 => (if t439 = true then ((spec_Quorum.f a0_0 a0_1).bind fun t440 => (some (decide ((l1_2.length : Int) ≥ t440)))) else (some false)))) else (some false))) else (some false))) else (some false))
theorem spec_QcOk.mono : ∀ a0 a1 a2 a3 a4 k, LeO (spec_QcOk.f k a0 a1 a2 a3 a4) (spec_QcOk.f (k + 1) a0 a1 a2 a3 a4) := by
 intro a0 a1 a2 a3 a4 k
 unfold spec_QcOk.f
 repeat' first | (with_reducible exact spec_NameOk.mono _ _) | (with_reducible exact spec_SetOk.mono _ _ _) | (with_reducible exact spec_ViewOf.mono _ _) | (with_reducible exact LeO.refl _) | (with_reducible exact LeO.none _) | (with_reducible refine LeO.ite ?_ ?_) | (with_reducible refine LeO.bind ?_ (fun _ => ?_))
def spec_QcOk.T1 : Bool × List (List Nat × List Nat) := (true, [([], []), ([0], [0]), ([1], [1]), ([2, 1], [2]), ([3], [3]), ([4, 3], [3, 4]), ([5, 3, 3], [3, 5]), ([6, 3], [3, 6]), ([3, 7], [3, 7]), ([8, 6], [8]), ([9], [9]), ([10, 9], [9, 10]), ([11, 9, 9], [9, 11]), ([9], [9]), ([13, 9], [9, 13]), ([12, 14, 9], [9, 12, 14]), ([9, 15], [9, 15])])
def spec_QcOk.B1 : List Nat := [0, 1, 3, 7, 15, 31, 63, 127, 255, 511, 1023, 2047, 4095, 1023, 9215, 32767, 65535]
theorem spec_QcOk.tab1 : rtab .any (opsOf Tryz.f49 1) = spec_QcOk.T1 := by kernel_rfl
theorem spec_QcOk.bits1 : waitsOk spec_QcOk.T1.2 spec_QcOk.B1 = true := by kernel_rfl
def spec_QcOk.T5 : Bool × List (List Nat × List Nat) := (true, [([], []), ([0], [0]), ([], []), ([2], [2]), ([1, 3], [1, 3]), ([4, 4], [4]), ([5], [5]), ([6, 5], [5, 6]), ([7, 5], [5, 7]), ([5], [5]), ([9, 5, 5], [5, 9]), ([8, 10, 5], [5, 8, 10]), ([5, 11], [5, 11]), ([12, 10, 0, 1, 2, 3, 4, 5, 6, 7, 8, 9, 10, 11, 12], [12])])
def spec_QcOk.B5 : List Nat := [0, 1, 0, 4, 15, 31, 63, 127, 255, 63, 575, 2047, 4095, 8191]
theorem spec_QcOk.tab5 : rtab .any (opsOf Tryz.f49 5) = spec_QcOk.T5 := by kernel_rfl
theorem spec_QcOk.bits5 : waitsOk spec_QcOk.T5.2 spec_QcOk.B5 = true := by kernel_rfl
set_option maxHeartbeats 8000000 in
set_option maxRecDepth 100000 in
theorem spec_QcOk.calls (k : Nat) (a0_0 : Int) (a0_1 : Int) (a1_0 : Int) (a1_1 : ByteArray) (A1_2 : Option Addr) (c1_2 : Nat) (l1_2 : List Int) (r : Bool) (w : World) (hr1_2 : Kd.C (Kd.int .i64) w A1_2 l1_2.length l1_2) (hc1_2 : l1_2.length ≤ c1_2) (h : spec_QcOk.f k a0_0 a0_1 a1_0 a1_1 l1_2 = some r) :
  Calls Tryz.prog 49 #[.agg #[.int .i64 a0_0, .int .i64 a0_1], .agg #[.int .i64 a1_0, .string a1_1, .slice A1_2 l1_2.length c1_2]] w fun e w' => e = .returned (.bool r) ∧ Below w.heap.size w w' := by
 have hu38 := Tryz.underlying38; have hu33 := Tryz.underlying33; have HR1_2 := Aside0.mk hr1_2; have HC1_2 := Aside0.mk hc1_2; clear hr1_2 hc1_2; have HB := Aside0.mk (Below.refl w.heap.size w)
 have H : ((spec_ConfOk.f a0_0 a0_1).bind fun t436 => (if t436 = true then ((spec_NameOk.f k a1_1).bind fun t437 => (if t437 = true then ((spec_ViewOf.f k a1_1).bind fun t438 => (if t438 = a1_0 then (if a1_1.toList = ([] : List UInt8) then (some ((l1_2.length : Int) == 0)) else ((spec_SetOk.f k a0_0 l1_2).bind fun t439 => (if t439 = true then ((spec_Quorum.f a0_0 a0_1).bind fun t440 => (some (decide ((l1_2.length : Int) ≥ t440)))) else (some false)))) else (some false))) else (some false))) else (some false))) = some r := h
 clear h; obtain ⟨t436, A30, H⟩ := Option.bind_eq_some_iff.mp H
 try dsimp only at H
 have A3 := Aside0.mk A30; clear A30
 by_cases c4 : t436 = true
 ·
  subst c4
  rw [if_pos rfl] at H
  obtain ⟨t437, A50, H⟩ := Option.bind_eq_some_iff.mp H
  try dsimp only at H
  have A5 := Aside0.mk A50; clear A50
  by_cases c6 : t437 = true
  ·
   subst c6
   rw [if_pos rfl] at H
   obtain ⟨t438, A70, H⟩ := Option.bind_eq_some_iff.mp H
   try dsimp only at H
   have A7 := Aside0.mk A70; clear A70
   by_cases c8 : t438 = a1_0
   ·
    rw [if_pos c8] at H
    have c8b0 : (t438 == a1_0) = true := beq_iff_eq.mpr c8; have c8b1 : (t438 != a1_0) = false := bne_eq_false_iff_eq.mpr c8; clear c8
    by_cases c9 : a1_1.toList = ([] : List UInt8)
    ·
     rw [if_pos c9] at H
     have c9b0 : (a1_1.toList == ([] : List UInt8)) = true := beq_iff_eq.mpr c9; have c9b1 : (a1_1.toList != ([] : List UInt8)) = false := bne_eq_false_iff_eq.mpr c9; clear c9; obtain rfl := Option.some.inj H
     go_enter Tryz.func49, Tryz.ntmps49
     try go_wp2_with (first | ((with_reducible refine gd 2 ?_); refine bL 2 #[.int .i64 a0_0, .int .i64 a0_1] 38 ?_; intro gb434 w10 _ _ _) | ((with_reducible refine gd 3 ?_); refine bL 3 #[.int .i64 a1_0, .string a1_1, .slice A1_2 l1_2.length c1_2] 33 ?_; intro gb435 w11 _ _ _))
     refine sB [] spec_QcOk.tab1 spec_QcOk.bits1 ?_; intro w12 _ HT_ HW_
     refine tB 0 (some 5) (bz 17 1) HT_ HW_ ?_
     refine o1 1 (some 6) (bz 17 3) HT_ rfl (kC Tryz.func55 (spec_ConfOk.calls (w := _) (h := A3.out)) ?_); intro w13 _
     refine nA (some 6) ?_
     refine pA 2 (some 7) (bz 17 7) HT_ ?_
     refine pA 3 (some 8) (bz 17 15) HT_ ?_
     refine pA 4 (some 9) (bz 17 31) HT_ ?_
     refine tB 5 (some 10) (bz 17 63) HT_ HW_ ?_
     refine o1 6 (some 11) (bz 17 127) HT_ rfl (kC Tryz.func97 (spec_NameOk.calls (w := _) (h := A5.out)) ?_); intro w14 _
     refine nA (some 11) ?_
     refine pA 7 (some 12) (bz 17 255) HT_ ?_
     refine pA 8 (some 13) (bz 17 511) HT_ ?_
     refine pA 9 (some 14) (bz 17 1023) HT_ ?_
     refine pA 10 (some 15) (bz 17 2047) HT_ ?_
     refine tB 11 (some 16) (bz 17 4095) HT_ HW_ ?_
     refine pA 13 (some 18) (bz 17 0x2fff) HT_ ?_
     refine tB 14 (some 19) (bz 17 0x6fff) HT_ HW_ ?_
     refine o1 12 (some 17) (bz 17 0x7fff) HT_ rfl (kC Tryz.func62 (spec_ViewOf.calls (w := _) (h := A7.out)) ?_); intro w15 _
     refine nA (some 17) ?_
     refine pA 15 (some 20) (bz 17 0xffff) HT_ ?_
     refine pA 16 (some 21) (bz 17 0x1ffff) HT_ ?_
     refine done_ (done_of HT_.out (by kernel_rfl)) ?_
     try go_wp2
     go_ret
     exact ⟨y0_18, UpW.out⟩
    rw [if_neg c9] at H
    have c9b0 : (a1_1.toList == ([] : List UInt8)) = false := beq_eq_false_iff_ne.mpr c9; have c9b1 : (a1_1.toList != ([] : List UInt8)) = true := bne_iff_ne.mpr c9; obtain ⟨t439, A160, H⟩ := Option.bind_eq_some_iff.mp H
    try dsimp only at H
    have A16 := Aside0.mk A160; clear A160
    by_cases c17 : t439 = true
    ·
     subst c17
     rw [if_pos rfl] at H
     obtain ⟨t440, A180, H⟩ := Option.bind_eq_some_iff.mp H
     try dsimp only at H
     have A18 := Aside0.mk A180; clear A180; obtain rfl := Option.some.inj H
     go_enter Tryz.func49, Tryz.ntmps49
     try go_wp2_with (first | ((with_reducible refine gd 2 ?_); refine bL 2 #[.int .i64 a0_0, .int .i64 a0_1] 38 ?_; intro gb434 w19 _ _ _) | ((with_reducible refine gd 3 ?_); refine bL 3 #[.int .i64 a1_0, .string a1_1, .slice A1_2 l1_2.length c1_2] 33 ?_; intro gb435 w20 _ _ _))
     refine sB [] spec_QcOk.tab1 spec_QcOk.bits1 ?_; intro w21 _ HT_ HW_
     refine tB 0 (some 5) (bz 17 1) HT_ HW_ ?_
     refine o1 1 (some 6) (bz 17 3) HT_ rfl (kC Tryz.func55 (spec_ConfOk.calls (w := _) (h := A3.out)) ?_); intro w22 _
     refine nA (some 6) ?_
     refine pA 2 (some 7) (bz 17 7) HT_ ?_
     refine pA 3 (some 8) (bz 17 15) HT_ ?_
     refine pA 4 (some 9) (bz 17 31) HT_ ?_
     refine tB 5 (some 10) (bz 17 63) HT_ HW_ ?_
     refine o1 6 (some 11) (bz 17 127) HT_ rfl (kC Tryz.func97 (spec_NameOk.calls (w := _) (h := A5.out)) ?_); intro w23 _
     refine nA (some 11) ?_
     refine pA 7 (some 12) (bz 17 255) HT_ ?_
     refine pA 8 (some 13) (bz 17 511) HT_ ?_
     refine pA 9 (some 14) (bz 17 1023) HT_ ?_
     refine pA 10 (some 15) (bz 17 2047) HT_ ?_
     refine tB 11 (some 16) (bz 17 4095) HT_ HW_ ?_
     refine pA 13 (some 18) (bz 17 0x2fff) HT_ ?_
     refine tB 14 (some 19) (bz 17 0x6fff) HT_ HW_ ?_
     refine o1 12 (some 17) (bz 17 0x7fff) HT_ rfl (kC Tryz.func62 (spec_ViewOf.calls (w := _) (h := A7.out)) ?_); intro w24 _
     refine nA (some 17) ?_
     refine pA 15 (some 20) (bz 17 0xffff) HT_ ?_
     refine pA 16 (some 21) (bz 17 0x1ffff) HT_ ?_
     refine done_ (done_of HT_.out (by kernel_rfl)) ?_
     try go_wp2
     refine sB [] spec_QcOk.tab5 spec_QcOk.bits5 ?_; intro w25 _ HT_ HW_
     refine pA 0 (some 29) (bz 14 1) HT_ ?_
     refine tB 1 (some 30) (bz 14 3) HT_ HW_ ?_
     refine pA 2 (some 31) (bz 14 7) HT_ ?_
     refine tB 3 (some 32) (bz 14 15) HT_ HW_ ?_
     refine o1 4 (some 33) (bz 14 31) HT_ rfl (kD Tryz.func98 (spec_SetOk.calls (hr1 := pC HR1_2) (hc1 := HC1_2.out) (w := _) (h := A16.out)) ?_); intro w26 _
     refine nA (some 33) ?_
     refine pA 5 (some 34) (bz 14 63) HT_ ?_
     refine pA 6 (some 35) (bz 14 127) HT_ ?_
     refine tB 7 (some 36) (bz 14 255) HT_ HW_ ?_
     refine pA 8 (some 37) (bz 14 511) HT_ ?_
     refine tB 9 (some 38) (bz 14 1023) HT_ HW_ ?_
     refine o1 10 (some 39) (bz 14 2047) HT_ rfl (kC Tryz.func53 (spec_Quorum.calls (w := _) (h := A18.out)) ?_); intro w27 _
     refine nA (some 39) ?_
     refine pA 11 (some 40) (bz 14 4095) HT_ ?_
     refine pA 12 (some 41) (bz 14 0x1fff) HT_ ?_
     refine pA 13 (some 4) (bz 14 0x3fff) HT_ ?_
     refine done_ (done_of HT_.out (by kernel_rfl)) ?_
     try go_wp2
     go_ret
     exact ⟨y0_18, UpW.out⟩
    replace c17 := Bool.eq_false_iff.mpr c17; subst c17
    rw [if_neg (show ¬ (false = true) by decide)] at H
    obtain rfl := Option.some.inj H
    go_enter Tryz.func49, Tryz.ntmps49
    try go_wp2_with (first | ((with_reducible refine gd 2 ?_); refine bL 2 #[.int .i64 a0_0, .int .i64 a0_1] 38 ?_; intro gb434 w28 _ _ _) | ((with_reducible refine gd 3 ?_); refine bL 3 #[.int .i64 a1_0, .string a1_1, .slice A1_2 l1_2.length c1_2] 33 ?_; intro gb435 w29 _ _ _))
    refine sB [] spec_QcOk.tab1 spec_QcOk.bits1 ?_; intro w30 _ HT_ HW_
    refine tB 0 (some 5) (bz 17 1) HT_ HW_ ?_
    refine o1 1 (some 6) (bz 17 3) HT_ rfl (kC Tryz.func55 (spec_ConfOk.calls (w := _) (h := A3.out)) ?_); intro w31 _
    refine nA (some 6) ?_
    refine pA 2 (some 7) (bz 17 7) HT_ ?_
    refine pA 3 (some 8) (bz 17 15) HT_ ?_
    refine pA 4 (some 9) (bz 17 31) HT_ ?_
    refine tB 5 (some 10) (bz 17 63) HT_ HW_ ?_
    refine o1 6 (some 11) (bz 17 127) HT_ rfl (kC Tryz.func97 (spec_NameOk.calls (w := _) (h := A5.out)) ?_); intro w32 _
    refine nA (some 11) ?_
    refine pA 7 (some 12) (bz 17 255) HT_ ?_
    refine pA 8 (some 13) (bz 17 511) HT_ ?_
    refine pA 9 (some 14) (bz 17 1023) HT_ ?_
    refine pA 10 (some 15) (bz 17 2047) HT_ ?_
    refine tB 11 (some 16) (bz 17 4095) HT_ HW_ ?_
    refine pA 13 (some 18) (bz 17 0x2fff) HT_ ?_
    refine tB 14 (some 19) (bz 17 0x6fff) HT_ HW_ ?_
    refine o1 12 (some 17) (bz 17 0x7fff) HT_ rfl (kC Tryz.func62 (spec_ViewOf.calls (w := _) (h := A7.out)) ?_); intro w33 _
    refine nA (some 17) ?_
    refine pA 15 (some 20) (bz 17 0xffff) HT_ ?_
    refine pA 16 (some 21) (bz 17 0x1ffff) HT_ ?_
    refine done_ (done_of HT_.out (by kernel_rfl)) ?_
    try go_wp2
    refine sB [] spec_QcOk.tab5 spec_QcOk.bits5 ?_; intro w34 _ HT_ HW_
    refine pA 0 (some 29) (bz 14 1) HT_ ?_
    refine tB 1 (some 30) (bz 14 3) HT_ HW_ ?_
    refine pA 2 (some 31) (bz 14 7) HT_ ?_
    refine tB 3 (some 32) (bz 14 15) HT_ HW_ ?_
    refine o1 4 (some 33) (bz 14 31) HT_ rfl (kD Tryz.func98 (spec_SetOk.calls (hr1 := pC HR1_2) (hc1 := HC1_2.out) (w := _) (h := A16.out)) ?_); intro w35 _
    refine nA (some 33) ?_
    refine pA 5 (some 34) (bz 14 63) HT_ ?_
    refine pU 6 (some 35) (bz 14 127) HT_ ?_
    refine pU 7 (some 36) (bz 14 255) HT_ ?_
    refine pU 8 (some 37) (bz 14 511) HT_ ?_
    refine pU 9 (some 38) (bz 14 1023) HT_ ?_
    refine pU 10 (some 39) (bz 14 2047) HT_ ?_
    refine pU 11 (some 40) (bz 14 4095) HT_ ?_
    refine pA 12 (some 41) (bz 14 0x1fff) HT_ ?_
    refine pA 13 (some 4) (bz 14 0x3fff) HT_ ?_
    refine done_ (done_of HT_.out (by kernel_rfl)) ?_
    try go_wp2
    go_ret
    exact ⟨y0_18, UpW.out⟩
   rw [if_neg c8] at H
   have c8b0 : (t438 == a1_0) = false := beq_eq_false_iff_ne.mpr c8; have c8b1 : (t438 != a1_0) = true := bne_iff_ne.mpr c8; obtain rfl := Option.some.inj H
   go_enter Tryz.func49, Tryz.ntmps49
   try go_wp2_with (first | ((with_reducible refine gd 2 ?_); refine bL 2 #[.int .i64 a0_0, .int .i64 a0_1] 38 ?_; intro gb434 w36 _ _ _) | ((with_reducible refine gd 3 ?_); refine bL 3 #[.int .i64 a1_0, .string a1_1, .slice A1_2 l1_2.length c1_2] 33 ?_; intro gb435 w37 _ _ _))
   refine sB [] spec_QcOk.tab1 spec_QcOk.bits1 ?_; intro w38 _ HT_ HW_
   refine tB 0 (some 5) (bz 17 1) HT_ HW_ ?_
   refine o1 1 (some 6) (bz 17 3) HT_ rfl (kC Tryz.func55 (spec_ConfOk.calls (w := _) (h := A3.out)) ?_); intro w39 _
   refine nA (some 6) ?_
   refine pA 2 (some 7) (bz 17 7) HT_ ?_
   refine pA 3 (some 8) (bz 17 15) HT_ ?_
   refine pA 4 (some 9) (bz 17 31) HT_ ?_
   refine tB 5 (some 10) (bz 17 63) HT_ HW_ ?_
   refine o1 6 (some 11) (bz 17 127) HT_ rfl (kC Tryz.func97 (spec_NameOk.calls (w := _) (h := A5.out)) ?_); intro w40 _
   refine nA (some 11) ?_
   refine pA 7 (some 12) (bz 17 255) HT_ ?_
   refine pA 8 (some 13) (bz 17 511) HT_ ?_
   refine pA 9 (some 14) (bz 17 1023) HT_ ?_
   refine pA 10 (some 15) (bz 17 2047) HT_ ?_
   refine tB 11 (some 16) (bz 17 4095) HT_ HW_ ?_
   refine pA 13 (some 18) (bz 17 0x2fff) HT_ ?_
   refine tB 14 (some 19) (bz 17 0x6fff) HT_ HW_ ?_
   refine o1 12 (some 17) (bz 17 0x7fff) HT_ rfl (kC Tryz.func62 (spec_ViewOf.calls (w := _) (h := A7.out)) ?_); intro w41 _
   refine nA (some 17) ?_
   refine pA 15 (some 20) (bz 17 0xffff) HT_ ?_
   refine pA 16 (some 21) (bz 17 0x1ffff) HT_ ?_
   refine done_ (done_of HT_.out (by kernel_rfl)) ?_
   try go_wp2
   go_ret
   exact ⟨y0_18, UpW.out⟩
  replace c6 := Bool.eq_false_iff.mpr c6; subst c6
  rw [if_neg (show ¬ (false = true) by decide)] at H
  obtain rfl := Option.some.inj H
  go_enter Tryz.func49, Tryz.ntmps49
  try go_wp2_with (first | ((with_reducible refine gd 2 ?_); refine bL 2 #[.int .i64 a0_0, .int .i64 a0_1] 38 ?_; intro gb434 w42 _ _ _) | ((with_reducible refine gd 3 ?_); refine bL 3 #[.int .i64 a1_0, .string a1_1, .slice A1_2 l1_2.length c1_2] 33 ?_; intro gb435 w43 _ _ _))
  refine sB [] spec_QcOk.tab1 spec_QcOk.bits1 ?_; intro w44 _ HT_ HW_
  refine tB 0 (some 5) (bz 17 1) HT_ HW_ ?_
  refine o1 1 (some 6) (bz 17 3) HT_ rfl (kC Tryz.func55 (spec_ConfOk.calls (w := _) (h := A3.out)) ?_); intro w45 _
  refine nA (some 6) ?_
  refine pA 2 (some 7) (bz 17 7) HT_ ?_
  refine pA 3 (some 8) (bz 17 15) HT_ ?_
  refine pA 4 (some 9) (bz 17 31) HT_ ?_
  refine tB 5 (some 10) (bz 17 63) HT_ HW_ ?_
  refine o1 6 (some 11) (bz 17 127) HT_ rfl (kC Tryz.func97 (spec_NameOk.calls (w := _) (h := A5.out)) ?_); intro w46 _
  refine nA (some 11) ?_
  refine pA 7 (some 12) (bz 17 255) HT_ ?_
  refine pA 8 (some 13) (bz 17 511) HT_ ?_
  refine pA 9 (some 14) (bz 17 1023) HT_ ?_
  refine pU 10 (some 15) (bz 17 2047) HT_ ?_
  refine pU 11 (some 16) (bz 17 4095) HT_ ?_
  refine pU 12 (some 17) (bz 17 0x1fff) HT_ ?_
  refine pU 13 (some 18) (bz 17 0x3fff) HT_ ?_
  refine pU 14 (some 19) (bz 17 0x7fff) HT_ ?_
  refine pU 15 (some 20) (bz 17 0xffff) HT_ ?_
  refine pA 16 (some 21) (bz 17 0x1ffff) HT_ ?_
  refine done_ (done_of HT_.out (by kernel_rfl)) ?_
  try go_wp2
  go_ret
  exact ⟨y0_18, UpW.out⟩
 replace c4 := Bool.eq_false_iff.mpr c4; subst c4
 rw [if_neg (show ¬ (false = true) by decide)] at H
 obtain rfl := Option.some.inj H
 go_enter Tryz.func49, Tryz.ntmps49
 try go_wp2_with (first | ((with_reducible refine gd 2 ?_); refine bL 2 #[.int .i64 a0_0, .int .i64 a0_1] 38 ?_; intro gb434 w47 _ _ _) | ((with_reducible refine gd 3 ?_); refine bL 3 #[.int .i64 a1_0, .string a1_1, .slice A1_2 l1_2.length c1_2] 33 ?_; intro gb435 w48 _ _ _))
 refine sB [] spec_QcOk.tab1 spec_QcOk.bits1 ?_; intro w49 _ HT_ HW_
 refine tB 0 (some 5) (bz 17 1) HT_ HW_ ?_
 refine o1 1 (some 6) (bz 17 3) HT_ rfl (kC Tryz.func55 (spec_ConfOk.calls (w := _) (h := A3.out)) ?_); intro w50 _
 refine nA (some 6) ?_
 refine pA 2 (some 7) (bz 17 7) HT_ ?_
 refine pA 3 (some 8) (bz 17 15) HT_ ?_
 refine pU 4 (some 9) (bz 17 31) HT_ ?_
 refine pU 5 (some 10) (bz 17 63) HT_ ?_
 refine pU 6 (some 11) (bz 17 127) HT_ ?_
 refine pU 7 (some 12) (bz 17 255) HT_ ?_
 refine pA 8 (some 13) (bz 17 511) HT_ ?_
 refine pA 9 (some 14) (bz 17 1023) HT_ ?_
 refine pU 10 (some 15) (bz 17 2047) HT_ ?_
 refine pU 11 (some 16) (bz 17 4095) HT_ ?_
 refine pU 12 (some 17) (bz 17 0x1fff) HT_ ?_
 refine pU 13 (some 18) (bz 17 0x3fff) HT_ ?_
 refine pU 14 (some 19) (bz 17 0x7fff) HT_ ?_
 refine pU 15 (some 20) (bz 17 0xffff) HT_ ?_
 refine pA 16 (some 21) (bz 17 0x1ffff) HT_ ?_
 refine done_ (done_of HT_.out (by kernel_rfl)) ?_
 try go_wp2
 go_ret
 exact ⟨y0_18, UpW.out⟩

/-! ### spec_SafeOk: function 66 -/
def spec_SafeOk.f (k : Nat) (a0_0 : Int) (a0_1 : Int) (a1_0 : Int) (a1_1 : Int) (a1_2 : Int) (a1_3 : ByteArray) (l1_4 : List Int) (a1_5 : ByteArray) : Option (Bool) := (spec_l1In.f a1_0 0 60).bind fun t443 => (if t443 = true then ((spec_l1In.f a1_1 0 60).bind fun t444 => (if t444 = true then ((spec_QcOk.f k a0_0 a0_1 a1_2 a1_3 l1_4).bind fun t445 => (if t445 = true then ((spec_NameOk.f k a1_5).bind fun t446 => (some t446)) else (some false))) else (some false))) else (some false))
theorem spec_SafeOk.mono : ∀ a0 a1 a2 a3 a4 a5 a6 a7 k, LeO (spec_SafeOk.f k a0 a1 a2 a3 a4 a5 a6 a7) (spec_SafeOk.f (k + 1) a0 a1 a2 a3 a4 a5 a6 a7) := by
 intro a0 a1 a2 a3 a4 a5 a6 a7 k
 unfold spec_SafeOk.f
 repeat' first | (with_reducible exact spec_NameOk.mono _ _) | (with_reducible exact spec_QcOk.mono _ _ _ _ _ _) | (with_reducible exact LeO.refl _) | (with_reducible exact LeO.none _) | (with_reducible refine LeO.ite ?_ ?_) | (with_reducible refine LeO.bind ?_ (fun _ => ?_))
set_option maxHeartbeats 8000000 in
set_option maxRecDepth 100000 in
theorem spec_SafeOk.calls (k : Nat) (a0_0 : Int) (a0_1 : Int) (a1_0 : Int) (a1_1 : Int) (a1_2 : Int) (a1_3 : ByteArray) (A1_4 : Option Addr) (c1_4 : Nat) (l1_4 : List Int) (a1_5 : ByteArray) (r : Bool) (w : World) (hr1_4 : Kd.C (Kd.int .i64) w A1_4 l1_4.length l1_4) (hc1_4 : l1_4.length ≤ c1_4) (h : spec_SafeOk.f k a0_0 a0_1 a1_0 a1_1 a1_2 a1_3 l1_4 a1_5 = some r) :
  Calls Tryz.prog 66 #[.agg #[.int .i64 a0_0, .int .i64 a0_1], .agg #[.int .i64 a1_0, .int .i64 a1_1, .int .i64 a1_2, .string a1_3, .slice A1_4 l1_4.length c1_4, .string a1_5]] w fun e w' => e = .returned (.bool r) ∧ Below w.heap.size w w' := by
 have hu38 := Tryz.underlying38; have hu35 := Tryz.underlying35; have hu33 := Tryz.underlying33; have HR1_4 := Aside0.mk hr1_4; have HC1_4 := Aside0.mk hc1_4; clear hr1_4 hc1_4; have HB := Aside0.mk (Below.refl w.heap.size w)
 have H : ((spec_l1In.f a1_0 0 60).bind fun t443 => (if t443 = true then ((spec_l1In.f a1_1 0 60).bind fun t444 => (if t444 = true then ((spec_QcOk.f k a0_0 a0_1 a1_2 a1_3 l1_4).bind fun t445 => (if t445 = true then ((spec_NameOk.f k a1_5).bind fun t446 => (some t446)) else (some false))) else (some false))) else (some false))) = some r := h
 clear h; obtain ⟨t443, A30, H⟩ := Option.bind_eq_some_iff.mp H
 try dsimp only at H
 have A3 := Aside0.mk A30; clear A30
 by_cases c4 : t443 = true
 ·
  subst c4
  rw [if_pos rfl] at H
  obtain ⟨t444, A50, H⟩ := Option.bind_eq_some_iff.mp H
  try dsimp only at H
  have A5 := Aside0.mk A50; clear A50
  by_cases c6 : t444 = true
  ·
   subst c6
   rw [if_pos rfl] at H
   obtain ⟨t445, A70, H⟩ := Option.bind_eq_some_iff.mp H
   try dsimp only at H
   have A7 := Aside0.mk A70; clear A70
   by_cases c8 : t445 = true
   ·
    subst c8
    rw [if_pos rfl] at H
    obtain ⟨t446, A90, H⟩ := Option.bind_eq_some_iff.mp H
    try dsimp only at H
    have A9 := Aside0.mk A90; clear A90; obtain rfl := Option.some.inj H
    go_enter Tryz.func66, Tryz.ntmps66
    go_wp2_with (first | ((with_reducible refine gd 2 ?_); refine bL 2 #[.int .i64 a0_0, .int .i64 a0_1] 38 ?_; intro gb441 w10 _ _ _) | ((with_reducible refine gd 3 ?_); refine bL 3 #[.int .i64 a1_0, .int .i64 a1_1, .int .i64 a1_2, .string a1_3, .slice A1_4 l1_4.length c1_4, .string a1_5] 35 ?_; intro gb442 w11 _ _ _) | ((with_reducible refine gate_callee (f := 100) rfl ?_); refine gD (some 7) Tryz.func100 (spec_l1In.calls (w := _) (h := A3.out)) ?_; intro w12 _) | (go_at_call 100; refine aD (spec_l1In.calls (w := _) (h := A5.out)) ?_; intro w13 _) | (go_at_call 49; refine aC (spec_QcOk.calls (hr1_2 := pC HR1_4) (hc1_2 := HC1_4.out) (w := _) (h := A7.out)) ?_; intro w14 _) | (go_at_call 97; refine aC (spec_NameOk.calls (w := _) (h := A9.out)) ?_; intro w15 _))
    go_ret
    exact ⟨y0_18, UpW.out⟩
   replace c8 := Bool.eq_false_iff.mpr c8; subst c8
   rw [if_neg (show ¬ (false = true) by decide)] at H
   obtain rfl := Option.some.inj H
   go_enter Tryz.func66, Tryz.ntmps66
   go_wp2_with (first | ((with_reducible refine gd 2 ?_); refine bL 2 #[.int .i64 a0_0, .int .i64 a0_1] 38 ?_; intro gb441 w16 _ _ _) | ((with_reducible refine gd 3 ?_); refine bL 3 #[.int .i64 a1_0, .int .i64 a1_1, .int .i64 a1_2, .string a1_3, .slice A1_4 l1_4.length c1_4, .string a1_5] 35 ?_; intro gb442 w17 _ _ _) | ((with_reducible refine gate_callee (f := 100) rfl ?_); refine gD (some 7) Tryz.func100 (spec_l1In.calls (w := _) (h := A3.out)) ?_; intro w18 _) | (go_at_call 100; refine aD (spec_l1In.calls (w := _) (h := A5.out)) ?_; intro w19 _) | (go_at_call 49; refine aC (spec_QcOk.calls (hr1_2 := pC HR1_4) (hc1_2 := HC1_4.out) (w := _) (h := A7.out)) ?_; intro w20 _))
   go_ret
   exact ⟨y0_18, UpW.out⟩
  replace c6 := Bool.eq_false_iff.mpr c6; subst c6
  rw [if_neg (show ¬ (false = true) by decide)] at H
  obtain rfl := Option.some.inj H
  go_enter Tryz.func66, Tryz.ntmps66
  go_wp2_with (first | ((with_reducible refine gd 2 ?_); refine bL 2 #[.int .i64 a0_0, .int .i64 a0_1] 38 ?_; intro gb441 w21 _ _ _) | ((with_reducible refine gd 3 ?_); refine bL 3 #[.int .i64 a1_0, .int .i64 a1_1, .int .i64 a1_2, .string a1_3, .slice A1_4 l1_4.length c1_4, .string a1_5] 35 ?_; intro gb442 w22 _ _ _) | ((with_reducible refine gate_callee (f := 100) rfl ?_); refine gD (some 7) Tryz.func100 (spec_l1In.calls (w := _) (h := A3.out)) ?_; intro w23 _) | (go_at_call 100; refine aD (spec_l1In.calls (w := _) (h := A5.out)) ?_; intro w24 _))
  go_ret
  exact ⟨y0_18, UpW.out⟩
 replace c4 := Bool.eq_false_iff.mpr c4; subst c4
 rw [if_neg (show ¬ (false = true) by decide)] at H
 obtain rfl := Option.some.inj H
 go_enter Tryz.func66, Tryz.ntmps66
 go_wp2_with (first | ((with_reducible refine gd 2 ?_); refine bL 2 #[.int .i64 a0_0, .int .i64 a0_1] 38 ?_; intro gb441 w25 _ _ _) | ((with_reducible refine gd 3 ?_); refine bL 3 #[.int .i64 a1_0, .int .i64 a1_1, .int .i64 a1_2, .string a1_3, .slice A1_4 l1_4.length c1_4, .string a1_5] 35 ?_; intro gb442 w26 _ _ _) | ((with_reducible refine gate_callee (f := 100) rfl ?_); refine gD (some 7) Tryz.func100 (spec_l1In.calls (w := _) (h := A3.out)) ?_; intro w27 _))
 go_ret
 exact ⟨y0_18, UpW.out⟩

/-! ### spec_l1Max: function 67 -/
def spec_l1Max.f (a0 : Int) (a1 : Int) : Option (Int) := if a0 > a1 then (some a0) else (some a1)
set_option maxHeartbeats 8000000 in
set_option maxRecDepth 100000 in
theorem spec_l1Max.calls (a0 : Int) (a1 : Int) (r : Int) (w : World) (h : spec_l1Max.f a0 a1 = some r) :
  Calls Tryz.prog 67 #[.int .i64 a0, .int .i64 a1] w fun e w' => e = .returned (.int .i64 r) ∧ Drawn0 w w' := by
 have H : (if a0 > a1 then (some a0) else (some a1)) = some r := h; clear h
 by_cases c3 : a0 > a1
 ·
  rw [if_pos c3] at H
  have c3b0 : decide (a1 < a0) = true := decide_eq_true c3; clear c3; obtain rfl := Option.some.inj H
  go_enter Tryz.func67, Tryz.ntmps67
  go_wp2
  go_ret
  exact ⟨y0_18, y0_16⟩
 rw [if_neg c3] at H
 have c3b0 : decide (a1 < a0) = false := decide_eq_false c3; clear c3; obtain rfl := Option.some.inj H
 go_enter Tryz.func67, Tryz.ntmps67
 go_wp2
 go_ret
 exact ⟨y0_18, y0_16⟩

/-! ### spec_UpOf: function 68 -/
def spec_UpOf.l0 : Nat → ByteArray → Int → Option (ByteArray)
 | 0, _, _ => none
 | k + 1, x0, x3 => if x3 > 0 then (if 0 ≤ (wrap64 (x3 - 1)) then (if (wrap64 (x3 - 1)) < (x0.size : Int) then (if (bt x0 (wrap64 (x3 - 1))) = 47 then ((spec_l1Max.f (wrap64 (x3 - 1)) 0).bind fun t448 => (if 0 ≤ t448 then (if t448 ≤ (x0.size : Int) then (some (x0.extract 0 (t448 : Int).toNat)) else (none)) else (none))) else (spec_UpOf.l0 k x0 (wrap64 (x3 - 1)))) else (none)) else (none)) else ((spec_l1Max.f (wrap64 (x3 - 1)) 0).bind fun t449 => (if 0 ≤ t449 then (if t449 ≤ (x0.size : Int) then (some (x0.extract 0 (t449 : Int).toNat)) else (none)) else (none)))
def spec_UpOf.f (k : Nat) (a0 : ByteArray) : Option (ByteArray) := (spec_NameOk.f k a0).bind fun t447 => (if t447 = true then (spec_UpOf.l0 k a0 (a0.size : Int)) else (some (⟨#[]⟩ : ByteArray)))
theorem spec_UpOf.mono_l : ∀ k, (∀ y0 y1, LeO (spec_UpOf.l0 k y0 y1) (spec_UpOf.l0 (k + 1) y0 y1))
 | 0 => fun _ _ r h => by simp [spec_UpOf.l0] at h
 | k + 1 => by
  have ih0 := spec_UpOf.mono_l k
  intro y0 y1
  unfold spec_UpOf.l0
  repeat' first | (with_reducible exact ih0 _ _) | (with_reducible exact spec_NameOk.mono _ _) | (with_reducible exact LeO.refl _) | (with_reducible exact LeO.none _) | (with_reducible refine LeO.ite ?_ ?_) | (with_reducible refine LeO.bind ?_ (fun _ => ?_))
theorem spec_UpOf.mono : ∀ a0 k, LeO (spec_UpOf.f k a0) (spec_UpOf.f (k + 1) a0) := by
 intro a0 k
 have ih0 := spec_UpOf.mono_l k
 unfold spec_UpOf.f
 repeat' first | (with_reducible exact ih0 _ _) | (with_reducible exact spec_NameOk.mono _ _) | (with_reducible exact LeO.refl _) | (with_reducible exact LeO.none _) | (with_reducible refine LeO.ite ?_ ?_) | (with_reducible refine LeO.bind ?_ (fun _ => ?_))
set_option maxHeartbeats 8000000 in
set_option maxRecDepth 100000 in
theorem spec_UpOf.calls (k : Nat) (a0 : ByteArray) (r : ByteArray) (w : World) (h : spec_UpOf.f k a0 = some r) :
  Calls Tryz.prog 68 #[.string a0] w fun e w' => e = .returned (.string r) ∧ Below w.heap.size w w' := by
 have HB := Aside0.mk (Below.refl w.heap.size w)
 have H : ((spec_NameOk.f k a0).bind fun t447 => (if t447 = true then (spec_UpOf.l0 k a0 (a0.size : Int)) else (some (⟨#[]⟩ : ByteArray)))) = some r := h
 clear h; obtain ⟨t447, A20, H⟩ := Option.bind_eq_some_iff.mp H
 try dsimp only at H
 have A2 := Aside0.mk A20; clear A20
 by_cases c3 : t447 = true
 ·
  subst c3
  rw [if_pos rfl] at H
  have H' := Aside0.mk H; clear H
  go_enter Tryz.func68, Tryz.ntmps68
  go_wp2_with (first | ((with_reducible refine gate_callee (f := 97) rfl ?_); refine gB (some 5) Tryz.func97 #[.string a0] ?_; (with_reducible refine (spec_NameOk.calls k a0 true _ A2.out).mono ?_); rintro e w4 ⟨rfl, hb⟩; refine ⟨_, rfl, ?_⟩; replace HB := bs HB hb; (try clear hb); (try clear hb2); (try clear hk); (try clear hi)))
  go_loopg [3] k (fun kq v3 w' => ∃ (x3_1 : Int), v3 = .int .i64 x3_1 ∧ Aside0 (spec_UpOf.l0 kq a0 x3_1 = some r) ∧ Aside0 (kq ≤ k) ∧ Aside0 (Below w.heap.size w w'))
  case atStart => exact ⟨((a0.size : Int)), y0_18, H', ⟨Nat.le_refl _⟩, ⟨bI HB.out⟩⟩
  case round =>
   clear H'
   try clear p2
   try clear c3
   obtain ⟨x3_1, rfl, HA, HK1, HB⟩ := hrel; cases gk with
   | zero => exact absurd HA.out (by simp [spec_UpOf.l0])
   | succ k1 =>
    have H := HA.out; clear HA
    simp only [spec_UpOf.l0] at H
    by_cases c5 : x3_1 > 0
    ·
     rw [if_pos c5] at H
     have c5b0 : decide (0 < x3_1) = true := decide_eq_true c5; clear c5; obtain ⟨ji6, hji6⟩ : ∃ j_ : Int, (wrap64 (x3_1 - 1)) = j_ := ⟨_, rfl⟩
     replace H : (if 0 ≤ (ji6) then (if (ji6) < (a0.size : Int) then (if (bt a0 (ji6)) = 47 then ((spec_l1Max.f (ji6) 0).bind fun t448 => (if 0 ≤ t448 then (if t448 ≤ (a0.size : Int) then (some (a0.extract 0 (t448 : Int).toNat)) else (none)) else (none))) else (spec_UpOf.l0 k1 a0 ji6)) else (none)) else (none)) = some r := by first | (rw [hji6] at H; exact H) | (simp only [hji6] at H ⊢; exact H)
     have hji6w : (IntKind.i64.wrap (x3_1 - 1)) = ji6 := (i64_w _).trans hji6
     by_cases c7 : 0 ≤ (ji6)
     rotate_left
     ·
      rw [if_neg c7] at H
      exact absurd H (by simp)
     rw [if_pos c7] at H
     have c7b0 : decide (0 ≤ (ji6)) = true := decide_eq_true c7; clear c7
     by_cases c8 : (ji6) < (a0.size : Int)
     rotate_left
     ·
      rw [if_neg c8] at H
      exact absurd H (by simp)
     rw [if_pos c8] at H
     have c8b0 : decide ((ji6) < (a0.size : Int)) = true := decide_eq_true c8; clear c8
     by_cases c10 : (bt a0 (ji6)) = 47
     ·
      rw [if_pos c10] at H
      have c10b0 : ((bt a0 (ji6)) == 47) = true := beq_iff_eq.mpr c10; have c10b1 : ((bt a0 (ji6)) != 47) = false := bne_eq_false_iff_eq.mpr c10; clear c10; obtain ⟨t448, A110, H⟩ := Option.bind_eq_some_iff.mp H
      try dsimp only at H
      have A11 := Aside0.mk A110; clear A110
      by_cases c12 : 0 ≤ t448
      rotate_left
      ·
       rw [if_neg c12] at H
       exact absurd H (by simp)
      rw [if_pos c12] at H
      have c12b0 := eq_true c12; have c12b1 : decide (0 ≤ t448) = true := decide_eq_true c12; clear c12
      by_cases c13 : t448 ≤ (a0.size : Int)
      rotate_left
      ·
       rw [if_neg c13] at H
       exact absurd H (by simp)
      rw [if_pos c13] at H
      have c13b0 := eq_true c13; have c13b1 : decide (t448 ≤ (a0.size : Int)) = true := decide_eq_true c13; clear c13; obtain rfl := Option.some.inj H; have p9 : 0 ≤ ((ji6) : Int) := of_decide_eq_true y0_17; have q9 : (ji6) < (a0.size : Int) := of_decide_eq_true y0_17; have hx9 := bt_at a0 (ji6); replace p9 := eq_true p9; replace q9 := eq_true q9
      go_wp2_with (first | ((with_reducible refine gate_callee (f := 67) rfl ?_); refine goesL_ (some 23) rfl rfl Tryz.func67 (by kernel_rfl) rfl #[.int .i64 ji6, .int .i64 0] rfl (by (try simp only [List.map_toArray, List.map_cons, List.map_nil]); first | done | (simp only [hji6]; rfl) | rfl | (simp only [List.length_drop, List.length_take]; rfl)) ?_; (with_reducible refine (spec_l1Max.calls ji6 0 t448 _ A11.out).mono ?_); rintro e w' ⟨rfl, ⟨nd, rfl⟩⟩; refine ⟨_, rfl, ?_⟩))
      go_ret
      exact ⟨by first | rfl | (simp [errW_none, errW_some] <;> rfl) | (simp only [← hji6]; first | rfl | (simp [errW_none, errW_some] <;> rfl)) | (simp [*, errW_none, errW_some] <;> rfl), bI HB.out⟩
     rw [if_neg c10] at H
     have c10b0 : ((bt a0 (ji6)) == 47) = false := beq_eq_false_iff_ne.mpr c10; have c10b1 : ((bt a0 (ji6)) != 47) = true := bne_iff_ne.mpr c10; have H' := Aside0.mk H; clear H; have p9 : 0 ≤ ((ji6) : Int) := of_decide_eq_true y0_17; have q9 : (ji6) < (a0.size : Int) := of_decide_eq_true y0_17; have hx9 := bt_at a0 (ji6); replace p9 := eq_true p9; replace q9 := eq_true q9
     go_wp2
     go_roundg k1
     case measure => have := HK1.out; omega
     case rel => exact ⟨(ji6), (by first | rfl | (simp; done) | (simp only [← hji6] <;> (first | rfl | simp)) | (simp [*]; done)), H', ⟨y0_20⟩, ⟨bI HB.out⟩⟩
    rw [if_neg c5] at H
    have c5b0 : decide (0 < x3_1) = false := decide_eq_false c5; clear c5; obtain ⟨t449, A140, H⟩ := Option.bind_eq_some_iff.mp H
    try dsimp only at H
    have A14 := Aside0.mk A140; clear A140
    by_cases c15 : 0 ≤ t449
    rotate_left
    ·
     rw [if_neg c15] at H
     exact absurd H (by simp)
    rw [if_pos c15] at H
    have c15b0 := eq_true c15; have c15b1 : decide (0 ≤ t449) = true := decide_eq_true c15; clear c15
    by_cases c16 : t449 ≤ (a0.size : Int)
    rotate_left
    ·
     rw [if_neg c16] at H
     exact absurd H (by simp)
    rw [if_pos c16] at H
    have c16b0 := eq_true c16; have c16b1 : decide (t449 ≤ (a0.size : Int)) = true := decide_eq_true c16; clear c16; obtain rfl := Option.some.inj H
    go_wp2_with (first | ((with_reducible refine gate_callee (f := 67) rfl ?_); refine gB (some 23) Tryz.func67 #[.int .i64 (wrap64 (x3_1 - 1)), .int .i64 0] ?_; (with_reducible refine (spec_l1Max.calls (wrap64 (x3_1 - 1)) 0 t449 _ A14.out).mono ?_); rintro e w' ⟨rfl, ⟨nd, rfl⟩⟩; refine ⟨_, rfl, ?_⟩))
    go_ret
    exact ⟨y0_14, bI HB.out⟩
 replace c3 := Bool.eq_false_iff.mpr c3; subst c3
 rw [if_neg (show ¬ (false = true) by decide)] at H
 obtain rfl := Option.some.inj H
 go_enter Tryz.func68, Tryz.ntmps68
 go_wp2_with (first | ((with_reducible refine gate_callee (f := 97) rfl ?_); refine gB (some 5) Tryz.func97 #[.string a0] ?_; (with_reducible refine (spec_NameOk.calls k a0 false _ A2.out).mono ?_); rintro e w17 ⟨rfl, hb⟩; refine ⟨_, rfl, ?_⟩; replace HB := bs HB hb; (try clear hb); (try clear hb2); (try clear hk); (try clear hi)))
 go_ret
 exact ⟨y0_14, bI HB.out⟩

end Go.Proofs.YtemjmefacifdeaaGreatDoor.PFnLockHolds
