-- By a program of this session, out of the translation (the print of the kit, with turns of its own). Lean checks it.
import Derived.Test.YtnpbopadajbopaaGreatDoorPFnBlocksx0
import Derived.Test.YtnpbopadajbopaaGreatDoorPFnBlocksx5
import Derived.Test.YtnpbopadajbopaaGreatDoorPFnBlocksx7
import Derived.Test.YtnpbopadajbopaaGreatDoorPFnBlocksx8
namespace Go.Proofs.YtnpbopadajbopaaGreatDoor.PFnBlocks
open Go.RowKit Go.Proofs.YtnpbopadajbopaaGreatDoorW.PrintWords Go.Proofs.YtnpbopadajbopaaGreatDoorW.PrintLast Go.Proofs.YtnpbopadajbopaaGreatDoorW.PrintMore
attribute [local go_sem] max2_int min2_int max_two min_two max_three min_three max_four min_four   -- for this text's walks alone
attribute [local go_sem] cell_in frozen_in
set_option synthInstance.maxSize 1000000
set_option synthInstance.maxHeartbeats 2000000
set_option linter.unusedVariables false
set_option linter.unusedSimpArgs false

/-! ### spec_SetOk: function 157 -/
def spec_SetOk.l0 : Nat → Int → List Int → Int → Option (Bool)
 | 0, _, _, _ => none
 | k + 1, x0, x1, x5 => if x5 < (x1.length : Int) then (if 0 ≤ x5 then (if (rd x1 x5) < 0 then (some false) else (if (rd x1 x5) ≥ x0 then (some false) else (if x5 > 0 then (if 0 ≤ (wrap64 (x5 - 1)) then (if (wrap64 (x5 - 1)) < (x1.length : Int) then (if (rd x1 (wrap64 (x5 - 1))) ≥ (rd x1 x5) then (some false) else (spec_SetOk.l0 k x0 x1 (wrap64 (x5 + 1)))) else (none)) else (none)) else (spec_SetOk.l0 k x0 x1 (wrap64 (x5 + 1)))))) else (none)) else (some true)
def spec_SetOk.f (k : Nat) (a0 : Int) (l1 : List Int) : Option (Bool) := spec_SetOk.l0 k a0 l1 0
theorem spec_SetOk.mono_l : ∀ k, (∀ y0 y1 y2, LeO (spec_SetOk.l0 k y0 y1 y2) (spec_SetOk.l0 (k + 1) y0 y1 y2))
 | 0 => fun _ _ _ r h => by simp [spec_SetOk.l0] at h
 | k + 1 => by
  have ih0 := spec_SetOk.mono_l k
  intro y0 y1 y2
  unfold spec_SetOk.l0
  repeat' first | (with_reducible exact ih0 _ _ _) | (with_reducible exact LeO.refl _) | (with_reducible exact LeO.none _) | (with_reducible refine LeO.ite ?_ ?_) | (with_reducible refine LeO.bind ?_ (fun _ => ?_))
theorem spec_SetOk.mono : ∀ a0 a1 k, LeO (spec_SetOk.f k a0 a1) (spec_SetOk.f (k + 1) a0 a1) := by
 intro a0 a1 k
 have ih0 := spec_SetOk.mono_l k
 unfold spec_SetOk.f
 repeat' first | (with_reducible exact ih0 _ _ _) | (with_reducible exact LeO.refl _) | (with_reducible exact LeO.none _) | (with_reducible refine LeO.ite ?_ ?_) | (with_reducible refine LeO.bind ?_ (fun _ => ?_))
set_option maxHeartbeats 8000000 in
set_option maxRecDepth 100000 in
theorem spec_SetOk.calls (k : Nat) (a0 : Int) (A1 : Option Addr) (c1 : Nat) (l1 : List Int) (r : Bool) (w : World) (hr1 : Kd.C (Kd.int .i64) w A1 l1.length l1) (hc1 : l1.length ≤ c1) (h : spec_SetOk.f k a0 l1 = some r) :
  Calls Tryz.prog 157 #[.int .i64 a0, .slice A1 l1.length c1] w fun e w' => e = .returned (.bool r) ∧ Drawn0 w w' := by
 have HR1 := Aside0.mk hr1; have HC1 := Aside0.mk hc1; clear hr1 hc1; have H : (spec_SetOk.l0 k a0 l1 0) = some r := h; clear h; have H' := Aside0.mk H; clear H
 go_enter Tryz.func157, Tryz.ntmps157
 go_wp2
 repeat (go_quiet (fail); try go_wp2)
 go_loopg [5] k (fun kq v5 w' => ∃ (x5_1 : Int), v5 = .int .i64 x5_1 ∧ Aside0 (spec_SetOk.l0 kq a0 l1 x5_1 = some r) ∧ Aside0 (kq ≤ k) ∧ Drawn0 w w')
 case atStart => exact ⟨(0), y0_18, H', ⟨Nat.le_refl _⟩, y0_16⟩
 case round =>
  clear H'
  try clear c1
  try clear p2
  obtain ⟨x5_1, rfl, HA, HK1, ⟨m1, rfl⟩⟩ := hrel; cases gk with
  | zero => exact absurd HA.out (by simp [spec_SetOk.l0])
  | succ k1 =>
   have H := HA.out; clear HA
   simp only [spec_SetOk.l0] at H
   by_cases c3 : x5_1 < (l1.length : Int)
   ·
    rw [if_pos c3] at H
    have c3b0 : decide (x5_1 < (l1.length : Int)) = true := decide_eq_true c3; clear c3
    by_cases c4 : 0 ≤ x5_1
    rotate_left
    ·
     rw [if_neg c4] at H
     exact absurd H (by simp)
    rw [if_pos c4] at H
    have c4b0 : decide (0 ≤ x5_1) = true := decide_eq_true c4; clear c4
    by_cases c5 : (rd l1 x5_1) < 0
    ·
     rw [if_pos c5] at H
     have c5b0 : decide ((rd l1 x5_1) < 0) = true := decide_eq_true c5; clear c5; obtain rfl := Option.some.inj H; have p518 : 0 ≤ (x5_1 : Int) := of_decide_eq_true y0_17; have q518 : x5_1 < (l1.length : Int) := of_decide_eq_true y0_17; obtain ⟨ad518, e518, hx518_0⟩ := Kd.at_int HR1.out x5_1 p518 q518; cases e518; replace p518 := eq_true p518; replace q518 := eq_true q518
     go_wp2
     repeat (go_quiet (fail); try go_wp2)
     go_ret
     exact ⟨y0_18, y0_16⟩
    rw [if_neg c5] at H
    have c5b0 : decide ((rd l1 x5_1) < 0) = false := decide_eq_false c5; clear c5
    by_cases c6 : (rd l1 x5_1) ≥ a0
    ·
     rw [if_pos c6] at H
     have c6b0 : decide (a0 ≤ (rd l1 x5_1)) = true := decide_eq_true c6; clear c6; obtain rfl := Option.some.inj H; have p518 : 0 ≤ (x5_1 : Int) := of_decide_eq_true y0_17; have q518 : x5_1 < (l1.length : Int) := of_decide_eq_true y0_17; obtain ⟨ad518, e518, hx518_0⟩ := Kd.at_int HR1.out x5_1 p518 q518; cases e518; replace p518 := eq_true p518; replace q518 := eq_true q518; have p519 : 0 ≤ (x5_1 : Int) := of_decide_eq_true y0_17; have q519 : x5_1 < (l1.length : Int) := of_decide_eq_true y0_17; obtain ⟨ad519, e519, hx519_0⟩ := Kd.at_int HR1.out x5_1 p519 q519
     obtain rfl : ad518 = ad519 := (by injection e519)
     replace p519 := eq_true p519; replace q519 := eq_true q519
     go_wp2
     repeat (go_quiet (fail); try go_wp2)
     go_ret
     exact ⟨y0_18, y0_16⟩
    rw [if_neg c6] at H
    have c6b0 : decide (a0 ≤ (rd l1 x5_1)) = false := decide_eq_false c6; clear c6
    by_cases c7 : x5_1 > 0
    ·
     rw [if_pos c7] at H
     have c7b0 : decide (0 < x5_1) = true := decide_eq_true c7; clear c7; obtain ⟨ji8, hji8⟩ : ∃ j_ : Int, (wrap64 (x5_1 - 1)) = j_ := ⟨_, rfl⟩
     replace H : (if 0 ≤ (ji8) then (if (ji8) < (l1.length : Int) then (if (rd l1 (ji8)) ≥ (rd l1 x5_1) then (some false) else (spec_SetOk.l0 k1 a0 l1 (wrap64 (x5_1 + 1)))) else (none)) else (none)) = some r := by first | (rw [hji8] at H; exact H) | (simp only [hji8] at H ⊢; exact H)
     have hji8w : (IntKind.i64.wrap (x5_1 - 1)) = ji8 := (i64_w _).trans hji8
     by_cases c9 : 0 ≤ (ji8)
     rotate_left
     ·
      rw [if_neg c9] at H
      exact absurd H (by simp)
     rw [if_pos c9] at H
     have c9b0 : decide (0 ≤ (ji8)) = true := decide_eq_true c9; clear c9
     by_cases c10 : (ji8) < (l1.length : Int)
     rotate_left
     ·
      rw [if_neg c10] at H
      exact absurd H (by simp)
     rw [if_pos c10] at H
     have c10b0 : decide ((ji8) < (l1.length : Int)) = true := decide_eq_true c10; clear c10
     by_cases c11 : (rd l1 (ji8)) ≥ (rd l1 x5_1)
     ·
      rw [if_pos c11] at H
      have c11b0 : decide ((rd l1 x5_1) ≤ (rd l1 (ji8))) = true := decide_eq_true c11; clear c11; obtain rfl := Option.some.inj H; have p518 : 0 ≤ (x5_1 : Int) := of_decide_eq_true y0_17; have q518 : x5_1 < (l1.length : Int) := of_decide_eq_true y0_17; obtain ⟨ad518, e518, hx518_0⟩ := Kd.at_int HR1.out x5_1 p518 q518; cases e518; replace p518 := eq_true p518; replace q518 := eq_true q518; have p519 : 0 ≤ (x5_1 : Int) := of_decide_eq_true y0_17; have q519 : x5_1 < (l1.length : Int) := of_decide_eq_true y0_17; obtain ⟨ad519, e519, hx519_0⟩ := Kd.at_int HR1.out x5_1 p519 q519
      obtain rfl : ad518 = ad519 := (by injection e519)
      replace p519 := eq_true p519; replace q519 := eq_true q519; have p520 : 0 ≤ ((ji8) : Int) := of_decide_eq_true y0_17; have q520 : (ji8) < (l1.length : Int) := of_decide_eq_true y0_17; obtain ⟨ad520, e520, hx520_0⟩ := Kd.at_int HR1.out (ji8) p520 q520
      obtain rfl : ad518 = ad520 := (by injection e520)
      replace p520 := eq_true p520; replace q520 := eq_true q520; have p521 : 0 ≤ (x5_1 : Int) := of_decide_eq_true y0_17; have q521 : x5_1 < (l1.length : Int) := of_decide_eq_true y0_17; obtain ⟨ad521, e521, hx521_0⟩ := Kd.at_int HR1.out x5_1 p521 q521
      obtain rfl : ad518 = ad521 := (by injection e521)
      replace p521 := eq_true p521; replace q521 := eq_true q521
      go_wp2
      repeat (go_quiet (fail); try go_wp2)
      go_ret
      exact ⟨by first | rfl | (simp; done) | (simp only [← hji8] <;> (first | rfl | simp)) | (simp [*]; done), y0_16⟩
     rw [if_neg c11] at H
     have c11b0 : decide ((rd l1 x5_1) ≤ (rd l1 (ji8))) = false := decide_eq_false c11; clear c11; have H' := Aside0.mk H; clear H; have p518 : 0 ≤ (x5_1 : Int) := of_decide_eq_true y0_17; have q518 : x5_1 < (l1.length : Int) := of_decide_eq_true y0_17; obtain ⟨ad518, e518, hx518_0⟩ := Kd.at_int HR1.out x5_1 p518 q518; cases e518; replace p518 := eq_true p518; replace q518 := eq_true q518; have p519 : 0 ≤ (x5_1 : Int) := of_decide_eq_true y0_17; have q519 : x5_1 < (l1.length : Int) := of_decide_eq_true y0_17; obtain ⟨ad519, e519, hx519_0⟩ := Kd.at_int HR1.out x5_1 p519 q519
     obtain rfl : ad518 = ad519 := (by injection e519)
     replace p519 := eq_true p519; replace q519 := eq_true q519; have p520 : 0 ≤ ((ji8) : Int) := of_decide_eq_true y0_17; have q520 : (ji8) < (l1.length : Int) := of_decide_eq_true y0_17; obtain ⟨ad520, e520, hx520_0⟩ := Kd.at_int HR1.out (ji8) p520 q520
     obtain rfl : ad518 = ad520 := (by injection e520)
     replace p520 := eq_true p520; replace q520 := eq_true q520; have p521 : 0 ≤ (x5_1 : Int) := of_decide_eq_true y0_17; have q521 : x5_1 < (l1.length : Int) := of_decide_eq_true y0_17; obtain ⟨ad521, e521, hx521_0⟩ := Kd.at_int HR1.out x5_1 p521 q521
     obtain rfl : ad518 = ad521 := (by injection e521)
     replace p521 := eq_true p521; replace q521 := eq_true q521
     go_wp2
     repeat (go_quiet (fail); try go_wp2)
     go_roundg k1
     case measure => have := HK1.out; omega
     case rel => exact ⟨(wrap64 (x5_1 + 1)), y0_18, H', ⟨y0_21⟩, y0_16⟩
    rw [if_neg c7] at H
    have c7b0 : decide (0 < x5_1) = false := decide_eq_false c7; clear c7; have H' := Aside0.mk H; clear H; have p518 : 0 ≤ (x5_1 : Int) := of_decide_eq_true y0_17; have q518 : x5_1 < (l1.length : Int) := of_decide_eq_true y0_17; obtain ⟨ad518, e518, hx518_0⟩ := Kd.at_int HR1.out x5_1 p518 q518; cases e518; replace p518 := eq_true p518; replace q518 := eq_true q518; have p519 : 0 ≤ (x5_1 : Int) := of_decide_eq_true y0_17; have q519 : x5_1 < (l1.length : Int) := of_decide_eq_true y0_17; obtain ⟨ad519, e519, hx519_0⟩ := Kd.at_int HR1.out x5_1 p519 q519
    obtain rfl : ad518 = ad519 := (by injection e519)
    replace p519 := eq_true p519; replace q519 := eq_true q519
    go_wp2
    repeat (go_quiet (fail); try go_wp2)
    go_roundg k1
    case measure => have := HK1.out; omega
    case rel => exact ⟨(wrap64 (x5_1 + 1)), y0_18, H', ⟨y0_21⟩, y0_16⟩
   rw [if_neg c3] at H
   have c3b0 : decide (x5_1 < (l1.length : Int)) = false := decide_eq_false c3; clear c3; obtain rfl := Option.some.inj H
   go_wp2
   repeat (go_quiet (fail); try go_wp2)
   go_ret
   exact ⟨y0_18, y0_16⟩

/-! ### spec_Quorum: function 201 -/
def spec_Quorum.f (a0_0 : Int) (a0_1 : Int) : Option (Int) := (spec_ConfOk.f a0_0 a0_1).bind fun t523 => (if t523 = true then (some (wrap64 (a0_0 - (wrap64 (Int.tdiv (wrap64 (a0_0 - 1)) 3))))) else (some 0))
set_option maxHeartbeats 8000000 in
set_option maxRecDepth 100000 in
theorem spec_Quorum.calls (a0_0 : Int) (a0_1 : Int) (r : Int) (w : World) (h : spec_Quorum.f a0_0 a0_1 = some r) :
  Calls Tryz.prog 201 #[.agg #[.int .i64 a0_0, .int .i64 a0_1]] w fun e w' => e = .returned (.int .i64 r) ∧ Below w.heap.size w w' := by
 have hu32 := Tryz.underlying32; have HB := Aside0.mk (Below.refl w.heap.size w)
 have H : ((spec_ConfOk.f a0_0 a0_1).bind fun t523 => (if t523 = true then (some (wrap64 (a0_0 - (wrap64 (Int.tdiv (wrap64 (a0_0 - 1)) 3))))) else (some 0))) = some r := h
 clear h; obtain ⟨t523, A20, H⟩ := Option.bind_eq_some_iff.mp H
 try dsimp only at H
 have A2 := Aside0.mk A20; clear A20
 by_cases c3 : t523 = true
 ·
  subst c3
  rw [if_pos rfl] at H
  obtain rfl := Option.some.inj H
  go_enter Tryz.func201, Tryz.ntmps201
  go_wp2_with (first | ((with_reducible refine gd 1 ?_); refine bL 1 #[.int .i64 a0_0, .int .i64 a0_1] 32 ?_; intro gb522 w4 _ _ _) | ((with_reducible refine gate_callee (f := 156) rfl ?_); refine gC (some 4) Tryz.func156 (spec_ConfOk.calls (w := _) (h := A2.out)) ?_; intro w5 _))
  go_ret
  exact ⟨y0_18, UpW.out⟩
 replace c3 := Bool.eq_false_iff.mpr c3; subst c3
 rw [if_neg (show ¬ (false = true) by decide)] at H
 obtain rfl := Option.some.inj H
 go_enter Tryz.func201, Tryz.ntmps201
 go_wp2_with (first | ((with_reducible refine gd 1 ?_); refine bL 1 #[.int .i64 a0_0, .int .i64 a0_1] 32 ?_; intro gb522 w6 _ _ _) | ((with_reducible refine gate_callee (f := 156) rfl ?_); refine gC (some 4) Tryz.func156 (spec_ConfOk.calls (w := _) (h := A2.out)) ?_; intro w7 _))
 go_ret
 exact ⟨y0_18, UpW.out⟩

/-! ### spec_QcOk: function 133 -/
def spec_QcOk.f (k : Nat) (a0_0 : Int) (a0_1 : Int) (a1_0 : Int) (a1_1 : ByteArray) (l1_2 : List Int) : Option (Bool) := (spec_ConfOk.f a0_0 a0_1).bind fun t526 => (if t526 = true then ((spec_NameOk.f k a1_1).bind fun t527 => (if t527 = true then ((spec_ViewOf.f k a1_1).bind fun t528 => (if t528 = a1_0 then (if a1_1.toList = ([] : List UInt8) then (some ((l1_2.length : Int) == 0)) else ((spec_SetOk.f k a0_0 l1_2).bind fun t529 => (if t529 = true then ((spec_Quorum.f a0_0 a0_1).bind fun t530 => (some (decide ((l1_2.length : Int) ≥ t530)))) else (some false)))) else (some false))) else (some false))) else (some false))
theorem spec_QcOk.mono : ∀ a0 a1 a2 a3 a4 k, LeO (spec_QcOk.f k a0 a1 a2 a3 a4) (spec_QcOk.f (k + 1) a0 a1 a2 a3 a4) := by
 intro a0 a1 a2 a3 a4 k
 unfold spec_QcOk.f
 repeat' first | (with_reducible exact spec_NameOk.mono _ _) | (with_reducible exact spec_SetOk.mono _ _ _) | (with_reducible exact spec_ViewOf.mono _ _) | (with_reducible exact LeO.refl _) | (with_reducible exact LeO.none _) | (with_reducible refine LeO.ite ?_ ?_) | (with_reducible refine LeO.bind ?_ (fun _ => ?_))
def spec_QcOk.T1 : Bool × List (List Nat × List Nat) := (true, [([], []), ([0], [0]), ([1], [1]), ([2, 1], [2]), ([3], [3]), ([4, 3], [3, 4]), ([5, 3, 3], [3, 5]), ([6, 3], [3, 6]), ([3, 7], [3, 7]), ([8, 6], [8]), ([9], [9]), ([10, 9], [9, 10]), ([11, 9, 9], [9, 11]), ([9], [9]), ([13, 9], [9, 13]), ([12, 14, 9], [9, 12, 14]), ([9, 15], [9, 15])])
def spec_QcOk.B1 : List Nat := [0, 1, 3, 7, 15, 31, 63, 127, 255, 511, 1023, 2047, 4095, 1023, 9215, 32767, 65535]
theorem spec_QcOk.tab1 : rtab .any (opsOf Tryz.f133 1) = spec_QcOk.T1 := by kernel_rfl
theorem spec_QcOk.bits1 : waitsOk spec_QcOk.T1.2 spec_QcOk.B1 = true := by kernel_rfl
def spec_QcOk.T5 : Bool × List (List Nat × List Nat) := (true, [([], []), ([0], [0]), ([], []), ([2], [2]), ([1, 3], [1, 3]), ([4, 4], [4]), ([5], [5]), ([6, 5], [5, 6]), ([7, 5], [5, 7]), ([5], [5]), ([9, 5, 5], [5, 9]), ([8, 10, 5], [5, 8, 10]), ([5, 11], [5, 11]), ([12, 10, 0, 1, 2, 3, 4, 5, 6, 7, 8, 9, 10, 11, 12], [12])])
def spec_QcOk.B5 : List Nat := [0, 1, 0, 4, 15, 31, 63, 127, 255, 63, 575, 2047, 4095, 8191]
theorem spec_QcOk.tab5 : rtab .any (opsOf Tryz.f133 5) = spec_QcOk.T5 := by kernel_rfl
theorem spec_QcOk.bits5 : waitsOk spec_QcOk.T5.2 spec_QcOk.B5 = true := by kernel_rfl
set_option maxHeartbeats 8000000 in
set_option maxRecDepth 100000 in
theorem spec_QcOk.calls (k : Nat) (a0_0 : Int) (a0_1 : Int) (a1_0 : Int) (a1_1 : ByteArray) (A1_2 : Option Addr) (c1_2 : Nat) (l1_2 : List Int) (r : Bool) (w : World) (hr1_2 : Kd.C (Kd.int .i64) w A1_2 l1_2.length l1_2) (hc1_2 : l1_2.length ≤ c1_2) (h : spec_QcOk.f k a0_0 a0_1 a1_0 a1_1 l1_2 = some r) :
  Calls Tryz.prog 133 #[.agg #[.int .i64 a0_0, .int .i64 a0_1], .agg #[.int .i64 a1_0, .string a1_1, .slice A1_2 l1_2.length c1_2]] w fun e w' => e = .returned (.bool r) ∧ Below w.heap.size w w' := by
 have hu32 := Tryz.underlying32; have hu27 := Tryz.underlying27; have HR1_2 := Aside0.mk hr1_2; have HC1_2 := Aside0.mk hc1_2; clear hr1_2 hc1_2; have HB := Aside0.mk (Below.refl w.heap.size w)
 have H : ((spec_ConfOk.f a0_0 a0_1).bind fun t526 => (if t526 = true then ((spec_NameOk.f k a1_1).bind fun t527 => (if t527 = true then ((spec_ViewOf.f k a1_1).bind fun t528 => (if t528 = a1_0 then (if a1_1.toList = ([] : List UInt8) then (some ((l1_2.length : Int) == 0)) else ((spec_SetOk.f k a0_0 l1_2).bind fun t529 => (if t529 = true then ((spec_Quorum.f a0_0 a0_1).bind fun t530 => (some (decide ((l1_2.length : Int) ≥ t530)))) else (some false)))) else (some false))) else (some false))) else (some false))) = some r := h
 clear h; obtain ⟨t526, A30, H⟩ := Option.bind_eq_some_iff.mp H
 try dsimp only at H
 have A3 := Aside0.mk A30; clear A30
 by_cases c4 : t526 = true
 ·
  subst c4
  rw [if_pos rfl] at H
  obtain ⟨t527, A50, H⟩ := Option.bind_eq_some_iff.mp H
  try dsimp only at H
  have A5 := Aside0.mk A50; clear A50
  by_cases c6 : t527 = true
  ·
   subst c6
   rw [if_pos rfl] at H
   obtain ⟨t528, A70, H⟩ := Option.bind_eq_some_iff.mp H
   try dsimp only at H
   have A7 := Aside0.mk A70; clear A70
   by_cases c8 : t528 = a1_0
   ·
    rw [if_pos c8] at H
    have c8b0 : (t528 == a1_0) = true := beq_iff_eq.mpr c8; have c8b1 : (t528 != a1_0) = false := bne_eq_false_iff_eq.mpr c8; clear c8
    by_cases c9 : a1_1.toList = ([] : List UInt8)
    ·
     rw [if_pos c9] at H
     have c9b0 : (a1_1.toList == ([] : List UInt8)) = true := beq_iff_eq.mpr c9; have c9b1 : (a1_1.toList != ([] : List UInt8)) = false := bne_eq_false_iff_eq.mpr c9; clear c9; obtain rfl := Option.some.inj H
     go_enter Tryz.func133, Tryz.ntmps133
     try go_wp2_with (first | ((with_reducible refine gd 2 ?_); refine bL 2 #[.int .i64 a0_0, .int .i64 a0_1] 32 ?_; intro gb524 w10 _ _ _) | ((with_reducible refine gd 3 ?_); refine bL 3 #[.int .i64 a1_0, .string a1_1, .slice A1_2 l1_2.length c1_2] 27 ?_; intro gb525 w11 _ _ _))
     refine sB [] spec_QcOk.tab1 spec_QcOk.bits1 ?_; intro w12 _ HT_ HW_
     refine tB 0 (some 5) (bz 17 1) HT_ HW_ ?_
     refine o1 1 (some 6) (bz 17 3) HT_ rfl (kC Tryz.func156 (spec_ConfOk.calls (w := _) (h := A3.out)) ?_); intro w13 _
     refine nA (some 6) ?_
     refine pA 2 (some 7) (bz 17 7) HT_ ?_
     refine pA 3 (some 8) (bz 17 15) HT_ ?_
     refine pA 4 (some 9) (bz 17 31) HT_ ?_
     refine tB 5 (some 10) (bz 17 63) HT_ HW_ ?_
     refine o1 6 (some 11) (bz 17 127) HT_ rfl (kC Tryz.func141 (spec_NameOk.calls (w := _) (h := A5.out)) ?_); intro w14 _
     refine nA (some 11) ?_
     refine pA 7 (some 12) (bz 17 255) HT_ ?_
     refine pA 8 (some 13) (bz 17 511) HT_ ?_
     refine pA 9 (some 14) (bz 17 1023) HT_ ?_
     refine pA 10 (some 15) (bz 17 2047) HT_ ?_
     refine tB 11 (some 16) (bz 17 4095) HT_ HW_ ?_
     refine pA 13 (some 18) (bz 17 0x2fff) HT_ ?_
     refine tB 14 (some 19) (bz 17 0x6fff) HT_ HW_ ?_
     refine o1 12 (some 17) (bz 17 0x7fff) HT_ rfl (kC Tryz.func127 (spec_ViewOf.calls (w := _) (h := A7.out)) ?_); intro w15 _
     refine nA (some 17) ?_
     refine pA 15 (some 20) (bz 17 0xffff) HT_ ?_
     refine pA 16 (some 21) (bz 17 0x1ffff) HT_ ?_
     refine done_ (done_of HT_.out (by kernel_rfl)) ?_
     try go_wp2
     go_ret
     exact ⟨y0_18, UpW.out⟩
    rw [if_neg c9] at H
    have c9b0 : (a1_1.toList == ([] : List UInt8)) = false := beq_eq_false_iff_ne.mpr c9; have c9b1 : (a1_1.toList != ([] : List UInt8)) = true := bne_iff_ne.mpr c9; obtain ⟨t529, A160, H⟩ := Option.bind_eq_some_iff.mp H
    try dsimp only at H
    have A16 := Aside0.mk A160; clear A160
    by_cases c17 : t529 = true
    ·
     subst c17
     rw [if_pos rfl] at H
     obtain ⟨t530, A180, H⟩ := Option.bind_eq_some_iff.mp H
     try dsimp only at H
     have A18 := Aside0.mk A180; clear A180; obtain rfl := Option.some.inj H
     go_enter Tryz.func133, Tryz.ntmps133
     try go_wp2_with (first | ((with_reducible refine gd 2 ?_); refine bL 2 #[.int .i64 a0_0, .int .i64 a0_1] 32 ?_; intro gb524 w19 _ _ _) | ((with_reducible refine gd 3 ?_); refine bL 3 #[.int .i64 a1_0, .string a1_1, .slice A1_2 l1_2.length c1_2] 27 ?_; intro gb525 w20 _ _ _))
     refine sB [] spec_QcOk.tab1 spec_QcOk.bits1 ?_; intro w21 _ HT_ HW_
     refine tB 0 (some 5) (bz 17 1) HT_ HW_ ?_
     refine o1 1 (some 6) (bz 17 3) HT_ rfl (kC Tryz.func156 (spec_ConfOk.calls (w := _) (h := A3.out)) ?_); intro w22 _
     refine nA (some 6) ?_
     refine pA 2 (some 7) (bz 17 7) HT_ ?_
     refine pA 3 (some 8) (bz 17 15) HT_ ?_
     refine pA 4 (some 9) (bz 17 31) HT_ ?_
     refine tB 5 (some 10) (bz 17 63) HT_ HW_ ?_
     refine o1 6 (some 11) (bz 17 127) HT_ rfl (kC Tryz.func141 (spec_NameOk.calls (w := _) (h := A5.out)) ?_); intro w23 _
     refine nA (some 11) ?_
     refine pA 7 (some 12) (bz 17 255) HT_ ?_
     refine pA 8 (some 13) (bz 17 511) HT_ ?_
     refine pA 9 (some 14) (bz 17 1023) HT_ ?_
     refine pA 10 (some 15) (bz 17 2047) HT_ ?_
     refine tB 11 (some 16) (bz 17 4095) HT_ HW_ ?_
     refine pA 13 (some 18) (bz 17 0x2fff) HT_ ?_
     refine tB 14 (some 19) (bz 17 0x6fff) HT_ HW_ ?_
     refine o1 12 (some 17) (bz 17 0x7fff) HT_ rfl (kC Tryz.func127 (spec_ViewOf.calls (w := _) (h := A7.out)) ?_); intro w24 _
     refine nA (some 17) ?_
     refine pA 15 (some 20) (bz 17 0xffff) HT_ ?_
     refine pA 16 (some 21) (bz 17 0x1ffff) HT_ ?_
     refine done_ (done_of HT_.out (by kernel_rfl)) ?_
     try go_wp2
     refine sB [] spec_QcOk.tab5 spec_QcOk.bits5 ?_; intro w25 _ HT_ HW_
     refine pA 0 (some 29) (bz 14 1) HT_ ?_
     refine tB 1 (some 30) (bz 14 3) HT_ HW_ ?_
     refine pA 2 (some 31) (bz 14 7) HT_ ?_
     refine tB 3 (some 32) (bz 14 15) HT_ HW_ ?_
     refine o1 4 (some 33) (bz 14 31) HT_ rfl (kD Tryz.func157 (spec_SetOk.calls (hr1 := pC HR1_2) (hc1 := HC1_2.out) (w := _) (h := A16.out)) ?_); intro w26 _
     refine nA (some 33) ?_
     refine pA 5 (some 34) (bz 14 63) HT_ ?_
     refine pA 6 (some 35) (bz 14 127) HT_ ?_
     refine tB 7 (some 36) (bz 14 255) HT_ HW_ ?_
     refine pA 8 (some 37) (bz 14 511) HT_ ?_
     refine tB 9 (some 38) (bz 14 1023) HT_ HW_ ?_
     refine o1 10 (some 39) (bz 14 2047) HT_ rfl (kC Tryz.func201 (spec_Quorum.calls (w := _) (h := A18.out)) ?_); intro w27 _
     refine nA (some 39) ?_
     refine pA 11 (some 40) (bz 14 4095) HT_ ?_
     refine pA 12 (some 41) (bz 14 0x1fff) HT_ ?_
     refine pA 13 (some 4) (bz 14 0x3fff) HT_ ?_
     refine done_ (done_of HT_.out (by kernel_rfl)) ?_
     try go_wp2
     go_ret
     exact ⟨y0_18, UpW.out⟩
    replace c17 := Bool.eq_false_iff.mpr c17; subst c17
    rw [if_neg (show ¬ (false = true) by decide)] at H
    obtain rfl := Option.some.inj H
    go_enter Tryz.func133, Tryz.ntmps133
    try go_wp2_with (first | ((with_reducible refine gd 2 ?_); refine bL 2 #[.int .i64 a0_0, .int .i64 a0_1] 32 ?_; intro gb524 w28 _ _ _) | ((with_reducible refine gd 3 ?_); refine bL 3 #[.int .i64 a1_0, .string a1_1, .slice A1_2 l1_2.length c1_2] 27 ?_; intro gb525 w29 _ _ _))
    refine sB [] spec_QcOk.tab1 spec_QcOk.bits1 ?_; intro w30 _ HT_ HW_
    refine tB 0 (some 5) (bz 17 1) HT_ HW_ ?_
    refine o1 1 (some 6) (bz 17 3) HT_ rfl (kC Tryz.func156 (spec_ConfOk.calls (w := _) (h := A3.out)) ?_); intro w31 _
    refine nA (some 6) ?_
    refine pA 2 (some 7) (bz 17 7) HT_ ?_
    refine pA 3 (some 8) (bz 17 15) HT_ ?_
    refine pA 4 (some 9) (bz 17 31) HT_ ?_
    refine tB 5 (some 10) (bz 17 63) HT_ HW_ ?_
    refine o1 6 (some 11) (bz 17 127) HT_ rfl (kC Tryz.func141 (spec_NameOk.calls (w := _) (h := A5.out)) ?_); intro w32 _
    refine nA (some 11) ?_
    refine pA 7 (some 12) (bz 17 255) HT_ ?_
    refine pA 8 (some 13) (bz 17 511) HT_ ?_
    refine pA 9 (some 14) (bz 17 1023) HT_ ?_
    refine pA 10 (some 15) (bz 17 2047) HT_ ?_
    refine tB 11 (some 16) (bz 17 4095) HT_ HW_ ?_
    refine pA 13 (some 18) (bz 17 0x2fff) HT_ ?_
    refine tB 14 (some 19) (bz 17 0x6fff) HT_ HW_ ?_
    refine o1 12 (some 17) (bz 17 0x7fff) HT_ rfl (kC Tryz.func127 (spec_ViewOf.calls (w := _) (h := A7.out)) ?_); intro w33 _
    refine nA (some 17) ?_
    refine pA 15 (some 20) (bz 17 0xffff) HT_ ?_
    refine pA 16 (some 21) (bz 17 0x1ffff) HT_ ?_
    refine done_ (done_of HT_.out (by kernel_rfl)) ?_
    try go_wp2
    refine sB [] spec_QcOk.tab5 spec_QcOk.bits5 ?_; intro w34 _ HT_ HW_
    refine pA 0 (some 29) (bz 14 1) HT_ ?_
    refine tB 1 (some 30) (bz 14 3) HT_ HW_ ?_
    refine pA 2 (some 31) (bz 14 7) HT_ ?_
    refine tB 3 (some 32) (bz 14 15) HT_ HW_ ?_
    refine o1 4 (some 33) (bz 14 31) HT_ rfl (kD Tryz.func157 (spec_SetOk.calls (hr1 := pC HR1_2) (hc1 := HC1_2.out) (w := _) (h := A16.out)) ?_); intro w35 _
    refine nA (some 33) ?_
    refine pA 5 (some 34) (bz 14 63) HT_ ?_
    refine pU 6 (some 35) (bz 14 127) HT_ ?_
    refine pU 7 (some 36) (bz 14 255) HT_ ?_
    refine pU 8 (some 37) (bz 14 511) HT_ ?_
    refine pU 9 (some 38) (bz 14 1023) HT_ ?_
    refine pU 10 (some 39) (bz 14 2047) HT_ ?_
    refine pU 11 (some 40) (bz 14 4095) HT_ ?_
    refine pA 12 (some 41) (bz 14 0x1fff) HT_ ?_
    refine pA 13 (some 4) (bz 14 0x3fff) HT_ ?_
    refine done_ (done_of HT_.out (by kernel_rfl)) ?_
    try go_wp2
    go_ret
    exact ⟨y0_18, UpW.out⟩
   rw [if_neg c8] at H
   have c8b0 : (t528 == a1_0) = false := beq_eq_false_iff_ne.mpr c8; have c8b1 : (t528 != a1_0) = true := bne_iff_ne.mpr c8; obtain rfl := Option.some.inj H
   go_enter Tryz.func133, Tryz.ntmps133
   try go_wp2_with (first | ((with_reducible refine gd 2 ?_); refine bL 2 #[.int .i64 a0_0, .int .i64 a0_1] 32 ?_; intro gb524 w36 _ _ _) | ((with_reducible refine gd 3 ?_); refine bL 3 #[.int .i64 a1_0, .string a1_1, .slice A1_2 l1_2.length c1_2] 27 ?_; intro gb525 w37 _ _ _))
   refine sB [] spec_QcOk.tab1 spec_QcOk.bits1 ?_; intro w38 _ HT_ HW_
   refine tB 0 (some 5) (bz 17 1) HT_ HW_ ?_
   refine o1 1 (some 6) (bz 17 3) HT_ rfl (kC Tryz.func156 (spec_ConfOk.calls (w := _) (h := A3.out)) ?_); intro w39 _
   refine nA (some 6) ?_
   refine pA 2 (some 7) (bz 17 7) HT_ ?_
   refine pA 3 (some 8) (bz 17 15) HT_ ?_
   refine pA 4 (some 9) (bz 17 31) HT_ ?_
   refine tB 5 (some 10) (bz 17 63) HT_ HW_ ?_
   refine o1 6 (some 11) (bz 17 127) HT_ rfl (kC Tryz.func141 (spec_NameOk.calls (w := _) (h := A5.out)) ?_); intro w40 _
   refine nA (some 11) ?_
   refine pA 7 (some 12) (bz 17 255) HT_ ?_
   refine pA 8 (some 13) (bz 17 511) HT_ ?_
   refine pA 9 (some 14) (bz 17 1023) HT_ ?_
   refine pA 10 (some 15) (bz 17 2047) HT_ ?_
   refine tB 11 (some 16) (bz 17 4095) HT_ HW_ ?_
   refine pA 13 (some 18) (bz 17 0x2fff) HT_ ?_
   refine tB 14 (some 19) (bz 17 0x6fff) HT_ HW_ ?_
   refine o1 12 (some 17) (bz 17 0x7fff) HT_ rfl (kC Tryz.func127 (spec_ViewOf.calls (w := _) (h := A7.out)) ?_); intro w41 _
   refine nA (some 17) ?_
   refine pA 15 (some 20) (bz 17 0xffff) HT_ ?_
   refine pA 16 (some 21) (bz 17 0x1ffff) HT_ ?_
   refine done_ (done_of HT_.out (by kernel_rfl)) ?_
   try go_wp2
   go_ret
   exact ⟨y0_18, UpW.out⟩
  replace c6 := Bool.eq_false_iff.mpr c6; subst c6
  rw [if_neg (show ¬ (false = true) by decide)] at H
  obtain rfl := Option.some.inj H
  go_enter Tryz.func133, Tryz.ntmps133
  try go_wp2_with (first | ((with_reducible refine gd 2 ?_); refine bL 2 #[.int .i64 a0_0, .int .i64 a0_1] 32 ?_; intro gb524 w42 _ _ _) | ((with_reducible refine gd 3 ?_); refine bL 3 #[.int .i64 a1_0, .string a1_1, .slice A1_2 l1_2.length c1_2] 27 ?_; intro gb525 w43 _ _ _))
  refine sB [] spec_QcOk.tab1 spec_QcOk.bits1 ?_; intro w44 _ HT_ HW_
  refine tB 0 (some 5) (bz 17 1) HT_ HW_ ?_
  refine o1 1 (some 6) (bz 17 3) HT_ rfl (kC Tryz.func156 (spec_ConfOk.calls (w := _) (h := A3.out)) ?_); intro w45 _
  refine nA (some 6) ?_
  refine pA 2 (some 7) (bz 17 7) HT_ ?_
  refine pA 3 (some 8) (bz 17 15) HT_ ?_
  refine pA 4 (some 9) (bz 17 31) HT_ ?_
  refine tB 5 (some 10) (bz 17 63) HT_ HW_ ?_
  refine o1 6 (some 11) (bz 17 127) HT_ rfl (kC Tryz.func141 (spec_NameOk.calls (w := _) (h := A5.out)) ?_); intro w46 _
  refine nA (some 11) ?_
  refine pA 7 (some 12) (bz 17 255) HT_ ?_
  refine pA 8 (some 13) (bz 17 511) HT_ ?_
  refine pA 9 (some 14) (bz 17 1023) HT_ ?_
  refine pU 10 (some 15) (bz 17 2047) HT_ ?_
  refine pU 11 (some 16) (bz 17 4095) HT_ ?_
  refine pU 12 (some 17) (bz 17 0x1fff) HT_ ?_
  refine pU 13 (some 18) (bz 17 0x3fff) HT_ ?_
  refine pU 14 (some 19) (bz 17 0x7fff) HT_ ?_
  refine pU 15 (some 20) (bz 17 0xffff) HT_ ?_
  refine pA 16 (some 21) (bz 17 0x1ffff) HT_ ?_
  refine done_ (done_of HT_.out (by kernel_rfl)) ?_
  try go_wp2
  go_ret
  exact ⟨y0_18, UpW.out⟩
 replace c4 := Bool.eq_false_iff.mpr c4; subst c4
 rw [if_neg (show ¬ (false = true) by decide)] at H
 obtain rfl := Option.some.inj H
 go_enter Tryz.func133, Tryz.ntmps133
 try go_wp2_with (first | ((with_reducible refine gd 2 ?_); refine bL 2 #[.int .i64 a0_0, .int .i64 a0_1] 32 ?_; intro gb524 w47 _ _ _) | ((with_reducible refine gd 3 ?_); refine bL 3 #[.int .i64 a1_0, .string a1_1, .slice A1_2 l1_2.length c1_2] 27 ?_; intro gb525 w48 _ _ _))
 refine sB [] spec_QcOk.tab1 spec_QcOk.bits1 ?_; intro w49 _ HT_ HW_
 refine tB 0 (some 5) (bz 17 1) HT_ HW_ ?_
 refine o1 1 (some 6) (bz 17 3) HT_ rfl (kC Tryz.func156 (spec_ConfOk.calls (w := _) (h := A3.out)) ?_); intro w50 _
 refine nA (some 6) ?_
 refine pA 2 (some 7) (bz 17 7) HT_ ?_
 refine pA 3 (some 8) (bz 17 15) HT_ ?_
 refine pU 4 (some 9) (bz 17 31) HT_ ?_
 refine pU 5 (some 10) (bz 17 63) HT_ ?_
 refine pU 6 (some 11) (bz 17 127) HT_ ?_
 refine pU 7 (some 12) (bz 17 255) HT_ ?_
 refine pA 8 (some 13) (bz 17 511) HT_ ?_
 refine pA 9 (some 14) (bz 17 1023) HT_ ?_
 refine pU 10 (some 15) (bz 17 2047) HT_ ?_
 refine pU 11 (some 16) (bz 17 4095) HT_ ?_
 refine pU 12 (some 17) (bz 17 0x1fff) HT_ ?_
 refine pU 13 (some 18) (bz 17 0x3fff) HT_ ?_
 refine pU 14 (some 19) (bz 17 0x7fff) HT_ ?_
 refine pU 15 (some 20) (bz 17 0xffff) HT_ ?_
 refine pA 16 (some 21) (bz 17 0x1ffff) HT_ ?_
 refine done_ (done_of HT_.out (by kernel_rfl)) ?_
 try go_wp2
 go_ret
 exact ⟨y0_18, UpW.out⟩

/-! ### spec_BlockOk: function 80 -/
def spec_BlockOk.f (k : Nat) (a0_0 : Int) (a0_1 : Int) (a1_0 : ByteArray) (a1_1 : Int) (a1_2 : ByteArray) (l1_3 : List Int) : Option (Bool) := (spec_QcOk.f k a0_0 a0_1 a1_1 a1_2 l1_3).bind fun t533 => (if t533 = true then ((spec_NameOk.f k a1_0).bind fun t534 => (if t534 = true then (if a1_0.toList = ([] : List UInt8) then (some false) else ((spec_UpOf.f k a1_0).bind fun t535 => (some (t535.toList == a1_2.toList)))) else (some false))) else (some false))
theorem spec_BlockOk.mono : ∀ a0 a1 a2 a3 a4 a5 k, LeO (spec_BlockOk.f k a0 a1 a2 a3 a4 a5) (spec_BlockOk.f (k + 1) a0 a1 a2 a3 a4 a5) := by
 intro a0 a1 a2 a3 a4 a5 k
 unfold spec_BlockOk.f
 repeat' first | (with_reducible exact spec_NameOk.mono _ _) | (with_reducible exact spec_QcOk.mono _ _ _ _ _ _) | (with_reducible exact spec_UpOf.mono _ _) | (with_reducible exact LeO.refl _) | (with_reducible exact LeO.none _) | (with_reducible refine LeO.ite ?_ ?_) | (with_reducible refine LeO.bind ?_ (fun _ => ?_))
def spec_BlockOk.T1 : Bool × List (List Nat × List Nat) := (true, [([], []), ([], []), ([1], [1]), ([0, 2], [0, 2]), ([3, 3], [3]), ([4], [4]), ([5, 4], [4, 5]), ([6, 4, 4], [4, 6]), ([4, 7], [4, 7]), ([8, 7], [8]), ([9], [9]), ([10, 9], [9, 10]), ([11, 9], [9, 11]), ([9, 12], [9, 12]), ([13, 9], [13]), ([14], [14]), ([15, 14], [14, 15]), ([16, 14, 14], [14, 16]), ([14], [14]), ([18, 14], [14, 18]), ([19, 14], [14, 19]), ([17, 20, 14], [14, 17, 20]), ([14, 21], [14, 21]), ([22, 17, 0, 1, 2, 3, 4, 5, 6, 7, 8, 9, 10, 11, 12, 13, 14, 15, 16, 17, 18, 19, 20, 21, 22], [22])])
def spec_BlockOk.B1 : List Nat := [0, 0, 2, 7, 15, 31, 63, 127, 255, 511, 1023, 2047, 4095, 8191, 16383, 32767, 65535, 131071, 32767, 294911, 819199, 2097151, 4194303, 8388607]
theorem spec_BlockOk.tab1 : rtab .any (opsOf Tryz.f80 1) = spec_BlockOk.T1 := by kernel_rfl
theorem spec_BlockOk.bits1 : waitsOk spec_BlockOk.T1.2 spec_BlockOk.B1 = true := by kernel_rfl
set_option maxHeartbeats 8000000 in
set_option maxRecDepth 100000 in
theorem spec_BlockOk.calls (k : Nat) (a0_0 : Int) (a0_1 : Int) (a1_0 : ByteArray) (a1_1 : Int) (a1_2 : ByteArray) (A1_3 : Option Addr) (c1_3 : Nat) (l1_3 : List Int) (r : Bool) (w : World) (hr1_3 : Kd.C (Kd.int .i64) w A1_3 l1_3.length l1_3) (hc1_3 : l1_3.length ≤ c1_3) (h : spec_BlockOk.f k a0_0 a0_1 a1_0 a1_1 a1_2 l1_3 = some r) :
  Calls Tryz.prog 80 #[.agg #[.int .i64 a0_0, .int .i64 a0_1], .agg #[.string a1_0, .int .i64 a1_1, .string a1_2, .slice A1_3 l1_3.length c1_3]] w fun e w' => e = .returned (.bool r) ∧ Below w.heap.size w w' := by
 have hu32 := Tryz.underlying32; have hu60 := Tryz.underlying60; have hu27 := Tryz.underlying27; have HR1_3 := Aside0.mk hr1_3; have HC1_3 := Aside0.mk hc1_3; clear hr1_3 hc1_3; have HB := Aside0.mk (Below.refl w.heap.size w)
 have H : ((spec_QcOk.f k a0_0 a0_1 a1_1 a1_2 l1_3).bind fun t533 => (if t533 = true then ((spec_NameOk.f k a1_0).bind fun t534 => (if t534 = true then (if a1_0.toList = ([] : List UInt8) then (some false) else ((spec_UpOf.f k a1_0).bind fun t535 => (some (t535.toList == a1_2.toList)))) else (some false))) else (some false))) = some r := h
 clear h; obtain ⟨t533, A30, H⟩ := Option.bind_eq_some_iff.mp H
 try dsimp only at H
 have A3 := Aside0.mk A30; clear A30
 by_cases c4 : t533 = true
 ·
  subst c4
  rw [if_pos rfl] at H
  obtain ⟨t534, A50, H⟩ := Option.bind_eq_some_iff.mp H
  try dsimp only at H
  have A5 := Aside0.mk A50; clear A50
  by_cases c6 : t534 = true
  ·
   subst c6
   rw [if_pos rfl] at H
   by_cases c7 : a1_0.toList = ([] : List UInt8)
   ·
    rw [if_pos c7] at H
    have c7b0 : (a1_0.toList == ([] : List UInt8)) = true := beq_iff_eq.mpr c7; have c7b1 : (a1_0.toList != ([] : List UInt8)) = false := bne_eq_false_iff_eq.mpr c7; clear c7; obtain rfl := Option.some.inj H
    go_enter Tryz.func80, Tryz.ntmps80
    try go_wp2_with (first | ((with_reducible refine gd 2 ?_); refine bL 2 #[.int .i64 a0_0, .int .i64 a0_1] 32 ?_; intro gb531 w8 _ _ _) | ((with_reducible refine gd 3 ?_); refine bL 3 #[.string a1_0, .int .i64 a1_1, .string a1_2, .slice A1_3 l1_3.length c1_3] 60 ?_; intro gb532 w9 _ _ _))
    refine sB [] spec_BlockOk.tab1 spec_BlockOk.bits1 ?_; intro w10 _ HT_ HW_
    refine tB 0 (some 5) (bz 24 1) HT_ HW_ ?_
    refine pA 1 (some 6) (bz 24 3) HT_ ?_
    refine tB 2 (some 7) (bz 24 7) HT_ HW_ ?_
    refine o1 3 (some 8) (bz 24 15) HT_ rfl (kC Tryz.func133 (spec_QcOk.calls (hr1_2 := pC HR1_3) (hc1_2 := HC1_3.out) (w := _) (h := A3.out)) ?_); intro w11 _
    refine nA (some 8) ?_
    refine pA 4 (some 9) (bz 24 31) HT_ ?_
    refine pA 5 (some 10) (bz 24 63) HT_ ?_
    refine tB 6 (some 11) (bz 24 127) HT_ HW_ ?_
    refine o1 7 (some 12) (bz 24 255) HT_ rfl (kC Tryz.func141 (spec_NameOk.calls (w := _) (h := A5.out)) ?_); intro w12 _
    refine nA (some 12) ?_
    refine pA 8 (some 13) (bz 24 511) HT_ ?_
    refine pA 9 (some 14) (bz 24 1023) HT_ ?_
    refine pA 10 (some 15) (bz 24 2047) HT_ ?_
    refine tB 11 (some 16) (bz 24 4095) HT_ HW_ ?_
    refine pA 12 (some 17) (bz 24 0x1fff) HT_ ?_
    refine pA 13 (some 18) (bz 24 0x3fff) HT_ ?_
    refine pA 14 (some 19) (bz 24 0x7fff) HT_ ?_
    refine pU 15 (some 20) (bz 24 0xffff) HT_ ?_
    refine pU 16 (some 21) (bz 24 0x1ffff) HT_ ?_
    refine pU 17 (some 22) (bz 24 0x3ffff) HT_ ?_
    refine pU 18 (some 23) (bz 24 0x7ffff) HT_ ?_
    refine pU 19 (some 24) (bz 24 0xfffff) HT_ ?_
    refine pU 20 (some 25) (bz 24 0x1fffff) HT_ ?_
    refine pU 21 (some 26) (bz 24 0x3fffff) HT_ ?_
    refine pA 22 (some 27) (bz 24 0x7fffff) HT_ ?_
    refine pA 23 (some 4) (bz 24 0xffffff) HT_ ?_
    refine done_ (done_of HT_.out (by kernel_rfl)) ?_
    try go_wp2
    go_ret
    exact ⟨y0_18, UpW.out⟩
   rw [if_neg c7] at H
   have c7b0 : (a1_0.toList == ([] : List UInt8)) = false := beq_eq_false_iff_ne.mpr c7; have c7b1 : (a1_0.toList != ([] : List UInt8)) = true := bne_iff_ne.mpr c7; obtain ⟨t535, A130, H⟩ := Option.bind_eq_some_iff.mp H
   try dsimp only at H
   have A13 := Aside0.mk A130; clear A130; obtain rfl := Option.some.inj H
   go_enter Tryz.func80, Tryz.ntmps80
   try go_wp2_with (first | ((with_reducible refine gd 2 ?_); refine bL 2 #[.int .i64 a0_0, .int .i64 a0_1] 32 ?_; intro gb531 w14 _ _ _) | ((with_reducible refine gd 3 ?_); refine bL 3 #[.string a1_0, .int .i64 a1_1, .string a1_2, .slice A1_3 l1_3.length c1_3] 60 ?_; intro gb532 w15 _ _ _))
   refine sB [] spec_BlockOk.tab1 spec_BlockOk.bits1 ?_; intro w16 _ HT_ HW_
   refine tB 0 (some 5) (bz 24 1) HT_ HW_ ?_
   refine pA 1 (some 6) (bz 24 3) HT_ ?_
   refine tB 2 (some 7) (bz 24 7) HT_ HW_ ?_
   refine o1 3 (some 8) (bz 24 15) HT_ rfl (kC Tryz.func133 (spec_QcOk.calls (hr1_2 := pC HR1_3) (hc1_2 := HC1_3.out) (w := _) (h := A3.out)) ?_); intro w17 _
   refine nA (some 8) ?_
   refine pA 4 (some 9) (bz 24 31) HT_ ?_
   refine pA 5 (some 10) (bz 24 63) HT_ ?_
   refine tB 6 (some 11) (bz 24 127) HT_ HW_ ?_
   refine o1 7 (some 12) (bz 24 255) HT_ rfl (kC Tryz.func141 (spec_NameOk.calls (w := _) (h := A5.out)) ?_); intro w18 _
   refine nA (some 12) ?_
   refine pA 8 (some 13) (bz 24 511) HT_ ?_
   refine pA 9 (some 14) (bz 24 1023) HT_ ?_
   refine pA 10 (some 15) (bz 24 2047) HT_ ?_
   refine tB 11 (some 16) (bz 24 4095) HT_ HW_ ?_
   refine pA 12 (some 17) (bz 24 0x1fff) HT_ ?_
   refine pA 13 (some 18) (bz 24 0x3fff) HT_ ?_
   refine pA 14 (some 19) (bz 24 0x7fff) HT_ ?_
   refine pA 15 (some 20) (bz 24 0xffff) HT_ ?_
   refine tB 16 (some 21) (bz 24 0x1ffff) HT_ HW_ ?_
   refine pA 18 (some 23) (bz 24 0x5ffff) HT_ ?_
   refine pA 19 (some 24) (bz 24 0xdffff) HT_ ?_
   refine tB 20 (some 25) (bz 24 0x1dffff) HT_ HW_ ?_
   refine o1 17 (some 22) (bz 24 0x1fffff) HT_ rfl (kC Tryz.func132 (spec_UpOf.calls (w := _) (h := A13.out)) ?_); intro w19 _
   refine nA (some 22) ?_
   refine pA 21 (some 26) (bz 24 0x3fffff) HT_ ?_
   refine pA 22 (some 27) (bz 24 0x7fffff) HT_ ?_
   refine pA 23 (some 4) (bz 24 0xffffff) HT_ ?_
   refine done_ (done_of HT_.out (by kernel_rfl)) ?_
   try go_wp2
   go_ret
   exact ⟨y0_18, UpW.out⟩
  replace c6 := Bool.eq_false_iff.mpr c6; subst c6
  rw [if_neg (show ¬ (false = true) by decide)] at H
  obtain rfl := Option.some.inj H
  go_enter Tryz.func80, Tryz.ntmps80
  try go_wp2_with (first | ((with_reducible refine gd 2 ?_); refine bL 2 #[.int .i64 a0_0, .int .i64 a0_1] 32 ?_; intro gb531 w20 _ _ _) | ((with_reducible refine gd 3 ?_); refine bL 3 #[.string a1_0, .int .i64 a1_1, .string a1_2, .slice A1_3 l1_3.length c1_3] 60 ?_; intro gb532 w21 _ _ _))
  refine sB [] spec_BlockOk.tab1 spec_BlockOk.bits1 ?_; intro w22 _ HT_ HW_
  refine tB 0 (some 5) (bz 24 1) HT_ HW_ ?_
  refine pA 1 (some 6) (bz 24 3) HT_ ?_
  refine tB 2 (some 7) (bz 24 7) HT_ HW_ ?_
  refine o1 3 (some 8) (bz 24 15) HT_ rfl (kC Tryz.func133 (spec_QcOk.calls (hr1_2 := pC HR1_3) (hc1_2 := HC1_3.out) (w := _) (h := A3.out)) ?_); intro w23 _
  refine nA (some 8) ?_
  refine pA 4 (some 9) (bz 24 31) HT_ ?_
  refine pA 5 (some 10) (bz 24 63) HT_ ?_
  refine tB 6 (some 11) (bz 24 127) HT_ HW_ ?_
  refine o1 7 (some 12) (bz 24 255) HT_ rfl (kC Tryz.func141 (spec_NameOk.calls (w := _) (h := A5.out)) ?_); intro w24 _
  refine nA (some 12) ?_
  refine pA 8 (some 13) (bz 24 511) HT_ ?_
  refine pA 9 (some 14) (bz 24 1023) HT_ ?_
  refine pU 10 (some 15) (bz 24 2047) HT_ ?_
  refine pU 11 (some 16) (bz 24 4095) HT_ ?_
  refine pU 12 (some 17) (bz 24 0x1fff) HT_ ?_
  refine pA 13 (some 18) (bz 24 0x3fff) HT_ ?_
  refine pA 14 (some 19) (bz 24 0x7fff) HT_ ?_
  refine pU 15 (some 20) (bz 24 0xffff) HT_ ?_
  refine pU 16 (some 21) (bz 24 0x1ffff) HT_ ?_
  refine pU 17 (some 22) (bz 24 0x3ffff) HT_ ?_
  refine pU 18 (some 23) (bz 24 0x7ffff) HT_ ?_
  refine pU 19 (some 24) (bz 24 0xfffff) HT_ ?_
  refine pU 20 (some 25) (bz 24 0x1fffff) HT_ ?_
  refine pU 21 (some 26) (bz 24 0x3fffff) HT_ ?_
  refine pA 22 (some 27) (bz 24 0x7fffff) HT_ ?_
  refine pA 23 (some 4) (bz 24 0xffffff) HT_ ?_
  refine done_ (done_of HT_.out (by kernel_rfl)) ?_
  try go_wp2
  go_ret
  exact ⟨y0_18, UpW.out⟩
 replace c4 := Bool.eq_false_iff.mpr c4; subst c4
 rw [if_neg (show ¬ (false = true) by decide)] at H
 obtain rfl := Option.some.inj H
 go_enter Tryz.func80, Tryz.ntmps80
 try go_wp2_with (first | ((with_reducible refine gd 2 ?_); refine bL 2 #[.int .i64 a0_0, .int .i64 a0_1] 32 ?_; intro gb531 w25 _ _ _) | ((with_reducible refine gd 3 ?_); refine bL 3 #[.string a1_0, .int .i64 a1_1, .string a1_2, .slice A1_3 l1_3.length c1_3] 60 ?_; intro gb532 w26 _ _ _))
 refine sB [] spec_BlockOk.tab1 spec_BlockOk.bits1 ?_; intro w27 _ HT_ HW_
 refine tB 0 (some 5) (bz 24 1) HT_ HW_ ?_
 refine pA 1 (some 6) (bz 24 3) HT_ ?_
 refine tB 2 (some 7) (bz 24 7) HT_ HW_ ?_
 refine o1 3 (some 8) (bz 24 15) HT_ rfl (kC Tryz.func133 (spec_QcOk.calls (hr1_2 := pC HR1_3) (hc1_2 := HC1_3.out) (w := _) (h := A3.out)) ?_); intro w28 _
 refine nA (some 8) ?_
 refine pA 4 (some 9) (bz 24 31) HT_ ?_
 refine pU 5 (some 10) (bz 24 63) HT_ ?_
 refine pU 6 (some 11) (bz 24 127) HT_ ?_
 refine pU 7 (some 12) (bz 24 255) HT_ ?_
 refine pA 8 (some 13) (bz 24 511) HT_ ?_
 refine pA 9 (some 14) (bz 24 1023) HT_ ?_
 refine pU 10 (some 15) (bz 24 2047) HT_ ?_
 refine pU 11 (some 16) (bz 24 4095) HT_ ?_
 refine pU 12 (some 17) (bz 24 0x1fff) HT_ ?_
 refine pA 13 (some 18) (bz 24 0x3fff) HT_ ?_
 refine pA 14 (some 19) (bz 24 0x7fff) HT_ ?_
 refine pU 15 (some 20) (bz 24 0xffff) HT_ ?_
 refine pU 16 (some 21) (bz 24 0x1ffff) HT_ ?_
 refine pU 17 (some 22) (bz 24 0x3ffff) HT_ ?_
 refine pU 18 (some 23) (bz 24 0x7ffff) HT_ ?_
 refine pU 19 (some 24) (bz 24 0xfffff) HT_ ?_
 refine pU 20 (some 25) (bz 24 0x1fffff) HT_ ?_
 refine pU 21 (some 26) (bz 24 0x3fffff) HT_ ?_
 refine pA 22 (some 27) (bz 24 0x7fffff) HT_ ?_
 refine pA 23 (some 4) (bz 24 0xffffff) HT_ ?_
 refine done_ (done_of HT_.out (by kernel_rfl)) ?_
 try go_wp2
 go_ret
 exact ⟨y0_18, UpW.out⟩

/-! ### spec_l7Copy: function 164 -/
def spec_l7Copy.f (a0_0 : Int) (a0_1 : ByteArray) (l0_2 : List Int) : Option (Int × ByteArray × List Int) := (some (([] : List Int) : List Int)).bind fun y538 => (if y538.length + l0_2.length < 17592186044416 then (some (a0_0, a0_1, (y538 ++ l0_2))) else (none))
set_option maxHeartbeats 8000000 in
set_option maxRecDepth 100000 in
theorem spec_l7Copy.calls (a0_0 : Int) (a0_1 : ByteArray) (A0_2 : Option Addr) (c0_2 : Nat) (l0_2 : List Int) (r1 : Int) (r2 : ByteArray) (r3 : List Int) (w : World) (hr0_2 : Kd.C (Kd.int .i64) w A0_2 l0_2.length l0_2) (hc0_2 : l0_2.length ≤ c0_2) (h : spec_l7Copy.f a0_0 a0_1 l0_2 = some (r1, r2, r3)) :
  Calls Tryz.prog 164 #[.agg #[.int .i64 a0_0, .string a0_1, .slice A0_2 l0_2.length c0_2]] w fun e w' => ∃ v2_ : Value, e = .returned (.agg #[.int .i64 r1, .string r2, v2_]) ∧ Kd.R (Kd.int .i64) 3 w' w.heap.size (fun _ => True) v2_ r3 ∧ Below w.heap.size w w' := by
 have hu27 := Tryz.underlying27; have HR0_2 := Aside0.mk hr0_2; have HC0_2 := Aside0.mk hc0_2; clear hr0_2 hc0_2; have HB := Aside0.mk (Below.refl w.heap.size w)
 have H : ((some (([] : List Int) : List Int)).bind fun y538 => (if y538.length + l0_2.length < 17592186044416 then (some (a0_0, a0_1, (y538 ++ l0_2))) else (none))) = some (r1, r2, r3) := h
 clear h; obtain ⟨y538, hy538⟩ : ∃ y_ : List Int, y_ = (([] : List Int)) := ⟨_, rfl⟩
 replace H : (if y538.length + l0_2.length < 17592186044416 then (some (a0_0, a0_1, (y538 ++ l0_2))) else (none)) = some (r1, r2, r3) := by first | (rw [hy538]; with_reducible exact H) | (have H2_ := (Option.bind_some _ _).symm.trans H; rw [hy538]; with_reducible exact H2_) | (have H2_ := (Option.bind_some _ _).symm.trans H; with_reducible exact H2_) | with_reducible exact H | (rw [hy538]; exact H) | exact H
 have Ny538 := Aside0.mk hy538; clear hy538
 by_cases c2 : y538.length + l0_2.length < 17592186044416
 ·
  rw [if_pos c2] at H
  have LMc2 := Aside0.mk c2; clear c2; obtain ⟨y541, hy541⟩ : ∃ y_ : List Int, y_ = (y538 ++ l0_2) := ⟨_, rfl⟩
  replace H : (some (a0_0, a0_1, y541)) = some (r1, r2, r3) := by first | (rw [hy541]; with_reducible exact H) | (have H2_ := (Option.bind_some _ _).symm.trans H; rw [hy541]; with_reducible exact H2_) | (have H2_ := (Option.bind_some _ _).symm.trans H; with_reducible exact H2_) | with_reducible exact H | (rw [hy541]; exact H) | exact H
  have Ny541 := Aside0.mk hy541; clear hy541
  simp only [Option.some.injEq, Prod.mk.injEq] at H
  obtain ⟨rfl, rfl, rfl⟩ := H
  go_enter Tryz.func164, Tryz.ntmps164
  go_wp2_with (first | ((with_reducible refine gd 1 ?_); refine bA 1 #[.int .i64 a0_0, .string a0_1, .slice A0_2 l0_2.length c0_2] 27 ?_; intro gb536 hg w3 hbox hb; have BK536 := Aside0.mk (hbox); have GW536 := bg hg HB; have GJ536 := gi GW536; have GE536 := GW536; replace HB := bs HB hb; clear hb hbox hg) | ((with_reducible refine gd 2 ?_); refine bA 2 #[.int .i64 0, .string (⟨#[]⟩ : ByteArray), .slice none 0 0] 27 ?_; intro gb537 hg w4 hbox hb; have BK537 := Aside0.mk (hbox); have GW537 := bg hg HB; have GJ537 := gi GW537; have GE537 := GW537; replace HB := bs HB hb; have NB536_537 := b1 BK536 hg; have NI536_537 := ni NB536_537; have NB537_536 := b2 BK536 hg; have NI537_536 := ni NB537_536; replace BK536 := bk BK536 hb; clear hb hbox hg) | ((with_reducible refine gate_dst (N := 3) rfl ?_); refine Kd.R_lit (Kd.int .i64) _ 3 ?hg (N := 3) ?hd (xs := ([] : List Int)) (inner := []) (ok := fun _ => True) (okp := fun _ => True) ?hr ?hp (fun _ hk => hk) trivial (Below.refl _ _) (Nat.le_refl _) (by simp) ?_; (case hd => rfl); (case hg => rfl); (case hr => first | (go_simp; done) | (go_simp; rfl)); (case hp => exact (Reps.none _ _)); intro v539 w5 ho6 hb hg_ hnew_; clear hg_ hnew_; (first | rw [← Ny538.out] at ho6 | (simp only [Int.reduceToNat] at ho6; rw [← Ny538.out] at ho6)); have HO540 := Aside0.mk (Kd.R_lower ho6 (below_size (bI HB.out))); replace BK536 := bk BK536 hb; replace BK537 := bk BK537 hb; replace HB := bs HB hb; clear hb ho6; have hnb7 := NB536_537.out; have hnc7 := NB537_536.out; obtain ⟨hcz8_0, hcz8_1, hcz8_2, hfz8_0, hfz8_1, hfz8_2⟩ := cs3 BK536) | ((with_reducible refine gate_builtin (b := .append) (xs := #[.tmp 3, .tmp 5]) rfl ?_); at_builtin; refine Kd.R_append_rows (Kd.int .i64) (w0 := w) w.heap.size rfl (.tmp 3) (.tmp 5) 25 3 (.int .i64 0) 8 rfl Tryz.underlying25 info3 rfl (by decide) (by omega) v539 y538 l0_2 _ _ _ (fun _ => True) (fun _ => False) rfl rfl ?aO ?aR (fun _ _ h => h) (fun _ h => h.elim) ?aF ?aB ?aS ?aL ?_; (case aR => exact ch HR0_2 HB); (case aB => exact (bI HB.out)); (case aF => exact (fun _ _ => trivial)); (case aO => exact (rI HO540.out)); (case aS => exact (below_size (bI HB.out))); (case aL => have := LMc2.out; omega); intro v542 w9 ho hb hg hat; rw [← Ny541.out] at ho; have n0_ := bn BK536 hg (Kd.R_ne HO540.out BK536.out (by decide)); have n1_ := bn BK537 hg (Kd.R_ne HO540.out BK537.out (by decide)); have n2_ := Aside0.mk (hb); have n3_ := Aside0.mk (ho); clear BK536; clear BK537; clear HB; clear HO540; have BK536 := n0_; have BK537 := n1_; have HB := n2_; have HO543 := n3_; clear n0_ n1_ n2_ n3_; clear ho hb hg hat; obtain ⟨Ao10, co10, eo10⟩ := Kd.R_slice HO543.out; subst eo10; obtain ⟨hcz11_0, hcz11_1, hcz11_2, hfz11_0, hfz11_1, hfz11_2⟩ := cs3 BK536; obtain ⟨hcz12_0, hcz12_1, hcz12_2, hfz12_0, hfz12_1, hfz12_2⟩ := cs3 BK537))
  refine bodyPost_ret (results_cell_row rfl _ _ gb537 27 #[.int .i64 a0_0, .string a0_1, .slice Ao10 y541.length co10] (0, 0) _ rfl (pI BK537) Tryz.underlying27 rfl (by kernel_rfl)) rfl ?_
  exact ⟨_, y0_14, by (with_reducible repeat (first | apply Kd.R_alloc | apply Kd.R_drewN | apply Kd.R_drew)); exact Kd.R_mono (Kd.R_far (p := ⟨gb537, 2, none⟩) (Kd.R_far (p := ⟨gb537, 1, none⟩) (Kd.R_far (p := ⟨gb537, 0, none⟩) (Kd.R_far (p := ⟨gb536, 2, none⟩) (Kd.R_types (Kd.R_types HO543.out BK536.out (by decide)) BK537.out (by decide)) (fun _ hk => hk.1.2) (.slice Ao10 y541.length co10)) (fun _ hk => hk.2) (.int .i64 a0_0)) (fun _ hk => hk.2) (.string a0_1)) (fun _ hk => hk.2) (.slice Ao10 y541.length co10)) (fun _ hk => trivial), bI HB.out⟩
 rw [if_neg c2] at H
 exact absurd H (by simp)

end Go.Proofs.YtnpbopadajbopaaGreatDoor.PFnBlocks
