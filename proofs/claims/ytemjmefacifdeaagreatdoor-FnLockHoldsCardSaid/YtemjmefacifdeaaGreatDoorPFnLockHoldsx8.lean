-- By a program of this session, out of the translation (the print of the kit, with turns of its own). Lean checks it.
import Derived.Test.YtemjmefacifdeaaGreatDoorPFnLockHoldsx0
import Derived.Test.YtemjmefacifdeaaGreatDoorPFnLockHoldsx3
import Derived.Test.YtemjmefacifdeaaGreatDoorPFnLockHoldsx4
import Derived.Test.YtemjmefacifdeaaGreatDoorPFnLockHoldsx7
namespace Go.Proofs.YtemjmefacifdeaaGreatDoor.PFnLockHolds
open Go.RowKit Go.Proofs.YtemjmefacifdeaaGreatDoorW.PrintWords Go.Proofs.YtemjmefacifdeaaGreatDoorW.PrintLast Go.Proofs.YtemjmefacifdeaaGreatDoorW.PrintMore
attribute [local go_sem] max2_int min2_int max_two min_two max_three min_three max_four min_four   -- for this text's walks alone
attribute [local go_sem] cell_in frozen_in
set_option synthInstance.maxSize 1000000
set_option synthInstance.maxHeartbeats 2000000
set_option linter.unusedVariables false
set_option linter.unusedSimpArgs false

/-! ### spec_BlockOk: function 80 -/
def spec_BlockOk.f (k : Nat) (a0_0 : Int) (a0_1 : Int) (a1_0 : ByteArray) (a1_1 : Int) (a1_2 : ByteArray) (l1_3 : List Int) : Option (Bool) := (spec_QcOk.f k a0_0 a0_1 a1_1 a1_2 l1_3).bind fun t452 => (if t452 = true then ((spec_NameOk.f k a1_0).bind fun t453 => (if t453 = true then (if a1_0.toList = ([] : List UInt8) then (some false) else ((spec_UpOf.f k a1_0).bind fun t454 => (some (t454.toList == a1_2.toList)))) else (some false))) else (some false))
theorem spec_BlockOk.mono : ∀ a0 a1 a2 a3 a4 a5 k, LeO (spec_BlockOk.f k a0 a1 a2 a3 a4 a5) (spec_BlockOk.f (k + 1) a0 a1 a2 a3 a4 a5) := by
 intro a0 a1 a2 a3 a4 a5 k
 unfold spec_BlockOk.f
 repeat' first | (with_reducible exact spec_NameOk.mono _ _) | (with_reducible exact spec_QcOk.mono _ _ _ _ _ _) | (with_reducible exact spec_UpOf.mono _ _) | (with_reducible exact LeO.refl _) | (with_reducible exact LeO.none _) | (with_reducible refine LeO.ite ?_ ?_) | (with_reducible refine LeO.bind ?_ (fun _ => ?_))
def spec_BlockOk.T1 : Bool × List (List Nat × List Nat) := (true, [([], []), ([], []), ([1], [1]), ([0, 2], [0, 2]), ([3, 3], [3]), ([4], [4]), ([5, 4], [4, 5]), ([6, 4, 4], [4, 6]), ([4, 7], [4, 7]), ([8, 7], [8]), ([9], [9]), ([10, 9], [9, 10]), ([11, 9], [9, 11]), ([9, 12], [9, 12]), ([13, 9], [13]), ([14], [14]), ([15, 14], [14, 15]), ([16, 14, 14], [14, 16]), ([14], [14]), ([18, 14], [14, 18]), ([19, 14], [14, 19]), ([17, 20, 14], [14, 17, 20]), ([14, 21], [14, 21]), ([22, 17, 0, 1, 2, 3, 4, 5, 6, 7, 8, 9, 10, 11, 12, 13, 14, 15, 16, 17, 18, 19, 20, 21, 22], [22])])
def spec_BlockOk.B1 : List Nat := [0, 0, 2, 7, 15, 31, 63, 127, 255, 511, 1023, 2047, 4095, 8191, 16383, 32767, 65535, 131071, 32767, 294911, 819199, 2097151, 4194303, 8388607]
theorem spec_BlockOk.tab1 : rtab .any (opsOf Tryz.f80 1) = spec_BlockOk.T1 := by kernel_rfl
theorem spec_BlockOk.bits1 : waitsOk spec_BlockOk.T1.2 spec_BlockOk.B1 = true := by kernel_rfl
set_option maxHeartbeats 8000000 in
set_option maxRecDepth 100000 in
theorem spec_BlockOk.calls (k : Nat) (a0_0 : Int) (a0_1 : Int) (a1_0 : ByteArray) (a1_1 : Int) (a1_2 : ByteArray) (A1_3 : Option Addr) (c1_3 : Nat) (l1_3 : List Int) (r : Bool) (w : World) (hr1_3 : Kd.C (Kd.int .i64) w A1_3 l1_3.length l1_3) (hc1_3 : l1_3.length ≤ c1_3) (h : spec_BlockOk.f k a0_0 a0_1 a1_0 a1_1 a1_2 l1_3 = some r) :
  Calls Tryz.prog 80 #[.agg #[.int .i64 a0_0, .int .i64 a0_1], .agg #[.string a1_0, .int .i64 a1_1, .string a1_2, .slice A1_3 l1_3.length c1_3]] w fun e w' => e = .returned (.bool r) ∧ Below w.heap.size w w' := by
 have hu38 := Tryz.underlying38; have hu42 := Tryz.underlying42; have hu33 := Tryz.underlying33; have HR1_3 := Aside0.mk hr1_3; have HC1_3 := Aside0.mk hc1_3; clear hr1_3 hc1_3; have HB := Aside0.mk (Below.refl w.heap.size w)
 have H : ((spec_QcOk.f k a0_0 a0_1 a1_1 a1_2 l1_3).bind fun t452 => (if t452 = true then ((spec_NameOk.f k a1_0).bind fun t453 => (if t453 = true then (if a1_0.toList = ([] : List UInt8) then (some false) else ((spec_UpOf.f k a1_0).bind fun t454 => (some (t454.toList == a1_2.toList)))) else (some false))) else (some false))) = some r := h
 clear h; obtain ⟨t452, A30, H⟩ := Option.bind_eq_some_iff.mp H
 try dsimp only at H
 have A3 := Aside0.mk A30; clear A30
 by_cases c4 : t452 = true
 ·
  subst c4
  rw [if_pos rfl] at H
  obtain ⟨t453, A50, H⟩ := Option.bind_eq_some_iff.mp H
  try dsimp only at H
  have A5 := Aside0.mk A50; clear A50
  by_cases c6 : t453 = true
  ·
   subst c6
   rw [if_pos rfl] at H
   by_cases c7 : a1_0.toList = ([] : List UInt8)
   ·
    rw [if_pos c7] at H
    have c7b0 : (a1_0.toList == ([] : List UInt8)) = true := beq_iff_eq.mpr c7; have c7b1 : (a1_0.toList != ([] : List UInt8)) = false := bne_eq_false_iff_eq.mpr c7; clear c7; obtain rfl := Option.some.inj H
    go_enter Tryz.func80, Tryz.ntmps80
    try go_wp2_with (first | ((with_reducible refine gd 2 ?_); refine bL 2 #[.int .i64 a0_0, .int .i64 a0_1] 38 ?_; intro gb450 w8 _ _ _) | ((with_reducible refine gd 3 ?_); refine bL 3 #[.string a1_0, .int .i64 a1_1, .string a1_2, .slice A1_3 l1_3.length c1_3] 42 ?_; intro gb451 w9 _ _ _))
    refine sB [] spec_BlockOk.tab1 spec_BlockOk.bits1 ?_; intro w10 _ HT_ HW_
    refine tB 0 (some 5) (bz 24 1) HT_ HW_ ?_
    refine pA 1 (some 6) (bz 24 3) HT_ ?_
    refine tB 2 (some 7) (bz 24 7) HT_ HW_ ?_
    refine o1 3 (some 8) (bz 24 15) HT_ rfl (kC Tryz.func49 (spec_QcOk.calls (hr1_2 := pC HR1_3) (hc1_2 := HC1_3.out) (w := _) (h := A3.out)) ?_); intro w11 _
    refine nA (some 8) ?_
    refine pA 4 (some 9) (bz 24 31) HT_ ?_
    refine pA 5 (some 10) (bz 24 63) HT_ ?_
    refine tB 6 (some 11) (bz 24 127) HT_ HW_ ?_
    refine o1 7 (some 12) (bz 24 255) HT_ rfl (kC Tryz.func97 (spec_NameOk.calls (w := _) (h := A5.out)) ?_); intro w12 _
    refine nA (some 12) ?_
    refine pA 8 (some 13) (bz 24 511) HT_ ?_
    refine pA 9 (some 14) (bz 24 1023) HT_ ?_
    refine pA 10 (some 15) (bz 24 2047) HT_ ?_
    refine tB 11 (some 16) (bz 24 4095) HT_ HW_ ?_
    refine pA 12 (some 17) (bz 24 0x1fff) HT_ ?_
    refine pA 13 (some 18) (bz 24 0x3fff) HT_ ?_
    refine pA 14 (some 19) (bz 24 0x7fff) HT_ ?_
    refine pU 15 (some 20) (bz 24 0xffff) HT_ ?_
    refine pU 16 (some 21) (bz 24 0x1ffff) HT_ ?_
    refine pU 17 (some 22) (bz 24 0x3ffff) HT_ ?_
    refine pU 18 (some 23) (bz 24 0x7ffff) HT_ ?_
    refine pU 19 (some 24) (bz 24 0xfffff) HT_ ?_
    refine pU 20 (some 25) (bz 24 0x1fffff) HT_ ?_
    refine pU 21 (some 26) (bz 24 0x3fffff) HT_ ?_
    refine pA 22 (some 27) (bz 24 0x7fffff) HT_ ?_
    refine pA 23 (some 4) (bz 24 0xffffff) HT_ ?_
    refine done_ (done_of HT_.out (by kernel_rfl)) ?_
    try go_wp2
    go_ret
    exact ⟨y0_18, UpW.out⟩
   rw [if_neg c7] at H
   have c7b0 : (a1_0.toList == ([] : List UInt8)) = false := beq_eq_false_iff_ne.mpr c7; have c7b1 : (a1_0.toList != ([] : List UInt8)) = true := bne_iff_ne.mpr c7; obtain ⟨t454, A130, H⟩ := Option.bind_eq_some_iff.mp H
   try dsimp only at H
   have A13 := Aside0.mk A130; clear A130; obtain rfl := Option.some.inj H
   go_enter Tryz.func80, Tryz.ntmps80
   try go_wp2_with (first | ((with_reducible refine gd 2 ?_); refine bL 2 #[.int .i64 a0_0, .int .i64 a0_1] 38 ?_; intro gb450 w14 _ _ _) | ((with_reducible refine gd 3 ?_); refine bL 3 #[.string a1_0, .int .i64 a1_1, .string a1_2, .slice A1_3 l1_3.length c1_3] 42 ?_; intro gb451 w15 _ _ _))
   refine sB [] spec_BlockOk.tab1 spec_BlockOk.bits1 ?_; intro w16 _ HT_ HW_
   refine tB 0 (some 5) (bz 24 1) HT_ HW_ ?_
   refine pA 1 (some 6) (bz 24 3) HT_ ?_
   refine tB 2 (some 7) (bz 24 7) HT_ HW_ ?_
   refine o1 3 (some 8) (bz 24 15) HT_ rfl (kC Tryz.func49 (spec_QcOk.calls (hr1_2 := pC HR1_3) (hc1_2 := HC1_3.out) (w := _) (h := A3.out)) ?_); intro w17 _
   refine nA (some 8) ?_
   refine pA 4 (some 9) (bz 24 31) HT_ ?_
   refine pA 5 (some 10) (bz 24 63) HT_ ?_
   refine tB 6 (some 11) (bz 24 127) HT_ HW_ ?_
   refine o1 7 (some 12) (bz 24 255) HT_ rfl (kC Tryz.func97 (spec_NameOk.calls (w := _) (h := A5.out)) ?_); intro w18 _
   refine nA (some 12) ?_
   refine pA 8 (some 13) (bz 24 511) HT_ ?_
   refine pA 9 (some 14) (bz 24 1023) HT_ ?_
   refine pA 10 (some 15) (bz 24 2047) HT_ ?_
   refine tB 11 (some 16) (bz 24 4095) HT_ HW_ ?_
   refine pA 12 (some 17) (bz 24 0x1fff) HT_ ?_
   refine pA 13 (some 18) (bz 24 0x3fff) HT_ ?_
   refine pA 14 (some 19) (bz 24 0x7fff) HT_ ?_
   refine pA 15 (some 20) (bz 24 0xffff) HT_ ?_
   refine tB 16 (some 21) (bz 24 0x1ffff) HT_ HW_ ?_
   refine pA 18 (some 23) (bz 24 0x5ffff) HT_ ?_
   refine pA 19 (some 24) (bz 24 0xdffff) HT_ ?_
   refine tB 20 (some 25) (bz 24 0x1dffff) HT_ HW_ ?_
   refine o1 17 (some 22) (bz 24 0x1fffff) HT_ rfl (kC Tryz.func68 (spec_UpOf.calls (w := _) (h := A13.out)) ?_); intro w19 _
   refine nA (some 22) ?_
   refine pA 21 (some 26) (bz 24 0x3fffff) HT_ ?_
   refine pA 22 (some 27) (bz 24 0x7fffff) HT_ ?_
   refine pA 23 (some 4) (bz 24 0xffffff) HT_ ?_
   refine done_ (done_of HT_.out (by kernel_rfl)) ?_
   try go_wp2
   go_ret
   exact ⟨y0_18, UpW.out⟩
  replace c6 := Bool.eq_false_iff.mpr c6; subst c6
  rw [if_neg (show ¬ (false = true) by decide)] at H
  obtain rfl := Option.some.inj H
  go_enter Tryz.func80, Tryz.ntmps80
  try go_wp2_with (first | ((with_reducible refine gd 2 ?_); refine bL 2 #[.int .i64 a0_0, .int .i64 a0_1] 38 ?_; intro gb450 w20 _ _ _) | ((with_reducible refine gd 3 ?_); refine bL 3 #[.string a1_0, .int .i64 a1_1, .string a1_2, .slice A1_3 l1_3.length c1_3] 42 ?_; intro gb451 w21 _ _ _))
  refine sB [] spec_BlockOk.tab1 spec_BlockOk.bits1 ?_; intro w22 _ HT_ HW_
  refine tB 0 (some 5) (bz 24 1) HT_ HW_ ?_
  refine pA 1 (some 6) (bz 24 3) HT_ ?_
  refine tB 2 (some 7) (bz 24 7) HT_ HW_ ?_
  refine o1 3 (some 8) (bz 24 15) HT_ rfl (kC Tryz.func49 (spec_QcOk.calls (hr1_2 := pC HR1_3) (hc1_2 := HC1_3.out) (w := _) (h := A3.out)) ?_); intro w23 _
  refine nA (some 8) ?_
  refine pA 4 (some 9) (bz 24 31) HT_ ?_
  refine pA 5 (some 10) (bz 24 63) HT_ ?_
  refine tB 6 (some 11) (bz 24 127) HT_ HW_ ?_
  refine o1 7 (some 12) (bz 24 255) HT_ rfl (kC Tryz.func97 (spec_NameOk.calls (w := _) (h := A5.out)) ?_); intro w24 _
  refine nA (some 12) ?_
  refine pA 8 (some 13) (bz 24 511) HT_ ?_
  refine pA 9 (some 14) (bz 24 1023) HT_ ?_
  refine pU 10 (some 15) (bz 24 2047) HT_ ?_
  refine pU 11 (some 16) (bz 24 4095) HT_ ?_
  refine pU 12 (some 17) (bz 24 0x1fff) HT_ ?_
  refine pA 13 (some 18) (bz 24 0x3fff) HT_ ?_
  refine pA 14 (some 19) (bz 24 0x7fff) HT_ ?_
  refine pU 15 (some 20) (bz 24 0xffff) HT_ ?_
  refine pU 16 (some 21) (bz 24 0x1ffff) HT_ ?_
  refine pU 17 (some 22) (bz 24 0x3ffff) HT_ ?_
  refine pU 18 (some 23) (bz 24 0x7ffff) HT_ ?_
  refine pU 19 (some 24) (bz 24 0xfffff) HT_ ?_
  refine pU 20 (some 25) (bz 24 0x1fffff) HT_ ?_
  refine pU 21 (some 26) (bz 24 0x3fffff) HT_ ?_
  refine pA 22 (some 27) (bz 24 0x7fffff) HT_ ?_
  refine pA 23 (some 4) (bz 24 0xffffff) HT_ ?_
  refine done_ (done_of HT_.out (by kernel_rfl)) ?_
  try go_wp2
  go_ret
  exact ⟨y0_18, UpW.out⟩
 replace c4 := Bool.eq_false_iff.mpr c4; subst c4
 rw [if_neg (show ¬ (false = true) by decide)] at H
 obtain rfl := Option.some.inj H
 go_enter Tryz.func80, Tryz.ntmps80
 try go_wp2_with (first | ((with_reducible refine gd 2 ?_); refine bL 2 #[.int .i64 a0_0, .int .i64 a0_1] 38 ?_; intro gb450 w25 _ _ _) | ((with_reducible refine gd 3 ?_); refine bL 3 #[.string a1_0, .int .i64 a1_1, .string a1_2, .slice A1_3 l1_3.length c1_3] 42 ?_; intro gb451 w26 _ _ _))
 refine sB [] spec_BlockOk.tab1 spec_BlockOk.bits1 ?_; intro w27 _ HT_ HW_
 refine tB 0 (some 5) (bz 24 1) HT_ HW_ ?_
 refine pA 1 (some 6) (bz 24 3) HT_ ?_
 refine tB 2 (some 7) (bz 24 7) HT_ HW_ ?_
 refine o1 3 (some 8) (bz 24 15) HT_ rfl (kC Tryz.func49 (spec_QcOk.calls (hr1_2 := pC HR1_3) (hc1_2 := HC1_3.out) (w := _) (h := A3.out)) ?_); intro w28 _
 refine nA (some 8) ?_
 refine pA 4 (some 9) (bz 24 31) HT_ ?_
 refine pU 5 (some 10) (bz 24 63) HT_ ?_
 refine pU 6 (some 11) (bz 24 127) HT_ ?_
 refine pU 7 (some 12) (bz 24 255) HT_ ?_
 refine pA 8 (some 13) (bz 24 511) HT_ ?_
 refine pA 9 (some 14) (bz 24 1023) HT_ ?_
 refine pU 10 (some 15) (bz 24 2047) HT_ ?_
 refine pU 11 (some 16) (bz 24 4095) HT_ ?_
 refine pU 12 (some 17) (bz 24 0x1fff) HT_ ?_
 refine pA 13 (some 18) (bz 24 0x3fff) HT_ ?_
 refine pA 14 (some 19) (bz 24 0x7fff) HT_ ?_
 refine pU 15 (some 20) (bz 24 0xffff) HT_ ?_
 refine pU 16 (some 21) (bz 24 0x1ffff) HT_ ?_
 refine pU 17 (some 22) (bz 24 0x3ffff) HT_ ?_
 refine pU 18 (some 23) (bz 24 0x7ffff) HT_ ?_
 refine pU 19 (some 24) (bz 24 0xfffff) HT_ ?_
 refine pU 20 (some 25) (bz 24 0x1fffff) HT_ ?_
 refine pU 21 (some 26) (bz 24 0x3fffff) HT_ ?_
 refine pA 22 (some 27) (bz 24 0x7fffff) HT_ ?_
 refine pA 23 (some 4) (bz 24 0xffffff) HT_ ?_
 refine done_ (done_of HT_.out (by kernel_rfl)) ?_
 try go_wp2
 go_ret
 exact ⟨y0_18, UpW.out⟩

/-! ### spec_MayVote: function 43 -/
def spec_MayVote.f (k : Nat) (a0_0 : Int) (a0_1 : Int) (a1_0 : Int) (a1_1 : Int) (a1_2 : Int) (a1_3 : ByteArray) (l1_4 : List Int) (a1_5 : ByteArray) (a2_0 : ByteArray) (a2_1 : Int) (a2_2 : ByteArray) (l2_3 : List Int) : Option (Bool) := (spec_SafeOk.f k a0_0 a0_1 a1_0 a1_1 a1_2 a1_3 l1_4 a1_5).bind fun t458 => (if t458 = true then ((spec_BlockOk.f k a0_0 a0_1 a2_0 a2_1 a2_2 l2_3).bind fun t459 => (if t459 = true then ((spec_ViewOf.f k a2_0).bind fun t460 => (if t460 > a1_0 then (some (decide (a2_1 ≥ a1_1))) else (some false))) else (some false))) else (some false))
theorem spec_MayVote.mono : ∀ a0 a1 a2 a3 a4 a5 a6 a7 a8 a9 a10 a11 k, LeO (spec_MayVote.f k a0 a1 a2 a3 a4 a5 a6 a7 a8 a9 a10 a11) (spec_MayVote.f (k + 1) a0 a1 a2 a3 a4 a5 a6 a7 a8 a9 a10 a11) := by
 intro a0 a1 a2 a3 a4 a5 a6 a7 a8 a9 a10 a11 k
 unfold spec_MayVote.f
 repeat' first | (with_reducible exact spec_BlockOk.mono _ _ _ _ _ _ _) | (with_reducible exact spec_SafeOk.mono _ _ _ _ _ _ _ _ _) | (with_reducible exact spec_ViewOf.mono _ _) | (with_reducible exact LeO.refl _) | (with_reducible exact LeO.none _) | (with_reducible refine LeO.ite ?_ ?_) | (with_reducible refine LeO.bind ?_ (fun _ => ?_))
def spec_MayVote.T1 : Bool × List (List Nat × List Nat) := (true, [([], []), ([], []), ([0, 1], [0, 1]), ([2, 2], [2]), ([3], [3]), ([3], [3]), ([4, 5, 3, 3], [3, 4, 5]), ([3, 6], [3, 6]), ([7, 6], [7]), ([8], [8]), ([9, 8], [8, 9]), ([10, 8, 8], [8, 10]), ([8], [8]), ([12, 8], [8, 12]), ([11, 13, 8], [8, 11, 13]), ([8, 14], [8, 14]), ([15, 11], [15]), ([16], [16]), ([17, 16], [16, 17]), ([18, 16], [16, 18]), ([16], [16]), ([20, 16], [16, 20]), ([19, 21, 16], [16, 19, 21]), ([16, 22], [16, 22]), ([23, 16, 0, 1, 2, 3, 4, 5, 6, 7, 8, 9, 10, 11, 12, 13, 14, 15, 16, 17, 18, 19, 20, 21, 22, 23], [23])])
def spec_MayVote.B1 : List Nat := [0, 0, 3, 7, 15, 15, 63, 127, 255, 511, 1023, 2047, 511, 4607, 16383, 32767, 65535, 131071, 262143, 524287, 131071, 1179647, 4194303, 8388607, 16777215]
theorem spec_MayVote.tab1 : rtab .any (opsOf Tryz.f43 1) = spec_MayVote.T1 := by kernel_rfl
theorem spec_MayVote.bits1 : waitsOk spec_MayVote.T1.2 spec_MayVote.B1 = true := by kernel_rfl
set_option maxHeartbeats 8000000 in
set_option maxRecDepth 100000 in
theorem spec_MayVote.calls (k : Nat) (a0_0 : Int) (a0_1 : Int) (a1_0 : Int) (a1_1 : Int) (a1_2 : Int) (a1_3 : ByteArray) (A1_4 : Option Addr) (c1_4 : Nat) (l1_4 : List Int) (a1_5 : ByteArray) (a2_0 : ByteArray) (a2_1 : Int) (a2_2 : ByteArray) (A2_3 : Option Addr) (c2_3 : Nat) (l2_3 : List Int) (r : Bool) (w : World) (hr1_4 : Kd.C (Kd.int .i64) w A1_4 l1_4.length l1_4) (hc1_4 : l1_4.length ≤ c1_4) (hr2_3 : Kd.C (Kd.int .i64) w A2_3 l2_3.length l2_3) (hc2_3 : l2_3.length ≤ c2_3) (h : spec_MayVote.f k a0_0 a0_1 a1_0 a1_1 a1_2 a1_3 l1_4 a1_5 a2_0 a2_1 a2_2 l2_3 = some r) :
  Calls Tryz.prog 43 #[.agg #[.int .i64 a0_0, .int .i64 a0_1], .agg #[.int .i64 a1_0, .int .i64 a1_1, .int .i64 a1_2, .string a1_3, .slice A1_4 l1_4.length c1_4, .string a1_5], .agg #[.string a2_0, .int .i64 a2_1, .string a2_2, .slice A2_3 l2_3.length c2_3]] w fun e w' => e = .returned (.bool r) ∧ Below w.heap.size w w' := by
 have hu38 := Tryz.underlying38; have hu35 := Tryz.underlying35; have hu42 := Tryz.underlying42; have HR1_4 := Aside0.mk hr1_4; have HC1_4 := Aside0.mk hc1_4; clear hr1_4 hc1_4; have HR2_3 := Aside0.mk hr2_3; have HC2_3 := Aside0.mk hc2_3; clear hr2_3 hc2_3; have HB := Aside0.mk (Below.refl w.heap.size w)
 have H : ((spec_SafeOk.f k a0_0 a0_1 a1_0 a1_1 a1_2 a1_3 l1_4 a1_5).bind fun t458 => (if t458 = true then ((spec_BlockOk.f k a0_0 a0_1 a2_0 a2_1 a2_2 l2_3).bind fun t459 => (if t459 = true then ((spec_ViewOf.f k a2_0).bind fun t460 => (if t460 > a1_0 then (some (decide (a2_1 ≥ a1_1))) else (some false))) else (some false))) else (some false))) = some r := h
 clear h; obtain ⟨t458, A40, H⟩ := Option.bind_eq_some_iff.mp H
 try dsimp only at H
 have A4 := Aside0.mk A40; clear A40
 by_cases c5 : t458 = true
 ·
  subst c5
  rw [if_pos rfl] at H
  obtain ⟨t459, A60, H⟩ := Option.bind_eq_some_iff.mp H
  try dsimp only at H
  have A6 := Aside0.mk A60; clear A60
  by_cases c7 : t459 = true
  ·
   subst c7
   rw [if_pos rfl] at H
   obtain ⟨t460, A80, H⟩ := Option.bind_eq_some_iff.mp H
   try dsimp only at H
   have A8 := Aside0.mk A80; clear A80
   by_cases c9 : t460 > a1_0
   ·
    rw [if_pos c9] at H
    have c9b0 : decide (a1_0 < t460) = true := decide_eq_true c9; clear c9; obtain rfl := Option.some.inj H
    go_enter Tryz.func43, Tryz.ntmps43
    try go_wp2_with (first | ((with_reducible refine gd 3 ?_); refine bL 3 #[.int .i64 a0_0, .int .i64 a0_1] 38 ?_; intro gb455 w10 _ _ _) | ((with_reducible refine gd 4 ?_); refine bL 4 #[.int .i64 a1_0, .int .i64 a1_1, .int .i64 a1_2, .string a1_3, .slice A1_4 l1_4.length c1_4, .string a1_5] 35 ?_; intro gb456 w11 _ _ _) | ((with_reducible refine gd 5 ?_); refine bL 5 #[.string a2_0, .int .i64 a2_1, .string a2_2, .slice A2_3 l2_3.length c2_3] 42 ?_; intro gb457 w12 _ _ _))
    refine sB [] spec_MayVote.tab1 spec_MayVote.bits1 ?_; intro w13 _ HT_ HW_
    refine tB 0 (some 7) (bz 25 1) HT_ HW_ ?_
    refine tB 1 (some 8) (bz 25 3) HT_ HW_ ?_
    refine o1 2 (some 9) (bz 25 7) HT_ rfl (kC Tryz.func66 (spec_SafeOk.calls (hr1_4 := pC HR1_4) (hc1_4 := HC1_4.out) (w := _) (h := A4.out)) ?_); intro w14 _
    refine nA (some 9) ?_
    refine pA 3 (some 10) (bz 25 15) HT_ ?_
    refine tB 4 (some 11) (bz 25 31) HT_ HW_ ?_
    refine tB 5 (some 12) (bz 25 63) HT_ HW_ ?_
    refine o1 6 (some 13) (bz 25 127) HT_ rfl (kC Tryz.func80 (spec_BlockOk.calls (hr1_3 := pC HR2_3) (hc1_3 := HC2_3.out) (w := _) (h := A6.out)) ?_); intro w15 _
    refine nA (some 13) ?_
    refine pA 7 (some 14) (bz 25 255) HT_ ?_
    refine pA 8 (some 15) (bz 25 511) HT_ ?_
    refine pA 9 (some 16) (bz 25 1023) HT_ ?_
    refine tB 10 (some 17) (bz 25 2047) HT_ HW_ ?_
    refine pA 12 (some 19) (bz 25 0x17ff) HT_ ?_
    refine tB 13 (some 20) (bz 25 0x37ff) HT_ HW_ ?_
    refine o1 11 (some 18) (bz 25 0x3fff) HT_ rfl (kC Tryz.func62 (spec_ViewOf.calls (w := _) (h := A8.out)) ?_); intro w16 _
    refine nA (some 18) ?_
    refine pA 14 (some 21) (bz 25 0x7fff) HT_ ?_
    refine pA 15 (some 22) (bz 25 0xffff) HT_ ?_
    refine pA 16 (some 23) (bz 25 0x1ffff) HT_ ?_
    refine pA 17 (some 24) (bz 25 0x3ffff) HT_ ?_
    refine pA 18 (some 25) (bz 25 0x7ffff) HT_ ?_
    refine tB 19 (some 26) (bz 25 0xfffff) HT_ HW_ ?_
    refine pA 20 (some 27) (bz 25 0x1fffff) HT_ ?_
    refine tB 21 (some 28) (bz 25 0x3fffff) HT_ HW_ ?_
    refine pA 22 (some 29) (bz 25 0x7fffff) HT_ ?_
    refine pA 23 (some 30) (bz 25 0xffffff) HT_ ?_
    refine pA 24 (some 6) (bz 25 0x1ffffff) HT_ ?_
    refine done_ (done_of HT_.out (by kernel_rfl)) ?_
    try go_wp2
    go_ret
    exact ⟨y0_18, UpW.out⟩
   rw [if_neg c9] at H
   have c9b0 : decide (a1_0 < t460) = false := decide_eq_false c9; clear c9; obtain rfl := Option.some.inj H
   go_enter Tryz.func43, Tryz.ntmps43
   try go_wp2_with (first | ((with_reducible refine gd 3 ?_); refine bL 3 #[.int .i64 a0_0, .int .i64 a0_1] 38 ?_; intro gb455 w17 _ _ _) | ((with_reducible refine gd 4 ?_); refine bL 4 #[.int .i64 a1_0, .int .i64 a1_1, .int .i64 a1_2, .string a1_3, .slice A1_4 l1_4.length c1_4, .string a1_5] 35 ?_; intro gb456 w18 _ _ _) | ((with_reducible refine gd 5 ?_); refine bL 5 #[.string a2_0, .int .i64 a2_1, .string a2_2, .slice A2_3 l2_3.length c2_3] 42 ?_; intro gb457 w19 _ _ _))
   refine sB [] spec_MayVote.tab1 spec_MayVote.bits1 ?_; intro w20 _ HT_ HW_
   refine tB 0 (some 7) (bz 25 1) HT_ HW_ ?_
   refine tB 1 (some 8) (bz 25 3) HT_ HW_ ?_
   refine o1 2 (some 9) (bz 25 7) HT_ rfl (kC Tryz.func66 (spec_SafeOk.calls (hr1_4 := pC HR1_4) (hc1_4 := HC1_4.out) (w := _) (h := A4.out)) ?_); intro w21 _
   refine nA (some 9) ?_
   refine pA 3 (some 10) (bz 25 15) HT_ ?_
   refine tB 4 (some 11) (bz 25 31) HT_ HW_ ?_
   refine tB 5 (some 12) (bz 25 63) HT_ HW_ ?_
   refine o1 6 (some 13) (bz 25 127) HT_ rfl (kC Tryz.func80 (spec_BlockOk.calls (hr1_3 := pC HR2_3) (hc1_3 := HC2_3.out) (w := _) (h := A6.out)) ?_); intro w22 _
   refine nA (some 13) ?_
   refine pA 7 (some 14) (bz 25 255) HT_ ?_
   refine pA 8 (some 15) (bz 25 511) HT_ ?_
   refine pA 9 (some 16) (bz 25 1023) HT_ ?_
   refine tB 10 (some 17) (bz 25 2047) HT_ HW_ ?_
   refine pA 12 (some 19) (bz 25 0x17ff) HT_ ?_
   refine tB 13 (some 20) (bz 25 0x37ff) HT_ HW_ ?_
   refine o1 11 (some 18) (bz 25 0x3fff) HT_ rfl (kC Tryz.func62 (spec_ViewOf.calls (w := _) (h := A8.out)) ?_); intro w23 _
   refine nA (some 18) ?_
   refine pA 14 (some 21) (bz 25 0x7fff) HT_ ?_
   refine pA 15 (some 22) (bz 25 0xffff) HT_ ?_
   refine pA 16 (some 23) (bz 25 0x1ffff) HT_ ?_
   refine pU 17 (some 24) (bz 25 0x3ffff) HT_ ?_
   refine pU 18 (some 25) (bz 25 0x7ffff) HT_ ?_
   refine pU 19 (some 26) (bz 25 0xfffff) HT_ ?_
   refine pU 20 (some 27) (bz 25 0x1fffff) HT_ ?_
   refine pU 21 (some 28) (bz 25 0x3fffff) HT_ ?_
   refine pU 22 (some 29) (bz 25 0x7fffff) HT_ ?_
   refine pA 23 (some 30) (bz 25 0xffffff) HT_ ?_
   refine pA 24 (some 6) (bz 25 0x1ffffff) HT_ ?_
   refine done_ (done_of HT_.out (by kernel_rfl)) ?_
   try go_wp2
   go_ret
   exact ⟨y0_18, UpW.out⟩
  replace c7 := Bool.eq_false_iff.mpr c7; subst c7
  rw [if_neg (show ¬ (false = true) by decide)] at H
  obtain rfl := Option.some.inj H
  go_enter Tryz.func43, Tryz.ntmps43
  try go_wp2_with (first | ((with_reducible refine gd 3 ?_); refine bL 3 #[.int .i64 a0_0, .int .i64 a0_1] 38 ?_; intro gb455 w24 _ _ _) | ((with_reducible refine gd 4 ?_); refine bL 4 #[.int .i64 a1_0, .int .i64 a1_1, .int .i64 a1_2, .string a1_3, .slice A1_4 l1_4.length c1_4, .string a1_5] 35 ?_; intro gb456 w25 _ _ _) | ((with_reducible refine gd 5 ?_); refine bL 5 #[.string a2_0, .int .i64 a2_1, .string a2_2, .slice A2_3 l2_3.length c2_3] 42 ?_; intro gb457 w26 _ _ _))
  refine sB [] spec_MayVote.tab1 spec_MayVote.bits1 ?_; intro w27 _ HT_ HW_
  refine tB 0 (some 7) (bz 25 1) HT_ HW_ ?_
  refine tB 1 (some 8) (bz 25 3) HT_ HW_ ?_
  refine o1 2 (some 9) (bz 25 7) HT_ rfl (kC Tryz.func66 (spec_SafeOk.calls (hr1_4 := pC HR1_4) (hc1_4 := HC1_4.out) (w := _) (h := A4.out)) ?_); intro w28 _
  refine nA (some 9) ?_
  refine pA 3 (some 10) (bz 25 15) HT_ ?_
  refine tB 4 (some 11) (bz 25 31) HT_ HW_ ?_
  refine tB 5 (some 12) (bz 25 63) HT_ HW_ ?_
  refine o1 6 (some 13) (bz 25 127) HT_ rfl (kC Tryz.func80 (spec_BlockOk.calls (hr1_3 := pC HR2_3) (hc1_3 := HC2_3.out) (w := _) (h := A6.out)) ?_); intro w29 _
  refine nA (some 13) ?_
  refine pA 7 (some 14) (bz 25 255) HT_ ?_
  refine pA 8 (some 15) (bz 25 511) HT_ ?_
  refine pU 9 (some 16) (bz 25 1023) HT_ ?_
  refine pU 10 (some 17) (bz 25 2047) HT_ ?_
  refine pU 11 (some 18) (bz 25 4095) HT_ ?_
  refine pU 12 (some 19) (bz 25 0x1fff) HT_ ?_
  refine pU 13 (some 20) (bz 25 0x3fff) HT_ ?_
  refine pU 14 (some 21) (bz 25 0x7fff) HT_ ?_
  refine pA 15 (some 22) (bz 25 0xffff) HT_ ?_
  refine pA 16 (some 23) (bz 25 0x1ffff) HT_ ?_
  refine pU 17 (some 24) (bz 25 0x3ffff) HT_ ?_
  refine pU 18 (some 25) (bz 25 0x7ffff) HT_ ?_
  refine pU 19 (some 26) (bz 25 0xfffff) HT_ ?_
  refine pU 20 (some 27) (bz 25 0x1fffff) HT_ ?_
  refine pU 21 (some 28) (bz 25 0x3fffff) HT_ ?_
  refine pU 22 (some 29) (bz 25 0x7fffff) HT_ ?_
  refine pA 23 (some 30) (bz 25 0xffffff) HT_ ?_
  refine pA 24 (some 6) (bz 25 0x1ffffff) HT_ ?_
  refine done_ (done_of HT_.out (by kernel_rfl)) ?_
  try go_wp2
  go_ret
  exact ⟨y0_18, UpW.out⟩
 replace c5 := Bool.eq_false_iff.mpr c5; subst c5
 rw [if_neg (show ¬ (false = true) by decide)] at H
 obtain rfl := Option.some.inj H
 go_enter Tryz.func43, Tryz.ntmps43
 try go_wp2_with (first | ((with_reducible refine gd 3 ?_); refine bL 3 #[.int .i64 a0_0, .int .i64 a0_1] 38 ?_; intro gb455 w30 _ _ _) | ((with_reducible refine gd 4 ?_); refine bL 4 #[.int .i64 a1_0, .int .i64 a1_1, .int .i64 a1_2, .string a1_3, .slice A1_4 l1_4.length c1_4, .string a1_5] 35 ?_; intro gb456 w31 _ _ _) | ((with_reducible refine gd 5 ?_); refine bL 5 #[.string a2_0, .int .i64 a2_1, .string a2_2, .slice A2_3 l2_3.length c2_3] 42 ?_; intro gb457 w32 _ _ _))
 refine sB [] spec_MayVote.tab1 spec_MayVote.bits1 ?_; intro w33 _ HT_ HW_
 refine tB 0 (some 7) (bz 25 1) HT_ HW_ ?_
 refine tB 1 (some 8) (bz 25 3) HT_ HW_ ?_
 refine o1 2 (some 9) (bz 25 7) HT_ rfl (kC Tryz.func66 (spec_SafeOk.calls (hr1_4 := pC HR1_4) (hc1_4 := HC1_4.out) (w := _) (h := A4.out)) ?_); intro w34 _
 refine nA (some 9) ?_
 refine pA 3 (some 10) (bz 25 15) HT_ ?_
 refine pU 4 (some 11) (bz 25 31) HT_ ?_
 refine pU 5 (some 12) (bz 25 63) HT_ ?_
 refine pU 6 (some 13) (bz 25 127) HT_ ?_
 refine pA 7 (some 14) (bz 25 255) HT_ ?_
 refine pA 8 (some 15) (bz 25 511) HT_ ?_
 refine pU 9 (some 16) (bz 25 1023) HT_ ?_
 refine pU 10 (some 17) (bz 25 2047) HT_ ?_
 refine pU 11 (some 18) (bz 25 4095) HT_ ?_
 refine pU 12 (some 19) (bz 25 0x1fff) HT_ ?_
 refine pU 13 (some 20) (bz 25 0x3fff) HT_ ?_
 refine pU 14 (some 21) (bz 25 0x7fff) HT_ ?_
 refine pA 15 (some 22) (bz 25 0xffff) HT_ ?_
 refine pA 16 (some 23) (bz 25 0x1ffff) HT_ ?_
 refine pU 17 (some 24) (bz 25 0x3ffff) HT_ ?_
 refine pU 18 (some 25) (bz 25 0x7ffff) HT_ ?_
 refine pU 19 (some 26) (bz 25 0xfffff) HT_ ?_
 refine pU 20 (some 27) (bz 25 0x1fffff) HT_ ?_
 refine pU 21 (some 28) (bz 25 0x3fffff) HT_ ?_
 refine pU 22 (some 29) (bz 25 0x7fffff) HT_ ?_
 refine pA 23 (some 30) (bz 25 0xffffff) HT_ ?_
 refine pA 24 (some 6) (bz 25 0x1ffffff) HT_ ?_
 refine done_ (done_of HT_.out (by kernel_rfl)) ?_
 try go_wp2
 go_ret
 exact ⟨y0_18, UpW.out⟩

/-! ### spec_l7Copy: function 79 -/
def spec_l7Copy.f (a0_0 : Int) (a0_1 : ByteArray) (l0_2 : List Int) : Option (Int × ByteArray × List Int) := (some (([] : List Int) : List Int)).bind fun y463 => (if y463.length + l0_2.length < 17592186044416 then (some (a0_0, a0_1, (y463 ++ l0_2))) else (none))
set_option maxHeartbeats 8000000 in
set_option maxRecDepth 100000 in
theorem spec_l7Copy.calls (a0_0 : Int) (a0_1 : ByteArray) (A0_2 : Option Addr) (c0_2 : Nat) (l0_2 : List Int) (r1 : Int) (r2 : ByteArray) (r3 : List Int) (w : World) (hr0_2 : Kd.C (Kd.int .i64) w A0_2 l0_2.length l0_2) (hc0_2 : l0_2.length ≤ c0_2) (h : spec_l7Copy.f a0_0 a0_1 l0_2 = some (r1, r2, r3)) :
  Calls Tryz.prog 79 #[.agg #[.int .i64 a0_0, .string a0_1, .slice A0_2 l0_2.length c0_2]] w fun e w' => ∃ v2_ : Value, e = .returned (.agg #[.int .i64 r1, .string r2, v2_]) ∧ Kd.R (Kd.int .i64) 3 w' w.heap.size (fun _ => True) v2_ r3 ∧ Below w.heap.size w w' := by
 have hu33 := Tryz.underlying33; have HR0_2 := Aside0.mk hr0_2; have HC0_2 := Aside0.mk hc0_2; clear hr0_2 hc0_2; have HB := Aside0.mk (Below.refl w.heap.size w)
 have H : ((some (([] : List Int) : List Int)).bind fun y463 => (if y463.length + l0_2.length < 17592186044416 then (some (a0_0, a0_1, (y463 ++ l0_2))) else (none))) = some (r1, r2, r3) := h
 clear h; obtain ⟨y463, hy463⟩ : ∃ y_ : List Int, y_ = (([] : List Int)) := ⟨_, rfl⟩
 replace H : (if y463.length + l0_2.length < 17592186044416 then (some (a0_0, a0_1, (y463 ++ l0_2))) else (none)) = some (r1, r2, r3) := by first | (rw [hy463]; with_reducible exact H) | (have H2_ := (Option.bind_some _ _).symm.trans H; rw [hy463]; with_reducible exact H2_) | (have H2_ := (Option.bind_some _ _).symm.trans H; with_reducible exact H2_) | with_reducible exact H | (rw [hy463]; exact H) | exact H
 have Ny463 := Aside0.mk hy463; clear hy463
 by_cases c2 : y463.length + l0_2.length < 17592186044416
 ·
  rw [if_pos c2] at H
  have LMc2 := Aside0.mk c2; clear c2; obtain ⟨y466, hy466⟩ : ∃ y_ : List Int, y_ = (y463 ++ l0_2) := ⟨_, rfl⟩
  replace H : (some (a0_0, a0_1, y466)) = some (r1, r2, r3) := by first | (rw [hy466]; with_reducible exact H) | (have H2_ := (Option.bind_some _ _).symm.trans H; rw [hy466]; with_reducible exact H2_) | (have H2_ := (Option.bind_some _ _).symm.trans H; with_reducible exact H2_) | with_reducible exact H | (rw [hy466]; exact H) | exact H
  have Ny466 := Aside0.mk hy466; clear hy466
  simp only [Option.some.injEq, Prod.mk.injEq] at H
  obtain ⟨rfl, rfl, rfl⟩ := H
  go_enter Tryz.func79, Tryz.ntmps79
  go_wp2_with (first | ((with_reducible refine gd 1 ?_); refine bA 1 #[.int .i64 a0_0, .string a0_1, .slice A0_2 l0_2.length c0_2] 33 ?_; intro gb461 hg w3 hbox hb; have BK461 := Aside0.mk (hbox); have GW461 := bg hg HB; have GJ461 := gi GW461; have GE461 := GW461; replace HB := bs HB hb; clear hb hbox hg) | ((with_reducible refine gd 2 ?_); refine bA 2 #[.int .i64 0, .string (⟨#[]⟩ : ByteArray), .slice none 0 0] 33 ?_; intro gb462 hg w4 hbox hb; have BK462 := Aside0.mk (hbox); have GW462 := bg hg HB; have GJ462 := gi GW462; have GE462 := GW462; replace HB := bs HB hb; have NB461_462 := b1 BK461 hg; have NI461_462 := ni NB461_462; have NB462_461 := b2 BK461 hg; have NI462_461 := ni NB462_461; replace BK461 := bk BK461 hb; clear hb hbox hg) | ((with_reducible refine gate_dst (N := 3) rfl ?_); refine Kd.R_lit (Kd.int .i64) _ 3 ?hg (N := 3) ?hd (xs := ([] : List Int)) (inner := []) (ok := fun _ => True) (okp := fun _ => True) ?hr ?hp (fun _ hk => hk) trivial (Below.refl _ _) (Nat.le_refl _) (by simp) ?_; (case hd => rfl); (case hg => rfl); (case hr => first | (go_simp; done) | (go_simp; rfl)); (case hp => exact (Reps.none _ _)); intro v464 w5 ho6 hb hg_ hnew_; clear hg_ hnew_; (first | rw [← Ny463.out] at ho6 | (simp only [Int.reduceToNat] at ho6; rw [← Ny463.out] at ho6)); have HO465 := Aside0.mk (Kd.R_lower ho6 (below_size (bI HB.out))); replace BK461 := bk BK461 hb; replace BK462 := bk BK462 hb; replace HB := bs HB hb; clear hb ho6; have hnb7 := NB461_462.out; have hnc7 := NB462_461.out; obtain ⟨hcz8_0, hcz8_1, hcz8_2, hfz8_0, hfz8_1, hfz8_2⟩ := cs3 BK461) | ((with_reducible refine gate_builtin (b := .append) (xs := #[.tmp 3, .tmp 5]) rfl ?_); at_builtin; refine Kd.R_append_rows (Kd.int .i64) (w0 := w) w.heap.size rfl (.tmp 3) (.tmp 5) 24 3 (.int .i64 0) 8 rfl Tryz.underlying24 info3 rfl (by decide) (by omega) v464 y463 l0_2 _ _ _ (fun _ => True) (fun _ => False) rfl rfl ?aO ?aR (fun _ _ h => h) (fun _ h => h.elim) ?aF ?aB ?aS ?aL ?_; (case aR => exact ch HR0_2 HB); (case aB => exact (bI HB.out)); (case aF => exact (fun _ _ => trivial)); (case aO => exact (rI HO465.out)); (case aS => exact (below_size (bI HB.out))); (case aL => have := LMc2.out; omega); intro v467 w9 ho hb hg hat; rw [← Ny466.out] at ho; have n0_ := bn BK461 hg (Kd.R_ne HO465.out BK461.out (by decide)); have n1_ := bn BK462 hg (Kd.R_ne HO465.out BK462.out (by decide)); have n2_ := Aside0.mk (hb); have n3_ := Aside0.mk (ho); clear BK461; clear BK462; clear HB; clear HO465; have BK461 := n0_; have BK462 := n1_; have HB := n2_; have HO468 := n3_; clear n0_ n1_ n2_ n3_; clear ho hb hg hat; obtain ⟨Ao10, co10, eo10⟩ := Kd.R_slice HO468.out; subst eo10; obtain ⟨hcz11_0, hcz11_1, hcz11_2, hfz11_0, hfz11_1, hfz11_2⟩ := cs3 BK461; obtain ⟨hcz12_0, hcz12_1, hcz12_2, hfz12_0, hfz12_1, hfz12_2⟩ := cs3 BK462))
  refine bodyPost_ret (results_cell_row rfl _ _ gb462 33 #[.int .i64 a0_0, .string a0_1, .slice Ao10 y466.length co10] (0, 0) _ rfl (pI BK462) Tryz.underlying33 rfl (by kernel_rfl)) rfl ?_
  exact ⟨_, y0_14, by (with_reducible repeat (first | apply Kd.R_alloc | apply Kd.R_drewN | apply Kd.R_drew)); exact Kd.R_mono (Kd.R_far (p := ⟨gb462, 2, none⟩) (Kd.R_far (p := ⟨gb462, 1, none⟩) (Kd.R_far (p := ⟨gb462, 0, none⟩) (Kd.R_far (p := ⟨gb461, 2, none⟩) (Kd.R_types (Kd.R_types HO468.out BK461.out (by decide)) BK462.out (by decide)) (fun _ hk => hk.1.2) (.slice Ao10 y466.length co10)) (fun _ hk => hk.2) (.int .i64 a0_0)) (fun _ hk => hk.2) (.string a0_1)) (fun _ hk => hk.2) (.slice Ao10 y466.length co10)) (fun _ hk => trivial), bI HB.out⟩
 rw [if_neg c2] at H
 exact absurd H (by simp)

/-! ### spec_l11Copy: function 61 -/
def spec_l11Copy.f (a0_0 : Int) (a0_1 : Int) (a0_2 : Int) (a0_3 : ByteArray) (l0_4 : List Int) (a0_5 : ByteArray) : Option (Int × Int × Int × ByteArray × List Int × ByteArray) := (spec_l7Copy.f a0_2 a0_3 l0_4).bind fun bt471 => (some (a0_0, a0_1, bt471.1, bt471.2.1, bt471.2.2, a0_5))
set_option maxHeartbeats 8000000 in
set_option maxRecDepth 100000 in
theorem spec_l11Copy.calls (a0_0 : Int) (a0_1 : Int) (a0_2 : Int) (a0_3 : ByteArray) (A0_4 : Option Addr) (c0_4 : Nat) (l0_4 : List Int) (a0_5 : ByteArray) (r1 : Int) (r2 : Int) (r3 : Int) (r4 : ByteArray) (r5 : List Int) (r6 : ByteArray) (w : World) (hr0_4 : Kd.C (Kd.int .i64) w A0_4 l0_4.length l0_4) (hc0_4 : l0_4.length ≤ c0_4) (h : spec_l11Copy.f a0_0 a0_1 a0_2 a0_3 l0_4 a0_5 = some (r1, r2, r3, r4, r5, r6)) :
  Calls Tryz.prog 61 #[.agg #[.int .i64 a0_0, .int .i64 a0_1, .int .i64 a0_2, .string a0_3, .slice A0_4 l0_4.length c0_4, .string a0_5]] w fun e w' => ∃ v4_ : Value, e = .returned (.agg #[.int .i64 r1, .int .i64 r2, .int .i64 r3, .string r4, v4_, .string r6]) ∧ Kd.R (Kd.int .i64) 3 w' w.heap.size (fun _ => True) v4_ r5 ∧ Below w.heap.size w w' := by
 have hu35 := Tryz.underlying35; have hu33 := Tryz.underlying33; have HR0_4 := Aside0.mk hr0_4; have HC0_4 := Aside0.mk hc0_4; clear hr0_4 hc0_4; have HB := Aside0.mk (Below.refl w.heap.size w)
 have H : ((spec_l7Copy.f a0_2 a0_3 l0_4).bind fun bt471 => (some (a0_0, a0_1, bt471.1, bt471.2.1, bt471.2.2, a0_5))) = some (r1, r2, r3, r4, r5, r6) := h
 clear h; obtain ⟨⟨t471, t472, t473⟩, A20, H⟩ := Option.bind_eq_some_iff.mp H
 try dsimp only at H
 have A2 := Aside0.mk A20; clear A20
 simp only [Option.some.injEq, Prod.mk.injEq] at H
 obtain ⟨rfl, rfl, rfl, rfl, rfl, rfl⟩ := H
 go_enter Tryz.func61, Tryz.ntmps61
 go_wp2_with (first | ((with_reducible refine gd 1 ?_); refine bL 1 #[.int .i64 a0_0, .int .i64 a0_1, .int .i64 a0_2, .string a0_3, .slice A0_4 l0_4.length c0_4, .string a0_5] 35 ?_; intro gb469 w3 _ _ _) | ((with_reducible refine gd 2 ?_); refine bL 2 #[.int .i64 0, .int .i64 0, .int .i64 0, .string (⟨#[]⟩ : ByteArray), .slice none 0 0, .string (⟨#[]⟩ : ByteArray)] 35 ?_; intro gb470 w4 _ _ _) | ((with_reducible refine gate_callee (f := 79) rfl ?_); refine gC1 (some 5) Tryz.func79 (spec_l7Copy.calls (hr0_2 := pC HR0_4) (hc0_2 := HC0_4.out) (w := _) (h := A2.out)) ?_; intro Ao474 co474 w5 _ HO475))
 refine bodyPost_ret (results_cell_row rfl _ _ gb470 35 #[.int .i64 a0_0, .int .i64 a0_1, .int .i64 t471, .string t472, .slice Ao474 t473.length co474, .string a0_5] (0, 0) _ rfl xB Tryz.underlying35 rfl (by kernel_rfl)) rfl ?_
 exact ⟨_, y0_18, rR HO475, UpW.out⟩

/-! ### spec_Vote: function 13 -/
def spec_Vote.f (k : Nat) (a0_0 : Int) (a0_1 : Int) (a1_0 : Int) (a1_1 : Int) (a1_2 : Int) (a1_3 : ByteArray) (l1_4 : List Int) (a1_5 : ByteArray) (a2_0 : ByteArray) (a2_1 : Int) (a2_2 : ByteArray) (l2_3 : List Int) : Option (Int × Int × Int × ByteArray × List Int × ByteArray × Bool) := (spec_l11Copy.f a1_0 a1_1 a1_2 a1_3 l1_4 a1_5).bind fun bt480 => ((spec_MayVote.f k a0_0 a0_1 a1_0 a1_1 a1_2 a1_3 l1_4 a1_5 a2_0 a2_1 a2_2 l2_3).bind fun t489 => (if t489 = true then ((spec_ViewOf.f k a2_0).bind fun t490 => (some (t490, bt480.2.1, bt480.2.2.1, bt480.2.2.2.1, bt480.2.2.2.2.1, bt480.2.2.2.2.2, true))) else (some (bt480.1, bt480.2.1, bt480.2.2.1, bt480.2.2.2.1, bt480.2.2.2.2.1, bt480.2.2.2.2.2, false))))
theorem spec_Vote.mono : ∀ a0 a1 a2 a3 a4 a5 a6 a7 a8 a9 a10 a11 k, LeO (spec_Vote.f k a0 a1 a2 a3 a4 a5 a6 a7 a8 a9 a10 a11) (spec_Vote.f (k + 1) a0 a1 a2 a3 a4 a5 a6 a7 a8 a9 a10 a11) := by
 intro a0 a1 a2 a3 a4 a5 a6 a7 a8 a9 a10 a11 k
 unfold spec_Vote.f
 repeat' first | (with_reducible exact spec_MayVote.mono _ _ _ _ _ _ _ _ _ _ _ _ _) | (with_reducible exact spec_ViewOf.mono _ _) | (with_reducible exact LeO.refl _) | (with_reducible exact LeO.none _) | (with_reducible refine LeO.ite ?_ ?_) | (with_reducible refine LeO.bind ?_ (fun _ => ?_))
set_option maxHeartbeats 8000000 in
set_option maxRecDepth 100000 in
theorem spec_Vote.calls (k : Nat) (a0_0 : Int) (a0_1 : Int) (a1_0 : Int) (a1_1 : Int) (a1_2 : Int) (a1_3 : ByteArray) (A1_4 : Option Addr) (c1_4 : Nat) (l1_4 : List Int) (a1_5 : ByteArray) (a2_0 : ByteArray) (a2_1 : Int) (a2_2 : ByteArray) (A2_3 : Option Addr) (c2_3 : Nat) (l2_3 : List Int) (r1 : Int) (r2 : Int) (r3 : Int) (r4 : ByteArray) (r5 : List Int) (r6 : ByteArray) (r7 : Bool) (w : World) (hr1_4 : Kd.C (Kd.int .i64) w A1_4 l1_4.length l1_4) (hc1_4 : l1_4.length ≤ c1_4) (hr2_3 : Kd.C (Kd.int .i64) w A2_3 l2_3.length l2_3) (hc2_3 : l2_3.length ≤ c2_3) (h : spec_Vote.f k a0_0 a0_1 a1_0 a1_1 a1_2 a1_3 l1_4 a1_5 a2_0 a2_1 a2_2 l2_3 = some (r1, r2, r3, r4, r5, r6, r7)) :
  Calls Tryz.prog 13 #[.agg #[.int .i64 a0_0, .int .i64 a0_1], .agg #[.int .i64 a1_0, .int .i64 a1_1, .int .i64 a1_2, .string a1_3, .slice A1_4 l1_4.length c1_4, .string a1_5], .agg #[.string a2_0, .int .i64 a2_1, .string a2_2, .slice A2_3 l2_3.length c2_3]] w fun e w' => ∃ v4_ : Value, e = .returned (.tuple #[.agg #[.int .i64 r1, .int .i64 r2, .int .i64 r3, .string r4, v4_, .string r6], .bool r7]) ∧ Kd.R (Kd.int .i64) 3 w' w.heap.size (fun _ => True) v4_ r5 ∧ Below w.heap.size w w' := by
 have hu38 := Tryz.underlying38; have hu35 := Tryz.underlying35; have hu42 := Tryz.underlying42; have HR1_4 := Aside0.mk hr1_4; have HC1_4 := Aside0.mk hc1_4; clear hr1_4 hc1_4; have HR2_3 := Aside0.mk hr2_3; have HC2_3 := Aside0.mk hc2_3; clear hr2_3 hc2_3; have HB := Aside0.mk (Below.refl w.heap.size w)
 have H : ((spec_l11Copy.f a1_0 a1_1 a1_2 a1_3 l1_4 a1_5).bind fun bt480 => ((spec_MayVote.f k a0_0 a0_1 a1_0 a1_1 a1_2 a1_3 l1_4 a1_5 a2_0 a2_1 a2_2 l2_3).bind fun t489 => (if t489 = true then ((spec_ViewOf.f k a2_0).bind fun t490 => (some (t490, bt480.2.1, bt480.2.2.1, bt480.2.2.2.1, bt480.2.2.2.2.1, bt480.2.2.2.2.2, true))) else (some (bt480.1, bt480.2.1, bt480.2.2.1, bt480.2.2.2.1, bt480.2.2.2.2.1, bt480.2.2.2.2.2, false))))) = some (r1, r2, r3, r4, r5, r6, r7) := h
 clear h; obtain ⟨⟨t480, t481, t482, t483, t484, t487⟩, A40, H⟩ := Option.bind_eq_some_iff.mp H
 try dsimp only at H
 have A4 := Aside0.mk A40; clear A40; obtain ⟨t489, A50, H⟩ := Option.bind_eq_some_iff.mp H
 try dsimp only at H
 have A5 := Aside0.mk A50; clear A50
 by_cases c6 : t489 = true
 ·
  subst c6
  rw [if_pos rfl] at H
  obtain ⟨t490, A70, H⟩ := Option.bind_eq_some_iff.mp H
  try dsimp only at H
  have A7 := Aside0.mk A70; clear A70
  simp only [Option.some.injEq, Prod.mk.injEq] at H
  obtain ⟨rfl, rfl, rfl, rfl, rfl, rfl, rfl⟩ := H
  go_enter Tryz.func13, Tryz.ntmps13
  go_wp2_with (first | ((with_reducible refine gd 3 ?_); refine bL 3 #[.int .i64 a0_0, .int .i64 a0_1] 38 ?_; intro gb476 w8 _ _ _) | ((with_reducible refine gd 4 ?_); refine bL 4 #[.int .i64 a1_0, .int .i64 a1_1, .int .i64 a1_2, .string a1_3, .slice A1_4 l1_4.length c1_4, .string a1_5] 35 ?_; intro gb477 w9 _ _ _) | ((with_reducible refine gd 5 ?_); refine bL 5 #[.string a2_0, .int .i64 a2_1, .string a2_2, .slice A2_3 l2_3.length c2_3] 42 ?_; intro gb478 w10 _ _ _) | ((with_reducible refine gd 6 ?_); refine bL 6 #[.int .i64 0, .int .i64 0, .int .i64 0, .string (⟨#[]⟩ : ByteArray), .slice none 0 0, .string (⟨#[]⟩ : ByteArray)] 35 ?_; intro gb479 w11 _ _ _) | ((with_reducible refine gate_callee (f := 61) rfl ?_); refine gC1 (some 10) Tryz.func61 (spec_l11Copy.calls (hr0_4 := pC HR1_4) (hc0_4 := HC1_4.out) (w := _) (h := A4.out)) ?_; intro Ao485 co485 w12 _ HO486) | ((with_reducible refine gd 8 ?_); refine bL 8 #[.int .i64 0, .int .i64 0, .int .i64 0, .string (⟨#[]⟩ : ByteArray), .slice none 0 0, .string (⟨#[]⟩ : ByteArray)] 35 ?_; intro gb488 w13 _ _ _) | ((with_reducible refine gate_callee (f := 43) rfl ?_); refine gC (some 14) Tryz.func43 (spec_MayVote.calls (hr1_4 := pC HR1_4) (hc1_4 := HC1_4.out) (hr2_3 := pC HR2_3) (hc2_3 := HC2_3.out) (w := _) (h := A5.out)) ?_; intro w14 _) | ((with_reducible refine gate_callee (f := 62) rfl ?_); refine gC (some 19) Tryz.func62 (spec_ViewOf.calls (w := _) (h := A7.out)) ?_; intro w15 _))
  refine bodyPost_ret (results_ct rfl _ _ gb479 35 #[.int .i64 t490, .int .i64 t481, .int .i64 t482, .string t483, .slice Ao485 t484.length co485, .string t487] (0, 0) _ rfl xB Tryz.underlying35 rfl (by kernel_rfl)) rfl ?_
  exact ⟨_, y0_18, rR HO486, UpW.out⟩
 replace c6 := Bool.eq_false_iff.mpr c6; subst c6
 rw [if_neg (show ¬ (false = true) by decide)] at H
 simp only [Option.some.injEq, Prod.mk.injEq] at H
 obtain ⟨rfl, rfl, rfl, rfl, rfl, rfl, rfl⟩ := H
 go_enter Tryz.func13, Tryz.ntmps13
 go_wp2_with (first | ((with_reducible refine gd 3 ?_); refine bL 3 #[.int .i64 a0_0, .int .i64 a0_1] 38 ?_; intro gb476 w16 _ _ _) | ((with_reducible refine gd 4 ?_); refine bL 4 #[.int .i64 a1_0, .int .i64 a1_1, .int .i64 a1_2, .string a1_3, .slice A1_4 l1_4.length c1_4, .string a1_5] 35 ?_; intro gb477 w17 _ _ _) | ((with_reducible refine gd 5 ?_); refine bL 5 #[.string a2_0, .int .i64 a2_1, .string a2_2, .slice A2_3 l2_3.length c2_3] 42 ?_; intro gb478 w18 _ _ _) | ((with_reducible refine gd 6 ?_); refine bL 6 #[.int .i64 0, .int .i64 0, .int .i64 0, .string (⟨#[]⟩ : ByteArray), .slice none 0 0, .string (⟨#[]⟩ : ByteArray)] 35 ?_; intro gb479 w19 _ _ _) | ((with_reducible refine gate_callee (f := 61) rfl ?_); refine gC1 (some 10) Tryz.func61 (spec_l11Copy.calls (hr0_4 := pC HR1_4) (hc0_4 := HC1_4.out) (w := _) (h := A4.out)) ?_; intro Ao485 co485 w20 _ HO486) | ((with_reducible refine gd 8 ?_); refine bL 8 #[.int .i64 0, .int .i64 0, .int .i64 0, .string (⟨#[]⟩ : ByteArray), .slice none 0 0, .string (⟨#[]⟩ : ByteArray)] 35 ?_; intro gb488 w21 _ _ _) | ((with_reducible refine gate_callee (f := 43) rfl ?_); refine gC (some 14) Tryz.func43 (spec_MayVote.calls (hr1_4 := pC HR1_4) (hc1_4 := HC1_4.out) (hr2_3 := pC HR2_3) (hc2_3 := HC2_3.out) (w := _) (h := A5.out)) ?_; intro w22 _))
 refine bodyPost_ret (results_ct rfl _ _ gb479 35 #[.int .i64 t480, .int .i64 t481, .int .i64 t482, .string t483, .slice Ao485 t484.length co485, .string t487] (0, 0) _ rfl xB Tryz.underlying35 rfl (by kernel_rfl)) rfl ?_
 exact ⟨_, y0_18, rR HO486, UpW.out⟩

/-! ### spec_QcLater: function 58 -/
def spec_QcLater.f (a0_0 : Int) (a0_1 : ByteArray) (l0_2 : List Int) (a1_0 : Int) (a1_1 : ByteArray) (l1_2 : List Int) : Option (Int × ByteArray × List Int) := if a0_0 > a1_0 then ((spec_l7Copy.f a0_0 a0_1 l0_2).bind fun bt494 => (some (bt494.1, bt494.2.1, bt494.2.2))) else ((spec_l7Copy.f a1_0 a1_1 l1_2).bind fun bt499 => (some (bt499.1, bt499.2.1, bt499.2.2)))
set_option maxHeartbeats 8000000 in
set_option maxRecDepth 100000 in
theorem spec_QcLater.calls (a0_0 : Int) (a0_1 : ByteArray) (A0_2 : Option Addr) (c0_2 : Nat) (l0_2 : List Int) (a1_0 : Int) (a1_1 : ByteArray) (A1_2 : Option Addr) (c1_2 : Nat) (l1_2 : List Int) (r1 : Int) (r2 : ByteArray) (r3 : List Int) (w : World) (hr0_2 : Kd.C (Kd.int .i64) w A0_2 l0_2.length l0_2) (hc0_2 : l0_2.length ≤ c0_2) (hr1_2 : Kd.C (Kd.int .i64) w A1_2 l1_2.length l1_2) (hc1_2 : l1_2.length ≤ c1_2) (h : spec_QcLater.f a0_0 a0_1 l0_2 a1_0 a1_1 l1_2 = some (r1, r2, r3)) :
  Calls Tryz.prog 58 #[.agg #[.int .i64 a0_0, .string a0_1, .slice A0_2 l0_2.length c0_2], .agg #[.int .i64 a1_0, .string a1_1, .slice A1_2 l1_2.length c1_2]] w fun e w' => ∃ v2_ : Value, e = .returned (.agg #[.int .i64 r1, .string r2, v2_]) ∧ Kd.R (Kd.int .i64) 3 w' w.heap.size (fun _ => True) v2_ r3 ∧ Below w.heap.size w w' := by
 have hu33 := Tryz.underlying33; have HR0_2 := Aside0.mk hr0_2; have HC0_2 := Aside0.mk hc0_2; clear hr0_2 hc0_2; have HR1_2 := Aside0.mk hr1_2; have HC1_2 := Aside0.mk hc1_2; clear hr1_2 hc1_2; have HB := Aside0.mk (Below.refl w.heap.size w)
 have H : (if a0_0 > a1_0 then ((spec_l7Copy.f a0_0 a0_1 l0_2).bind fun bt494 => (some (bt494.1, bt494.2.1, bt494.2.2))) else ((spec_l7Copy.f a1_0 a1_1 l1_2).bind fun bt499 => (some (bt499.1, bt499.2.1, bt499.2.2)))) = some (r1, r2, r3) := h
 clear h
 by_cases c3 : a0_0 > a1_0
 ·
  rw [if_pos c3] at H
  have c3b0 : decide (a1_0 < a0_0) = true := decide_eq_true c3; clear c3; obtain ⟨⟨t494, t495, t496⟩, A40, H⟩ := Option.bind_eq_some_iff.mp H
  try dsimp only at H
  have A4 := Aside0.mk A40; clear A40
  simp only [Option.some.injEq, Prod.mk.injEq] at H
  obtain ⟨rfl, rfl, rfl⟩ := H
  go_enter Tryz.func58, Tryz.ntmps58
  go_wp2_with (first | ((with_reducible refine gd 2 ?_); refine bL 2 #[.int .i64 a0_0, .string a0_1, .slice A0_2 l0_2.length c0_2] 33 ?_; intro gb491 w5 _ _ _) | ((with_reducible refine gd 3 ?_); refine bL 3 #[.int .i64 a1_0, .string a1_1, .slice A1_2 l1_2.length c1_2] 33 ?_; intro gb492 w6 _ _ _) | ((with_reducible refine gd 4 ?_); refine bL 4 #[.int .i64 0, .string (⟨#[]⟩ : ByteArray), .slice none 0 0] 33 ?_; intro gb493 w7 _ _ _) | ((with_reducible refine gate_callee (f := 79) rfl ?_); refine gC1 (some 11) Tryz.func79 (spec_l7Copy.calls (hr0_2 := pC HR0_2) (hc0_2 := HC0_2.out) (w := _) (h := A4.out)) ?_; intro Ao497 co497 w8 _ HO498))
  refine bodyPost_ret (results_cell_row rfl _ _ gb493 33 #[.int .i64 t494, .string t495, .slice Ao497 t496.length co497] (0, 0) _ rfl xB Tryz.underlying33 rfl (by kernel_rfl)) rfl ?_
  exact ⟨_, y0_18, rR HO498, UpW.out⟩
 rw [if_neg c3] at H
 have c3b0 : decide (a1_0 < a0_0) = false := decide_eq_false c3; clear c3; obtain ⟨⟨t499, t500, t501⟩, A90, H⟩ := Option.bind_eq_some_iff.mp H
 try dsimp only at H
 have A9 := Aside0.mk A90; clear A90
 simp only [Option.some.injEq, Prod.mk.injEq] at H
 obtain ⟨rfl, rfl, rfl⟩ := H
 go_enter Tryz.func58, Tryz.ntmps58
 go_wp2_with (first | ((with_reducible refine gd 2 ?_); refine bL 2 #[.int .i64 a0_0, .string a0_1, .slice A0_2 l0_2.length c0_2] 33 ?_; intro gb491 w10 _ _ _) | ((with_reducible refine gd 3 ?_); refine bL 3 #[.int .i64 a1_0, .string a1_1, .slice A1_2 l1_2.length c1_2] 33 ?_; intro gb492 w11 _ _ _) | ((with_reducible refine gd 4 ?_); refine bL 4 #[.int .i64 0, .string (⟨#[]⟩ : ByteArray), .slice none 0 0] 33 ?_; intro gb493 w12 _ _ _) | ((with_reducible refine gate_callee (f := 79) rfl ?_); refine gC1 (some 13) Tryz.func79 (spec_l7Copy.calls (hr0_2 := pC HR1_2) (hc0_2 := HC1_2.out) (w := _) (h := A9.out)) ?_; intro Ao502 co502 w13 _ HO503))
 refine bodyPost_ret (results_cell_row rfl _ _ gb493 33 #[.int .i64 t499, .string t500, .slice Ao502 t501.length co502] (0, 0) _ rfl xB Tryz.underlying33 rfl (by kernel_rfl)) rfl ?_
 exact ⟨_, y0_18, rR HO503, UpW.out⟩

end Go.Proofs.YtemjmefacifdeaaGreatDoor.PFnLockHolds
