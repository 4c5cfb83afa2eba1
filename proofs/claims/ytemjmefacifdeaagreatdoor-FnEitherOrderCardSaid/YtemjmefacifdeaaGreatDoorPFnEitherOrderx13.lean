-- By a program of this session, out of the translation (the print of the kit, with turns of its own). Lean checks it.
import Derived.Test.YtemjmefacifdeaaGreatDoorPFnEitherOrderx0
import Derived.Test.YtemjmefacifdeaaGreatDoorPFnEitherOrderx3
import Derived.Test.YtemjmefacifdeaaGreatDoorPFnEitherOrderx10
import Derived.Test.YtemjmefacifdeaaGreatDoorPFnEitherOrderx12
namespace Go.Proofs.YtemjmefacifdeaaGreatDoor.PFnEitherOrder
open Go.RowKit Go.Proofs.YtemjmefacifdeaaGreatDoorW.PrintWords Go.Proofs.YtemjmefacifdeaaGreatDoorW.PrintLast Go.Proofs.YtemjmefacifdeaaGreatDoorW.PrintMore
attribute [local go_sem] max2_int min2_int max_two min_two max_three min_three max_four min_four   -- for this text's walks alone
attribute [local go_sem] cell_in frozen_in
set_option synthInstance.maxSize 1000000
set_option synthInstance.maxHeartbeats 2000000
set_option linter.unusedVariables false
set_option linter.unusedSimpArgs false

/-! ### spec_MayVote: function 43 -/
def spec_MayVote.f (k : Nat) (a0_0 : Int) (a0_1 : Int) (a1_0 : Int) (a1_1 : Int) (a1_2 : Int) (a1_3 : ByteArray) (l1_4 : List Int) (a1_5 : ByteArray) (a2_0 : ByteArray) (a2_1 : Int) (a2_2 : ByteArray) (l2_3 : List Int) : Option (Bool) := (spec_SafeOk.f k a0_0 a0_1 a1_0 a1_1 a1_2 a1_3 l1_4 a1_5).bind fun t695 => (if t695 = true then ((spec_BlockOk.f k a0_0 a0_1 a2_0 a2_1 a2_2 l2_3).bind fun t696 => (if t696 = true then ((spec_ViewOf.f k a2_0).bind fun t697 => (if t697 > a1_0 then (some (decide (a2_1 ≥ a1_1))) else (some false))) else (some false))) else (some false))
theorem spec_MayVote.mono : ∀ a0 a1 a2 a3 a4 a5 a6 a7 a8 a9 a10 a11 k, LeO (spec_MayVote.f k a0 a1 a2 a3 a4 a5 a6 a7 a8 a9 a10 a11) (spec_MayVote.f (k + 1) a0 a1 a2 a3 a4 a5 a6 a7 a8 a9 a10 a11) := by
 intro a0 a1 a2 a3 a4 a5 a6 a7 a8 a9 a10 a11 k
 unfold spec_MayVote.f
 repeat' first | (with_reducible exact spec_BlockOk.mono _ _ _ _ _ _ _) | (with_reducible exact spec_SafeOk.mono _ _ _ _ _ _ _ _ _) | (with_reducible exact spec_ViewOf.mono _ _) | (with_reducible exact LeO.refl _) | (with_reducible exact LeO.none _) | (with_reducible refine LeO.ite ?_ ?_) | (with_reducible refine LeO.bind ?_ (fun _ => ?_))
def spec_MayVote.T1 : Bool × List (List Nat × List Nat) := (true, [([], []), ([], []), ([0, 1], [0, 1]), ([2, 2], [2]), ([3], [3]), ([3], [3]), ([4, 5, 3, 3], [3, 4, 5]), ([3, 6], [3, 6]), ([7, 6], [7]), ([8], [8]), ([9, 8], [8, 9]), ([10, 8, 8], [8, 10]), ([8], [8]), ([12, 8], [8, 12]), ([11, 13, 8], [8, 11, 13]), ([8, 14], [8, 14]), ([15, 11], [15]), ([16], [16]), ([17, 16], [16, 17]), ([18, 16], [16, 18]), ([16], [16]), ([20, 16], [16, 20]), ([19, 21, 16], [16, 19, 21]), ([16, 22], [16, 22]), ([23, 16, 0, 1, 2, 3, 4, 5, 6, 7, 8, 9, 10, 11, 12, 13, 14, 15, 16, 17, 18, 19, 20, 21, 22, 23], [23])])
def spec_MayVote.B1 : List Nat := [0, 0, 3, 7, 15, 15, 63, 127, 255, 511, 1023, 2047, 511, 4607, 16383, 32767, 65535, 131071, 262143, 524287, 131071, 1179647, 4194303, 8388607, 16777215]
theorem spec_MayVote.tab1 : rtab .any (opsOf Tryz.f43 1) = spec_MayVote.T1 := by kernel_rfl
theorem spec_MayVote.bits1 : waitsOk spec_MayVote.T1.2 spec_MayVote.B1 = true := by kernel_rfl
set_option maxHeartbeats 8000000 in
set_option maxRecDepth 100000 in
theorem spec_MayVote.calls (k : Nat) (a0_0 : Int) (a0_1 : Int) (a1_0 : Int) (a1_1 : Int) (a1_2 : Int) (a1_3 : ByteArray) (A1_4 : Option Addr) (c1_4 : Nat) (l1_4 : List Int) (a1_5 : ByteArray) (a2_0 : ByteArray) (a2_1 : Int) (a2_2 : ByteArray) (A2_3 : Option Addr) (c2_3 : Nat) (l2_3 : List Int) (r : Bool) (w : World) (hr1_4 : Kd.C (Kd.int .i64) w A1_4 l1_4.length l1_4) (hc1_4 : l1_4.length ≤ c1_4) (hr2_3 : Kd.C (Kd.int .i64) w A2_3 l2_3.length l2_3) (hc2_3 : l2_3.length ≤ c2_3) (h : spec_MayVote.f k a0_0 a0_1 a1_0 a1_1 a1_2 a1_3 l1_4 a1_5 a2_0 a2_1 a2_2 l2_3 = some r) :
  Calls Tryz.prog 43 #[.agg #[.int .i64 a0_0, .int .i64 a0_1], .agg #[.int .i64 a1_0, .int .i64 a1_1, .int .i64 a1_2, .string a1_3, .slice A1_4 l1_4.length c1_4, .string a1_5], .agg #[.string a2_0, .int .i64 a2_1, .string a2_2, .slice A2_3 l2_3.length c2_3]] w fun e w' => e = .returned (.bool r) ∧ Below w.heap.size w w' := by
 have hu38 := Tryz.underlying38; have hu35 := Tryz.underlying35; have hu42 := Tryz.underlying42; have HR1_4 := Aside0.mk hr1_4; have HC1_4 := Aside0.mk hc1_4; clear hr1_4 hc1_4; have HR2_3 := Aside0.mk hr2_3; have HC2_3 := Aside0.mk hc2_3; clear hr2_3 hc2_3; have HB := Aside0.mk (Below.refl w.heap.size w)
 have H : ((spec_SafeOk.f k a0_0 a0_1 a1_0 a1_1 a1_2 a1_3 l1_4 a1_5).bind fun t695 => (if t695 = true then ((spec_BlockOk.f k a0_0 a0_1 a2_0 a2_1 a2_2 l2_3).bind fun t696 => (if t696 = true then ((spec_ViewOf.f k a2_0).bind fun t697 => (if t697 > a1_0 then (some (decide (a2_1 ≥ a1_1))) else (some false))) else (some false))) else (some false))) = some r := h
 clear h; obtain ⟨t695, A40, H⟩ := Option.bind_eq_some_iff.mp H
 try dsimp only at H
 have A4 := Aside0.mk A40; clear A40
 by_cases c5 : t695 = true
 ·
  subst c5
  rw [if_pos rfl] at H
  obtain ⟨t696, A60, H⟩ := Option.bind_eq_some_iff.mp H
  try dsimp only at H
  have A6 := Aside0.mk A60; clear A60
  by_cases c7 : t696 = true
  ·
   subst c7
   rw [if_pos rfl] at H
   obtain ⟨t697, A80, H⟩ := Option.bind_eq_some_iff.mp H
   try dsimp only at H
   have A8 := Aside0.mk A80; clear A80
   by_cases c9 : t697 > a1_0
   ·
    rw [if_pos c9] at H
    have c9b0 : decide (a1_0 < t697) = true := decide_eq_true c9; clear c9; obtain rfl := Option.some.inj H
    go_enter Tryz.func43, Tryz.ntmps43
    try go_wp2_with (first | ((with_reducible refine gd 3 ?_); refine bL 3 #[.int .i64 a0_0, .int .i64 a0_1] 38 ?_; intro gb692 w10 _ _ _) | ((with_reducible refine gd 4 ?_); refine bL 4 #[.int .i64 a1_0, .int .i64 a1_1, .int .i64 a1_2, .string a1_3, .slice A1_4 l1_4.length c1_4, .string a1_5] 35 ?_; intro gb693 w11 _ _ _) | ((with_reducible refine gd 5 ?_); refine bL 5 #[.string a2_0, .int .i64 a2_1, .string a2_2, .slice A2_3 l2_3.length c2_3] 42 ?_; intro gb694 w12 _ _ _))
    refine sB [] spec_MayVote.tab1 spec_MayVote.bits1 ?_; intro w13 _ HT_ HW_
    refine tB 0 (some 7) (bz 25 1) HT_ HW_ ?_
    refine tB 1 (some 8) (bz 25 3) HT_ HW_ ?_
    refine o1 2 (some 9) (bz 25 7) HT_ rfl (kC Tryz.func66 (spec_SafeOk.calls (hr1_4 := pC HR1_4) (hc1_4 := HC1_4.out) (w := _) (h := A4.out)) ?_); intro w14 _
    refine nA (some 9) ?_
    refine pA 3 (some 10) (bz 25 15) HT_ ?_
    refine tB 4 (some 11) (bz 25 31) HT_ HW_ ?_
    refine tB 5 (some 12) (bz 25 63) HT_ HW_ ?_
    refine o1 6 (some 13) (bz 25 127) HT_ rfl (kC Tryz.func80 (spec_BlockOk.calls (hr1_3 := pC HR2_3) (hc1_3 := HC2_3.out) (w := _) (h := A6.out)) ?_); intro w15 _
    refine nA (some 13) ?_
    refine pA 7 (some 14) (bz 25 255) HT_ ?_
    refine pA 8 (some 15) (bz 25 511) HT_ ?_
    refine pA 9 (some 16) (bz 25 1023) HT_ ?_
    refine tB 10 (some 17) (bz 25 2047) HT_ HW_ ?_
    refine pA 12 (some 19) (bz 25 0x17ff) HT_ ?_
    refine tB 13 (some 20) (bz 25 0x37ff) HT_ HW_ ?_
    refine o1 11 (some 18) (bz 25 0x3fff) HT_ rfl (kC Tryz.func62 (spec_ViewOf.calls (w := _) (h := A8.out)) ?_); intro w16 _
    refine nA (some 18) ?_
    refine pA 14 (some 21) (bz 25 0x7fff) HT_ ?_
    refine pA 15 (some 22) (bz 25 0xffff) HT_ ?_
    refine pA 16 (some 23) (bz 25 0x1ffff) HT_ ?_
    refine pA 17 (some 24) (bz 25 0x3ffff) HT_ ?_
    refine pA 18 (some 25) (bz 25 0x7ffff) HT_ ?_
    refine tB 19 (some 26) (bz 25 0xfffff) HT_ HW_ ?_
    refine pA 20 (some 27) (bz 25 0x1fffff) HT_ ?_
    refine tB 21 (some 28) (bz 25 0x3fffff) HT_ HW_ ?_
    refine pA 22 (some 29) (bz 25 0x7fffff) HT_ ?_
    refine pA 23 (some 30) (bz 25 0xffffff) HT_ ?_
    refine pA 24 (some 6) (bz 25 0x1ffffff) HT_ ?_
    refine done_ (done_of HT_.out (by kernel_rfl)) ?_
    try go_wp2
    go_ret
    exact ⟨y0_19, UpW.out⟩
   rw [if_neg c9] at H
   have c9b0 : decide (a1_0 < t697) = false := decide_eq_false c9; clear c9; obtain rfl := Option.some.inj H
   go_enter Tryz.func43, Tryz.ntmps43
   try go_wp2_with (first | ((with_reducible refine gd 3 ?_); refine bL 3 #[.int .i64 a0_0, .int .i64 a0_1] 38 ?_; intro gb692 w17 _ _ _) | ((with_reducible refine gd 4 ?_); refine bL 4 #[.int .i64 a1_0, .int .i64 a1_1, .int .i64 a1_2, .string a1_3, .slice A1_4 l1_4.length c1_4, .string a1_5] 35 ?_; intro gb693 w18 _ _ _) | ((with_reducible refine gd 5 ?_); refine bL 5 #[.string a2_0, .int .i64 a2_1, .string a2_2, .slice A2_3 l2_3.length c2_3] 42 ?_; intro gb694 w19 _ _ _))
   refine sB [] spec_MayVote.tab1 spec_MayVote.bits1 ?_; intro w20 _ HT_ HW_
   refine tB 0 (some 7) (bz 25 1) HT_ HW_ ?_
   refine tB 1 (some 8) (bz 25 3) HT_ HW_ ?_
   refine o1 2 (some 9) (bz 25 7) HT_ rfl (kC Tryz.func66 (spec_SafeOk.calls (hr1_4 := pC HR1_4) (hc1_4 := HC1_4.out) (w := _) (h := A4.out)) ?_); intro w21 _
   refine nA (some 9) ?_
   refine pA 3 (some 10) (bz 25 15) HT_ ?_
   refine tB 4 (some 11) (bz 25 31) HT_ HW_ ?_
   refine tB 5 (some 12) (bz 25 63) HT_ HW_ ?_
   refine o1 6 (some 13) (bz 25 127) HT_ rfl (kC Tryz.func80 (spec_BlockOk.calls (hr1_3 := pC HR2_3) (hc1_3 := HC2_3.out) (w := _) (h := A6.out)) ?_); intro w22 _
   refine nA (some 13) ?_
   refine pA 7 (some 14) (bz 25 255) HT_ ?_
   refine pA 8 (some 15) (bz 25 511) HT_ ?_
   refine pA 9 (some 16) (bz 25 1023) HT_ ?_
   refine tB 10 (some 17) (bz 25 2047) HT_ HW_ ?_
   refine pA 12 (some 19) (bz 25 0x17ff) HT_ ?_
   refine tB 13 (some 20) (bz 25 0x37ff) HT_ HW_ ?_
   refine o1 11 (some 18) (bz 25 0x3fff) HT_ rfl (kC Tryz.func62 (spec_ViewOf.calls (w := _) (h := A8.out)) ?_); intro w23 _
   refine nA (some 18) ?_
   refine pA 14 (some 21) (bz 25 0x7fff) HT_ ?_
   refine pA 15 (some 22) (bz 25 0xffff) HT_ ?_
   refine pA 16 (some 23) (bz 25 0x1ffff) HT_ ?_
   refine pU 17 (some 24) (bz 25 0x3ffff) HT_ ?_
   refine pU 18 (some 25) (bz 25 0x7ffff) HT_ ?_
   refine pU 19 (some 26) (bz 25 0xfffff) HT_ ?_
   refine pU 20 (some 27) (bz 25 0x1fffff) HT_ ?_
   refine pU 21 (some 28) (bz 25 0x3fffff) HT_ ?_
   refine pU 22 (some 29) (bz 25 0x7fffff) HT_ ?_
   refine pA 23 (some 30) (bz 25 0xffffff) HT_ ?_
   refine pA 24 (some 6) (bz 25 0x1ffffff) HT_ ?_
   refine done_ (done_of HT_.out (by kernel_rfl)) ?_
   try go_wp2
   go_ret
   exact ⟨y0_19, UpW.out⟩
  replace c7 := Bool.eq_false_iff.mpr c7; subst c7
  rw [if_neg (show ¬ (false = true) by decide)] at H
  obtain rfl := Option.some.inj H
  go_enter Tryz.func43, Tryz.ntmps43
  try go_wp2_with (first | ((with_reducible refine gd 3 ?_); refine bL 3 #[.int .i64 a0_0, .int .i64 a0_1] 38 ?_; intro gb692 w24 _ _ _) | ((with_reducible refine gd 4 ?_); refine bL 4 #[.int .i64 a1_0, .int .i64 a1_1, .int .i64 a1_2, .string a1_3, .slice A1_4 l1_4.length c1_4, .string a1_5] 35 ?_; intro gb693 w25 _ _ _) | ((with_reducible refine gd 5 ?_); refine bL 5 #[.string a2_0, .int .i64 a2_1, .string a2_2, .slice A2_3 l2_3.length c2_3] 42 ?_; intro gb694 w26 _ _ _))
  refine sB [] spec_MayVote.tab1 spec_MayVote.bits1 ?_; intro w27 _ HT_ HW_
  refine tB 0 (some 7) (bz 25 1) HT_ HW_ ?_
  refine tB 1 (some 8) (bz 25 3) HT_ HW_ ?_
  refine o1 2 (some 9) (bz 25 7) HT_ rfl (kC Tryz.func66 (spec_SafeOk.calls (hr1_4 := pC HR1_4) (hc1_4 := HC1_4.out) (w := _) (h := A4.out)) ?_); intro w28 _
  refine nA (some 9) ?_
  refine pA 3 (some 10) (bz 25 15) HT_ ?_
  refine tB 4 (some 11) (bz 25 31) HT_ HW_ ?_
  refine tB 5 (some 12) (bz 25 63) HT_ HW_ ?_
  refine o1 6 (some 13) (bz 25 127) HT_ rfl (kC Tryz.func80 (spec_BlockOk.calls (hr1_3 := pC HR2_3) (hc1_3 := HC2_3.out) (w := _) (h := A6.out)) ?_); intro w29 _
  refine nA (some 13) ?_
  refine pA 7 (some 14) (bz 25 255) HT_ ?_
  refine pA 8 (some 15) (bz 25 511) HT_ ?_
  refine pU 9 (some 16) (bz 25 1023) HT_ ?_
  refine pU 10 (some 17) (bz 25 2047) HT_ ?_
  refine pU 11 (some 18) (bz 25 4095) HT_ ?_
  refine pU 12 (some 19) (bz 25 0x1fff) HT_ ?_
  refine pU 13 (some 20) (bz 25 0x3fff) HT_ ?_
  refine pU 14 (some 21) (bz 25 0x7fff) HT_ ?_
  refine pA 15 (some 22) (bz 25 0xffff) HT_ ?_
  refine pA 16 (some 23) (bz 25 0x1ffff) HT_ ?_
  refine pU 17 (some 24) (bz 25 0x3ffff) HT_ ?_
  refine pU 18 (some 25) (bz 25 0x7ffff) HT_ ?_
  refine pU 19 (some 26) (bz 25 0xfffff) HT_ ?_
  refine pU 20 (some 27) (bz 25 0x1fffff) HT_ ?_
  refine pU 21 (some 28) (bz 25 0x3fffff) HT_ ?_
  refine pU 22 (some 29) (bz 25 0x7fffff) HT_ ?_
  refine pA 23 (some 30) (bz 25 0xffffff) HT_ ?_
  refine pA 24 (some 6) (bz 25 0x1ffffff) HT_ ?_
  refine done_ (done_of HT_.out (by kernel_rfl)) ?_
  try go_wp2
  go_ret
  exact ⟨y0_19, UpW.out⟩
 replace c5 := Bool.eq_false_iff.mpr c5; subst c5
 rw [if_neg (show ¬ (false = true) by decide)] at H
 obtain rfl := Option.some.inj H
 go_enter Tryz.func43, Tryz.ntmps43
 try go_wp2_with (first | ((with_reducible refine gd 3 ?_); refine bL 3 #[.int .i64 a0_0, .int .i64 a0_1] 38 ?_; intro gb692 w30 _ _ _) | ((with_reducible refine gd 4 ?_); refine bL 4 #[.int .i64 a1_0, .int .i64 a1_1, .int .i64 a1_2, .string a1_3, .slice A1_4 l1_4.length c1_4, .string a1_5] 35 ?_; intro gb693 w31 _ _ _) | ((with_reducible refine gd 5 ?_); refine bL 5 #[.string a2_0, .int .i64 a2_1, .string a2_2, .slice A2_3 l2_3.length c2_3] 42 ?_; intro gb694 w32 _ _ _))
 refine sB [] spec_MayVote.tab1 spec_MayVote.bits1 ?_; intro w33 _ HT_ HW_
 refine tB 0 (some 7) (bz 25 1) HT_ HW_ ?_
 refine tB 1 (some 8) (bz 25 3) HT_ HW_ ?_
 refine o1 2 (some 9) (bz 25 7) HT_ rfl (kC Tryz.func66 (spec_SafeOk.calls (hr1_4 := pC HR1_4) (hc1_4 := HC1_4.out) (w := _) (h := A4.out)) ?_); intro w34 _
 refine nA (some 9) ?_
 refine pA 3 (some 10) (bz 25 15) HT_ ?_
 refine pU 4 (some 11) (bz 25 31) HT_ ?_
 refine pU 5 (some 12) (bz 25 63) HT_ ?_
 refine pU 6 (some 13) (bz 25 127) HT_ ?_
 refine pA 7 (some 14) (bz 25 255) HT_ ?_
 refine pA 8 (some 15) (bz 25 511) HT_ ?_
 refine pU 9 (some 16) (bz 25 1023) HT_ ?_
 refine pU 10 (some 17) (bz 25 2047) HT_ ?_
 refine pU 11 (some 18) (bz 25 4095) HT_ ?_
 refine pU 12 (some 19) (bz 25 0x1fff) HT_ ?_
 refine pU 13 (some 20) (bz 25 0x3fff) HT_ ?_
 refine pU 14 (some 21) (bz 25 0x7fff) HT_ ?_
 refine pA 15 (some 22) (bz 25 0xffff) HT_ ?_
 refine pA 16 (some 23) (bz 25 0x1ffff) HT_ ?_
 refine pU 17 (some 24) (bz 25 0x3ffff) HT_ ?_
 refine pU 18 (some 25) (bz 25 0x7ffff) HT_ ?_
 refine pU 19 (some 26) (bz 25 0xfffff) HT_ ?_
 refine pU 20 (some 27) (bz 25 0x1fffff) HT_ ?_
 refine pU 21 (some 28) (bz 25 0x3fffff) HT_ ?_
 refine pU 22 (some 29) (bz 25 0x7fffff) HT_ ?_
 refine pA 23 (some 30) (bz 25 0xffffff) HT_ ?_
 refine pA 24 (some 6) (bz 25 0x1ffffff) HT_ ?_
 refine done_ (done_of HT_.out (by kernel_rfl)) ?_
 try go_wp2
 go_ret
 exact ⟨y0_19, UpW.out⟩

/-! ### spec_Vote: function 13 -/
def spec_Vote.f (k : Nat) (a0_0 : Int) (a0_1 : Int) (a1_0 : Int) (a1_1 : Int) (a1_2 : Int) (a1_3 : ByteArray) (l1_4 : List Int) (a1_5 : ByteArray) (a2_0 : ByteArray) (a2_1 : Int) (a2_2 : ByteArray) (l2_3 : List Int) : Option (Int × Int × Int × ByteArray × List Int × ByteArray × Bool) := (spec_l11Copy.f a1_0 a1_1 a1_2 a1_3 l1_4 a1_5).bind fun bt702 => ((spec_MayVote.f k a0_0 a0_1 a1_0 a1_1 a1_2 a1_3 l1_4 a1_5 a2_0 a2_1 a2_2 l2_3).bind fun t711 => (if t711 = true then ((spec_ViewOf.f k a2_0).bind fun t712 => (some (t712, bt702.2.1, bt702.2.2.1, bt702.2.2.2.1, bt702.2.2.2.2.1, bt702.2.2.2.2.2, true))) else (some (bt702.1, bt702.2.1, bt702.2.2.1, bt702.2.2.2.1, bt702.2.2.2.2.1, bt702.2.2.2.2.2, false))))
theorem spec_Vote.mono : ∀ a0 a1 a2 a3 a4 a5 a6 a7 a8 a9 a10 a11 k, LeO (spec_Vote.f k a0 a1 a2 a3 a4 a5 a6 a7 a8 a9 a10 a11) (spec_Vote.f (k + 1) a0 a1 a2 a3 a4 a5 a6 a7 a8 a9 a10 a11) := by
 intro a0 a1 a2 a3 a4 a5 a6 a7 a8 a9 a10 a11 k
 unfold spec_Vote.f
 repeat' first | (with_reducible exact spec_MayVote.mono _ _ _ _ _ _ _ _ _ _ _ _ _) | (with_reducible exact spec_ViewOf.mono _ _) | (with_reducible exact LeO.refl _) | (with_reducible exact LeO.none _) | (with_reducible refine LeO.ite ?_ ?_) | (with_reducible refine LeO.bind ?_ (fun _ => ?_))
set_option maxHeartbeats 8000000 in
set_option maxRecDepth 100000 in
theorem spec_Vote.calls (k : Nat) (a0_0 : Int) (a0_1 : Int) (a1_0 : Int) (a1_1 : Int) (a1_2 : Int) (a1_3 : ByteArray) (A1_4 : Option Addr) (c1_4 : Nat) (l1_4 : List Int) (a1_5 : ByteArray) (a2_0 : ByteArray) (a2_1 : Int) (a2_2 : ByteArray) (A2_3 : Option Addr) (c2_3 : Nat) (l2_3 : List Int) (r1 : Int) (r2 : Int) (r3 : Int) (r4 : ByteArray) (r5 : List Int) (r6 : ByteArray) (r7 : Bool) (w : World) (hr1_4 : Kd.C (Kd.int .i64) w A1_4 l1_4.length l1_4) (hc1_4 : l1_4.length ≤ c1_4) (hr2_3 : Kd.C (Kd.int .i64) w A2_3 l2_3.length l2_3) (hc2_3 : l2_3.length ≤ c2_3) (h : spec_Vote.f k a0_0 a0_1 a1_0 a1_1 a1_2 a1_3 l1_4 a1_5 a2_0 a2_1 a2_2 l2_3 = some (r1, r2, r3, r4, r5, r6, r7)) :
  Calls Tryz.prog 13 #[.agg #[.int .i64 a0_0, .int .i64 a0_1], .agg #[.int .i64 a1_0, .int .i64 a1_1, .int .i64 a1_2, .string a1_3, .slice A1_4 l1_4.length c1_4, .string a1_5], .agg #[.string a2_0, .int .i64 a2_1, .string a2_2, .slice A2_3 l2_3.length c2_3]] w fun e w' => ∃ v4_ : Value, e = .returned (.tuple #[.agg #[.int .i64 r1, .int .i64 r2, .int .i64 r3, .string r4, v4_, .string r6], .bool r7]) ∧ Kd.R (Kd.int .i64) 3 w' w.heap.size (fun _ => True) v4_ r5 ∧ Below w.heap.size w w' := by
 have hu38 := Tryz.underlying38; have hu35 := Tryz.underlying35; have hu42 := Tryz.underlying42; have HR1_4 := Aside0.mk hr1_4; have HC1_4 := Aside0.mk hc1_4; clear hr1_4 hc1_4; have HR2_3 := Aside0.mk hr2_3; have HC2_3 := Aside0.mk hc2_3; clear hr2_3 hc2_3; have HB := Aside0.mk (Below.refl w.heap.size w)
 have H : ((spec_l11Copy.f a1_0 a1_1 a1_2 a1_3 l1_4 a1_5).bind fun bt702 => ((spec_MayVote.f k a0_0 a0_1 a1_0 a1_1 a1_2 a1_3 l1_4 a1_5 a2_0 a2_1 a2_2 l2_3).bind fun t711 => (if t711 = true then ((spec_ViewOf.f k a2_0).bind fun t712 => (some (t712, bt702.2.1, bt702.2.2.1, bt702.2.2.2.1, bt702.2.2.2.2.1, bt702.2.2.2.2.2, true))) else (some (bt702.1, bt702.2.1, bt702.2.2.1, bt702.2.2.2.1, bt702.2.2.2.2.1, bt702.2.2.2.2.2, false))))) = some (r1, r2, r3, r4, r5, r6, r7) := h
 clear h; obtain ⟨⟨t702, t703, t704, t705, t706, t709⟩, A40, H⟩ := Option.bind_eq_some_iff.mp H
 try dsimp only at H
 have A4 := Aside0.mk A40; clear A40; obtain ⟨t711, A50, H⟩ := Option.bind_eq_some_iff.mp H
 try dsimp only at H
 have A5 := Aside0.mk A50; clear A50
 by_cases c6 : t711 = true
 ·
  subst c6
  rw [if_pos rfl] at H
  obtain ⟨t712, A70, H⟩ := Option.bind_eq_some_iff.mp H
  try dsimp only at H
  have A7 := Aside0.mk A70; clear A70
  simp only [Option.some.injEq, Prod.mk.injEq] at H
  obtain ⟨rfl, rfl, rfl, rfl, rfl, rfl, rfl⟩ := H
  go_enter Tryz.func13, Tryz.ntmps13
  go_wp2_with (first | ((with_reducible refine gd 3 ?_); refine bL 3 #[.int .i64 a0_0, .int .i64 a0_1] 38 ?_; intro gb698 w8 _ _ _) | ((with_reducible refine gd 4 ?_); refine bL 4 #[.int .i64 a1_0, .int .i64 a1_1, .int .i64 a1_2, .string a1_3, .slice A1_4 l1_4.length c1_4, .string a1_5] 35 ?_; intro gb699 w9 _ _ _) | ((with_reducible refine gd 5 ?_); refine bL 5 #[.string a2_0, .int .i64 a2_1, .string a2_2, .slice A2_3 l2_3.length c2_3] 42 ?_; intro gb700 w10 _ _ _) | ((with_reducible refine gd 6 ?_); refine bL 6 #[.int .i64 0, .int .i64 0, .int .i64 0, .string (⟨#[]⟩ : ByteArray), .slice none 0 0, .string (⟨#[]⟩ : ByteArray)] 35 ?_; intro gb701 w11 _ _ _) | ((with_reducible refine gate_callee (f := 61) rfl ?_); refine gC1 (some 10) Tryz.func61 (spec_l11Copy.calls (hr0_4 := pC HR1_4) (hc0_4 := HC1_4.out) (w := _) (h := A4.out)) ?_; intro Ao707 co707 w12 _ HO708) | ((with_reducible refine gd 8 ?_); refine bL 8 #[.int .i64 0, .int .i64 0, .int .i64 0, .string (⟨#[]⟩ : ByteArray), .slice none 0 0, .string (⟨#[]⟩ : ByteArray)] 35 ?_; intro gb710 w13 _ _ _) | ((with_reducible refine gate_callee (f := 43) rfl ?_); refine gC (some 14) Tryz.func43 (spec_MayVote.calls (hr1_4 := pC HR1_4) (hc1_4 := HC1_4.out) (hr2_3 := pC HR2_3) (hc2_3 := HC2_3.out) (w := _) (h := A5.out)) ?_; intro w14 _) | ((with_reducible refine gate_callee (f := 62) rfl ?_); refine gC (some 19) Tryz.func62 (spec_ViewOf.calls (w := _) (h := A7.out)) ?_; intro w15 _))
  refine bodyPost_ret (results_ct rfl _ _ gb701 35 #[.int .i64 t712, .int .i64 t703, .int .i64 t704, .string t705, .slice Ao707 t706.length co707, .string t709] (0, 0) _ rfl xB Tryz.underlying35 rfl (by kernel_rfl)) rfl ?_
  exact ⟨_, y0_19, rR HO708, UpW.out⟩
 replace c6 := Bool.eq_false_iff.mpr c6; subst c6
 rw [if_neg (show ¬ (false = true) by decide)] at H
 simp only [Option.some.injEq, Prod.mk.injEq] at H
 obtain ⟨rfl, rfl, rfl, rfl, rfl, rfl, rfl⟩ := H
 go_enter Tryz.func13, Tryz.ntmps13
 go_wp2_with (first | ((with_reducible refine gd 3 ?_); refine bL 3 #[.int .i64 a0_0, .int .i64 a0_1] 38 ?_; intro gb698 w16 _ _ _) | ((with_reducible refine gd 4 ?_); refine bL 4 #[.int .i64 a1_0, .int .i64 a1_1, .int .i64 a1_2, .string a1_3, .slice A1_4 l1_4.length c1_4, .string a1_5] 35 ?_; intro gb699 w17 _ _ _) | ((with_reducible refine gd 5 ?_); refine bL 5 #[.string a2_0, .int .i64 a2_1, .string a2_2, .slice A2_3 l2_3.length c2_3] 42 ?_; intro gb700 w18 _ _ _) | ((with_reducible refine gd 6 ?_); refine bL 6 #[.int .i64 0, .int .i64 0, .int .i64 0, .string (⟨#[]⟩ : ByteArray), .slice none 0 0, .string (⟨#[]⟩ : ByteArray)] 35 ?_; intro gb701 w19 _ _ _) | ((with_reducible refine gate_callee (f := 61) rfl ?_); refine gC1 (some 10) Tryz.func61 (spec_l11Copy.calls (hr0_4 := pC HR1_4) (hc0_4 := HC1_4.out) (w := _) (h := A4.out)) ?_; intro Ao707 co707 w20 _ HO708) | ((with_reducible refine gd 8 ?_); refine bL 8 #[.int .i64 0, .int .i64 0, .int .i64 0, .string (⟨#[]⟩ : ByteArray), .slice none 0 0, .string (⟨#[]⟩ : ByteArray)] 35 ?_; intro gb710 w21 _ _ _) | ((with_reducible refine gate_callee (f := 43) rfl ?_); refine gC (some 14) Tryz.func43 (spec_MayVote.calls (hr1_4 := pC HR1_4) (hc1_4 := HC1_4.out) (hr2_3 := pC HR2_3) (hc2_3 := HC2_3.out) (w := _) (h := A5.out)) ?_; intro w22 _))
 refine bodyPost_ret (results_ct rfl _ _ gb701 35 #[.int .i64 t702, .int .i64 t703, .int .i64 t704, .string t705, .slice Ao707 t706.length co707, .string t709] (0, 0) _ rfl xB Tryz.underlying35 rfl (by kernel_rfl)) rfl ?_
 exact ⟨_, y0_19, rR HO708, UpW.out⟩

/-! ### spec_BlockNew: function 30 -/
def spec_BlockNew.f (k : Nat) (a0_0 : Int) (a0_1 : Int) (a1_0 : Int) (a1_1 : ByteArray) (l1_2 : List Int) (a2 : Int) (l3 : List (S99)) : Option (ByteArray × Int × ByteArray × List Int × Bool) := (spec_NameOf.f k a1_1 a2 l3).bind fun t716 => ((spec_l7Copy.f a1_0 a1_1 l1_2).bind fun bt717 => ((spec_BlockOk.f k a0_0 a0_1 t716 bt717.1 bt717.2.1 bt717.2.2).bind fun t723 => (if t723 = true then ((spec_ViewOf.f k t716).bind fun t724 => (if t724 = a2 then (some (t716, bt717.1, bt717.2.1, bt717.2.2, true)) else (some ((⟨#[]⟩ : ByteArray), 0, (⟨#[]⟩ : ByteArray), ([] : List Int), false)))) else (some ((⟨#[]⟩ : ByteArray), 0, (⟨#[]⟩ : ByteArray), ([] : List Int), false)))))
theorem spec_BlockNew.mono : ∀ a0 a1 a2 a3 a4 a5 a6 k, LeO (spec_BlockNew.f k a0 a1 a2 a3 a4 a5 a6) (spec_BlockNew.f (k + 1) a0 a1 a2 a3 a4 a5 a6) := by
 intro a0 a1 a2 a3 a4 a5 a6 k
 unfold spec_BlockNew.f
 repeat' first | (with_reducible exact spec_BlockOk.mono _ _ _ _ _ _ _) | (with_reducible exact spec_NameOf.mono _ _ _ _) | (with_reducible exact spec_ViewOf.mono _ _) | (with_reducible exact LeO.refl _) | (with_reducible exact LeO.none _) | (with_reducible refine LeO.ite ?_ ?_) | (with_reducible refine LeO.bind ?_ (fun _ => ?_))
def spec_BlockNew.T1 : Bool × List (List Nat × List Nat) := (true, [([], []), ([0], [0]), ([], []), ([], []), ([1, 2, 3], [1, 2, 3]), ([], []), ([5, 4], [5]), ([4, 6], [4, 6]), ([], []), ([8, 7, 6, 0, 1, 2, 3, 4, 5, 6, 7, 8], [7, 8])])
def spec_BlockNew.B1 : List Nat := [0, 1, 0, 0, 15, 0, 63, 127, 0, 511]
theorem spec_BlockNew.tab1 : rtab .any (opsOf Tryz.f30 1) = spec_BlockNew.T1 := by kernel_rfl
theorem spec_BlockNew.bits1 : waitsOk spec_BlockNew.T1.2 spec_BlockNew.B1 = true := by kernel_rfl
set_option maxHeartbeats 8000000 in
set_option maxRecDepth 100000 in
theorem spec_BlockNew.calls (k : Nat) (a0_0 : Int) (a0_1 : Int) (a1_0 : Int) (a1_1 : ByteArray) (A1_2 : Option Addr) (c1_2 : Nat) (l1_2 : List Int) (a2 : Int) (A3 : Option Addr) (c3 : Nat) (l3 : List (S99)) (r1 : ByteArray) (r2 : Int) (r3 : ByteArray) (r4 : List Int) (r5 : Bool) (w : World) (hr1_2 : Kd.C (Kd.int .i64) w A1_2 l1_2.length l1_2) (hc1_2 : l1_2.length ≤ c1_2) (hr3 : Kd.C k99 w A3 l3.length l3) (hc3 : l3.length ≤ c3) (h : spec_BlockNew.f k a0_0 a0_1 a1_0 a1_1 l1_2 a2 l3 = some (r1, r2, r3, r4, r5)) :
  Calls Tryz.prog 30 #[.agg #[.int .i64 a0_0, .int .i64 a0_1], .agg #[.int .i64 a1_0, .string a1_1, .slice A1_2 l1_2.length c1_2], .int .i64 a2, .slice A3 l3.length c3] w fun e w' => ∃ v3_ : Value, e = .returned (.tuple #[.agg #[.string r1, .int .i64 r2, .string r3, v3_], .bool r5]) ∧ Kd.R (Kd.int .i64) 3 w' w.heap.size (fun _ => True) v3_ r4 ∧ Below w.heap.size w w' := by
 have hu38 := Tryz.underlying38; have hu33 := Tryz.underlying33; have hu42 := Tryz.underlying42; have HR1_2 := Aside0.mk hr1_2; have HC1_2 := Aside0.mk hc1_2; clear hr1_2 hc1_2; have HR3 := Aside0.mk hr3; have HC3 := Aside0.mk hc3; clear hr3 hc3; have HB := Aside0.mk (Below.refl w.heap.size w)
 have H : ((spec_NameOf.f k a1_1 a2 l3).bind fun t716 => ((spec_l7Copy.f a1_0 a1_1 l1_2).bind fun bt717 => ((spec_BlockOk.f k a0_0 a0_1 t716 bt717.1 bt717.2.1 bt717.2.2).bind fun t723 => (if t723 = true then ((spec_ViewOf.f k t716).bind fun t724 => (if t724 = a2 then (some (t716, bt717.1, bt717.2.1, bt717.2.2, true)) else (some ((⟨#[]⟩ : ByteArray), 0, (⟨#[]⟩ : ByteArray), ([] : List Int), false)))) else (some ((⟨#[]⟩ : ByteArray), 0, (⟨#[]⟩ : ByteArray), ([] : List Int), false)))))) = some (r1, r2, r3, r4, r5) := h
 clear h; obtain ⟨t716, A50, H⟩ := Option.bind_eq_some_iff.mp H
 try dsimp only at H
 have A5 := Aside0.mk A50; clear A50; obtain ⟨⟨t717, t718, t719⟩, A60, H⟩ := Option.bind_eq_some_iff.mp H
 try dsimp only at H
 have A6 := Aside0.mk A60; clear A60; obtain ⟨t723, A70, H⟩ := Option.bind_eq_some_iff.mp H
 try dsimp only at H
 have A7 := Aside0.mk A70; clear A70
 by_cases c8 : t723 = true
 ·
  subst c8
  rw [if_pos rfl] at H
  obtain ⟨t724, A90, H⟩ := Option.bind_eq_some_iff.mp H
  try dsimp only at H
  have A9 := Aside0.mk A90; clear A90
  by_cases c10 : t724 = a2
  ·
   rw [if_pos c10] at H
   have c10b0 : (t724 == a2) = true := beq_iff_eq.mpr c10; have c10b1 : (t724 != a2) = false := bne_eq_false_iff_eq.mpr c10; clear c10
   simp only [Option.some.injEq, Prod.mk.injEq] at H
   obtain ⟨rfl, rfl, rfl, rfl, rfl⟩ := H
   go_enter Tryz.func30, Tryz.ntmps30
   try go_wp2_with (first | ((with_reducible refine gd 4 ?_); refine bL 4 #[.int .i64 a0_0, .int .i64 a0_1] 38 ?_; intro gb713 w11 _ _ _) | ((with_reducible refine gd 5 ?_); refine bL 5 #[.int .i64 a1_0, .string a1_1, .slice A1_2 l1_2.length c1_2] 33 ?_; intro gb714 w12 _ _ _) | ((with_reducible refine gd 8 ?_); refine bL 8 #[.string (⟨#[]⟩ : ByteArray), .int .i64 0, .string (⟨#[]⟩ : ByteArray), .slice none 0 0] 42 ?_; intro gb715 w13 _ _ _))
   refine sB [] spec_BlockNew.tab1 spec_BlockNew.bits1 ?_; intro w14 _ HT_ HW_
   refine pA 0 (some 11) (bz 10 1) HT_ ?_
   refine tB 1 (some 12) (bz 10 3) HT_ HW_ ?_
   refine pA 2 (some 13) (bz 10 7) HT_ ?_
   refine pA 3 (some 14) (bz 10 15) HT_ ?_
   refine tB 5 (some 16) (bz 10 47) HT_ HW_ ?_
   refine join_ (σ := Option Addr × Nat × Nat) 1 (bz 10 511) (fun s_ => [(15, .string t716), (17, .agg #[.int .i64 t717, .string t718, .slice s_.1 t719.length s_.2.1]), (18, .agg #[.string t716, .int .i64 t717, .string t718, .slice s_.1 t719.length s_.2.1]), (10, .pointer (some ⟨s_.2.2, 0, none⟩))]) (fun s_ w' => Aside0 (Kd.R (Kd.int .i64) 3 w' w14.heap.size (iv w14 w') (.slice s_.1 t719.length s_.2.1) t719) ∧ BkI (s_.2.2) w' #[.string (⟨#[]⟩ : ByteArray), .int .i64 0, .string (⟨#[]⟩ : ByteArray), .slice none 0 0] 42 ∧ BornI (s_.2.2) w14 ∧ UB w14 w') ?_ ?_
   rotate_left
   ·
    intro hCont
    refine o2 4 8 (some 15) (some 10) (bz 10 63) (bz 10 303) HT_ rfl rfl (kC Tryz.func78 (spec_NameOf.calls (hr2 := pC HR3) (hc2 := HC3.out) (w := _) (h := A5.out)) ?_) (kB #[.string (⟨#[]⟩ : ByteArray), .int .i64 0, .string (⟨#[]⟩ : ByteArray), .slice none 0 0] 42 ?_)
    ·
     intro w15 _
     refine nA (some 15) ?_
     refine o2 6 8 (some 17) (some 10) (bz 10 127) (bz 10 319) HT_ rfl rfl (kC1 Tryz.func79 (spec_l7Copy.calls (hr0_2 := pC HR1_2) (hc0_2 := HC1_2.out) (w := _) (h := A6.out)) ?_) (kB #[.string (⟨#[]⟩ : ByteArray), .int .i64 0, .string (⟨#[]⟩ : ByteArray), .slice none 0 0] 42 ?_)
     ·
      intro Ao720 co720 w17 _ HO721
      refine nA (some 17) ?_
      refine pA 7 (some 18) (bz 10 255) HT_ ?_
      refine o1 8 (some 10) (bz 10 511) HT_ rfl (kB #[.string (⟨#[]⟩ : ByteArray), .int .i64 0, .string (⟨#[]⟩ : ByteArray), .slice none 0 0] 42 ?_); intro gb722 w19 _ _ _
      refine nA (some 10) ?_
      exact hJ (hCont (Ao720, co720, gb722) _ ⟨⟨rJ HO721⟩, ⟨xB⟩, ⟨GeI.out⟩, ⟨UpW.out⟩⟩)
     intro gb722 w18 _ _ _
     refine nA (some 10) ?_
     refine o1 6 (some 17) (bz 10 383) HT_ rfl (kC1 Tryz.func79 (spec_l7Copy.calls (hr0_2 := pC HR1_2) (hc0_2 := HC1_2.out) (w := _) (h := A6.out)) ?_); intro Ao720 co720 w20 _ HO721
     refine nA (some 17) ?_
     refine pA 7 (some 18) (bz 10 511) HT_ ?_
     exact hJ (hCont (Ao720, co720, gb722) _ ⟨⟨rJ HO721⟩, ⟨xB⟩, ⟨GeI.out⟩, ⟨UpW.out⟩⟩)
    intro gb722 w16 _ _ _
    refine nA (some 10) ?_
    refine o1 4 (some 15) (bz 10 319) HT_ rfl (kC Tryz.func78 (spec_NameOf.calls (hr2 := pC HR3) (hc2 := HC3.out) (w := _) (h := A5.out)) ?_); intro w21 _
    refine nA (some 15) ?_
    refine o1 6 (some 17) (bz 10 383) HT_ rfl (kC1 Tryz.func79 (spec_l7Copy.calls (hr0_2 := pC HR1_2) (hc0_2 := HC1_2.out) (w := _) (h := A6.out)) ?_); intro Ao720 co720 w22 _ HO721
    refine nA (some 17) ?_
    refine pA 7 (some 18) (bz 10 511) HT_ ?_
    exact hJ (hCont (Ao720, co720, gb722) _ ⟨⟨rJ HO721⟩, ⟨xB⟩, ⟨GeI.out⟩, ⟨UpW.out⟩⟩)
   rintro ⟨Ao720, co720, gb722⟩ w23 ⟨HO721, _, _, _⟩
   refine nP ?_
   refine o1 9 none (bz 10 1023) HT_ rfl (kS ?_)
   refine done_ (done_of HT_.out (by kernel_rfl)) ?_
   try go_wp2_with (first | ((with_reducible refine gate_callee (f := 80) rfl ?_); refine gC (some 21) Tryz.func80 (spec_BlockOk.calls (hr1_3 := rC HO721) (hc1_3 := rL HO721) (w := _) (h := A7.out)) ?_; intro w24 _) | (go_at_call 62; refine aC (spec_ViewOf.calls (w := _) (h := A9.out)) ?_; intro w25 _))
   refine bodyPost_ret (results_ct rfl _ _ gb715 42 #[.string t716, .int .i64 t717, .string t718, .slice Ao720 t719.length co720] (0, 0) _ rfl xB Tryz.underlying42 rfl (by kernel_rfl)) rfl ?_
   exact ⟨_, y0_19, rR HO721, UpW.out⟩
  rw [if_neg c10] at H
  have c10b0 : (t724 == a2) = false := beq_eq_false_iff_ne.mpr c10; have c10b1 : (t724 != a2) = true := bne_iff_ne.mpr c10
  simp only [Option.some.injEq, Prod.mk.injEq] at H
  obtain ⟨rfl, rfl, rfl, rfl, rfl⟩ := H
  go_enter Tryz.func30, Tryz.ntmps30
  try go_wp2_with (first | ((with_reducible refine gd 4 ?_); refine bL 4 #[.int .i64 a0_0, .int .i64 a0_1] 38 ?_; intro gb713 w26 _ _ _) | ((with_reducible refine gd 5 ?_); refine bL 5 #[.int .i64 a1_0, .string a1_1, .slice A1_2 l1_2.length c1_2] 33 ?_; intro gb714 w27 _ _ _) | ((with_reducible refine gd 8 ?_); refine bL 8 #[.string (⟨#[]⟩ : ByteArray), .int .i64 0, .string (⟨#[]⟩ : ByteArray), .slice none 0 0] 42 ?_; intro gb715 w28 _ _ _))
  refine sB [] spec_BlockNew.tab1 spec_BlockNew.bits1 ?_; intro w29 _ HT_ HW_
  refine pA 0 (some 11) (bz 10 1) HT_ ?_
  refine tB 1 (some 12) (bz 10 3) HT_ HW_ ?_
  refine pA 2 (some 13) (bz 10 7) HT_ ?_
  refine pA 3 (some 14) (bz 10 15) HT_ ?_
  refine tB 5 (some 16) (bz 10 47) HT_ HW_ ?_
  refine join_ (σ := Option Addr × Nat × Nat) 1 (bz 10 511) (fun s_ => [(15, .string t716), (17, .agg #[.int .i64 t717, .string t718, .slice s_.1 t719.length s_.2.1]), (18, .agg #[.string t716, .int .i64 t717, .string t718, .slice s_.1 t719.length s_.2.1]), (10, .pointer (some ⟨s_.2.2, 0, none⟩))]) (fun s_ w' => Aside0 (Kd.R (Kd.int .i64) 3 w' w29.heap.size (iv w29 w') (.slice s_.1 t719.length s_.2.1) t719) ∧ BkI (s_.2.2) w' #[.string (⟨#[]⟩ : ByteArray), .int .i64 0, .string (⟨#[]⟩ : ByteArray), .slice none 0 0] 42 ∧ BornI (s_.2.2) w29 ∧ UB w29 w') ?_ ?_
  rotate_left
  ·
   intro hCont
   refine o2 4 8 (some 15) (some 10) (bz 10 63) (bz 10 303) HT_ rfl rfl (kC Tryz.func78 (spec_NameOf.calls (hr2 := pC HR3) (hc2 := HC3.out) (w := _) (h := A5.out)) ?_) (kB #[.string (⟨#[]⟩ : ByteArray), .int .i64 0, .string (⟨#[]⟩ : ByteArray), .slice none 0 0] 42 ?_)
   ·
    intro w30 _
    refine nA (some 15) ?_
    refine o2 6 8 (some 17) (some 10) (bz 10 127) (bz 10 319) HT_ rfl rfl (kC1 Tryz.func79 (spec_l7Copy.calls (hr0_2 := pC HR1_2) (hc0_2 := HC1_2.out) (w := _) (h := A6.out)) ?_) (kB #[.string (⟨#[]⟩ : ByteArray), .int .i64 0, .string (⟨#[]⟩ : ByteArray), .slice none 0 0] 42 ?_)
    ·
     intro Ao720 co720 w32 _ HO721
     refine nA (some 17) ?_
     refine pA 7 (some 18) (bz 10 255) HT_ ?_
     refine o1 8 (some 10) (bz 10 511) HT_ rfl (kB #[.string (⟨#[]⟩ : ByteArray), .int .i64 0, .string (⟨#[]⟩ : ByteArray), .slice none 0 0] 42 ?_); intro gb722 w34 _ _ _
     refine nA (some 10) ?_
     exact hJ (hCont (Ao720, co720, gb722) _ ⟨⟨rJ HO721⟩, ⟨xB⟩, ⟨GeI.out⟩, ⟨UpW.out⟩⟩)
    intro gb722 w33 _ _ _
    refine nA (some 10) ?_
    refine o1 6 (some 17) (bz 10 383) HT_ rfl (kC1 Tryz.func79 (spec_l7Copy.calls (hr0_2 := pC HR1_2) (hc0_2 := HC1_2.out) (w := _) (h := A6.out)) ?_); intro Ao720 co720 w35 _ HO721
    refine nA (some 17) ?_
    refine pA 7 (some 18) (bz 10 511) HT_ ?_
    exact hJ (hCont (Ao720, co720, gb722) _ ⟨⟨rJ HO721⟩, ⟨xB⟩, ⟨GeI.out⟩, ⟨UpW.out⟩⟩)
   intro gb722 w31 _ _ _
   refine nA (some 10) ?_
   refine o1 4 (some 15) (bz 10 319) HT_ rfl (kC Tryz.func78 (spec_NameOf.calls (hr2 := pC HR3) (hc2 := HC3.out) (w := _) (h := A5.out)) ?_); intro w36 _
   refine nA (some 15) ?_
   refine o1 6 (some 17) (bz 10 383) HT_ rfl (kC1 Tryz.func79 (spec_l7Copy.calls (hr0_2 := pC HR1_2) (hc0_2 := HC1_2.out) (w := _) (h := A6.out)) ?_); intro Ao720 co720 w37 _ HO721
   refine nA (some 17) ?_
   refine pA 7 (some 18) (bz 10 511) HT_ ?_
   exact hJ (hCont (Ao720, co720, gb722) _ ⟨⟨rJ HO721⟩, ⟨xB⟩, ⟨GeI.out⟩, ⟨UpW.out⟩⟩)
  rintro ⟨Ao720, co720, gb722⟩ w38 ⟨HO721, _, _, _⟩
  refine nP ?_
  refine o1 9 none (bz 10 1023) HT_ rfl (kS ?_)
  refine done_ (done_of HT_.out (by kernel_rfl)) ?_
  try go_wp2_with (first | ((with_reducible refine gate_callee (f := 80) rfl ?_); refine gC (some 21) Tryz.func80 (spec_BlockOk.calls (hr1_3 := rC HO721) (hc1_3 := rL HO721) (w := _) (h := A7.out)) ?_; intro w39 _) | (go_at_call 62; refine aC (spec_ViewOf.calls (w := _) (h := A9.out)) ?_; intro w40 _))
  refine bodyPost_ret (results_ct rfl _ _ gb715 42 #[.string (⟨#[]⟩ : ByteArray), .int .i64 0, .string (⟨#[]⟩ : ByteArray), .slice none 0 0] (0, 0) _ rfl xB Tryz.underlying42 rfl (by kernel_rfl)) rfl ?_
  exact ⟨_, y0_19, Kd.R_nil _ _ _ _ _, UpW.out⟩
 replace c8 := Bool.eq_false_iff.mpr c8; subst c8
 rw [if_neg (show ¬ (false = true) by decide)] at H
 simp only [Option.some.injEq, Prod.mk.injEq] at H
 obtain ⟨rfl, rfl, rfl, rfl, rfl⟩ := H
 go_enter Tryz.func30, Tryz.ntmps30
 try go_wp2_with (first | ((with_reducible refine gd 4 ?_); refine bL 4 #[.int .i64 a0_0, .int .i64 a0_1] 38 ?_; intro gb713 w41 _ _ _) | ((with_reducible refine gd 5 ?_); refine bL 5 #[.int .i64 a1_0, .string a1_1, .slice A1_2 l1_2.length c1_2] 33 ?_; intro gb714 w42 _ _ _) | ((with_reducible refine gd 8 ?_); refine bL 8 #[.string (⟨#[]⟩ : ByteArray), .int .i64 0, .string (⟨#[]⟩ : ByteArray), .slice none 0 0] 42 ?_; intro gb715 w43 _ _ _))
 refine sB [] spec_BlockNew.tab1 spec_BlockNew.bits1 ?_; intro w44 _ HT_ HW_
 refine pA 0 (some 11) (bz 10 1) HT_ ?_
 refine tB 1 (some 12) (bz 10 3) HT_ HW_ ?_
 refine pA 2 (some 13) (bz 10 7) HT_ ?_
 refine pA 3 (some 14) (bz 10 15) HT_ ?_
 refine tB 5 (some 16) (bz 10 47) HT_ HW_ ?_
 refine join_ (σ := Option Addr × Nat × Nat) 1 (bz 10 511) (fun s_ => [(15, .string t716), (17, .agg #[.int .i64 t717, .string t718, .slice s_.1 t719.length s_.2.1]), (18, .agg #[.string t716, .int .i64 t717, .string t718, .slice s_.1 t719.length s_.2.1]), (10, .pointer (some ⟨s_.2.2, 0, none⟩))]) (fun s_ w' => Aside0 (Kd.R (Kd.int .i64) 3 w' w44.heap.size (iv w44 w') (.slice s_.1 t719.length s_.2.1) t719) ∧ BkI (s_.2.2) w' #[.string (⟨#[]⟩ : ByteArray), .int .i64 0, .string (⟨#[]⟩ : ByteArray), .slice none 0 0] 42 ∧ BornI (s_.2.2) w44 ∧ UB w44 w') ?_ ?_
 rotate_left
 ·
  intro hCont
  refine o2 4 8 (some 15) (some 10) (bz 10 63) (bz 10 303) HT_ rfl rfl (kC Tryz.func78 (spec_NameOf.calls (hr2 := pC HR3) (hc2 := HC3.out) (w := _) (h := A5.out)) ?_) (kB #[.string (⟨#[]⟩ : ByteArray), .int .i64 0, .string (⟨#[]⟩ : ByteArray), .slice none 0 0] 42 ?_)
  ·
   intro w45 _
   refine nA (some 15) ?_
   refine o2 6 8 (some 17) (some 10) (bz 10 127) (bz 10 319) HT_ rfl rfl (kC1 Tryz.func79 (spec_l7Copy.calls (hr0_2 := pC HR1_2) (hc0_2 := HC1_2.out) (w := _) (h := A6.out)) ?_) (kB #[.string (⟨#[]⟩ : ByteArray), .int .i64 0, .string (⟨#[]⟩ : ByteArray), .slice none 0 0] 42 ?_)
   ·
    intro Ao720 co720 w47 _ HO721
    refine nA (some 17) ?_
    refine pA 7 (some 18) (bz 10 255) HT_ ?_
    refine o1 8 (some 10) (bz 10 511) HT_ rfl (kB #[.string (⟨#[]⟩ : ByteArray), .int .i64 0, .string (⟨#[]⟩ : ByteArray), .slice none 0 0] 42 ?_); intro gb722 w49 _ _ _
    refine nA (some 10) ?_
    exact hJ (hCont (Ao720, co720, gb722) _ ⟨⟨rJ HO721⟩, ⟨xB⟩, ⟨GeI.out⟩, ⟨UpW.out⟩⟩)
   intro gb722 w48 _ _ _
   refine nA (some 10) ?_
   refine o1 6 (some 17) (bz 10 383) HT_ rfl (kC1 Tryz.func79 (spec_l7Copy.calls (hr0_2 := pC HR1_2) (hc0_2 := HC1_2.out) (w := _) (h := A6.out)) ?_); intro Ao720 co720 w50 _ HO721
   refine nA (some 17) ?_
   refine pA 7 (some 18) (bz 10 511) HT_ ?_
   exact hJ (hCont (Ao720, co720, gb722) _ ⟨⟨rJ HO721⟩, ⟨xB⟩, ⟨GeI.out⟩, ⟨UpW.out⟩⟩)
  intro gb722 w46 _ _ _
  refine nA (some 10) ?_
  refine o1 4 (some 15) (bz 10 319) HT_ rfl (kC Tryz.func78 (spec_NameOf.calls (hr2 := pC HR3) (hc2 := HC3.out) (w := _) (h := A5.out)) ?_); intro w51 _
  refine nA (some 15) ?_
  refine o1 6 (some 17) (bz 10 383) HT_ rfl (kC1 Tryz.func79 (spec_l7Copy.calls (hr0_2 := pC HR1_2) (hc0_2 := HC1_2.out) (w := _) (h := A6.out)) ?_); intro Ao720 co720 w52 _ HO721
  refine nA (some 17) ?_
  refine pA 7 (some 18) (bz 10 511) HT_ ?_
  exact hJ (hCont (Ao720, co720, gb722) _ ⟨⟨rJ HO721⟩, ⟨xB⟩, ⟨GeI.out⟩, ⟨UpW.out⟩⟩)
 rintro ⟨Ao720, co720, gb722⟩ w53 ⟨HO721, _, _, _⟩
 refine nP ?_
 refine o1 9 none (bz 10 1023) HT_ rfl (kS ?_)
 refine done_ (done_of HT_.out (by kernel_rfl)) ?_
 try go_wp2_with (first | ((with_reducible refine gate_callee (f := 80) rfl ?_); refine gC (some 21) Tryz.func80 (spec_BlockOk.calls (hr1_3 := rC HO721) (hc1_3 := rL HO721) (w := _) (h := A7.out)) ?_; intro w54 _))
 refine bodyPost_ret (results_ct rfl _ _ gb715 42 #[.string (⟨#[]⟩ : ByteArray), .int .i64 0, .string (⟨#[]⟩ : ByteArray), .slice none 0 0] (0, 0) _ rfl xB Tryz.underlying42 rfl (by kernel_rfl)) rfl ?_
 exact ⟨_, y0_19, Kd.R_nil _ _ _ _ _, UpW.out⟩

end Go.Proofs.YtemjmefacifdeaaGreatDoor.PFnEitherOrder
