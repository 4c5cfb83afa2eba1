-- By a program of this session, out of the translation (the print of the kit, with turns of its own). Lean checks it.
import Derived.Test.YtnpbopadajbopaaGreatDoorPFnSafex0
import Derived.Test.YtnpbopadajbopaaGreatDoorPFnSafex3
import Derived.Test.YtnpbopadajbopaaGreatDoorPFnSafex4
import Derived.Test.YtnpbopadajbopaaGreatDoorPFnSafex6
import Derived.Test.YtnpbopadajbopaaGreatDoorPFnSafex7
namespace Go.Proofs.YtnpbopadajbopaaGreatDoor.PFnSafe
open Go.RowKit Go.Proofs.YtnpbopadajbopaaGreatDoorW.PrintWords Go.Proofs.YtnpbopadajbopaaGreatDoorW.PrintLast Go.Proofs.YtnpbopadajbopaaGreatDoorW.PrintMore
attribute [local go_sem] max2_int min2_int max_two min_two max_three min_three max_four min_four   -- for this text's walks alone
attribute [local go_sem] cell_in frozen_in
set_option synthInstance.maxSize 1000000
set_option synthInstance.maxHeartbeats 2000000
set_option linter.unusedVariables false
set_option linter.unusedSimpArgs false

/-! ### spec_MayVote: function 126 -/
def spec_MayVote.f (k : Nat) (a0_0 : Int) (a0_1 : Int) (a1_0 : Int) (a1_1 : Int) (a1_2 : Int) (a1_3 : ByteArray) (l1_4 : List Int) (a1_5 : ByteArray) (a2_0 : ByteArray) (a2_1 : Int) (a2_2 : ByteArray) (l2_3 : List Int) : Option (Bool) := (spec_SafeOk.f k a0_0 a0_1 a1_0 a1_1 a1_2 a1_3 l1_4 a1_5).bind fun t473 => (if t473 = true then ((spec_BlockOk.f k a0_0 a0_1 a2_0 a2_1 a2_2 l2_3).bind fun t474 => (if t474 = true then ((spec_ViewOf.f k a2_0).bind fun t475 => (if t475 > a1_0 then (some (decide (a2_1 ≥ a1_1))) else (some false))) else (some false))) else (some false))
theorem spec_MayVote.mono : ∀ a0 a1 a2 a3 a4 a5 a6 a7 a8 a9 a10 a11 k, LeO (spec_MayVote.f k a0 a1 a2 a3 a4 a5 a6 a7 a8 a9 a10 a11) (spec_MayVote.f (k + 1) a0 a1 a2 a3 a4 a5 a6 a7 a8 a9 a10 a11) := by
 intro a0 a1 a2 a3 a4 a5 a6 a7 a8 a9 a10 a11 k
 unfold spec_MayVote.f
 repeat' first | (with_reducible exact spec_BlockOk.mono _ _ _ _ _ _ _) | (with_reducible exact spec_SafeOk.mono _ _ _ _ _ _ _ _ _) | (with_reducible exact spec_ViewOf.mono _ _) | (with_reducible exact LeO.refl _) | (with_reducible exact LeO.none _) | (with_reducible refine LeO.ite ?_ ?_) | (with_reducible refine LeO.bind ?_ (fun _ => ?_))
def spec_MayVote.T1 : Bool × List (List Nat × List Nat) := (true, [([], []), ([], []), ([0, 1], [0, 1]), ([2, 2], [2]), ([3], [3]), ([3], [3]), ([4, 5, 3, 3], [3, 4, 5]), ([3, 6], [3, 6]), ([7, 6], [7]), ([8], [8]), ([9, 8], [8, 9]), ([10, 8, 8], [8, 10]), ([8], [8]), ([12, 8], [8, 12]), ([11, 13, 8], [8, 11, 13]), ([8, 14], [8, 14]), ([15, 11], [15]), ([16], [16]), ([17, 16], [16, 17]), ([18, 16], [16, 18]), ([16], [16]), ([20, 16], [16, 20]), ([19, 21, 16], [16, 19, 21]), ([16, 22], [16, 22]), ([23, 16, 0, 1, 2, 3, 4, 5, 6, 7, 8, 9, 10, 11, 12, 13, 14, 15, 16, 17, 18, 19, 20, 21, 22, 23], [23])])
def spec_MayVote.B1 : List Nat := [0, 0, 3, 7, 15, 15, 63, 127, 255, 511, 1023, 2047, 511, 4607, 16383, 32767, 65535, 131071, 262143, 524287, 131071, 1179647, 4194303, 8388607, 16777215]
theorem spec_MayVote.tab1 : rtab .any (opsOf Tryz.f126 1) = spec_MayVote.T1 := by kernel_rfl
theorem spec_MayVote.bits1 : waitsOk spec_MayVote.T1.2 spec_MayVote.B1 = true := by kernel_rfl
set_option maxHeartbeats 8000000 in
set_option maxRecDepth 100000 in
theorem spec_MayVote.calls (k : Nat) (a0_0 : Int) (a0_1 : Int) (a1_0 : Int) (a1_1 : Int) (a1_2 : Int) (a1_3 : ByteArray) (A1_4 : Option Addr) (c1_4 : Nat) (l1_4 : List Int) (a1_5 : ByteArray) (a2_0 : ByteArray) (a2_1 : Int) (a2_2 : ByteArray) (A2_3 : Option Addr) (c2_3 : Nat) (l2_3 : List Int) (r : Bool) (w : World) (hr1_4 : Kd.C (Kd.int .i64) w A1_4 l1_4.length l1_4) (hc1_4 : l1_4.length ≤ c1_4) (hr2_3 : Kd.C (Kd.int .i64) w A2_3 l2_3.length l2_3) (hc2_3 : l2_3.length ≤ c2_3) (h : spec_MayVote.f k a0_0 a0_1 a1_0 a1_1 a1_2 a1_3 l1_4 a1_5 a2_0 a2_1 a2_2 l2_3 = some r) :
  Calls Tryz.prog 126 #[.agg #[.int .i64 a0_0, .int .i64 a0_1], .agg #[.int .i64 a1_0, .int .i64 a1_1, .int .i64 a1_2, .string a1_3, .slice A1_4 l1_4.length c1_4, .string a1_5], .agg #[.string a2_0, .int .i64 a2_1, .string a2_2, .slice A2_3 l2_3.length c2_3]] w fun e w' => e = .returned (.bool r) ∧ Below w.heap.size w w' := by
 have hu32 := Tryz.underlying32; have hu29 := Tryz.underlying29; have hu60 := Tryz.underlying60; have HR1_4 := Aside0.mk hr1_4; have HC1_4 := Aside0.mk hc1_4; clear hr1_4 hc1_4; have HR2_3 := Aside0.mk hr2_3; have HC2_3 := Aside0.mk hc2_3; clear hr2_3 hc2_3; have HB := Aside0.mk (Below.refl w.heap.size w)
 have H := h; unfold spec_MayVote.f at H
 clear h
 go_enter Tryz.func126, Tryz.ntmps126
 have H' := Aside0.mk H; clear H
 go_upto_region 1 with (first | ((with_reducible refine gd 3 ?_); refine bL 3 #[.int .i64 a0_0, .int .i64 a0_1] 32 ?_; intro gb470 w4 _ _ _) | ((with_reducible refine gd 4 ?_); refine bL 4 #[.int .i64 a1_0, .int .i64 a1_1, .int .i64 a1_2, .string a1_3, .slice A1_4 l1_4.length c1_4, .string a1_5] 29 ?_; intro gb471 w5 _ _ _) | ((with_reducible refine gd 5 ?_); refine bL 5 #[.string a2_0, .int .i64 a2_1, .string a2_2, .slice A2_3 l2_3.length c2_3] 60 ?_; intro gb472 w6 _ _ _))
 have H := H'.out; clear H'; obtain ⟨t473, A7, H⟩ := oB H; (try dsimp only at H)
 by_cases c8 : t473 = true
 ·
  subst c8
  rw [if_pos rfl] at H
  obtain ⟨t474, A9, H⟩ := oB H; (try dsimp only at H)
  by_cases c10 : t474 = true
  ·
   subst c10
   rw [if_pos rfl] at H
   obtain ⟨t475, A11, H⟩ := oB H; (try dsimp only at H)
   by_cases c12 : t475 > a1_0
   ·
    rw [if_pos c12] at H
    have c12b0 : decide (a1_0 < t475) = true := decide_eq_true c12; clear c12
    (first | rw [c12b0] | (simp only [i64_w, i32_w]; rw [c12b0]) | skip)
    obtain rfl := Option.some.inj H
    try go_wp2
    refine sB [] spec_MayVote.tab1 spec_MayVote.bits1 ?_; intro w13 _ HT_ HW_
    refine tB 0 (some 7) (bz 25 1) HT_ HW_ ?_
    refine tB 1 (some 8) (bz 25 3) HT_ HW_ ?_
    refine o1 2 (some 9) (bz 25 7) HT_ rfl (kC Tryz.func43 (spec_SafeOk.calls (hr1_4 := pC HR1_4) (hc1_4 := HC1_4.out) (w := _) (h := A7.out)) ?_); intro w14 _
    refine nA (some 9) ?_
    refine pA 3 (some 10) (bz 25 15) HT_ ?_
    refine tB 4 (some 11) (bz 25 31) HT_ HW_ ?_
    refine tB 5 (some 12) (bz 25 63) HT_ HW_ ?_
    refine o1 6 (some 13) (bz 25 127) HT_ rfl (kC Tryz.func80 (spec_BlockOk.calls (hr1_3 := pC HR2_3) (hc1_3 := HC2_3.out) (w := _) (h := A9.out)) ?_); intro w15 _
    refine nA (some 13) ?_
    refine pA 7 (some 14) (bz 25 255) HT_ ?_
    refine pA 8 (some 15) (bz 25 511) HT_ ?_
    refine pA 9 (some 16) (bz 25 1023) HT_ ?_
    refine tB 10 (some 17) (bz 25 2047) HT_ HW_ ?_
    refine pA 12 (some 19) (bz 25 0x17ff) HT_ ?_
    refine tB 13 (some 20) (bz 25 0x37ff) HT_ HW_ ?_
    refine o1 11 (some 18) (bz 25 0x3fff) HT_ rfl (kC Tryz.func127 (spec_ViewOf.calls (w := _) (h := A11.out)) ?_); intro w16 _
    refine nA (some 18) ?_
    refine pA 14 (some 21) (bz 25 0x7fff) HT_ ?_
    refine pA 15 (some 22) (bz 25 0xffff) HT_ ?_
    refine pA 16 (some 23) (bz 25 0x1ffff) HT_ ?_
    refine pA 17 (some 24) (bz 25 0x3ffff) HT_ ?_
    refine pA 18 (some 25) (bz 25 0x7ffff) HT_ ?_
    refine tB 19 (some 26) (bz 25 0xfffff) HT_ HW_ ?_
    refine pA 20 (some 27) (bz 25 0x1fffff) HT_ ?_
    refine tB 21 (some 28) (bz 25 0x3fffff) HT_ HW_ ?_
    refine pA 22 (some 29) (bz 25 0x7fffff) HT_ ?_
    refine pA 23 (some 30) (bz 25 0xffffff) HT_ ?_
    refine pA 24 (some 6) (bz 25 0x1ffffff) HT_ ?_
    refine done_ (done_of HT_.out (by kernel_rfl)) ?_
    try go_wp2
    go_ret
    exact ⟨y0_16, UpW.out⟩
   rw [if_neg c12] at H
   have c12b0 : decide (a1_0 < t475) = false := decide_eq_false c12; clear c12
   (first | rw [c12b0] | (simp only [i64_w, i32_w]; rw [c12b0]) | skip)
   obtain rfl := Option.some.inj H
   try go_wp2
   refine sB [] spec_MayVote.tab1 spec_MayVote.bits1 ?_; intro w17 _ HT_ HW_
   refine tB 0 (some 7) (bz 25 1) HT_ HW_ ?_
   refine tB 1 (some 8) (bz 25 3) HT_ HW_ ?_
   refine o1 2 (some 9) (bz 25 7) HT_ rfl (kC Tryz.func43 (spec_SafeOk.calls (hr1_4 := pC HR1_4) (hc1_4 := HC1_4.out) (w := _) (h := A7.out)) ?_); intro w18 _
   refine nA (some 9) ?_
   refine pA 3 (some 10) (bz 25 15) HT_ ?_
   refine tB 4 (some 11) (bz 25 31) HT_ HW_ ?_
   refine tB 5 (some 12) (bz 25 63) HT_ HW_ ?_
   refine o1 6 (some 13) (bz 25 127) HT_ rfl (kC Tryz.func80 (spec_BlockOk.calls (hr1_3 := pC HR2_3) (hc1_3 := HC2_3.out) (w := _) (h := A9.out)) ?_); intro w19 _
   refine nA (some 13) ?_
   refine pA 7 (some 14) (bz 25 255) HT_ ?_
   refine pA 8 (some 15) (bz 25 511) HT_ ?_
   refine pA 9 (some 16) (bz 25 1023) HT_ ?_
   refine tB 10 (some 17) (bz 25 2047) HT_ HW_ ?_
   refine pA 12 (some 19) (bz 25 0x17ff) HT_ ?_
   refine tB 13 (some 20) (bz 25 0x37ff) HT_ HW_ ?_
   refine o1 11 (some 18) (bz 25 0x3fff) HT_ rfl (kC Tryz.func127 (spec_ViewOf.calls (w := _) (h := A11.out)) ?_); intro w20 _
   refine nA (some 18) ?_
   refine pA 14 (some 21) (bz 25 0x7fff) HT_ ?_
   refine pA 15 (some 22) (bz 25 0xffff) HT_ ?_
   refine pA 16 (some 23) (bz 25 0x1ffff) HT_ ?_
   refine pU 17 (some 24) (bz 25 0x3ffff) HT_ ?_
   refine pU 18 (some 25) (bz 25 0x7ffff) HT_ ?_
   refine pU 19 (some 26) (bz 25 0xfffff) HT_ ?_
   refine pU 20 (some 27) (bz 25 0x1fffff) HT_ ?_
   refine pU 21 (some 28) (bz 25 0x3fffff) HT_ ?_
   refine pU 22 (some 29) (bz 25 0x7fffff) HT_ ?_
   refine pA 23 (some 30) (bz 25 0xffffff) HT_ ?_
   refine pA 24 (some 6) (bz 25 0x1ffffff) HT_ ?_
   refine done_ (done_of HT_.out (by kernel_rfl)) ?_
   try go_wp2
   go_ret
   exact ⟨y0_16, UpW.out⟩
  replace c10 := Bool.eq_false_iff.mpr c10; subst c10
  rw [if_neg (show ¬ (false = true) by decide)] at H
  obtain rfl := Option.some.inj H
  try go_wp2
  refine sB [] spec_MayVote.tab1 spec_MayVote.bits1 ?_; intro w21 _ HT_ HW_
  refine tB 0 (some 7) (bz 25 1) HT_ HW_ ?_
  refine tB 1 (some 8) (bz 25 3) HT_ HW_ ?_
  refine o1 2 (some 9) (bz 25 7) HT_ rfl (kC Tryz.func43 (spec_SafeOk.calls (hr1_4 := pC HR1_4) (hc1_4 := HC1_4.out) (w := _) (h := A7.out)) ?_); intro w22 _
  refine nA (some 9) ?_
  refine pA 3 (some 10) (bz 25 15) HT_ ?_
  refine tB 4 (some 11) (bz 25 31) HT_ HW_ ?_
  refine tB 5 (some 12) (bz 25 63) HT_ HW_ ?_
  refine o1 6 (some 13) (bz 25 127) HT_ rfl (kC Tryz.func80 (spec_BlockOk.calls (hr1_3 := pC HR2_3) (hc1_3 := HC2_3.out) (w := _) (h := A9.out)) ?_); intro w23 _
  refine nA (some 13) ?_
  refine pA 7 (some 14) (bz 25 255) HT_ ?_
  refine pA 8 (some 15) (bz 25 511) HT_ ?_
  refine pU 9 (some 16) (bz 25 1023) HT_ ?_
  refine pU 10 (some 17) (bz 25 2047) HT_ ?_
  refine pU 11 (some 18) (bz 25 4095) HT_ ?_
  refine pU 12 (some 19) (bz 25 0x1fff) HT_ ?_
  refine pU 13 (some 20) (bz 25 0x3fff) HT_ ?_
  refine pU 14 (some 21) (bz 25 0x7fff) HT_ ?_
  refine pA 15 (some 22) (bz 25 0xffff) HT_ ?_
  refine pA 16 (some 23) (bz 25 0x1ffff) HT_ ?_
  refine pU 17 (some 24) (bz 25 0x3ffff) HT_ ?_
  refine pU 18 (some 25) (bz 25 0x7ffff) HT_ ?_
  refine pU 19 (some 26) (bz 25 0xfffff) HT_ ?_
  refine pU 20 (some 27) (bz 25 0x1fffff) HT_ ?_
  refine pU 21 (some 28) (bz 25 0x3fffff) HT_ ?_
  refine pU 22 (some 29) (bz 25 0x7fffff) HT_ ?_
  refine pA 23 (some 30) (bz 25 0xffffff) HT_ ?_
  refine pA 24 (some 6) (bz 25 0x1ffffff) HT_ ?_
  refine done_ (done_of HT_.out (by kernel_rfl)) ?_
  try go_wp2
  go_ret
  exact ⟨y0_16, UpW.out⟩
 replace c8 := Bool.eq_false_iff.mpr c8; subst c8
 rw [if_neg (show ¬ (false = true) by decide)] at H
 obtain rfl := Option.some.inj H
 try go_wp2
 refine sB [] spec_MayVote.tab1 spec_MayVote.bits1 ?_; intro w24 _ HT_ HW_
 refine tB 0 (some 7) (bz 25 1) HT_ HW_ ?_
 refine tB 1 (some 8) (bz 25 3) HT_ HW_ ?_
 refine o1 2 (some 9) (bz 25 7) HT_ rfl (kC Tryz.func43 (spec_SafeOk.calls (hr1_4 := pC HR1_4) (hc1_4 := HC1_4.out) (w := _) (h := A7.out)) ?_); intro w25 _
 refine nA (some 9) ?_
 refine pA 3 (some 10) (bz 25 15) HT_ ?_
 refine pU 4 (some 11) (bz 25 31) HT_ ?_
 refine pU 5 (some 12) (bz 25 63) HT_ ?_
 refine pU 6 (some 13) (bz 25 127) HT_ ?_
 refine pA 7 (some 14) (bz 25 255) HT_ ?_
 refine pA 8 (some 15) (bz 25 511) HT_ ?_
 refine pU 9 (some 16) (bz 25 1023) HT_ ?_
 refine pU 10 (some 17) (bz 25 2047) HT_ ?_
 refine pU 11 (some 18) (bz 25 4095) HT_ ?_
 refine pU 12 (some 19) (bz 25 0x1fff) HT_ ?_
 refine pU 13 (some 20) (bz 25 0x3fff) HT_ ?_
 refine pU 14 (some 21) (bz 25 0x7fff) HT_ ?_
 refine pA 15 (some 22) (bz 25 0xffff) HT_ ?_
 refine pA 16 (some 23) (bz 25 0x1ffff) HT_ ?_
 refine pU 17 (some 24) (bz 25 0x3ffff) HT_ ?_
 refine pU 18 (some 25) (bz 25 0x7ffff) HT_ ?_
 refine pU 19 (some 26) (bz 25 0xfffff) HT_ ?_
 refine pU 20 (some 27) (bz 25 0x1fffff) HT_ ?_
 refine pU 21 (some 28) (bz 25 0x3fffff) HT_ ?_
 refine pU 22 (some 29) (bz 25 0x7fffff) HT_ ?_
 refine pA 23 (some 30) (bz 25 0xffffff) HT_ ?_
 refine pA 24 (some 6) (bz 25 0x1ffffff) HT_ ?_
 refine done_ (done_of HT_.out (by kernel_rfl)) ?_
 try go_wp2
 go_ret
 exact ⟨y0_16, UpW.out⟩

/-! ### spec_Vote: function 34 -/
def spec_Vote.f (k : Nat) (a0_0 : Int) (a0_1 : Int) (a1_0 : Int) (a1_1 : Int) (a1_2 : Int) (a1_3 : ByteArray) (l1_4 : List Int) (a1_5 : ByteArray) (a2_0 : ByteArray) (a2_1 : Int) (a2_2 : ByteArray) (l2_3 : List Int) : Option (Int × Int × Int × ByteArray × List Int × ByteArray × Bool) := (spec_l11Copy.f a1_0 a1_1 a1_2 a1_3 l1_4 a1_5).bind fun bt480 => ((spec_MayVote.f k a0_0 a0_1 a1_0 a1_1 a1_2 a1_3 l1_4 a1_5 a2_0 a2_1 a2_2 l2_3).bind fun t489 => (if t489 = true then ((spec_ViewOf.f k a2_0).bind fun t490 => (some (t490, bt480.2.1, bt480.2.2.1, bt480.2.2.2.1, bt480.2.2.2.2.1, bt480.2.2.2.2.2, true))) else (some (bt480.1, bt480.2.1, bt480.2.2.1, bt480.2.2.2.1, bt480.2.2.2.2.1, bt480.2.2.2.2.2, false))))
theorem spec_Vote.mono : ∀ a0 a1 a2 a3 a4 a5 a6 a7 a8 a9 a10 a11 k, LeO (spec_Vote.f k a0 a1 a2 a3 a4 a5 a6 a7 a8 a9 a10 a11) (spec_Vote.f (k + 1) a0 a1 a2 a3 a4 a5 a6 a7 a8 a9 a10 a11) := by
 intro a0 a1 a2 a3 a4 a5 a6 a7 a8 a9 a10 a11 k
 unfold spec_Vote.f
 repeat' first | (with_reducible exact spec_MayVote.mono _ _ _ _ _ _ _ _ _ _ _ _ _) | (with_reducible exact spec_ViewOf.mono _ _) | (with_reducible exact LeO.refl _) | (with_reducible exact LeO.none _) | (with_reducible refine LeO.ite ?_ ?_) | (with_reducible refine LeO.bind ?_ (fun _ => ?_))
set_option maxHeartbeats 8000000 in
set_option maxRecDepth 100000 in
theorem spec_Vote.calls (k : Nat) (a0_0 : Int) (a0_1 : Int) (a1_0 : Int) (a1_1 : Int) (a1_2 : Int) (a1_3 : ByteArray) (A1_4 : Option Addr) (c1_4 : Nat) (l1_4 : List Int) (a1_5 : ByteArray) (a2_0 : ByteArray) (a2_1 : Int) (a2_2 : ByteArray) (A2_3 : Option Addr) (c2_3 : Nat) (l2_3 : List Int) (r1 : Int) (r2 : Int) (r3 : Int) (r4 : ByteArray) (r5 : List Int) (r6 : ByteArray) (r7 : Bool) (w : World) (hr1_4 : Kd.C (Kd.int .i64) w A1_4 l1_4.length l1_4) (hc1_4 : l1_4.length ≤ c1_4) (hr2_3 : Kd.C (Kd.int .i64) w A2_3 l2_3.length l2_3) (hc2_3 : l2_3.length ≤ c2_3) (h : spec_Vote.f k a0_0 a0_1 a1_0 a1_1 a1_2 a1_3 l1_4 a1_5 a2_0 a2_1 a2_2 l2_3 = some (r1, r2, r3, r4, r5, r6, r7)) :
  Calls Tryz.prog 34 #[.agg #[.int .i64 a0_0, .int .i64 a0_1], .agg #[.int .i64 a1_0, .int .i64 a1_1, .int .i64 a1_2, .string a1_3, .slice A1_4 l1_4.length c1_4, .string a1_5], .agg #[.string a2_0, .int .i64 a2_1, .string a2_2, .slice A2_3 l2_3.length c2_3]] w fun e w' => ∃ v4_ : Value, e = .returned (.tuple #[.agg #[.int .i64 r1, .int .i64 r2, .int .i64 r3, .string r4, v4_, .string r6], .bool r7]) ∧ Kd.R (Kd.int .i64) 3 w' w.heap.size (fun _ => True) v4_ r5 ∧ Below w.heap.size w w' := by
 have hu32 := Tryz.underlying32; have hu29 := Tryz.underlying29; have hu60 := Tryz.underlying60; have HR1_4 := Aside0.mk hr1_4; have HC1_4 := Aside0.mk hc1_4; clear hr1_4 hc1_4; have HR2_3 := Aside0.mk hr2_3; have HC2_3 := Aside0.mk hc2_3; clear hr2_3 hc2_3; have HB := Aside0.mk (Below.refl w.heap.size w)
 have H := h; unfold spec_Vote.f at H
 clear h; obtain ⟨⟨t480, t481, t482, t483, t484, t487⟩, A4, H⟩ := oB H; (try dsimp only at H); obtain ⟨t489, A5, H⟩ := oB H; (try dsimp only at H)
 go_enter Tryz.func34, Tryz.ntmps34
 have H' := Aside0.mk H; clear H
 go_upto_if 15 with (first | ((with_reducible refine gd 3 ?_); refine bL 3 #[.int .i64 a0_0, .int .i64 a0_1] 32 ?_; intro gb476 w6 _ _ _) | ((with_reducible refine gd 4 ?_); refine bL 4 #[.int .i64 a1_0, .int .i64 a1_1, .int .i64 a1_2, .string a1_3, .slice A1_4 l1_4.length c1_4, .string a1_5] 29 ?_; intro gb477 w7 _ _ _) | ((with_reducible refine gd 5 ?_); refine bL 5 #[.string a2_0, .int .i64 a2_1, .string a2_2, .slice A2_3 l2_3.length c2_3] 60 ?_; intro gb478 w8 _ _ _) | ((with_reducible refine gd 6 ?_); refine bL 6 #[.int .i64 0, .int .i64 0, .int .i64 0, .string (⟨#[]⟩ : ByteArray), .slice none 0 0, .string (⟨#[]⟩ : ByteArray)] 29 ?_; intro gb479 w9 _ _ _) | ((with_reducible refine gate_callee (f := 125) rfl ?_); refine gC1 (some 10) Tryz.func125 (spec_l11Copy.calls (hr0_4 := pC HR1_4) (hc0_4 := HC1_4.out) (w := _) (h := A4.out)) ?_; intro Ao485 co485 w10 _ HO486) | ((with_reducible refine gd 8 ?_); refine bL 8 #[.int .i64 0, .int .i64 0, .int .i64 0, .string (⟨#[]⟩ : ByteArray), .slice none 0 0, .string (⟨#[]⟩ : ByteArray)] 29 ?_; intro gb488 w11 _ _ _) | ((with_reducible refine gate_callee (f := 126) rfl ?_); refine gC (some 14) Tryz.func126 (spec_MayVote.calls (hr1_4 := pC HR1_4) (hc1_4 := HC1_4.out) (hr2_3 := pC HR2_3) (hc2_3 := HC2_3.out) (w := _) (h := A5.out)) ?_; intro w12 _))
 have H := H'.out; clear H'
 by_cases c13 : t489 = true
 ·
  subst c13
  rw [if_pos rfl] at H
  obtain ⟨t490, A14, H⟩ := oB H; (try dsimp only at H)
  simp only [Option.some.injEq, Prod.mk.injEq] at H
  obtain ⟨rfl, rfl, rfl, rfl, rfl, rfl, rfl⟩ := H
  go_wp2_with (first | ((with_reducible refine gate_callee (f := 127) rfl ?_); refine gC (some 19) Tryz.func127 (spec_ViewOf.calls (w := _) (h := A14.out)) ?_; intro w15 _))
  refine bodyPost_ret (results_ct rfl _ _ gb479 29 #[.int .i64 t490, .int .i64 t481, .int .i64 t482, .string t483, .slice Ao485 t484.length co485, .string t487] (0, 0) _ rfl xB Tryz.underlying29 rfl (by kernel_rfl)) rfl ?_
  exact ⟨_, y0_16, rR HO486, UpW.out⟩
 replace c13 := Bool.eq_false_iff.mpr c13; subst c13
 rw [if_neg (show ¬ (false = true) by decide)] at H
 simp only [Option.some.injEq, Prod.mk.injEq] at H
 obtain ⟨rfl, rfl, rfl, rfl, rfl, rfl, rfl⟩ := H
 go_wp2
 refine bodyPost_ret (results_ct rfl _ _ gb479 29 #[.int .i64 t480, .int .i64 t481, .int .i64 t482, .string t483, .slice Ao485 t484.length co485, .string t487] (0, 0) _ rfl xB Tryz.underlying29 rfl (by kernel_rfl)) rfl ?_
 exact ⟨_, y0_16, rR HO486, UpW.out⟩

/-! ### spec_Settles: function 38 -/
def spec_Settles.j0 : Nat → ByteArray → Bool → Option (ByteArray × Bool)
 | 0, _, _ => none
 | k + 1, x0, x51 => if x51 = true then (some ((⟨#[]⟩ : ByteArray), false)) else ((spec_UpOf.f k x0).bind fun t499 => ((spec_UpOf.f k t499).bind fun t500 => (some (t500, true))))
def spec_Settles.f (k : Nat) (a0 : ByteArray) : Option (ByteArray × Bool) := (spec_Steps.f k a0).bind fun bt491 => (if bt491.2 = true then (if (bt491.1.length : Int) < 3 then (spec_Settles.j0 k a0 true) else (if 0 ≤ (wrap64 ((bt491.1.length : Int) - 1)) then (if (wrap64 ((bt491.1.length : Int) - 1)) < (bt491.1.length : Int) then (if 0 ≤ (wrap64 ((bt491.1.length : Int) - 2)) then (if (wrap64 ((bt491.1.length : Int) - 2)) < (bt491.1.length : Int) then (if ((rd_T150 bt491.1 (wrap64 ((bt491.1.length : Int) - 1))).f0) = (wrap64 (((rd_T150 bt491.1 (wrap64 ((bt491.1.length : Int) - 2))).f0) + 1)) then (if 0 ≤ (wrap64 ((bt491.1.length : Int) - 3)) then (if (wrap64 ((bt491.1.length : Int) - 3)) < (bt491.1.length : Int) then (spec_Settles.j0 k a0 (((rd_T150 bt491.1 (wrap64 ((bt491.1.length : Int) - 2))).f0) != (wrap64 (((rd_T150 bt491.1 (wrap64 ((bt491.1.length : Int) - 3))).f0) + 1)))) else (none)) else (none)) else (spec_Settles.j0 k a0 true)) else (none)) else (none)) else (none)) else (none))) else (spec_Settles.j0 k a0 true))
theorem spec_Settles.mono_l : ∀ k, (∀ y0 y1, LeO (spec_Settles.j0 k y0 y1) (spec_Settles.j0 (k + 1) y0 y1))
 | 0 => fun _ _ r h => by simp [spec_Settles.j0] at h
 | k + 1 => by
  have ih0 := spec_Settles.mono_l k
  intro y0 y1
  unfold spec_Settles.j0
  repeat' first | (with_reducible exact ih0 _ _) | (with_reducible exact spec_Steps.mono _ _) | (with_reducible exact spec_UpOf.mono _ _) | (with_reducible exact LeO.refl _) | (with_reducible exact LeO.none _) | (with_reducible refine LeO.ite ?_ ?_) | (with_reducible refine LeO.bind ?_ (fun _ => ?_))
theorem spec_Settles.mono : ∀ a0 k, LeO (spec_Settles.f k a0) (spec_Settles.f (k + 1) a0) := by
 intro a0 k
 have ih0 := spec_Settles.mono_l k
 unfold spec_Settles.f
 repeat' first | (with_reducible exact ih0 _ _) | (with_reducible exact spec_Steps.mono _ _) | (with_reducible exact spec_UpOf.mono _ _) | (with_reducible exact LeO.refl _) | (with_reducible exact LeO.none _) | (with_reducible refine LeO.ite ?_ ?_) | (with_reducible refine LeO.bind ?_ (fun _ => ?_))
set_option maxHeartbeats 8000000 in
set_option maxRecDepth 100000 in
theorem spec_Settles.calls (k : Nat) (a0 : ByteArray) (r1 : ByteArray) (r2 : Bool) (w : World) (h : spec_Settles.f k a0 = some (r1, r2)) :
  Calls Tryz.prog 38 #[.string a0] w fun e w' => e = .returned (.tuple #[.string r1, .bool r2]) ∧ Below w.heap.size w w' := by
 have HB := Aside0.mk (Below.refl w.heap.size w)
 have H := h; unfold spec_Settles.f at H
 clear h; obtain ⟨⟨t491, t492⟩, A2, H⟩ := oB H; (try dsimp only at H); have HC3 := Aside0.mk H; clear H
 go_enter Tryz.func38, Tryz.ntmps38
 go_upto_region 3 with (first | (go_at_call 131; (with_reducible refine (spec_Steps.calls k a0 t491 t492 _ A2.out).mono ?_); rintro e w4 ⟨v493, rfl, ho0, hb⟩; have HO494 := Aside0.mk (Kd.S_lower ho0 (below_size (bI HB.out))); replace HB := bs HB hb; (try clear hb); (try clear ho0); obtain ⟨Ao5, co5, eo5⟩ := Kd.S_slice HO494.out; subst eo5))
 repeat (go_quiet (first | (go_at_call 131; (with_reducible refine (spec_Steps.calls k a0 t491 t492 _ A2.out).mono ?_); rintro e w4 ⟨v493, rfl, ho0, hb⟩; have HO494 := Aside0.mk (Kd.S_lower ho0 (below_size (bI HB.out))); replace HB := bs HB hb; (try clear hb); (try clear ho0); obtain ⟨Ao5, co5, eo5⟩ := Kd.S_slice HO494.out; subst eo5)); go_upto_region 3 with (first | (go_at_call 131; (with_reducible refine (spec_Steps.calls k a0 t491 t492 _ A2.out).mono ?_); rintro e w4 ⟨v493, rfl, ho0, hb⟩; have HO494 := Aside0.mk (Kd.S_lower ho0 (below_size (bI HB.out))); replace HB := bs HB hb; (try clear hb); (try clear ho0); obtain ⟨Ao5, co5, eo5⟩ := Kd.S_slice HO494.out; subst eo5)))
 (try simp only [Act.put, List.setIfInBounds_toArray, List.set_cons_zero, List.set_cons_succ])
 go_cut [51] (fun v51 wc => ∃ (kq : Nat) (x51_2 : Bool), v51 = .bool x51_2 ∧ Aside0 (spec_Settles.j0 kq a0 x51_2 = some (r1, r2)) ∧ Aside0 (kq ≤ k) ∧ Aside0 (Below w.heap.size w wc))
 case first =>
  have H := HC3.out; clear HC3
  by_cases c6 : t492 = true
  ·
   subst c6
   rw [if_pos rfl] at H
   by_cases c7 : (t491.length : Int) < 3
   ·
    rw [if_pos c7] at H
    have c7b0 : decide ((t491.length : Int) < 3) = true := decide_eq_true c7
    have c7b1 : decide (t491.length < 3) = true := decide_eq_true (by omega)
    clear c7
    (first | rw [c7b0] | (simp only [i64_w, i32_w]; rw [c7b0]) | skip)
    have H' := Aside0.mk H; clear H
    go_wp2
    repeat (go_quiet (fail); try go_wp2)
    go_meet
    case rel => exact ⟨_, (true), y0_16, H', ⟨y0_17⟩, ⟨bI HB.out⟩⟩
   rw [if_neg c7] at H
   have c7b0 : decide ((t491.length : Int) < 3) = false := decide_eq_false c7
   have c7b1 : decide (t491.length < 3) = false := decide_eq_false (by omega)
   clear c7
   (first | rw [c7b0] | (simp only [i64_w, i32_w]; rw [c7b0]) | skip)
   obtain ⟨ji8, hji8⟩ : ∃ j_ : Int, (wrap64 ((t491.length : Int) - 1)) = j_ := ⟨_, rfl⟩
   replace H : (if 0 ≤ (ji8) then (if (ji8) < (t491.length : Int) then (if 0 ≤ (wrap64 ((t491.length : Int) - 2)) then (if (wrap64 ((t491.length : Int) - 2)) < (t491.length : Int) then (if ((rd_T150 t491 (ji8)).f0) = (wrap64 (((rd_T150 t491 (wrap64 ((t491.length : Int) - 2))).f0) + 1)) then (if 0 ≤ (wrap64 ((t491.length : Int) - 3)) then (if (wrap64 ((t491.length : Int) - 3)) < (t491.length : Int) then (spec_Settles.j0 k a0 (((rd_T150 t491 (wrap64 ((t491.length : Int) - 2))).f0) != (wrap64 (((rd_T150 t491 (wrap64 ((t491.length : Int) - 3))).f0) + 1)))) else (none)) else (none)) else (spec_Settles.j0 k a0 true)) else (none)) else (none)) else (none)) else (none)) = some (r1, r2) := by first | (rw [hji8] at H; exact H) | (simp only [hji8] at H ⊢; exact H)
   have hji8w : (IntKind.i64.wrap ((t491.length : Int) - 1)) = ji8 := (i64_w _).trans hji8
   by_cases c9 : 0 ≤ (ji8)
   rotate_left
   ·
    rw [if_neg c9] at H
    exact absurd H (by simp)
   rw [if_pos c9] at H
   have c9b0 : decide (0 ≤ (ji8)) = true := decide_eq_true c9; clear c9
   by_cases c10 : (ji8) < (t491.length : Int)
   rotate_left
   ·
    rw [if_neg c10] at H
    exact absurd H (by simp)
   rw [if_pos c10] at H
   have c10b0 : decide ((ji8) < (t491.length : Int)) = true := decide_eq_true c10; clear c10; obtain ⟨ji11, hji11⟩ : ∃ j_ : Int, (wrap64 ((t491.length : Int) - 2)) = j_ := ⟨_, rfl⟩
   replace H : (if 0 ≤ (ji11) then (if (ji11) < (t491.length : Int) then (if ((rd_T150 t491 (ji8)).f0) = (wrap64 (((rd_T150 t491 (ji11)).f0) + 1)) then (if 0 ≤ (wrap64 ((t491.length : Int) - 3)) then (if (wrap64 ((t491.length : Int) - 3)) < (t491.length : Int) then (spec_Settles.j0 k a0 (((rd_T150 t491 (ji11)).f0) != (wrap64 (((rd_T150 t491 (wrap64 ((t491.length : Int) - 3))).f0) + 1)))) else (none)) else (none)) else (spec_Settles.j0 k a0 true)) else (none)) else (none)) = some (r1, r2) := by first | (rw [hji11] at H; exact H) | (simp only [hji11] at H ⊢; exact H)
   have hji11w : (IntKind.i64.wrap ((t491.length : Int) - 2)) = ji11 := (i64_w _).trans hji11
   by_cases c12 : 0 ≤ (ji11)
   rotate_left
   ·
    rw [if_neg c12] at H
    exact absurd H (by simp)
   rw [if_pos c12] at H
   have c12b0 : decide (0 ≤ (ji11)) = true := decide_eq_true c12; clear c12
   by_cases c13 : (ji11) < (t491.length : Int)
   rotate_left
   ·
    rw [if_neg c13] at H
    exact absurd H (by simp)
   rw [if_pos c13] at H
   have c13b0 : decide ((ji11) < (t491.length : Int)) = true := decide_eq_true c13; clear c13
   by_cases c14 : ((rd_T150 t491 (ji8)).f0) = (wrap64 (((rd_T150 t491 (ji11)).f0) + 1))
   ·
    rw [if_pos c14] at H
    have c14b0 : (((rd_T150 t491 (ji8)).f0) == (wrap64 (((rd_T150 t491 (ji11)).f0) + 1))) = true := beq_iff_eq.mpr c14; have c14b1 : (((rd_T150 t491 (ji8)).f0) != (wrap64 (((rd_T150 t491 (ji11)).f0) + 1))) = false := bne_eq_false_iff_eq.mpr c14; clear c14; obtain ⟨ji15, hji15⟩ : ∃ j_ : Int, (wrap64 ((t491.length : Int) - 3)) = j_ := ⟨_, rfl⟩
    replace H : (if 0 ≤ (ji15) then (if (ji15) < (t491.length : Int) then (spec_Settles.j0 k a0 (((rd_T150 t491 (ji11)).f0) != (wrap64 (((rd_T150 t491 (ji15)).f0) + 1)))) else (none)) else (none)) = some (r1, r2) := by first | (rw [hji15] at H; exact H) | (simp only [hji15] at H ⊢; exact H)
    have hji15w : (IntKind.i64.wrap ((t491.length : Int) - 3)) = ji15 := (i64_w _).trans hji15
    by_cases c16 : 0 ≤ (ji15)
    rotate_left
    ·
     rw [if_neg c16] at H
     exact absurd H (by simp)
    rw [if_pos c16] at H
    have c16b0 : decide (0 ≤ (ji15)) = true := decide_eq_true c16; clear c16
    by_cases c17 : (ji15) < (t491.length : Int)
    rotate_left
    ·
     rw [if_neg c17] at H
     exact absurd H (by simp)
    rw [if_pos c17] at H
    have c17b0 : decide ((ji15) < (t491.length : Int)) = true := decide_eq_true c17; clear c17; have H' := Aside0.mk H; clear H; have p495 : 0 ≤ ((ji8) : Int) := of_decide_eq_true y0_15; have q495 : (ji8) < (t491.length : Int) := of_decide_eq_true y0_15; obtain ⟨ad495, A495_1, c495_1, e495, hx495_0, hx495_1, hl495_1, hi495_1⟩ := at_T150 (Kd.S_reads' HO494.out).2.2 (ji8) p495 q495; cases e495
    obtain ⟨ce495, hce495, hMe495, hcc495⟩ := Kd.S_get HO494.out z150 (ji8) p495 (by first | exact q495 | exact of_decide_eq_true y0_15 | (have e_ := (Kd.S_reads' HO494.out).1; omega))
    obtain ⟨ve495_1, rfl, ge495_1⟩ := k150_openM hMe495; have hv495_1 := hcc495 1 _ rfl
    rw [add_field _ _ 1 (by omega)] at hv495_1
    replace hv495_1 := Option.some.inj (hv495_1.symm.trans hx495_1)
    rw [hv495_1] at ge495_1
    have HL495_1 := Aside0.mk (show Kd.R k204 204 _ _ _ _ ((rd_T150 t491 (ji8)).f1) from ge495_1)
    clear hv495_1 ge495_1; clear hcc495 hce495; have HR495_1 := Aside0.mk hi495_1; have HC495_1 := Aside0.mk hl495_1; clear hi495_1 hl495_1; replace p495 := eq_true p495; replace q495 := eq_true q495; have p496 : 0 ≤ ((ji11) : Int) := of_decide_eq_true y0_15; have q496 : (ji11) < (t491.length : Int) := of_decide_eq_true y0_15; obtain ⟨ad496, A496_1, c496_1, e496, hx496_0, hx496_1, hl496_1, hi496_1⟩ := at_T150 (Kd.S_reads' HO494.out).2.2 (ji11) p496 q496
    obtain rfl : ad495 = ad496 := (by injection e496)
    obtain ⟨ce496, hce496, hMe496, hcc496⟩ := Kd.S_get HO494.out z150 (ji11) p496 (by first | exact q496 | exact of_decide_eq_true y0_15 | (have e_ := (Kd.S_reads' HO494.out).1; omega))
    obtain ⟨ve496_1, rfl, ge496_1⟩ := k150_openM hMe496; have hv496_1 := hcc496 1 _ rfl
    rw [add_field _ _ 1 (by omega)] at hv496_1
    replace hv496_1 := Option.some.inj (hv496_1.symm.trans hx496_1)
    rw [hv496_1] at ge496_1
    have HL496_1 := Aside0.mk (show Kd.R k204 204 _ _ _ _ ((rd_T150 t491 (ji11)).f1) from ge496_1)
    clear hv496_1 ge496_1; clear hcc496 hce496; have HR496_1 := Aside0.mk hi496_1; have HC496_1 := Aside0.mk hl496_1; clear hi496_1 hl496_1; replace p496 := eq_true p496; replace q496 := eq_true q496; have p497 : 0 ≤ ((ji11) : Int) := of_decide_eq_true y0_15; have q497 : (ji11) < (t491.length : Int) := of_decide_eq_true y0_15; obtain ⟨ad497, A497_1, c497_1, e497, hx497_0, hx497_1, hl497_1, hi497_1⟩ := at_T150 (Kd.S_reads' HO494.out).2.2 (ji11) p497 q497
    obtain rfl : ad495 = ad497 := (by injection e497)
    obtain ⟨ce497, hce497, hMe497, hcc497⟩ := Kd.S_get HO494.out z150 (ji11) p497 (by first | exact q497 | exact of_decide_eq_true y0_15 | (have e_ := (Kd.S_reads' HO494.out).1; omega))
    obtain ⟨ve497_1, rfl, ge497_1⟩ := k150_openM hMe497; have hv497_1 := hcc497 1 _ rfl
    rw [add_field _ _ 1 (by omega)] at hv497_1
    replace hv497_1 := Option.some.inj (hv497_1.symm.trans hx497_1)
    rw [hv497_1] at ge497_1
    have HL497_1 := Aside0.mk (show Kd.R k204 204 _ _ _ _ ((rd_T150 t491 (ji11)).f1) from ge497_1)
    clear hv497_1 ge497_1; clear hcc497 hce497; have HR497_1 := Aside0.mk hi497_1; have HC497_1 := Aside0.mk hl497_1; clear hi497_1 hl497_1; replace p497 := eq_true p497; replace q497 := eq_true q497; have ea_ := Option.some.inj (hx496_1.symm.trans hx497_1)
    injection ea_ with ea_ en_ ec_
    subst ea_; subst ec_; clear en_; have p498 : 0 ≤ ((ji15) : Int) := of_decide_eq_true y0_15; have q498 : (ji15) < (t491.length : Int) := of_decide_eq_true y0_15; obtain ⟨ad498, A498_1, c498_1, e498, hx498_0, hx498_1, hl498_1, hi498_1⟩ := at_T150 (Kd.S_reads' HO494.out).2.2 (ji15) p498 q498
    obtain rfl : ad495 = ad498 := (by injection e498)
    obtain ⟨ce498, hce498, hMe498, hcc498⟩ := Kd.S_get HO494.out z150 (ji15) p498 (by first | exact q498 | exact of_decide_eq_true y0_15 | (have e_ := (Kd.S_reads' HO494.out).1; omega))
    obtain ⟨ve498_1, rfl, ge498_1⟩ := k150_openM hMe498; have hv498_1 := hcc498 1 _ rfl
    rw [add_field _ _ 1 (by omega)] at hv498_1
    replace hv498_1 := Option.some.inj (hv498_1.symm.trans hx498_1)
    rw [hv498_1] at ge498_1
    have HL498_1 := Aside0.mk (show Kd.R k204 204 _ _ _ _ ((rd_T150 t491 (ji15)).f1) from ge498_1)
    clear hv498_1 ge498_1; clear hcc498 hce498; have HR498_1 := Aside0.mk hi498_1; have HC498_1 := Aside0.mk hl498_1; clear hi498_1 hl498_1; replace p498 := eq_true p498; replace q498 := eq_true q498
    go_wp2
    repeat (go_quiet (fail); try go_wp2)
    go_meet
    case rel => exact ⟨_, ((((rd_T150 t491 (ji11)).f0) != (wrap64 (((rd_T150 t491 (ji15)).f0) + 1)))), (by first | rfl | (simp; done) | (simp only [← hji11, ← hji15] <;> (first | rfl | simp)) | (simp [*]; done)), H', ⟨y0_17⟩, ⟨bI HB.out⟩⟩
   rw [if_neg c14] at H
   have c14b0 : (((rd_T150 t491 (ji8)).f0) == (wrap64 (((rd_T150 t491 (ji11)).f0) + 1))) = false := beq_eq_false_iff_ne.mpr c14; have c14b1 : (((rd_T150 t491 (ji8)).f0) != (wrap64 (((rd_T150 t491 (ji11)).f0) + 1))) = true := bne_iff_ne.mpr c14; have H' := Aside0.mk H; clear H; have p495 : 0 ≤ ((ji8) : Int) := of_decide_eq_true y0_15; have q495 : (ji8) < (t491.length : Int) := of_decide_eq_true y0_15; obtain ⟨ad495, A495_1, c495_1, e495, hx495_0, hx495_1, hl495_1, hi495_1⟩ := at_T150 (Kd.S_reads' HO494.out).2.2 (ji8) p495 q495; cases e495
   obtain ⟨ce495, hce495, hMe495, hcc495⟩ := Kd.S_get HO494.out z150 (ji8) p495 (by first | exact q495 | exact of_decide_eq_true y0_15 | (have e_ := (Kd.S_reads' HO494.out).1; omega))
   obtain ⟨ve495_1, rfl, ge495_1⟩ := k150_openM hMe495; have hv495_1 := hcc495 1 _ rfl
   rw [add_field _ _ 1 (by omega)] at hv495_1
   replace hv495_1 := Option.some.inj (hv495_1.symm.trans hx495_1)
   rw [hv495_1] at ge495_1
   have HL495_1 := Aside0.mk (show Kd.R k204 204 _ _ _ _ ((rd_T150 t491 (ji8)).f1) from ge495_1)
   clear hv495_1 ge495_1; clear hcc495 hce495; have HR495_1 := Aside0.mk hi495_1; have HC495_1 := Aside0.mk hl495_1; clear hi495_1 hl495_1; replace p495 := eq_true p495; replace q495 := eq_true q495; have p496 : 0 ≤ ((ji11) : Int) := of_decide_eq_true y0_15; have q496 : (ji11) < (t491.length : Int) := of_decide_eq_true y0_15; obtain ⟨ad496, A496_1, c496_1, e496, hx496_0, hx496_1, hl496_1, hi496_1⟩ := at_T150 (Kd.S_reads' HO494.out).2.2 (ji11) p496 q496
   obtain rfl : ad495 = ad496 := (by injection e496)
   obtain ⟨ce496, hce496, hMe496, hcc496⟩ := Kd.S_get HO494.out z150 (ji11) p496 (by first | exact q496 | exact of_decide_eq_true y0_15 | (have e_ := (Kd.S_reads' HO494.out).1; omega))
   obtain ⟨ve496_1, rfl, ge496_1⟩ := k150_openM hMe496; have hv496_1 := hcc496 1 _ rfl
   rw [add_field _ _ 1 (by omega)] at hv496_1
   replace hv496_1 := Option.some.inj (hv496_1.symm.trans hx496_1)
   rw [hv496_1] at ge496_1
   have HL496_1 := Aside0.mk (show Kd.R k204 204 _ _ _ _ ((rd_T150 t491 (ji11)).f1) from ge496_1)
   clear hv496_1 ge496_1; clear hcc496 hce496; have HR496_1 := Aside0.mk hi496_1; have HC496_1 := Aside0.mk hl496_1; clear hi496_1 hl496_1; replace p496 := eq_true p496; replace q496 := eq_true q496
   go_wp2
   repeat (go_quiet (fail); try go_wp2)
   go_meet
   case rel => exact ⟨_, (true), y0_16, H', ⟨y0_17⟩, ⟨bI HB.out⟩⟩
  replace c6 := Bool.eq_false_iff.mpr c6; subst c6
  rw [if_neg (show ¬ (false = true) by decide)] at H
  have H' := Aside0.mk H; clear H
  go_wp2
  repeat (go_quiet (fail); try go_wp2)
  go_meet
  case rel => exact ⟨_, (true), y0_16, H', ⟨y0_17⟩, ⟨bI HB.out⟩⟩
 case rest =>
  clear HC3
  try clear c1
  try clear p2
  try clear c3
  try clear c4
  try clear p4
  try clear q4
  try clear hx4
  try clear c6
  try clear p6
  try clear c7
  try clear c7b0
  try clear c7b1
  try clear c9
  try clear c9b0
  try clear c10
  try clear c10b0
  try clear c12
  try clear c12b0
  try clear c13
  try clear c13b0
  try clear c14
  try clear c14b0
  try clear c14b1
  try clear c16
  try clear c16b0
  try clear c17
  try clear c17b0
  try clear hx495_0
  try clear hx495_1
  try clear hx496_0
  try clear hx496_1
  try clear hx497_0
  try clear hx497_1
  try clear hx498_0
  try clear hx498_1
  try clear p495
  try clear p496
  try clear p497
  try clear p498
  try clear q495
  try clear q496
  try clear q497
  try clear q498
  obtain ⟨kq, x51_2, rfl, HA, HJ2, HB⟩ := hcut; cases kq with
  | zero => exact absurd HA.out (by simp [spec_Settles.j0])
  | succ kj2 =>
   have H := HA.out; clear HA
   simp only [spec_Settles.j0] at H
   by_cases c18 : x51_2 = true
   ·
    subst c18
    rw [if_pos rfl] at H
    simp only [Option.some.injEq, Prod.mk.injEq] at H
    obtain ⟨rfl, rfl⟩ := H
    go_wp2
    repeat (go_quiet (fail); try go_wp2)
    go_ret2
    exact ⟨y0_11, bI HB.out⟩
   replace c18 := Bool.eq_false_iff.mpr c18; subst c18
   rw [if_neg (show ¬ (false = true) by decide)] at H
   obtain ⟨t499, A19, H⟩ := oB H; (try dsimp only at H); obtain ⟨t500, A20, H⟩ := oB H; (try dsimp only at H)
   simp only [Option.some.injEq, Prod.mk.injEq] at H
   obtain ⟨rfl, rfl⟩ := H
   go_wp2_with (first | (go_at_call 132; (with_reducible refine (spec_UpOf.calls kj2 a0 t499 _ A19.out).mono ?_); rintro e w21 ⟨rfl, hb⟩; replace HB := bs HB hb; (try clear hb); (try clear hb2); (try clear hk); (try clear hi)) | (go_at_call 132; (with_reducible refine (spec_UpOf.calls kj2 t499 t500 _ A20.out).mono ?_); rintro e w22 ⟨rfl, hb⟩; replace HB := bs HB hb; (try clear hb); (try clear hb2); (try clear hk); (try clear hi)))
   repeat (go_quiet (first | (go_at_call 132; (with_reducible refine (spec_UpOf.calls kj2 a0 t499 _ A19.out).mono ?_); rintro e w21 ⟨rfl, hb⟩; replace HB := bs HB hb; (try clear hb); (try clear hb2); (try clear hk); (try clear hi)) | (go_at_call 132; (with_reducible refine (spec_UpOf.calls kj2 t499 t500 _ A20.out).mono ?_); rintro e w22 ⟨rfl, hb⟩; replace HB := bs HB hb; (try clear hb); (try clear hb2); (try clear hk); (try clear hi))); try go_wp2_with (first | (go_at_call 132; (with_reducible refine (spec_UpOf.calls kj2 a0 t499 _ A19.out).mono ?_); rintro e w21 ⟨rfl, hb⟩; replace HB := bs HB hb; (try clear hb); (try clear hb2); (try clear hk); (try clear hi)) | (go_at_call 132; (with_reducible refine (spec_UpOf.calls kj2 t499 t500 _ A20.out).mono ?_); rintro e w22 ⟨rfl, hb⟩; replace HB := bs HB hb; (try clear hb); (try clear hb2); (try clear hk); (try clear hi))))
   go_ret2
   exact ⟨y0_11, bI HB.out⟩

/-! ### spec_QcLater: function 134 -/
def spec_QcLater.f (a0_0 : Int) (a0_1 : ByteArray) (l0_2 : List Int) (a1_0 : Int) (a1_1 : ByteArray) (l1_2 : List Int) : Option (Int × ByteArray × List Int) := if a0_0 > a1_0 then ((spec_l7Copy.f a0_0 a0_1 l0_2).bind fun bt504 => (some (bt504.1, bt504.2.1, bt504.2.2))) else ((spec_l7Copy.f a1_0 a1_1 l1_2).bind fun bt509 => (some (bt509.1, bt509.2.1, bt509.2.2)))
set_option maxHeartbeats 8000000 in
set_option maxRecDepth 100000 in
theorem spec_QcLater.calls (a0_0 : Int) (a0_1 : ByteArray) (A0_2 : Option Addr) (c0_2 : Nat) (l0_2 : List Int) (a1_0 : Int) (a1_1 : ByteArray) (A1_2 : Option Addr) (c1_2 : Nat) (l1_2 : List Int) (r1 : Int) (r2 : ByteArray) (r3 : List Int) (w : World) (hr0_2 : Kd.C (Kd.int .i64) w A0_2 l0_2.length l0_2) (hc0_2 : l0_2.length ≤ c0_2) (hr1_2 : Kd.C (Kd.int .i64) w A1_2 l1_2.length l1_2) (hc1_2 : l1_2.length ≤ c1_2) (h : spec_QcLater.f a0_0 a0_1 l0_2 a1_0 a1_1 l1_2 = some (r1, r2, r3)) :
  Calls Tryz.prog 134 #[.agg #[.int .i64 a0_0, .string a0_1, .slice A0_2 l0_2.length c0_2], .agg #[.int .i64 a1_0, .string a1_1, .slice A1_2 l1_2.length c1_2]] w fun e w' => ∃ v2_ : Value, e = .returned (.agg #[.int .i64 r1, .string r2, v2_]) ∧ Kd.R (Kd.int .i64) 3 w' w.heap.size (fun _ => True) v2_ r3 ∧ Below w.heap.size w w' := by
 have hu27 := Tryz.underlying27; have HR0_2 := Aside0.mk hr0_2; have HC0_2 := Aside0.mk hc0_2; clear hr0_2 hc0_2; have HR1_2 := Aside0.mk hr1_2; have HC1_2 := Aside0.mk hc1_2; clear hr1_2 hc1_2; have HB := Aside0.mk (Below.refl w.heap.size w)
 have H := h; unfold spec_QcLater.f at H
 clear h
 go_enter Tryz.func134, Tryz.ntmps134
 have H' := Aside0.mk H; clear H
 go_upto_if 9 with (first | ((with_reducible refine gd 2 ?_); refine bL 2 #[.int .i64 a0_0, .string a0_1, .slice A0_2 l0_2.length c0_2] 27 ?_; intro gb501 w3 _ _ _) | ((with_reducible refine gd 3 ?_); refine bL 3 #[.int .i64 a1_0, .string a1_1, .slice A1_2 l1_2.length c1_2] 27 ?_; intro gb502 w4 _ _ _) | ((with_reducible refine gd 4 ?_); refine bL 4 #[.int .i64 0, .string (⟨#[]⟩ : ByteArray), .slice none 0 0] 27 ?_; intro gb503 w5 _ _ _))
 have H := H'.out; clear H'
 by_cases c6 : a0_0 > a1_0
 ·
  rw [if_pos c6] at H
  have c6b0 : decide (a1_0 < a0_0) = true := decide_eq_true c6; clear c6
  (first | rw [c6b0] | (simp only [i64_w, i32_w]; rw [c6b0]) | skip)
  obtain ⟨⟨t504, t505, t506⟩, A7, H⟩ := oB H; (try dsimp only at H)
  simp only [Option.some.injEq, Prod.mk.injEq] at H
  obtain ⟨rfl, rfl, rfl⟩ := H
  go_wp2_with (first | ((with_reducible refine gate_callee (f := 164) rfl ?_); refine gC1 (some 11) Tryz.func164 (spec_l7Copy.calls (hr0_2 := pC HR0_2) (hc0_2 := HC0_2.out) (w := _) (h := A7.out)) ?_; intro Ao507 co507 w8 _ HO508))
  refine bodyPost_ret (results_cell_row rfl _ _ gb503 27 #[.int .i64 t504, .string t505, .slice Ao507 t506.length co507] (0, 0) _ rfl xB Tryz.underlying27 rfl (by kernel_rfl)) rfl ?_
  exact ⟨_, y0_16, rR HO508, UpW.out⟩
 rw [if_neg c6] at H
 have c6b0 : decide (a1_0 < a0_0) = false := decide_eq_false c6; clear c6
 (first | rw [c6b0] | (simp only [i64_w, i32_w]; rw [c6b0]) | skip)
 obtain ⟨⟨t509, t510, t511⟩, A9, H⟩ := oB H; (try dsimp only at H)
 simp only [Option.some.injEq, Prod.mk.injEq] at H
 obtain ⟨rfl, rfl, rfl⟩ := H
 go_wp2_with (first | ((with_reducible refine gate_callee (f := 164) rfl ?_); refine gC1 (some 13) Tryz.func164 (spec_l7Copy.calls (hr0_2 := pC HR1_2) (hc0_2 := HC1_2.out) (w := _) (h := A9.out)) ?_; intro Ao512 co512 w10 _ HO513))
 refine bodyPost_ret (results_cell_row rfl _ _ gb503 27 #[.int .i64 t509, .string t510, .slice Ao512 t511.length co512] (0, 0) _ rfl xB Tryz.underlying27 rfl (by kernel_rfl)) rfl ?_
 exact ⟨_, y0_16, rR HO513, UpW.out⟩

/-! ### spec_Extends: function 136 -/
theorem bt_size_spec_Extends (s t : ByteArray) : ∀ h : t.size < s.size, (((s[t.size]'h).toNat : Nat) : Int) = bt s (t.size : Int) := fun h => by
 unfold bt
 rw [dif_pos (show ((t.size : Int)).toNat < s.size by simpa using h)]
 rfl
def spec_Extends.f (k : Nat) (a0 : ByteArray) (a1 : ByteArray) : Option (Bool) := (spec_NameOk.f k a0).bind fun t514 => (if t514 = true then ((spec_NameOk.f k a1).bind fun t515 => (if t515 = true then (if (a1.size : Int) > (a0.size : Int) then (some false) else (if 0 ≤ (a1.size : Int) then (if (a1.size : Int) ≤ (a0.size : Int) then (if (a0.extract 0 ((a1.size : Int) : Int).toNat).toList = a1.toList then (if (a0.size : Int) = (a1.size : Int) then (some true) else (if (a1.size : Int) < (a0.size : Int) then (some ((bt a0 (a1.size : Int)) == 47)) else (none))) else (some false)) else (none)) else (none))) else (some false))) else (some false))
theorem spec_Extends.mono : ∀ a0 a1 k, LeO (spec_Extends.f k a0 a1) (spec_Extends.f (k + 1) a0 a1) := by
 intro a0 a1 k
 unfold spec_Extends.f
 repeat' first | (with_reducible exact spec_NameOk.mono _ _) | (with_reducible exact LeO.refl _) | (with_reducible exact LeO.none _) | (with_reducible refine LeO.ite ?_ ?_) | (with_reducible refine LeO.bind ?_ (fun _ => ?_))
set_option maxHeartbeats 8000000 in
set_option maxRecDepth 100000 in
theorem spec_Extends.calls (k : Nat) (a0 : ByteArray) (a1 : ByteArray) (r : Bool) (w : World) (h : spec_Extends.f k a0 a1 = some r) :
  Calls Tryz.prog 136 #[.string a0, .string a1] w fun e w' => e = .returned (.bool r) ∧ Below w.heap.size w w' := by
 have HB := Aside0.mk (Below.refl w.heap.size w); have hxs := bt_size_spec_Extends a0 a1
 have H := h; unfold spec_Extends.f at H
 clear h; obtain ⟨t514, A3, H⟩ := oB H; (try dsimp only at H)
 by_cases c4 : t514 = true
 ·
  subst c4
  rw [if_pos rfl] at H
  obtain ⟨t515, A5, H⟩ := oB H; (try dsimp only at H)
  by_cases c6 : t515 = true
  ·
   subst c6
   rw [if_pos rfl] at H
   by_cases c7 : (a1.size : Int) > (a0.size : Int)
   ·
    rw [if_pos c7] at H
    have c7b0 : decide ((a0.size : Int) < (a1.size : Int)) = true := decide_eq_true c7; have c7b1 : decide (a0.size < a1.size) = true := decide_eq_true (Int.ofNat_lt.mp c7); clear c7; obtain rfl := Option.some.inj H
    go_enter Tryz.func136, Tryz.ntmps136
    go_wp2_with (first | ((with_reducible refine gate_callee (f := 141) rfl ?_); refine gB (some 6) Tryz.func141 #[.string a0] ?_; (with_reducible refine (spec_NameOk.calls k a0 true _ A3.out).mono ?_); rintro e w8 ⟨rfl, hb⟩; refine ⟨_, rfl, ?_⟩; replace HB := bs HB hb; (try clear hb); (try clear hb2); (try clear hk); (try clear hi)) | (go_at_call 141; (with_reducible refine (spec_NameOk.calls k a1 true _ A5.out).mono ?_); rintro e w9 ⟨rfl, hb⟩; replace HB := bs HB hb; (try clear hb); (try clear hb2); (try clear hk); (try clear hi)))
    go_ret
    exact ⟨y0_11, bI HB.out⟩
   rw [if_neg c7] at H
   have c7b0 : decide ((a0.size : Int) < (a1.size : Int)) = false := decide_eq_false c7
   have c7b1 : decide (a0.size < a1.size) = false := decide_eq_false (fun h => c7 (Int.ofNat_lt.mpr h))
   clear c7
   by_cases c10 : 0 ≤ (a1.size : Int)
   rotate_left
   ·
    rw [if_neg c10] at H
    exact absurd H (by simp)
   rw [if_pos c10] at H
   have c10b0 := eq_true c10; have c10b1 : decide (0 ≤ (a1.size : Int)) = true := decide_eq_true c10; clear c10
   by_cases c11 : (a1.size : Int) ≤ (a0.size : Int)
   rotate_left
   ·
    rw [if_neg c11] at H
    exact absurd H (by simp)
   rw [if_pos c11] at H
   have c11b0 := eq_true c11; have c11b1 : decide ((a1.size : Int) ≤ (a0.size : Int)) = true := decide_eq_true c11; clear c11
   by_cases c12 : (a0.extract 0 ((a1.size : Int) : Int).toNat).toList = a1.toList
   ·
    rw [if_pos c12] at H
    have c12b0 : ((a0.extract 0 ((a1.size : Int) : Int).toNat).toList == a1.toList) = true := beq_iff_eq.mpr c12; have c12b0' : ((a0.extract 0 a1.size).toList == a1.toList) = true := c12b0; have c12b1 : ((a0.extract 0 ((a1.size : Int) : Int).toNat).toList != a1.toList) = false := bne_eq_false_iff_eq.mpr c12; have c12b1' : ((a0.extract 0 a1.size).toList != a1.toList) = false := c12b1; clear c12
    by_cases c13 : (a0.size : Int) = (a1.size : Int)
    ·
     rw [if_pos c13] at H
     have c13b0 : ((a0.size : Int) == (a1.size : Int)) = true := beq_iff_eq.mpr c13; have c13b1 : ((a0.size : Int) != (a1.size : Int)) = false := bne_eq_false_iff_eq.mpr c13
     have c13b2 : (a0.size == a1.size) = true := by first | simpa using c13 | (simp at c13 ⊢; omega)
     clear c13; obtain rfl := Option.some.inj H
     go_enter Tryz.func136, Tryz.ntmps136
     go_wp2_with (first | ((with_reducible refine gate_callee (f := 141) rfl ?_); refine gB (some 6) Tryz.func141 #[.string a0] ?_; (with_reducible refine (spec_NameOk.calls k a0 true _ A3.out).mono ?_); rintro e w14 ⟨rfl, hb⟩; refine ⟨_, rfl, ?_⟩; replace HB := bs HB hb; (try clear hb); (try clear hb2); (try clear hk); (try clear hi)) | (go_at_call 141; (with_reducible refine (spec_NameOk.calls k a1 true _ A5.out).mono ?_); rintro e w15 ⟨rfl, hb⟩; replace HB := bs HB hb; (try clear hb); (try clear hb2); (try clear hk); (try clear hi)))
     go_ret
     exact ⟨y0_11, bI HB.out⟩
    rw [if_neg c13] at H
    have c13b0 : ((a0.size : Int) == (a1.size : Int)) = false := beq_eq_false_iff_ne.mpr c13; have c13b1 : ((a0.size : Int) != (a1.size : Int)) = true := bne_iff_ne.mpr c13
    have c13b2 : (a0.size == a1.size) = false := by first | simpa using c13 | (simp at c13 ⊢; omega)
    by_cases c16 : (a1.size : Int) < (a0.size : Int)
    rotate_left
    ·
     rw [if_neg c16] at H
     exact absurd H (by simp)
    rw [if_pos c16] at H
    have c16b0 : decide ((a1.size : Int) < (a0.size : Int)) = true := decide_eq_true c16; have c16b1 : decide (a1.size < a0.size) = true := decide_eq_true (Int.ofNat_lt.mp c16); clear c16; obtain rfl := Option.some.inj H
    go_enter Tryz.func136, Tryz.ntmps136
    go_wp2_with (first | ((with_reducible refine gate_callee (f := 141) rfl ?_); refine gB (some 6) Tryz.func141 #[.string a0] ?_; (with_reducible refine (spec_NameOk.calls k a0 true _ A3.out).mono ?_); rintro e w18 ⟨rfl, hb⟩; refine ⟨_, rfl, ?_⟩; replace HB := bs HB hb; (try clear hb); (try clear hb2); (try clear hk); (try clear hi)) | (go_at_call 141; (with_reducible refine (spec_NameOk.calls k a1 true _ A5.out).mono ?_); rintro e w19 ⟨rfl, hb⟩; replace HB := bs HB hb; (try clear hb); (try clear hb2); (try clear hk); (try clear hi); have p17 : 0 ≤ ((a1.size : Int) : Int) := of_decide_eq_true y0_15; have q17 : (a1.size : Int) < (a0.size : Int) := of_decide_eq_true y0_15; have hx17 := bt_at a0 (a1.size : Int); replace p17 := eq_true p17; replace q17 := eq_true q17))
    go_ret
    exact ⟨y0_11, bI HB.out⟩
   rw [if_neg c12] at H
   have c12b0 : ((a0.extract 0 ((a1.size : Int) : Int).toNat).toList == a1.toList) = false := beq_eq_false_iff_ne.mpr c12; have c12b0' : ((a0.extract 0 a1.size).toList == a1.toList) = false := c12b0; have c12b1 : ((a0.extract 0 ((a1.size : Int) : Int).toNat).toList != a1.toList) = true := bne_iff_ne.mpr c12; have c12b1' : ((a0.extract 0 a1.size).toList != a1.toList) = true := c12b1; obtain rfl := Option.some.inj H
   go_enter Tryz.func136, Tryz.ntmps136
   go_wp2_with (first | ((with_reducible refine gate_callee (f := 141) rfl ?_); refine gB (some 6) Tryz.func141 #[.string a0] ?_; (with_reducible refine (spec_NameOk.calls k a0 true _ A3.out).mono ?_); rintro e w20 ⟨rfl, hb⟩; refine ⟨_, rfl, ?_⟩; replace HB := bs HB hb; (try clear hb); (try clear hb2); (try clear hk); (try clear hi)) | (go_at_call 141; (with_reducible refine (spec_NameOk.calls k a1 true _ A5.out).mono ?_); rintro e w21 ⟨rfl, hb⟩; replace HB := bs HB hb; (try clear hb); (try clear hb2); (try clear hk); (try clear hi)))
   go_ret
   exact ⟨y0_11, bI HB.out⟩
  replace c6 := Bool.eq_false_iff.mpr c6; subst c6
  rw [if_neg (show ¬ (false = true) by decide)] at H
  obtain rfl := Option.some.inj H
  go_enter Tryz.func136, Tryz.ntmps136
  go_wp2_with (first | ((with_reducible refine gate_callee (f := 141) rfl ?_); refine gB (some 6) Tryz.func141 #[.string a0] ?_; (with_reducible refine (spec_NameOk.calls k a0 true _ A3.out).mono ?_); rintro e w22 ⟨rfl, hb⟩; refine ⟨_, rfl, ?_⟩; replace HB := bs HB hb; (try clear hb); (try clear hb2); (try clear hk); (try clear hi)) | (go_at_call 141; (with_reducible refine (spec_NameOk.calls k a1 false _ A5.out).mono ?_); rintro e w23 ⟨rfl, hb⟩; replace HB := bs HB hb; (try clear hb); (try clear hb2); (try clear hk); (try clear hi)))
  go_ret
  exact ⟨y0_11, bI HB.out⟩
 replace c4 := Bool.eq_false_iff.mpr c4; subst c4
 rw [if_neg (show ¬ (false = true) by decide)] at H
 obtain rfl := Option.some.inj H
 go_enter Tryz.func136, Tryz.ntmps136
 go_wp2_with (first | ((with_reducible refine gate_callee (f := 141) rfl ?_); refine gB (some 6) Tryz.func141 #[.string a0] ?_; (with_reducible refine (spec_NameOk.calls k a0 false _ A3.out).mono ?_); rintro e w24 ⟨rfl, hb⟩; refine ⟨_, rfl, ?_⟩; replace HB := bs HB hb; (try clear hb); (try clear hb2); (try clear hk); (try clear hi)))
 go_ret
 exact ⟨y0_11, bI HB.out⟩

end Go.Proofs.YtnpbopadajbopaaGreatDoor.PFnSafe
