-- By a program of this session, out of the translation (the print of the kit, with turns of its own). Lean checks it.
import Derived.Test.YtnpbopadajbopaaGreatDoorPFnSafex0
import Derived.Test.YtnpbopadajbopaaGreatDoorPFnSafex1
import Derived.Test.YtnpbopadajbopaaGreatDoorPFnSafex4
import Derived.Test.YtnpbopadajbopaaGreatDoorPFnSafex6
import Derived.Test.YtnpbopadajbopaaGreatDoorPFnSafex10
import Derived.Test.YtnpbopadajbopaaGreatDoorPFnSafex12
import Derived.Test.YtnpbopadajbopaaGreatDoorPFnSafex13
import Derived.Test.YtnpbopadajbopaaGreatDoorPFnSafex14
namespace Go.Proofs.YtnpbopadajbopaaGreatDoor.PFnSafe
open Go.RowKit Go.Proofs.YtnpbopadajbopaaGreatDoorW.PrintWords Go.Proofs.YtnpbopadajbopaaGreatDoorW.PrintLast Go.Proofs.YtnpbopadajbopaaGreatDoorW.PrintMore
attribute [local go_sem] max2_int min2_int max_two min_two max_three min_three max_four min_four   -- for this text's walks alone
attribute [local go_sem] cell_in frozen_in
set_option synthInstance.maxSize 1000000
set_option synthInstance.maxHeartbeats 2000000
set_option linter.unusedVariables false
set_option linter.unusedSimpArgs false

/-! ### impl_MayVote: function 44 -/
def impl_MayVote.f (k : Nat) (a0_0 : Int) (a0_1 : Int) (a1_0 : Int) (a1_1 : Int) (a1_2 : Int) (a1_3 : ByteArray) (l1_4 : List Int) (a1_5 : ByteArray) (a2_0 : ByteArray) (a2_1 : Int) (a2_2 : ByteArray) (l2_3 : List Int) : Option (Bool) := (impl_SafeOk.f k a0_0 a0_1 a1_0 a1_1 a1_2 a1_3 l1_4 a1_5).bind fun t958 => (if t958 = true then ((impl_BlockOk.f k a0_0 a0_1 a2_0 a2_1 a2_2 l2_3).bind fun t959 => (if t959 = true then ((impl_ViewOf.f k a2_0).bind fun t960 => (if t960 > a1_0 then (some (decide (a2_1 ≥ a1_1))) else (some false))) else (some false))) else (some false))
theorem impl_MayVote.mono : ∀ a0 a1 a2 a3 a4 a5 a6 a7 a8 a9 a10 a11 k, LeO (impl_MayVote.f k a0 a1 a2 a3 a4 a5 a6 a7 a8 a9 a10 a11) (impl_MayVote.f (k + 1) a0 a1 a2 a3 a4 a5 a6 a7 a8 a9 a10 a11) := by
 intro a0 a1 a2 a3 a4 a5 a6 a7 a8 a9 a10 a11 k
 unfold impl_MayVote.f
 repeat' first | (with_reducible exact impl_BlockOk.mono _ _ _ _ _ _ _) | (with_reducible exact impl_SafeOk.mono _ _ _ _ _ _ _ _ _) | (with_reducible exact impl_ViewOf.mono _ _) | (with_reducible exact LeO.refl _) | (with_reducible exact LeO.none _) | (with_reducible refine LeO.ite ?_ ?_) | (with_reducible refine LeO.bind ?_ (fun _ => ?_))
def impl_MayVote.T1 : Bool × List (List Nat × List Nat) := (true, [([], []), ([], []), ([0, 1], [0, 1]), ([2, 2], [2]), ([3], [3]), ([3], [3]), ([4, 5, 3, 3], [3, 4, 5]), ([3, 6], [3, 6]), ([7, 6], [7]), ([8], [8]), ([9, 8], [8, 9]), ([10, 8, 8], [8, 10]), ([8], [8]), ([12, 8], [8, 12]), ([11, 13, 8], [8, 11, 13]), ([8, 14], [8, 14]), ([15, 11], [15]), ([16], [16]), ([17, 16], [16, 17]), ([18, 16], [16, 18]), ([16], [16]), ([20, 16], [16, 20]), ([19, 21, 16], [16, 19, 21]), ([16, 22], [16, 22]), ([23, 16, 0, 1, 2, 3, 4, 5, 6, 7, 8, 9, 10, 11, 12, 13, 14, 15, 16, 17, 18, 19, 20, 21, 22, 23], [23])])
def impl_MayVote.B1 : List Nat := [0, 0, 3, 7, 15, 15, 63, 127, 255, 511, 1023, 2047, 511, 4607, 16383, 32767, 65535, 131071, 262143, 524287, 131071, 1179647, 4194303, 8388607, 16777215]
theorem impl_MayVote.tab1 : rtab .any (opsOf Tryz.f44 1) = impl_MayVote.T1 := by kernel_rfl
theorem impl_MayVote.bits1 : waitsOk impl_MayVote.T1.2 impl_MayVote.B1 = true := by kernel_rfl
set_option maxHeartbeats 8000000 in
set_option maxRecDepth 100000 in
theorem impl_MayVote.calls (k : Nat) (a0_0 : Int) (a0_1 : Int) (a1_0 : Int) (a1_1 : Int) (a1_2 : Int) (a1_3 : ByteArray) (A1_4 : Option Addr) (c1_4 : Nat) (l1_4 : List Int) (a1_5 : ByteArray) (a2_0 : ByteArray) (a2_1 : Int) (a2_2 : ByteArray) (A2_3 : Option Addr) (c2_3 : Nat) (l2_3 : List Int) (r : Bool) (w : World) (hr1_4 : Kd.C (Kd.int .i64) w A1_4 l1_4.length l1_4) (hc1_4 : l1_4.length ≤ c1_4) (hr2_3 : Kd.C (Kd.int .i64) w A2_3 l2_3.length l2_3) (hc2_3 : l2_3.length ≤ c2_3) (h : impl_MayVote.f k a0_0 a0_1 a1_0 a1_1 a1_2 a1_3 l1_4 a1_5 a2_0 a2_1 a2_2 l2_3 = some r) (hG : Glob w := by exact gG HG HB) :
  Calls Tryz.prog 44 #[.agg #[.int .i64 a0_0, .int .i64 a0_1], .agg #[.int .i64 a1_0, .int .i64 a1_1, .int .i64 a1_2, .string a1_3, .slice A1_4 l1_4.length c1_4, .string a1_5], .agg #[.string a2_0, .int .i64 a2_1, .string a2_2, .slice A2_3 l2_3.length c2_3]] w fun e w' => e = .returned (.bool r) ∧ Below w.heap.size w w' := by
 have HG := Aside0.mk hG; clear hG; have hu32 := Tryz.underlying32; have hu29 := Tryz.underlying29; have hu60 := Tryz.underlying60; have HR1_4 := Aside0.mk hr1_4; have HC1_4 := Aside0.mk hc1_4; clear hr1_4 hc1_4; have HR2_3 := Aside0.mk hr2_3; have HC2_3 := Aside0.mk hc2_3; clear hr2_3 hc2_3; have HB := Aside0.mk (Below.refl w.heap.size w)
 have H := h; unfold impl_MayVote.f at H
 clear h
 go_enter Tryz.func44, Tryz.ntmps44
 have H' := Aside0.mk H; clear H
 go_upto_region 1 with (first | ((with_reducible refine gd 3 ?_); refine bL 3 #[.int .i64 a0_0, .int .i64 a0_1] 32 ?_; intro gb955 w4 _ _ _) | ((with_reducible refine gd 4 ?_); refine bL 4 #[.int .i64 a1_0, .int .i64 a1_1, .int .i64 a1_2, .string a1_3, .slice A1_4 l1_4.length c1_4, .string a1_5] 29 ?_; intro gb956 w5 _ _ _) | ((with_reducible refine gd 5 ?_); refine bL 5 #[.string a2_0, .int .i64 a2_1, .string a2_2, .slice A2_3 l2_3.length c2_3] 60 ?_; intro gb957 w6 _ _ _))
 have H := H'.out; clear H'; obtain ⟨t958, A7, H⟩ := oB H; (try dsimp only at H)
 by_cases c8 : t958 = true
 ·
  subst c8
  rw [if_pos rfl] at H
  obtain ⟨t959, A9, H⟩ := oB H; (try dsimp only at H)
  by_cases c10 : t959 = true
  ·
   subst c10
   rw [if_pos rfl] at H
   obtain ⟨t960, A11, H⟩ := oB H; (try dsimp only at H)
   by_cases c12 : t960 > a1_0
   ·
    rw [if_pos c12] at H
    have c12b0 : decide (a1_0 < t960) = true := decide_eq_true c12; clear c12
    (first | rw [c12b0] | (simp only [i64_w, i32_w]; rw [c12b0]) | skip)
    obtain rfl := Option.some.inj H
    try go_wp2
    refine sB [] impl_MayVote.tab1 impl_MayVote.bits1 ?_; intro w13 _ HT_ HW_
    refine tB 0 (some 7) (bz 25 1) HT_ HW_ ?_
    refine tB 1 (some 8) (bz 25 3) HT_ HW_ ?_
    refine o1 2 (some 9) (bz 25 7) HT_ rfl (kC Tryz.func42 (impl_SafeOk.calls (hr1_4 := pC HR1_4) (hc1_4 := HC1_4.out) (w := _) (h := A7.out)) ?_); intro w14 _
    refine nA (some 9) ?_
    refine pA 3 (some 10) (bz 25 15) HT_ ?_
    refine tB 4 (some 11) (bz 25 31) HT_ HW_ ?_
    refine tB 5 (some 12) (bz 25 63) HT_ HW_ ?_
    refine o1 6 (some 13) (bz 25 127) HT_ rfl (kC Tryz.func79 (impl_BlockOk.calls (hr1_3 := pC HR2_3) (hc1_3 := HC2_3.out) (w := _) (h := A9.out)) ?_); intro w15 _
    refine nA (some 13) ?_
    refine pA 7 (some 14) (bz 25 255) HT_ ?_
    refine pA 8 (some 15) (bz 25 511) HT_ ?_
    refine pA 9 (some 16) (bz 25 1023) HT_ ?_
    refine tB 10 (some 17) (bz 25 2047) HT_ HW_ ?_
    refine pA 12 (some 19) (bz 25 0x17ff) HT_ ?_
    refine tB 13 (some 20) (bz 25 0x37ff) HT_ HW_ ?_
    refine o1 11 (some 18) (bz 25 0x3fff) HT_ rfl (kC Tryz.func83 (impl_ViewOf.calls (w := _) (h := A11.out)) ?_); intro w16 _
    refine nA (some 18) ?_
    refine pA 14 (some 21) (bz 25 0x7fff) HT_ ?_
    refine pA 15 (some 22) (bz 25 0xffff) HT_ ?_
    refine pA 16 (some 23) (bz 25 0x1ffff) HT_ ?_
    refine pA 17 (some 24) (bz 25 0x3ffff) HT_ ?_
    refine pA 18 (some 25) (bz 25 0x7ffff) HT_ ?_
    refine tB 19 (some 26) (bz 25 0xfffff) HT_ HW_ ?_
    refine pA 20 (some 27) (bz 25 0x1fffff) HT_ ?_
    refine tB 21 (some 28) (bz 25 0x3fffff) HT_ HW_ ?_
    refine pA 22 (some 29) (bz 25 0x7fffff) HT_ ?_
    refine pA 23 (some 30) (bz 25 0xffffff) HT_ ?_
    refine pA 24 (some 6) (bz 25 0x1ffffff) HT_ ?_
    refine done_ (done_of HT_.out (by kernel_rfl)) ?_
    try go_wp2
    go_ret
    exact ⟨y0_16, UpW.out⟩
   rw [if_neg c12] at H
   have c12b0 : decide (a1_0 < t960) = false := decide_eq_false c12; clear c12
   (first | rw [c12b0] | (simp only [i64_w, i32_w]; rw [c12b0]) | skip)
   obtain rfl := Option.some.inj H
   try go_wp2
   refine sB [] impl_MayVote.tab1 impl_MayVote.bits1 ?_; intro w17 _ HT_ HW_
   refine tB 0 (some 7) (bz 25 1) HT_ HW_ ?_
   refine tB 1 (some 8) (bz 25 3) HT_ HW_ ?_
   refine o1 2 (some 9) (bz 25 7) HT_ rfl (kC Tryz.func42 (impl_SafeOk.calls (hr1_4 := pC HR1_4) (hc1_4 := HC1_4.out) (w := _) (h := A7.out)) ?_); intro w18 _
   refine nA (some 9) ?_
   refine pA 3 (some 10) (bz 25 15) HT_ ?_
   refine tB 4 (some 11) (bz 25 31) HT_ HW_ ?_
   refine tB 5 (some 12) (bz 25 63) HT_ HW_ ?_
   refine o1 6 (some 13) (bz 25 127) HT_ rfl (kC Tryz.func79 (impl_BlockOk.calls (hr1_3 := pC HR2_3) (hc1_3 := HC2_3.out) (w := _) (h := A9.out)) ?_); intro w19 _
   refine nA (some 13) ?_
   refine pA 7 (some 14) (bz 25 255) HT_ ?_
   refine pA 8 (some 15) (bz 25 511) HT_ ?_
   refine pA 9 (some 16) (bz 25 1023) HT_ ?_
   refine tB 10 (some 17) (bz 25 2047) HT_ HW_ ?_
   refine pA 12 (some 19) (bz 25 0x17ff) HT_ ?_
   refine tB 13 (some 20) (bz 25 0x37ff) HT_ HW_ ?_
   refine o1 11 (some 18) (bz 25 0x3fff) HT_ rfl (kC Tryz.func83 (impl_ViewOf.calls (w := _) (h := A11.out)) ?_); intro w20 _
   refine nA (some 18) ?_
   refine pA 14 (some 21) (bz 25 0x7fff) HT_ ?_
   refine pA 15 (some 22) (bz 25 0xffff) HT_ ?_
   refine pA 16 (some 23) (bz 25 0x1ffff) HT_ ?_
   refine pU 17 (some 24) (bz 25 0x3ffff) HT_ ?_
   refine pU 18 (some 25) (bz 25 0x7ffff) HT_ ?_
   refine pU 19 (some 26) (bz 25 0xfffff) HT_ ?_
   refine pU 20 (some 27) (bz 25 0x1fffff) HT_ ?_
   refine pU 21 (some 28) (bz 25 0x3fffff) HT_ ?_
   refine pU 22 (some 29) (bz 25 0x7fffff) HT_ ?_
   refine pA 23 (some 30) (bz 25 0xffffff) HT_ ?_
   refine pA 24 (some 6) (bz 25 0x1ffffff) HT_ ?_
   refine done_ (done_of HT_.out (by kernel_rfl)) ?_
   try go_wp2
   go_ret
   exact ⟨y0_16, UpW.out⟩
  replace c10 := Bool.eq_false_iff.mpr c10; subst c10
  rw [if_neg (show ¬ (false = true) by decide)] at H
  obtain rfl := Option.some.inj H
  try go_wp2
  refine sB [] impl_MayVote.tab1 impl_MayVote.bits1 ?_; intro w21 _ HT_ HW_
  refine tB 0 (some 7) (bz 25 1) HT_ HW_ ?_
  refine tB 1 (some 8) (bz 25 3) HT_ HW_ ?_
  refine o1 2 (some 9) (bz 25 7) HT_ rfl (kC Tryz.func42 (impl_SafeOk.calls (hr1_4 := pC HR1_4) (hc1_4 := HC1_4.out) (w := _) (h := A7.out)) ?_); intro w22 _
  refine nA (some 9) ?_
  refine pA 3 (some 10) (bz 25 15) HT_ ?_
  refine tB 4 (some 11) (bz 25 31) HT_ HW_ ?_
  refine tB 5 (some 12) (bz 25 63) HT_ HW_ ?_
  refine o1 6 (some 13) (bz 25 127) HT_ rfl (kC Tryz.func79 (impl_BlockOk.calls (hr1_3 := pC HR2_3) (hc1_3 := HC2_3.out) (w := _) (h := A9.out)) ?_); intro w23 _
  refine nA (some 13) ?_
  refine pA 7 (some 14) (bz 25 255) HT_ ?_
  refine pA 8 (some 15) (bz 25 511) HT_ ?_
  refine pU 9 (some 16) (bz 25 1023) HT_ ?_
  refine pU 10 (some 17) (bz 25 2047) HT_ ?_
  refine pU 11 (some 18) (bz 25 4095) HT_ ?_
  refine pU 12 (some 19) (bz 25 0x1fff) HT_ ?_
  refine pU 13 (some 20) (bz 25 0x3fff) HT_ ?_
  refine pU 14 (some 21) (bz 25 0x7fff) HT_ ?_
  refine pA 15 (some 22) (bz 25 0xffff) HT_ ?_
  refine pA 16 (some 23) (bz 25 0x1ffff) HT_ ?_
  refine pU 17 (some 24) (bz 25 0x3ffff) HT_ ?_
  refine pU 18 (some 25) (bz 25 0x7ffff) HT_ ?_
  refine pU 19 (some 26) (bz 25 0xfffff) HT_ ?_
  refine pU 20 (some 27) (bz 25 0x1fffff) HT_ ?_
  refine pU 21 (some 28) (bz 25 0x3fffff) HT_ ?_
  refine pU 22 (some 29) (bz 25 0x7fffff) HT_ ?_
  refine pA 23 (some 30) (bz 25 0xffffff) HT_ ?_
  refine pA 24 (some 6) (bz 25 0x1ffffff) HT_ ?_
  refine done_ (done_of HT_.out (by kernel_rfl)) ?_
  try go_wp2
  go_ret
  exact ⟨y0_16, UpW.out⟩
 replace c8 := Bool.eq_false_iff.mpr c8; subst c8
 rw [if_neg (show ¬ (false = true) by decide)] at H
 obtain rfl := Option.some.inj H
 try go_wp2
 refine sB [] impl_MayVote.tab1 impl_MayVote.bits1 ?_; intro w24 _ HT_ HW_
 refine tB 0 (some 7) (bz 25 1) HT_ HW_ ?_
 refine tB 1 (some 8) (bz 25 3) HT_ HW_ ?_
 refine o1 2 (some 9) (bz 25 7) HT_ rfl (kC Tryz.func42 (impl_SafeOk.calls (hr1_4 := pC HR1_4) (hc1_4 := HC1_4.out) (w := _) (h := A7.out)) ?_); intro w25 _
 refine nA (some 9) ?_
 refine pA 3 (some 10) (bz 25 15) HT_ ?_
 refine pU 4 (some 11) (bz 25 31) HT_ ?_
 refine pU 5 (some 12) (bz 25 63) HT_ ?_
 refine pU 6 (some 13) (bz 25 127) HT_ ?_
 refine pA 7 (some 14) (bz 25 255) HT_ ?_
 refine pA 8 (some 15) (bz 25 511) HT_ ?_
 refine pU 9 (some 16) (bz 25 1023) HT_ ?_
 refine pU 10 (some 17) (bz 25 2047) HT_ ?_
 refine pU 11 (some 18) (bz 25 4095) HT_ ?_
 refine pU 12 (some 19) (bz 25 0x1fff) HT_ ?_
 refine pU 13 (some 20) (bz 25 0x3fff) HT_ ?_
 refine pU 14 (some 21) (bz 25 0x7fff) HT_ ?_
 refine pA 15 (some 22) (bz 25 0xffff) HT_ ?_
 refine pA 16 (some 23) (bz 25 0x1ffff) HT_ ?_
 refine pU 17 (some 24) (bz 25 0x3ffff) HT_ ?_
 refine pU 18 (some 25) (bz 25 0x7ffff) HT_ ?_
 refine pU 19 (some 26) (bz 25 0xfffff) HT_ ?_
 refine pU 20 (some 27) (bz 25 0x1fffff) HT_ ?_
 refine pU 21 (some 28) (bz 25 0x3fffff) HT_ ?_
 refine pU 22 (some 29) (bz 25 0x7fffff) HT_ ?_
 refine pA 23 (some 30) (bz 25 0xffffff) HT_ ?_
 refine pA 24 (some 6) (bz 25 0x1ffffff) HT_ ?_
 refine done_ (done_of HT_.out (by kernel_rfl)) ?_
 try go_wp2
 go_ret
 exact ⟨y0_16, UpW.out⟩

/-! ### impl_Vote: function 33 -/
def impl_Vote.f (k : Nat) (a0_0 : Int) (a0_1 : Int) (a1_0 : Int) (a1_1 : Int) (a1_2 : Int) (a1_3 : ByteArray) (l1_4 : List Int) (a1_5 : ByteArray) (a2_0 : ByteArray) (a2_1 : Int) (a2_2 : ByteArray) (l2_3 : List Int) : Option (Int × Int × Int × ByteArray × List Int × ByteArray × Bool) := (impl_copySafe.f a1_0 a1_1 a1_2 a1_3 l1_4 a1_5).bind fun bt965 => ((impl_MayVote.f k a0_0 a0_1 a1_0 a1_1 a1_2 a1_3 l1_4 a1_5 a2_0 a2_1 a2_2 l2_3).bind fun t974 => (if t974 = true then ((impl_ViewOf.f k a2_0).bind fun t975 => (some (t975, bt965.2.1, bt965.2.2.1, bt965.2.2.2.1, bt965.2.2.2.2.1, bt965.2.2.2.2.2, true))) else (some (bt965.1, bt965.2.1, bt965.2.2.1, bt965.2.2.2.1, bt965.2.2.2.2.1, bt965.2.2.2.2.2, false))))
theorem impl_Vote.mono : ∀ a0 a1 a2 a3 a4 a5 a6 a7 a8 a9 a10 a11 k, LeO (impl_Vote.f k a0 a1 a2 a3 a4 a5 a6 a7 a8 a9 a10 a11) (impl_Vote.f (k + 1) a0 a1 a2 a3 a4 a5 a6 a7 a8 a9 a10 a11) := by
 intro a0 a1 a2 a3 a4 a5 a6 a7 a8 a9 a10 a11 k
 unfold impl_Vote.f
 repeat' first | (with_reducible exact impl_MayVote.mono _ _ _ _ _ _ _ _ _ _ _ _ _) | (with_reducible exact impl_ViewOf.mono _ _) | (with_reducible exact LeO.refl _) | (with_reducible exact LeO.none _) | (with_reducible refine LeO.ite ?_ ?_) | (with_reducible refine LeO.bind ?_ (fun _ => ?_))
set_option maxHeartbeats 8000000 in
set_option maxRecDepth 100000 in
theorem impl_Vote.calls (k : Nat) (a0_0 : Int) (a0_1 : Int) (a1_0 : Int) (a1_1 : Int) (a1_2 : Int) (a1_3 : ByteArray) (A1_4 : Option Addr) (c1_4 : Nat) (l1_4 : List Int) (a1_5 : ByteArray) (a2_0 : ByteArray) (a2_1 : Int) (a2_2 : ByteArray) (A2_3 : Option Addr) (c2_3 : Nat) (l2_3 : List Int) (r1 : Int) (r2 : Int) (r3 : Int) (r4 : ByteArray) (r5 : List Int) (r6 : ByteArray) (r7 : Bool) (w : World) (hr1_4 : Kd.C (Kd.int .i64) w A1_4 l1_4.length l1_4) (hc1_4 : l1_4.length ≤ c1_4) (hr2_3 : Kd.C (Kd.int .i64) w A2_3 l2_3.length l2_3) (hc2_3 : l2_3.length ≤ c2_3) (h : impl_Vote.f k a0_0 a0_1 a1_0 a1_1 a1_2 a1_3 l1_4 a1_5 a2_0 a2_1 a2_2 l2_3 = some (r1, r2, r3, r4, r5, r6, r7)) (hG : Glob w := by exact gG HG HB) :
  Calls Tryz.prog 33 #[.agg #[.int .i64 a0_0, .int .i64 a0_1], .agg #[.int .i64 a1_0, .int .i64 a1_1, .int .i64 a1_2, .string a1_3, .slice A1_4 l1_4.length c1_4, .string a1_5], .agg #[.string a2_0, .int .i64 a2_1, .string a2_2, .slice A2_3 l2_3.length c2_3]] w fun e w' => ∃ v4_ : Value, e = .returned (.tuple #[.agg #[.int .i64 r1, .int .i64 r2, .int .i64 r3, .string r4, v4_, .string r6], .bool r7]) ∧ Kd.R (Kd.int .i64) 3 w' w.heap.size (fun _ => True) v4_ r5 ∧ Below w.heap.size w w' := by
 have HG := Aside0.mk hG; clear hG; have hu32 := Tryz.underlying32; have hu29 := Tryz.underlying29; have hu60 := Tryz.underlying60; have HR1_4 := Aside0.mk hr1_4; have HC1_4 := Aside0.mk hc1_4; clear hr1_4 hc1_4; have HR2_3 := Aside0.mk hr2_3; have HC2_3 := Aside0.mk hc2_3; clear hr2_3 hc2_3; have HB := Aside0.mk (Below.refl w.heap.size w)
 have H := h; unfold impl_Vote.f at H
 clear h; obtain ⟨⟨t965, t966, t967, t968, t969, t972⟩, A4, H⟩ := oB H; (try dsimp only at H); obtain ⟨t974, A5, H⟩ := oB H; (try dsimp only at H)
 go_enter Tryz.func33, Tryz.ntmps33
 have H' := Aside0.mk H; clear H
 go_upto_if 15 with (first | ((with_reducible refine gd 3 ?_); refine bL 3 #[.int .i64 a0_0, .int .i64 a0_1] 32 ?_; intro gb961 w6 _ _ _) | ((with_reducible refine gd 4 ?_); refine bL 4 #[.int .i64 a1_0, .int .i64 a1_1, .int .i64 a1_2, .string a1_3, .slice A1_4 l1_4.length c1_4, .string a1_5] 29 ?_; intro gb962 w7 _ _ _) | ((with_reducible refine gd 5 ?_); refine bL 5 #[.string a2_0, .int .i64 a2_1, .string a2_2, .slice A2_3 l2_3.length c2_3] 60 ?_; intro gb963 w8 _ _ _) | ((with_reducible refine gd 6 ?_); refine bL 6 #[.int .i64 0, .int .i64 0, .int .i64 0, .string (⟨#[]⟩ : ByteArray), .slice none 0 0, .string (⟨#[]⟩ : ByteArray)] 29 ?_; intro gb964 w9 _ _ _) | ((with_reducible refine gate_callee (f := 122) rfl ?_); refine gC1 (some 10) Tryz.func122 (impl_copySafe.calls (hr0_4 := pC HR1_4) (hc0_4 := HC1_4.out) (w := _) (h := A4.out)) ?_; intro Ao970 co970 w10 _ HO971) | ((with_reducible refine gd 8 ?_); refine bL 8 #[.int .i64 0, .int .i64 0, .int .i64 0, .string (⟨#[]⟩ : ByteArray), .slice none 0 0, .string (⟨#[]⟩ : ByteArray)] 29 ?_; intro gb973 w11 _ _ _) | ((with_reducible refine gate_callee (f := 44) rfl ?_); refine gC (some 14) Tryz.func44 (impl_MayVote.calls (hr1_4 := pC HR1_4) (hc1_4 := HC1_4.out) (hr2_3 := pC HR2_3) (hc2_3 := HC2_3.out) (w := _) (h := A5.out)) ?_; intro w12 _))
 have H := H'.out; clear H'
 by_cases c13 : t974 = true
 ·
  subst c13
  rw [if_pos rfl] at H
  obtain ⟨t975, A14, H⟩ := oB H; (try dsimp only at H)
  simp only [Option.some.injEq, Prod.mk.injEq] at H
  obtain ⟨rfl, rfl, rfl, rfl, rfl, rfl, rfl⟩ := H
  go_wp2_with (first | ((with_reducible refine gate_callee (f := 83) rfl ?_); refine gC (some 19) Tryz.func83 (impl_ViewOf.calls (w := _) (h := A14.out)) ?_; intro w15 _))
  refine bodyPost_ret (results_ct rfl _ _ gb964 29 #[.int .i64 t975, .int .i64 t966, .int .i64 t967, .string t968, .slice Ao970 t969.length co970, .string t972] (0, 0) _ rfl xB Tryz.underlying29 rfl (by kernel_rfl)) rfl ?_
  exact ⟨_, y0_16, rR HO971, UpW.out⟩
 replace c13 := Bool.eq_false_iff.mpr c13; subst c13
 rw [if_neg (show ¬ (false = true) by decide)] at H
 simp only [Option.some.injEq, Prod.mk.injEq] at H
 obtain ⟨rfl, rfl, rfl, rfl, rfl, rfl, rfl⟩ := H
 go_wp2
 refine bodyPost_ret (results_ct rfl _ _ gb964 29 #[.int .i64 t965, .int .i64 t966, .int .i64 t967, .string t968, .slice Ao970 t969.length co970, .string t972] (0, 0) _ rfl xB Tryz.underlying29 rfl (by kernel_rfl)) rfl ?_
 exact ⟨_, y0_16, rR HO971, UpW.out⟩

/-! ### spec_DrawSafeSame: function 35 -/
def spec_DrawSafeSame.f (k : Nat) (l0 : List Int) : Option (Int × Int × Int × ByteArray × List Int × ByteArray × Int × Int × Int × ByteArray × List Int × ByteArray) := (spec_l1New.f k l0).bind fun bt978 => ((spec_l7DrawConf.f bt978.1 bt978.2.1 bt978.2.2).bind fun bt982 => ((spec_l11Draw.f k bt978.1 bt982.2.2.1 bt982.2.2.2 bt982.1 bt982.2.1).bind fun bt987 => ((spec_l1Once.f bt978.1 bt987.2.2.2.2.2.2.1 bt987.2.2.2.2.2.2.2 2).bind fun bt998 => (if bt998.1 = true then ((spec_l11Copy.f bt987.1 bt987.2.1 bt987.2.2.1 bt987.2.2.2.1 bt987.2.2.2.2.1 bt987.2.2.2.2.2.1).bind fun bt1001 => (some (bt987.1, bt987.2.1, bt987.2.2.1, bt987.2.2.2.1, bt987.2.2.2.2.1, bt987.2.2.2.2.2.1, bt1001.1, bt1001.2.1, bt1001.2.2.1, bt1001.2.2.2.1, bt1001.2.2.2.2.1, bt1001.2.2.2.2.2))) else ((spec_l11Draw.f k bt978.1 bt998.2.1 bt998.2.2 bt982.1 bt982.2.1).bind fun bt1009 => (some (bt987.1, bt987.2.1, bt987.2.2.1, bt987.2.2.2.1, bt987.2.2.2.2.1, bt987.2.2.2.2.2.1, bt1009.1, bt1009.2.1, bt1009.2.2.1, bt1009.2.2.2.1, bt1009.2.2.2.2.1, bt1009.2.2.2.2.2.1)))))))
theorem spec_DrawSafeSame.mono : ∀ a0 k, LeO (spec_DrawSafeSame.f k a0) (spec_DrawSafeSame.f (k + 1) a0) := by
 intro a0 k
 unfold spec_DrawSafeSame.f
 repeat' first | (with_reducible exact spec_l11Draw.mono _ _ _ _ _ _) | (with_reducible exact spec_l1New.mono _ _) | (with_reducible exact LeO.refl _) | (with_reducible exact LeO.none _) | (with_reducible refine LeO.ite ?_ ?_) | (with_reducible refine LeO.bind ?_ (fun _ => ?_))
def spec_DrawSafeSame.T5 : Bool × List (List Nat × List Nat) := (true, [([], []), ([], []), ([1], [1]), ([0, 2, 0], [0]), ([2, 3, 0, 1, 2, 3], [2])])
def spec_DrawSafeSame.B5 : List Nat := [0, 0, 2, 7, 15]
theorem spec_DrawSafeSame.tab5 : rtab .any (opsOf Tryz.f35 5) = spec_DrawSafeSame.T5 := by kernel_rfl
theorem spec_DrawSafeSame.bits5 : waitsOk spec_DrawSafeSame.T5.2 spec_DrawSafeSame.B5 = true := by kernel_rfl
def spec_DrawSafeSame.T6 : Bool × List (List Nat × List Nat) := (true, [([], []), ([], []), ([], []), ([1, 2], [1, 2]), ([0, 3, 0], [0]), ([3, 4, 0, 1, 2, 3, 4], [3])])
def spec_DrawSafeSame.B6 : List Nat := [0, 0, 0, 6, 15, 31]
theorem spec_DrawSafeSame.tab6 : rtab .any (opsOf Tryz.f35 6) = spec_DrawSafeSame.T6 := by kernel_rfl
theorem spec_DrawSafeSame.bits6 : waitsOk spec_DrawSafeSame.T6.2 spec_DrawSafeSame.B6 = true := by kernel_rfl
set_option maxHeartbeats 8000000 in
set_option maxRecDepth 100000 in
theorem spec_DrawSafeSame.calls (k : Nat) (A0 : Option Addr) (c0 : Nat) (l0 : List Int) (r1 : Int) (r2 : Int) (r3 : Int) (r4 : ByteArray) (r5 : List Int) (r6 : ByteArray) (r7 : Int) (r8 : Int) (r9 : Int) (r10 : ByteArray) (r11 : List Int) (r12 : ByteArray) (w : World) (hr0 : Kd.C (Kd.int .u8) w A0 l0.length l0) (hc0 : l0.length ≤ c0) (h : spec_DrawSafeSame.f k l0 = some (r1, r2, r3, r4, r5, r6, r7, r8, r9, r10, r11, r12)) :
  Calls Tryz.prog 35 #[.slice A0 l0.length c0] w fun e w' => ∃ v4_ v10_ : Value, e = .returned (.tuple #[.agg #[.int .i64 r1, .int .i64 r2, .int .i64 r3, .string r4, v4_, .string r6], .agg #[.int .i64 r7, .int .i64 r8, .int .i64 r9, .string r10, v10_, .string r12]]) ∧ Kd.R (Kd.int .i64) 3 w' w.heap.size (fun k_ => some k_ ≠ (v10_ : Value).ownBlock) v4_ r5 ∧ Kd.R (Kd.int .i64) 3 w' w.heap.size (fun k_ => some k_ ≠ (v4_ : Value).ownBlock) v10_ r11 ∧ Below w.heap.size w w' := by
 have hu29 := Tryz.underlying29; have hu32 := Tryz.underlying32; have HR0 := Aside0.mk hr0; have HC0 := Aside0.mk hc0; clear hr0 hc0; have HB := Aside0.mk (Below.refl w.heap.size w)
 have H := h; unfold spec_DrawSafeSame.f at H
 clear h; obtain ⟨⟨t978, t979, t980⟩, A2, H⟩ := oB H; (try dsimp only at H); obtain ⟨⟨t982, t983, t984, t985⟩, A3, H⟩ := oB H; (try dsimp only at H); obtain ⟨⟨t987, t988, t989, t990, t991, t994, t995, t996⟩, A4, H⟩ := oB H; (try dsimp only at H); obtain ⟨⟨t998, t999, t1000⟩, A5, H⟩ := oB H; (try dsimp only at H)
 go_enter Tryz.func35, Tryz.ntmps35
 have H' := Aside0.mk H; clear H
 go_upto_if 15 with (first | ((with_reducible refine gd 2 ?_); refine bL 2 #[.int .i64 0, .int .i64 0, .int .i64 0, .string (⟨#[]⟩ : ByteArray), .slice none 0 0, .string (⟨#[]⟩ : ByteArray)] 29 ?_; intro gb976 w6 _ _ _) | ((with_reducible refine gd 3 ?_); refine bL 3 #[.int .i64 0, .int .i64 0, .int .i64 0, .string (⟨#[]⟩ : ByteArray), .slice none 0 0, .string (⟨#[]⟩ : ByteArray)] 29 ?_; intro gb977 w7 _ _ _) | ((with_reducible refine gate_callee (f := 118) rfl ?_); refine wL ?_; intro w8 _; refine gN (some 8) Tryz.func118 (spec_l1New.calls (hB := Below.refl _ _) (hr0 := pC HR0) (hc0 := HC0.out) (w := _) (h := A2.out)) ?_; intro g981 w9 _ _ _ HI10) | ((with_reducible refine gate_callee (f := 119) rfl ?_); refine gK (some 10) Tryz.func119 (spec_l7DrawConf.calls (hI := iS188 HI10) (hB := UpW.out) (w := _) (h := A3.out)) ?_; intro w11 _ _ _ HI12) | ((with_reducible refine gd 5 ?_); refine bL 5 #[.int .i64 0, .int .i64 0] 32 ?_; intro gb986 w13 _ _ _) | ((with_reducible refine gate_callee (f := 120) rfl ?_); refine gK1 (some 13) Tryz.func120 (spec_l11Draw.calls (hI := iS188 HI12) (hB := UpW.out) (w := _) (h := A4.out)) ?_; intro Ao992 co992 w14 _ _ _ HI15 HO993) | ((with_reducible refine gd 6 ?_); refine bL 6 #[.int .i64 0, .int .i64 0, .int .i64 0, .string (⟨#[]⟩ : ByteArray), .slice none 0 0, .string (⟨#[]⟩ : ByteArray)] 29 ?_; intro gb997 w16 _ _ _) | ((with_reducible refine gate_callee (f := 128) rfl ?_); refine gK (some 15) Tryz.func128 (spec_l1Once.calls (hI := iS188 HI15) (hB := UpW.out) (w := _) (h := A5.out)) ?_; intro w17 _ _ _ HI18))
 have H := H'.out; clear H'
 by_cases c19 : t998 = true
 ·
  subst c19
  rw [if_pos rfl] at H
  obtain ⟨⟨t1001, t1002, t1003, t1004, t1005, t1008⟩, A20, H⟩ := oB H; (try dsimp only at H)
  simp only [Option.some.injEq, Prod.mk.injEq] at H
  obtain ⟨rfl, rfl, rfl, rfl, rfl, rfl, rfl, rfl, rfl, rfl, rfl, rfl⟩ := H
  try go_wp2
  refine sB [gb976, gb977] spec_DrawSafeSame.tab5 spec_DrawSafeSame.bits5 ?_; intro w21 _ HT_ HW_
  refine tB 0 (some 16) (bz 5 1) HT_ HW_ ?_
  refine tB 1 (some 17) (bz 5 3) HT_ HW_ ?_
  refine o1 2 (some 18) (bz 5 7) HT_ rfl (kC1 Tryz.func125 (spec_l11Copy.calls (hr0_4 := rC HO993) (hc0_4 := rL HO993) (w := _) (h := A20.out)) ?_); intro Ao1006 co1006 w22 _ HO1007
  refine nA (some 18) ?_
  refine o1 3 none (bz 5 15) HT_ rfl (kS ?_)
  refine o1 4 none (bz 5 31) HT_ rfl (kS ?_)
  refine done_ (done_of HT_.out (by kernel_rfl)) ?_
  try go_wp2
  refine bodyPost_ret (results_cc rfl _ _ gb976 gb977 29 29 #[.int .i64 t987, .int .i64 t988, .int .i64 t989, .string t990, .slice Ao992 t991.length co992, .string t994] #[.int .i64 t1001, .int .i64 t1002, .int .i64 t1003, .string t1004, .slice Ao1006 t1005.length co1006, .string t1008] (0, 0) (0, 0) _ _ rfl xB Tryz.underlying29 rfl (by kernel_rfl) rfl xB Tryz.underlying29 rfl (by kernel_rfl)) rfl ?_
  exact ⟨_, _, y0_16, rE HO993 HO1007, rY HO1007 HO993, UpW.out⟩
 replace c19 := Bool.eq_false_iff.mpr c19; subst c19
 rw [if_neg (show ¬ (false = true) by decide)] at H
 obtain ⟨⟨t1009, t1010, t1011, t1012, t1013, t1016, t1017, t1018⟩, A23, H⟩ := oB H; (try dsimp only at H)
 simp only [Option.some.injEq, Prod.mk.injEq] at H
 obtain ⟨rfl, rfl, rfl, rfl, rfl, rfl, rfl, rfl, rfl, rfl, rfl, rfl⟩ := H
 try go_wp2
 refine sB [g981, gb976, gb977] spec_DrawSafeSame.tab6 spec_DrawSafeSame.bits6 ?_; intro w24 _ HT_ HW_
 refine tB 0 (some 19) (bz 6 1) HT_ HW_ ?_
 refine pA 1 (some 20) (bz 6 3) HT_ ?_
 refine tB 2 (some 21) (bz 6 7) HT_ HW_ ?_
 refine o1 3 (some 22) (bz 6 15) HT_ rfl (kK1 Tryz.func120 (spec_l11Draw.calls (hI := iS188 HI18) (hB := UpW.out) (w := _) (h := A23.out)) ?_); intro Ao1014 co1014 w25 _ _ _ HI26 HO1015
 refine nA (some 22) ?_
 refine o1 4 none (bz 6 31) HT_ rfl (kS ?_)
 refine o1 5 none (bz 6 63) HT_ rfl (kS ?_)
 refine done_ (done_of HT_.out (by kernel_rfl)) ?_
 try go_wp2
 refine bodyPost_ret (results_cc rfl _ _ gb976 gb977 29 29 #[.int .i64 t987, .int .i64 t988, .int .i64 t989, .string t990, .slice Ao992 t991.length co992, .string t994] #[.int .i64 t1009, .int .i64 t1010, .int .i64 t1011, .string t1012, .slice Ao1014 t1013.length co1014, .string t1016] (0, 0) (0, 0) _ _ rfl xB Tryz.underlying29 rfl (by kernel_rfl) rfl xB Tryz.underlying29 rfl (by kernel_rfl)) rfl ?_
 exact ⟨_, _, y0_16, rE HO993 HO1015, rY HO1015 HO993, UpW.out⟩

/-! ### spec_DrawSettles: function 36 -/
def spec_DrawSettles.f (k : Nat) (l0 : List Int) : Option (ByteArray) := (spec_l1New.f k l0).bind fun bt1019 => ((spec_l5Draw.f k bt1019.1 bt1019.2.1 bt1019.2.2).bind fun bt1023 => (some bt1023.1))
theorem spec_DrawSettles.mono : ∀ a0 k, LeO (spec_DrawSettles.f k a0) (spec_DrawSettles.f (k + 1) a0) := by
 intro a0 k
 unfold spec_DrawSettles.f
 repeat' first | (with_reducible exact spec_l1New.mono _ _) | (with_reducible exact spec_l5Draw.mono _ _ _ _) | (with_reducible exact LeO.refl _) | (with_reducible exact LeO.none _) | (with_reducible refine LeO.ite ?_ ?_) | (with_reducible refine LeO.bind ?_ (fun _ => ?_))
set_option maxHeartbeats 8000000 in
set_option maxRecDepth 100000 in
theorem spec_DrawSettles.calls (k : Nat) (A0 : Option Addr) (c0 : Nat) (l0 : List Int) (r : ByteArray) (w : World) (hr0 : Kd.C (Kd.int .u8) w A0 l0.length l0) (hc0 : l0.length ≤ c0) (h : spec_DrawSettles.f k l0 = some r) :
  Calls Tryz.prog 36 #[.slice A0 l0.length c0] w fun e w' => e = .returned (.string r) ∧ Below w.heap.size w w' := by
 have HR0 := Aside0.mk hr0; have HC0 := Aside0.mk hc0; clear hr0 hc0; have HB := Aside0.mk (Below.refl w.heap.size w)
 have H := h; unfold spec_DrawSettles.f at H
 clear h; obtain ⟨⟨t1019, t1020, t1021⟩, A2, H⟩ := oB H; (try dsimp only at H); obtain ⟨⟨t1023, t1024, t1025⟩, A3, H⟩ := oB H; (try dsimp only at H); obtain rfl := Option.some.inj H
 go_enter Tryz.func36, Tryz.ntmps36
 go_wp2_with (first | ((with_reducible refine gate_callee (f := 118) rfl ?_); refine wL ?_; intro w4 _; refine gN (some 4) Tryz.func118 (spec_l1New.calls (hB := Below.refl _ _) (hr0 := pC HR0) (hc0 := HC0.out) (w := _) (h := A2.out)) ?_; intro g1022 w5 _ _ _ HI6) | ((with_reducible refine gate_callee (f := 129) rfl ?_); refine gK (some 5) Tryz.func129 (spec_l5Draw.calls (hI := iS188 HI6) (hB := UpW.out) (w := _) (h := A3.out)) ?_; intro w7 _ _ _ HI8))
 go_ret
 exact ⟨y0_16, UpW.out⟩

/-! ### impl_SafeSame: function 39 -/
def impl_SafeSame.f (k : Nat) (a0_0 : Int) (a0_1 : Int) (a0_2 : Int) (a0_3 : ByteArray) (l0_4 : List Int) (a0_5 : ByteArray) (a1_0 : Int) (a1_1 : Int) (a1_2 : Int) (a1_3 : ByteArray) (l1_4 : List Int) (a1_5 : ByteArray) : Option (Bool) := if a0_0 = a1_0 then (if a0_1 = a1_1 then ((impl_QcSame.f k a0_2 a0_3 l0_4 a1_2 a1_3 l1_4).bind fun t1028 => (if t1028 = true then (some (a0_5.toList == a1_5.toList)) else (some false))) else (some false)) else (some false)
theorem impl_SafeSame.mono : ∀ a0 a1 a2 a3 a4 a5 a6 a7 a8 a9 a10 a11 k, LeO (impl_SafeSame.f k a0 a1 a2 a3 a4 a5 a6 a7 a8 a9 a10 a11) (impl_SafeSame.f (k + 1) a0 a1 a2 a3 a4 a5 a6 a7 a8 a9 a10 a11) := by
 intro a0 a1 a2 a3 a4 a5 a6 a7 a8 a9 a10 a11 k
 unfold impl_SafeSame.f
 repeat' first | (with_reducible exact impl_QcSame.mono _ _ _ _ _ _ _) | (with_reducible exact LeO.refl _) | (with_reducible exact LeO.none _) | (with_reducible refine LeO.ite ?_ ?_) | (with_reducible refine LeO.bind ?_ (fun _ => ?_))
set_option maxHeartbeats 8000000 in
set_option maxRecDepth 100000 in
theorem impl_SafeSame.calls (k : Nat) (a0_0 : Int) (a0_1 : Int) (a0_2 : Int) (a0_3 : ByteArray) (A0_4 : Option Addr) (c0_4 : Nat) (l0_4 : List Int) (a0_5 : ByteArray) (a1_0 : Int) (a1_1 : Int) (a1_2 : Int) (a1_3 : ByteArray) (A1_4 : Option Addr) (c1_4 : Nat) (l1_4 : List Int) (a1_5 : ByteArray) (r : Bool) (w : World) (hr0_4 : Kd.C (Kd.int .i64) w A0_4 l0_4.length l0_4) (hc0_4 : l0_4.length ≤ c0_4) (hr1_4 : Kd.C (Kd.int .i64) w A1_4 l1_4.length l1_4) (hc1_4 : l1_4.length ≤ c1_4) (h : impl_SafeSame.f k a0_0 a0_1 a0_2 a0_3 l0_4 a0_5 a1_0 a1_1 a1_2 a1_3 l1_4 a1_5 = some r) :
  Calls Tryz.prog 39 #[.agg #[.int .i64 a0_0, .int .i64 a0_1, .int .i64 a0_2, .string a0_3, .slice A0_4 l0_4.length c0_4, .string a0_5], .agg #[.int .i64 a1_0, .int .i64 a1_1, .int .i64 a1_2, .string a1_3, .slice A1_4 l1_4.length c1_4, .string a1_5]] w fun e w' => e = .returned (.bool r) ∧ Below w.heap.size w w' := by
 have hu29 := Tryz.underlying29; have hu27 := Tryz.underlying27; have HR0_4 := Aside0.mk hr0_4; have HC0_4 := Aside0.mk hc0_4; clear hr0_4 hc0_4; have HR1_4 := Aside0.mk hr1_4; have HC1_4 := Aside0.mk hc1_4; clear hr1_4 hc1_4; have HB := Aside0.mk (Below.refl w.heap.size w)
 have H := h; unfold impl_SafeSame.f at H
 clear h
 go_enter Tryz.func39, Tryz.ntmps39
 have H' := Aside0.mk H; clear H
 go_upto_region 1 with (first | ((with_reducible refine gd 2 ?_); refine bL 2 #[.int .i64 a0_0, .int .i64 a0_1, .int .i64 a0_2, .string a0_3, .slice A0_4 l0_4.length c0_4, .string a0_5] 29 ?_; intro gb1026 w3 _ _ _) | ((with_reducible refine gd 3 ?_); refine bL 3 #[.int .i64 a1_0, .int .i64 a1_1, .int .i64 a1_2, .string a1_3, .slice A1_4 l1_4.length c1_4, .string a1_5] 29 ?_; intro gb1027 w4 _ _ _))
 have H := H'.out; clear H'
 by_cases c5 : a0_0 = a1_0
 ·
  rw [if_pos c5] at H
  have c5b0 : (a0_0 == a1_0) = true := beq_iff_eq.mpr c5; have c5b1 : (a0_0 != a1_0) = false := bne_eq_false_iff_eq.mpr c5; clear c5
  (first | rw [c5b0] | (simp only [i64_w, i32_w]; rw [c5b0]) | skip)
  by_cases c6 : a0_1 = a1_1
  ·
   rw [if_pos c6] at H
   have c6b0 : (a0_1 == a1_1) = true := beq_iff_eq.mpr c6; have c6b1 : (a0_1 != a1_1) = false := bne_eq_false_iff_eq.mpr c6; clear c6; obtain ⟨t1028, A7, H⟩ := oB H; (try dsimp only at H)
   by_cases c8 : t1028 = true
   ·
    subst c8
    rw [if_pos rfl] at H
    obtain rfl := Option.some.inj H
    go_wp2_with (first | (go_at_call 63; refine aC (impl_QcSame.calls (hr0_2 := pC HR0_4) (hc0_2 := HC0_4.out) (hr1_2 := pC HR1_4) (hc1_2 := HC1_4.out) (w := _) (h := A7.out)) ?_; intro w9 _))
    go_ret
    exact ⟨y0_16, UpW.out⟩
   replace c8 := Bool.eq_false_iff.mpr c8; subst c8
   rw [if_neg (show ¬ (false = true) by decide)] at H
   obtain rfl := Option.some.inj H
   go_wp2_with (first | (go_at_call 63; refine aC (impl_QcSame.calls (hr0_2 := pC HR0_4) (hc0_2 := HC0_4.out) (hr1_2 := pC HR1_4) (hc1_2 := HC1_4.out) (w := _) (h := A7.out)) ?_; intro w10 _))
   go_ret
   exact ⟨y0_16, UpW.out⟩
  rw [if_neg c6] at H
  have c6b0 : (a0_1 == a1_1) = false := beq_eq_false_iff_ne.mpr c6; have c6b1 : (a0_1 != a1_1) = true := bne_iff_ne.mpr c6; obtain rfl := Option.some.inj H
  go_wp2
  go_ret
  exact ⟨y0_16, UpW.out⟩
 rw [if_neg c5] at H
 have c5b0 : (a0_0 == a1_0) = false := beq_eq_false_iff_ne.mpr c5; have c5b1 : (a0_0 != a1_0) = true := bne_iff_ne.mpr c5
 (first | rw [c5b0] | (simp only [i64_w, i32_w]; rw [c5b0]) | skip)
 obtain rfl := Option.some.inj H
 go_wp2
 go_ret
 exact ⟨y0_16, UpW.out⟩

/-! ### spec_l7Ints: function 202 -/
mutual
def spec_l7Ints.l0 : Nat → List Int → List Int → Int → Option (Bool)
 | 0, _, _, _ => none
 | k + 1, x0, x1, x5 => if x5 < (x0.length : Int) then (spec_l7Ints.j1 k x0 x1 x5 (decide (x5 < (x1.length : Int)))) else (spec_l7Ints.j1 k x0 x1 x5 false)
def spec_l7Ints.j1 : Nat → List Int → List Int → Int → Bool → Option (Bool)
 | 0, _, _, _, _ => none
 | k + 1, x0, x1, x5, x15 => if x15 = true then (if 0 ≤ x5 then (if x5 < (x0.length : Int) then (if x5 < (x1.length : Int) then (if (rd x0 x5) = (rd x1 x5) then (spec_l7Ints.l0 k x0 x1 (wrap64 (x5 + 1))) else (some false)) else (none)) else (none)) else (none)) else (some ((x0.length : Int) == (x1.length : Int)))
end
def spec_l7Ints.f (k : Nat) (l0 : List Int) (l1 : List Int) : Option (Bool) := spec_l7Ints.l0 k l0 l1 0
theorem spec_l7Ints.mono_l : ∀ k, (∀ y0 y1 y2, LeO (spec_l7Ints.l0 k y0 y1 y2) (spec_l7Ints.l0 (k + 1) y0 y1 y2)) ∧ (∀ y0 y1 y2 y3, LeO (spec_l7Ints.j1 k y0 y1 y2 y3) (spec_l7Ints.j1 (k + 1) y0 y1 y2 y3))
 | 0 => ⟨fun _ _ _ r h => by simp [spec_l7Ints.l0] at h, fun _ _ _ _ r h => by simp [spec_l7Ints.j1] at h⟩
 | k + 1 => by
  obtain ⟨ih0, ih1⟩ := spec_l7Ints.mono_l k
  refine ⟨?_, ?_⟩
  ·
   intro y0 y1 y2
   unfold spec_l7Ints.l0
   repeat' first | (with_reducible exact ih0 _ _ _) | (with_reducible exact ih1 _ _ _ _) | (with_reducible exact LeO.refl _) | (with_reducible exact LeO.none _) | (with_reducible refine LeO.ite ?_ ?_) | (with_reducible refine LeO.bind ?_ (fun _ => ?_))
  intro y0 y1 y2 y3
  unfold spec_l7Ints.j1
  repeat' first | (with_reducible exact ih0 _ _ _) | (with_reducible exact ih1 _ _ _ _) | (with_reducible exact LeO.refl _) | (with_reducible exact LeO.none _) | (with_reducible refine LeO.ite ?_ ?_) | (with_reducible refine LeO.bind ?_ (fun _ => ?_))
theorem spec_l7Ints.mono : ∀ a0 a1 k, LeO (spec_l7Ints.f k a0 a1) (spec_l7Ints.f (k + 1) a0 a1) := by
 intro a0 a1 k
 obtain ⟨ih0, ih1⟩ := spec_l7Ints.mono_l k
 unfold spec_l7Ints.f
 repeat' first | (with_reducible exact ih0 _ _ _) | (with_reducible exact ih1 _ _ _ _) | (with_reducible exact LeO.refl _) | (with_reducible exact LeO.none _) | (with_reducible refine LeO.ite ?_ ?_) | (with_reducible refine LeO.bind ?_ (fun _ => ?_))
set_option maxHeartbeats 8000000 in
set_option maxRecDepth 100000 in
theorem spec_l7Ints.calls (k : Nat) (A0 : Option Addr) (c0 : Nat) (l0 : List Int) (A1 : Option Addr) (c1 : Nat) (l1 : List Int) (r : Bool) (w : World) (hr0 : Kd.C (Kd.int .i64) w A0 l0.length l0) (hc0 : l0.length ≤ c0) (hr1 : Kd.C (Kd.int .i64) w A1 l1.length l1) (hc1 : l1.length ≤ c1) (h : spec_l7Ints.f k l0 l1 = some r) :
  Calls Tryz.prog 202 #[.slice A0 l0.length c0, .slice A1 l1.length c1] w fun e w' => e = .returned (.bool r) ∧ Drawn0 w w' := by
 have HR0 := Aside0.mk hr0; have HC0 := Aside0.mk hc0; clear hr0 hc0; have HR1 := Aside0.mk hr1; have HC1 := Aside0.mk hc1; clear hr1 hc1; have H := h; unfold spec_l7Ints.f at H; clear h; have H' := Aside0.mk H; clear H
 go_enter Tryz.func202, Tryz.ntmps202
 go_wp2
 repeat (go_quiet (fail); try go_wp2)
 go_loopg [5] k (fun kq v5 w' => ∃ (x5_1 : Int), v5 = .int .i64 x5_1 ∧ Aside0 (spec_l7Ints.l0 kq l0 l1 x5_1 = some r) ∧ Aside0 (kq ≤ k) ∧ Drawn0 w w')
 case atStart => exact ⟨(0), y0_16, H', ⟨Nat.le_refl _⟩, y0_14⟩
 case round =>
  clear H'
  try clear c1
  try clear c2
  try clear p2
  obtain ⟨x5_1, rfl, HA, HK1, ⟨m1, rfl⟩⟩ := hrel; cases gk with
  | zero => exact absurd HA.out (by simp [spec_l7Ints.l0])
  | succ k1 =>
   have H := HA.out; clear HA
   simp only [spec_l7Ints.l0] at H
   have HC3 := Aside0.mk H; clear H
   go_upto_region 2 with (fail)
   repeat (go_quiet (fail); go_upto_region 2 with (fail))
   go_cut [15] (fun v15 wc => ∃ (kq : Nat) (x15_2 : Bool), v15 = .bool x15_2 ∧ Aside0 (spec_l7Ints.j1 kq l0 l1 x5_1 x15_2 = some r) ∧ Aside0 (kq ≤ k1) ∧ Drawn0 w wc)
   case first =>
    have H := HC3.out; clear HC3
    by_cases c4 : x5_1 < (l0.length : Int)
    ·
     rw [if_pos c4] at H
     have c4b0 : decide (x5_1 < (l0.length : Int)) = true := decide_eq_true c4; clear c4
     (first | rw [c4b0] | (simp only [i64_w, i32_w]; rw [c4b0]) | skip)
     have H' := Aside0.mk H; clear H
     go_wp2
     repeat (go_quiet (fail); try go_wp2)
     go_meet
     case rel => exact ⟨_, (decide (x5_1 < (l1.length : Int))), y0_16, H', ⟨by have := HK1.out; first | omega | exact Nat.le_refl _⟩, y0_14⟩
    rw [if_neg c4] at H
    have c4b0 : decide (x5_1 < (l0.length : Int)) = false := decide_eq_false c4; clear c4
    (first | rw [c4b0] | (simp only [i64_w, i32_w]; rw [c4b0]) | skip)
    have H' := Aside0.mk H; clear H
    go_wp2
    repeat (go_quiet (fail); try go_wp2)
    go_meet
    case rel => exact ⟨_, (false), y0_16, H', ⟨by have := HK1.out; first | omega | exact Nat.le_refl _⟩, y0_14⟩
   case rest =>
    clear HC3
    try clear c1
    try clear c2
    try clear p2
    try clear c4
    try clear c4b0
    try clear p2
    obtain ⟨kq, x15_2, rfl, HA, HJ2, ⟨mc2, rfl⟩⟩ := hcut; cases kq with
    | zero => exact absurd HA.out (by simp [spec_l7Ints.j1])
    | succ kj2 =>
     have H := HA.out; clear HA
     simp only [spec_l7Ints.j1] at H
     by_cases c5 : x15_2 = true
     ·
      subst c5
      rw [if_pos rfl] at H
      by_cases c6 : 0 ≤ x5_1
      rotate_left
      ·
       rw [if_neg c6] at H
       exact absurd H (by simp)
      rw [if_pos c6] at H
      have c6b0 : decide (0 ≤ x5_1) = true := decide_eq_true c6; clear c6
      by_cases c7 : x5_1 < (l0.length : Int)
      rotate_left
      ·
       rw [if_neg c7] at H
       exact absurd H (by simp)
      rw [if_pos c7] at H
      have c7b0 : decide (x5_1 < (l0.length : Int)) = true := decide_eq_true c7; clear c7
      by_cases c8 : x5_1 < (l1.length : Int)
      rotate_left
      ·
       rw [if_neg c8] at H
       exact absurd H (by simp)
      rw [if_pos c8] at H
      have c8b0 : decide (x5_1 < (l1.length : Int)) = true := decide_eq_true c8; clear c8
      by_cases c9 : (rd l0 x5_1) = (rd l1 x5_1)
      ·
       rw [if_pos c9] at H
       have c9b0 : ((rd l0 x5_1) == (rd l1 x5_1)) = true := beq_iff_eq.mpr c9; have c9b1 : ((rd l0 x5_1) != (rd l1 x5_1)) = false := bne_eq_false_iff_eq.mpr c9; clear c9; have H' := Aside0.mk H; clear H; have p1029 : 0 ≤ (x5_1 : Int) := of_decide_eq_true y0_15; have q1029 : x5_1 < (l0.length : Int) := of_decide_eq_true y0_15; obtain ⟨ad1029, e1029, hx1029_0⟩ := Kd.at_int HR0.out x5_1 p1029 q1029; cases e1029; replace p1029 := eq_true p1029; replace q1029 := eq_true q1029; have p1030 : 0 ≤ (x5_1 : Int) := of_decide_eq_true y0_15; have q1030 : x5_1 < (l1.length : Int) := of_decide_eq_true y0_15; obtain ⟨ad1030, e1030, hx1030_0⟩ := Kd.at_int HR1.out x5_1 p1030 q1030; cases e1030; replace p1030 := eq_true p1030; replace q1030 := eq_true q1030
       go_wp2
       repeat (go_quiet (fail); try go_wp2)
       go_roundg kj2
       case measure => have := HK1.out; have := HJ2.out; omega
       case rel => exact ⟨(wrap64 (x5_1 + 1)), y0_16, H', ⟨by have := HK1.out; have := HJ2.out; omega⟩, y0_14⟩
      rw [if_neg c9] at H
      have c9b0 : ((rd l0 x5_1) == (rd l1 x5_1)) = false := beq_eq_false_iff_ne.mpr c9; have c9b1 : ((rd l0 x5_1) != (rd l1 x5_1)) = true := bne_iff_ne.mpr c9; obtain rfl := Option.some.inj H; have p1029 : 0 ≤ (x5_1 : Int) := of_decide_eq_true y0_15; have q1029 : x5_1 < (l0.length : Int) := of_decide_eq_true y0_15; obtain ⟨ad1029, e1029, hx1029_0⟩ := Kd.at_int HR0.out x5_1 p1029 q1029; cases e1029; replace p1029 := eq_true p1029; replace q1029 := eq_true q1029; have p1030 : 0 ≤ (x5_1 : Int) := of_decide_eq_true y0_15; have q1030 : x5_1 < (l1.length : Int) := of_decide_eq_true y0_15; obtain ⟨ad1030, e1030, hx1030_0⟩ := Kd.at_int HR1.out x5_1 p1030 q1030; cases e1030; replace p1030 := eq_true p1030; replace q1030 := eq_true q1030
      go_wp2
      repeat (go_quiet (fail); try go_wp2)
      go_ret
      exact ⟨y0_16, y0_14⟩
     replace c5 := Bool.eq_false_iff.mpr c5; subst c5
     rw [if_neg (show ¬ (false = true) by decide)] at H
     obtain rfl := Option.some.inj H
     go_wp2
     repeat (go_quiet (fail); try go_wp2)
     go_ret
     exact ⟨y0_16, y0_14⟩

/-! ### spec_QcSame: function 137 -/
def spec_QcSame.f (k : Nat) (a0_0 : Int) (a0_1 : ByteArray) (l0_2 : List Int) (a1_0 : Int) (a1_1 : ByteArray) (l1_2 : List Int) : Option (Bool) := if a0_0 = a1_0 then (if a0_1.toList = a1_1.toList then ((spec_l7Ints.f k l0_2 l1_2).bind fun t1033 => (some t1033)) else (some false)) else (some false)
theorem spec_QcSame.mono : ∀ a0 a1 a2 a3 a4 a5 k, LeO (spec_QcSame.f k a0 a1 a2 a3 a4 a5) (spec_QcSame.f (k + 1) a0 a1 a2 a3 a4 a5) := by
 intro a0 a1 a2 a3 a4 a5 k
 unfold spec_QcSame.f
 repeat' first | (with_reducible exact spec_l7Ints.mono _ _ _) | (with_reducible exact LeO.refl _) | (with_reducible exact LeO.none _) | (with_reducible refine LeO.ite ?_ ?_) | (with_reducible refine LeO.bind ?_ (fun _ => ?_))
set_option maxHeartbeats 8000000 in
set_option maxRecDepth 100000 in
theorem spec_QcSame.calls (k : Nat) (a0_0 : Int) (a0_1 : ByteArray) (A0_2 : Option Addr) (c0_2 : Nat) (l0_2 : List Int) (a1_0 : Int) (a1_1 : ByteArray) (A1_2 : Option Addr) (c1_2 : Nat) (l1_2 : List Int) (r : Bool) (w : World) (hr0_2 : Kd.C (Kd.int .i64) w A0_2 l0_2.length l0_2) (hc0_2 : l0_2.length ≤ c0_2) (hr1_2 : Kd.C (Kd.int .i64) w A1_2 l1_2.length l1_2) (hc1_2 : l1_2.length ≤ c1_2) (h : spec_QcSame.f k a0_0 a0_1 l0_2 a1_0 a1_1 l1_2 = some r) :
  Calls Tryz.prog 137 #[.agg #[.int .i64 a0_0, .string a0_1, .slice A0_2 l0_2.length c0_2], .agg #[.int .i64 a1_0, .string a1_1, .slice A1_2 l1_2.length c1_2]] w fun e w' => e = .returned (.bool r) ∧ Below w.heap.size w w' := by
 have hu27 := Tryz.underlying27; have HR0_2 := Aside0.mk hr0_2; have HC0_2 := Aside0.mk hc0_2; clear hr0_2 hc0_2; have HR1_2 := Aside0.mk hr1_2; have HC1_2 := Aside0.mk hc1_2; clear hr1_2 hc1_2; have HB := Aside0.mk (Below.refl w.heap.size w)
 have H := h; unfold spec_QcSame.f at H
 clear h
 go_enter Tryz.func137, Tryz.ntmps137
 have H' := Aside0.mk H; clear H
 go_upto_region 1 with (first | ((with_reducible refine gd 2 ?_); refine bL 2 #[.int .i64 a0_0, .string a0_1, .slice A0_2 l0_2.length c0_2] 27 ?_; intro gb1031 w3 _ _ _) | ((with_reducible refine gd 3 ?_); refine bL 3 #[.int .i64 a1_0, .string a1_1, .slice A1_2 l1_2.length c1_2] 27 ?_; intro gb1032 w4 _ _ _))
 have H := H'.out; clear H'
 by_cases c5 : a0_0 = a1_0
 ·
  rw [if_pos c5] at H
  have c5b0 : (a0_0 == a1_0) = true := beq_iff_eq.mpr c5; have c5b1 : (a0_0 != a1_0) = false := bne_eq_false_iff_eq.mpr c5; clear c5
  (first | rw [c5b0] | (simp only [i64_w, i32_w]; rw [c5b0]) | skip)
  by_cases c6 : a0_1.toList = a1_1.toList
  ·
   rw [if_pos c6] at H
   have c6b0 : (a0_1.toList == a1_1.toList) = true := beq_iff_eq.mpr c6; have c6b1 : (a0_1.toList != a1_1.toList) = false := bne_eq_false_iff_eq.mpr c6; clear c6; obtain ⟨t1033, A7, H⟩ := oB H; (try dsimp only at H); obtain rfl := Option.some.inj H
   go_wp2_with (first | (go_at_call 202; refine aD (spec_l7Ints.calls (hr0 := pC HR0_2) (hc0 := HC0_2.out) (hr1 := pC HR1_2) (hc1 := HC1_2.out) (w := _) (h := A7.out)) ?_; intro w8 _))
   go_ret
   exact ⟨y0_16, UpW.out⟩
  rw [if_neg c6] at H
  have c6b0 : (a0_1.toList == a1_1.toList) = false := beq_eq_false_iff_ne.mpr c6; have c6b1 : (a0_1.toList != a1_1.toList) = true := bne_iff_ne.mpr c6; obtain rfl := Option.some.inj H
  go_wp2
  go_ret
  exact ⟨y0_16, UpW.out⟩
 rw [if_neg c5] at H
 have c5b0 : (a0_0 == a1_0) = false := beq_eq_false_iff_ne.mpr c5; have c5b1 : (a0_0 != a1_0) = true := bne_iff_ne.mpr c5
 (first | rw [c5b0] | (simp only [i64_w, i32_w]; rw [c5b0]) | skip)
 obtain rfl := Option.some.inj H
 go_wp2
 go_ret
 exact ⟨y0_16, UpW.out⟩

end Go.Proofs.YtnpbopadajbopaaGreatDoor.PFnSafe
