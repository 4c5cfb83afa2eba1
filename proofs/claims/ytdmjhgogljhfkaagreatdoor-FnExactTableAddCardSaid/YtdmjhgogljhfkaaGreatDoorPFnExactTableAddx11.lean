-- By a program of this session, out of the translation (the print of the kit, with turns of its own). Lean checks it.
import Derived.Test.YtdmjhgogljhfkaaGreatDoorPFnExactTableAddx0
import Derived.Test.YtdmjhgogljhfkaaGreatDoorPFnExactTableAddx9
import Derived.Test.YtdmjhgogljhfkaaGreatDoorPFnExactTableAddx10
namespace Go.Proofs.YtdmjhgogljhfkaaGreatDoor.PFnExactTableAdd
open Go.RowKit Go.Proofs.YtdmjhgogljhfkaaGreatDoorW.PrintWords Go.Proofs.YtdmjhgogljhfkaaGreatDoorW.PrintLast Go.Proofs.YtdmjhgogljhfkaaGreatDoorW.PrintMore
attribute [local go_sem] max2_int min2_int max_two min_two max_three min_three max_four min_four   -- for this text's walks alone
attribute [local go_sem] cell_in frozen_in cell_g cell_p
set_option synthInstance.maxSize 1000000
set_option synthInstance.maxHeartbeats 2000000
set_option linter.unusedVariables false
set_option linter.unusedSimpArgs false

/-! ### impl_PartOk: function 48 -/
def impl_PartOk.f (k : Nat) (a0_0 : Int) (a0_1 : Int) (a1_0 : Int) (a1_1 : ByteArray) (l1_2 : List Int) : Option (Bool) := (impl_ConfOk.f a0_0 a0_1).bind fun t481 => (if t481 = true then ((impl_within.f a1_0 1 60).bind fun t482 => (if t482 = true then (if a1_1.toList = ([] : List UInt8) then ((impl_SetOk.f k a0_0 l1_2).bind fun t483 => (if t483 = true then (some (decide ((l1_2.length : Int) > 0))) else (some false))) else ((impl_NameOk.f k a1_1).bind fun t484 => (if t484 = true then ((impl_ViewOf.f k a1_1).bind fun t485 => (if t485 = a1_0 then ((impl_SetOk.f k a0_0 l1_2).bind fun t486 => (if t486 = true then (some (decide ((l1_2.length : Int) > 0))) else (some false))) else (some false))) else (some false)))) else (some false))) else (some false))
theorem impl_PartOk.mono : ∀ a0 a1 a2 a3 a4 k, LeO (impl_PartOk.f k a0 a1 a2 a3 a4) (impl_PartOk.f (k + 1) a0 a1 a2 a3 a4) := by
 intro a0 a1 a2 a3 a4 k
 unfold impl_PartOk.f
 repeat' first | (with_reducible exact impl_NameOk.mono _ _) | (with_reducible exact impl_SetOk.mono _ _ _) | (with_reducible exact impl_ViewOf.mono _ _) | (with_reducible exact LeO.refl _) | (with_reducible exact LeO.none _) | (with_reducible refine LeO.ite ?_ ?_) | (with_reducible refine LeO.bind ?_ (fun _ => ?_))
def impl_PartOk.T1 : Bool × List (List Nat × List Nat) := (true, [([], []), ([0], [0]), ([1, 1], [1]), ([2], [2]), ([3, 2], [2, 3]), ([4, 2, 2], [2, 4]), ([2, 5], [2, 5]), ([6, 5], [6]), ([7], [7]), ([8, 7], [7, 8]), ([9, 7], [7, 9]), ([10, 7, 7], [7, 10]), ([11], [11]), ([12, 11], [11, 12]), ([13, 11, 11], [11, 13]), ([14, 14, 11], [11, 14]), ([15], [15]), ([16, 15], [15, 16]), ([17, 15, 15], [15, 17]), ([15], [15]), ([19, 15], [15, 19]), ([18, 20, 15], [15, 18, 20]), ([15, 21, 11], [11, 15, 21]), ([11, 22, 7], [7, 11, 22]), ([7, 23], [7, 23]), ([24, 18], [24]), ([25], [25]), ([26, 25], [25, 26]), ([25], [25]), ([28, 25], [25, 28]), ([27, 29, 25, 25], [25, 27, 29]), ([25, 30], [25, 30]), ([31, 30], [31]), ([32], [32]), ([33, 32], [32, 33]), ([34, 32], [32, 34]), ([35, 32], [32, 35]), ([32, 36], [32, 36]), ([37, 32, 0, 1, 2, 3, 4, 5, 6, 7, 8, 9, 10, 11, 12, 13, 14, 15, 16, 17, 18, 19, 20, 21, 22, 23, 24, 25, 26, 27, 28, 29, 30, 31, 32, 33, 34, 35, 36, 37], [37])])
def impl_PartOk.B1 : List Nat := [0, 1, 3, 7, 15, 31, 63, 127, 255, 511, 1023, 2047, 4095, 8191, 16383, 32767, 65535, 131071, 262143, 65535, 589823, 2097151, 4194303, 8388607, 16777215, 33554431, 67108863, 134217727, 67108863, 335544319, 1073741823, 2147483647, 4294967295, 8589934591, 17179869183, 34359738367, 68719476735, 137438953471, 274877906943]
theorem impl_PartOk.tab1 : rtab .any (opsOf Tryz.f48 1) = impl_PartOk.T1 := by kernel_rfl
theorem impl_PartOk.bits1 : waitsOk impl_PartOk.T1.2 impl_PartOk.B1 = true := by kernel_rfl
set_option maxHeartbeats 8000000 in
set_option maxRecDepth 100000 in
theorem impl_PartOk.calls (k : Nat) (a0_0 : Int) (a0_1 : Int) (a1_0 : Int) (a1_1 : ByteArray) (A1_2 : Option Addr) (c1_2 : Nat) (l1_2 : List Int) (r : Bool) (w : World) (hr1_2 : Kd.C (Kd.int .i64) w A1_2 l1_2.length l1_2) (hc1_2 : l1_2.length ≤ c1_2) (h : impl_PartOk.f k a0_0 a0_1 a1_0 a1_1 l1_2 = some r) (hG : Glob w := by exact gG HG HB) :
  Calls Tryz.prog 48 #[.agg #[.int .i64 a0_0, .int .i64 a0_1], .agg #[.int .i64 a1_0, .string a1_1, .slice A1_2 l1_2.length c1_2]] w fun e w' => e = .returned (.bool r) ∧ Below w.heap.size w w' := by
 have HG := Aside0.mk hG; clear hG; have hu32 := Tryz.underlying32; have hu48 := Tryz.underlying48; have HR1_2 := Aside0.mk hr1_2; have HC1_2 := Aside0.mk hc1_2; clear hr1_2 hc1_2; have HB := Aside0.mk (Below.refl w.heap.size w)
 have H := h; unfold impl_PartOk.f at H
 clear h
 go_enter Tryz.func48, Tryz.ntmps48
 have H' := Aside0.mk H; clear H
 go_upto_region 1 with (first | ((with_reducible refine gd 2 ?_); refine bL 2 #[.int .i64 a0_0, .int .i64 a0_1] 32 ?_; intro gb479 w3 _ _ _) | ((with_reducible refine gd 3 ?_); refine bL 3 #[.int .i64 a1_0, .string a1_1, .slice A1_2 l1_2.length c1_2] 48 ?_; intro gb480 w4 _ _ _))
 have H := H'.out; clear H'; obtain ⟨t481, A5, H⟩ := oB H; (try dsimp only at H)
 by_cases c6 : t481 = true
 ·
  subst c6
  rw [if_pos rfl] at H
  obtain ⟨t482, A7, H⟩ := oB H; (try dsimp only at H)
  by_cases c8 : t482 = true
  ·
   subst c8
   rw [if_pos rfl] at H
   by_cases c9 : a1_1.toList = ([] : List UInt8)
   ·
    rw [if_pos c9] at H
    have c9b0 : (a1_1.toList == ([] : List UInt8)) = true := beq_iff_eq.mpr c9; have c9b1 : (a1_1.toList != ([] : List UInt8)) = false := bne_eq_false_iff_eq.mpr c9; clear c9
    (first | rw [c9b0] | (simp only [i64_w, i32_w]; rw [c9b0]) | rw [show List.isEmpty (a1_1.toList) = true from by simpa using c9b0] | skip)
    obtain ⟨t483, A10, H⟩ := oB H; (try dsimp only at H)
    by_cases c11 : t483 = true
    ·
     subst c11
     rw [if_pos rfl] at H
     obtain rfl := Option.some.inj H
     try go_wp2
     refine sB [] impl_PartOk.tab1 impl_PartOk.bits1 ?_; intro w12 _ HT_ HW_
     refine tB 0 (some 5) (bz 39 1) HT_ HW_ ?_
     refine o1 1 (some 6) (bz 39 3) HT_ rfl (kC Tryz.func105 (impl_ConfOk.calls (w := _) (h := A5.out)) ?_); intro w13 _
     refine nA (some 6) ?_
     refine pA 2 (some 7) (bz 39 7) HT_ ?_
     refine pA 3 (some 8) (bz 39 15) HT_ ?_
     refine tB 4 (some 9) (bz 39 31) HT_ HW_ ?_
     refine o1 5 (some 10) (bz 39 63) HT_ rfl (kD Tryz.func106 (impl_within.calls (w := _) (h := A7.out)) ?_); intro w14 _
     refine nA (some 10) ?_
     refine pA 6 (some 11) (bz 39 127) HT_ ?_
     refine pA 7 (some 12) (bz 39 255) HT_ ?_
     refine pA 8 (some 13) (bz 39 511) HT_ ?_
     refine tB 9 (some 14) (bz 39 1023) HT_ HW_ ?_
     refine pA 10 (some 15) (bz 39 2047) HT_ ?_
     refine pA 11 (some 16) (bz 39 4095) HT_ ?_
     refine pU 12 (some 17) (bz 39 0x1fff) HT_ ?_
     refine pU 13 (some 18) (bz 39 0x3fff) HT_ ?_
     refine pU 14 (some 19) (bz 39 0x7fff) HT_ ?_
     refine pU 15 (some 20) (bz 39 0xffff) HT_ ?_
     refine pU 16 (some 21) (bz 39 0x1ffff) HT_ ?_
     refine pU 17 (some 22) (bz 39 0x3ffff) HT_ ?_
     refine pU 18 (some 23) (bz 39 0x7ffff) HT_ ?_
     refine pU 19 (some 24) (bz 39 0xfffff) HT_ ?_
     refine pU 20 (some 25) (bz 39 0x1fffff) HT_ ?_
     refine pU 21 (some 26) (bz 39 0x3fffff) HT_ ?_
     refine pU 22 (some 27) (bz 39 0x7fffff) HT_ ?_
     refine pA 23 (some 28) (bz 39 0xffffff) HT_ ?_
     refine pA 24 (some 29) (bz 39 0x1ffffff) HT_ ?_
     refine pA 25 (some 30) (bz 39 0x3ffffff) HT_ ?_
     refine pA 26 (some 31) (bz 39 0x7ffffff) HT_ ?_
     refine tB 27 (some 32) (bz 39 0xfffffff) HT_ HW_ ?_
     refine pA 28 (some 33) (bz 39 0x1fffffff) HT_ ?_
     refine tB 29 (some 34) (bz 39 0x3fffffff) HT_ HW_ ?_
     refine o1 30 (some 35) (bz 39 0x7fffffff) HT_ rfl (kD Tryz.func51 (impl_SetOk.calls (hr1 := pC HR1_2) (hc1 := HC1_2.out) (w := _) (h := A10.out)) ?_); intro w15 _
     refine nA (some 35) ?_
     refine pA 31 (some 36) (bz 39 0xffffffff) HT_ ?_
     refine pA 32 (some 37) (bz 39 0x1ffffffff) HT_ ?_
     refine pA 33 (some 38) (bz 39 0x3ffffffff) HT_ ?_
     refine tB 34 (some 39) (bz 39 0x7ffffffff) HT_ HW_ ?_
     refine pA 35 (some 40) (bz 39 0xfffffffff) HT_ ?_
     refine pA 36 (some 41) (bz 39 0x1fffffffff) HT_ ?_
     refine pA 37 (some 42) (bz 39 0x3fffffffff) HT_ ?_
     refine pA 38 (some 4) (bz 39 0x7fffffffff) HT_ ?_
     refine done_ (done_of HT_.out (by kernel_rfl)) ?_
     try go_wp2
     go_ret
     exact ⟨y0_13, UpW.out⟩
    replace c11 := Bool.eq_false_iff.mpr c11; subst c11
    rw [if_neg (show ¬ (false = true) by decide)] at H
    obtain rfl := Option.some.inj H
    try go_wp2
    refine sB [] impl_PartOk.tab1 impl_PartOk.bits1 ?_; intro w16 _ HT_ HW_
    refine tB 0 (some 5) (bz 39 1) HT_ HW_ ?_
    refine o1 1 (some 6) (bz 39 3) HT_ rfl (kC Tryz.func105 (impl_ConfOk.calls (w := _) (h := A5.out)) ?_); intro w17 _
    refine nA (some 6) ?_
    refine pA 2 (some 7) (bz 39 7) HT_ ?_
    refine pA 3 (some 8) (bz 39 15) HT_ ?_
    refine tB 4 (some 9) (bz 39 31) HT_ HW_ ?_
    refine o1 5 (some 10) (bz 39 63) HT_ rfl (kD Tryz.func106 (impl_within.calls (w := _) (h := A7.out)) ?_); intro w18 _
    refine nA (some 10) ?_
    refine pA 6 (some 11) (bz 39 127) HT_ ?_
    refine pA 7 (some 12) (bz 39 255) HT_ ?_
    refine pA 8 (some 13) (bz 39 511) HT_ ?_
    refine tB 9 (some 14) (bz 39 1023) HT_ HW_ ?_
    refine pA 10 (some 15) (bz 39 2047) HT_ ?_
    refine pA 11 (some 16) (bz 39 4095) HT_ ?_
    refine pU 12 (some 17) (bz 39 0x1fff) HT_ ?_
    refine pU 13 (some 18) (bz 39 0x3fff) HT_ ?_
    refine pU 14 (some 19) (bz 39 0x7fff) HT_ ?_
    refine pU 15 (some 20) (bz 39 0xffff) HT_ ?_
    refine pU 16 (some 21) (bz 39 0x1ffff) HT_ ?_
    refine pU 17 (some 22) (bz 39 0x3ffff) HT_ ?_
    refine pU 18 (some 23) (bz 39 0x7ffff) HT_ ?_
    refine pU 19 (some 24) (bz 39 0xfffff) HT_ ?_
    refine pU 20 (some 25) (bz 39 0x1fffff) HT_ ?_
    refine pU 21 (some 26) (bz 39 0x3fffff) HT_ ?_
    refine pU 22 (some 27) (bz 39 0x7fffff) HT_ ?_
    refine pA 23 (some 28) (bz 39 0xffffff) HT_ ?_
    refine pA 24 (some 29) (bz 39 0x1ffffff) HT_ ?_
    refine pA 25 (some 30) (bz 39 0x3ffffff) HT_ ?_
    refine pA 26 (some 31) (bz 39 0x7ffffff) HT_ ?_
    refine tB 27 (some 32) (bz 39 0xfffffff) HT_ HW_ ?_
    refine pA 28 (some 33) (bz 39 0x1fffffff) HT_ ?_
    refine tB 29 (some 34) (bz 39 0x3fffffff) HT_ HW_ ?_
    refine o1 30 (some 35) (bz 39 0x7fffffff) HT_ rfl (kD Tryz.func51 (impl_SetOk.calls (hr1 := pC HR1_2) (hc1 := HC1_2.out) (w := _) (h := A10.out)) ?_); intro w19 _
    refine nA (some 35) ?_
    refine pA 31 (some 36) (bz 39 0xffffffff) HT_ ?_
    refine pA 32 (some 37) (bz 39 0x1ffffffff) HT_ ?_
    refine pU 33 (some 38) (bz 39 0x3ffffffff) HT_ ?_
    refine pU 34 (some 39) (bz 39 0x7ffffffff) HT_ ?_
    refine pU 35 (some 40) (bz 39 0xfffffffff) HT_ ?_
    refine pU 36 (some 41) (bz 39 0x1fffffffff) HT_ ?_
    refine pA 37 (some 42) (bz 39 0x3fffffffff) HT_ ?_
    refine pA 38 (some 4) (bz 39 0x7fffffffff) HT_ ?_
    refine done_ (done_of HT_.out (by kernel_rfl)) ?_
    try go_wp2
    go_ret
    exact ⟨y0_13, UpW.out⟩
   rw [if_neg c9] at H
   have c9b0 : (a1_1.toList == ([] : List UInt8)) = false := beq_eq_false_iff_ne.mpr c9; have c9b1 : (a1_1.toList != ([] : List UInt8)) = true := bne_iff_ne.mpr c9
   (first | rw [c9b0] | (simp only [i64_w, i32_w]; rw [c9b0]) | rw [show List.isEmpty (a1_1.toList) = false from by simpa using c9b0] | skip)
   obtain ⟨t484, A20, H⟩ := oB H; (try dsimp only at H)
   by_cases c21 : t484 = true
   ·
    subst c21
    rw [if_pos rfl] at H
    obtain ⟨t485, A22, H⟩ := oB H; (try dsimp only at H)
    by_cases c23 : t485 = a1_0
    ·
     rw [if_pos c23] at H
     have c23b0 : (t485 == a1_0) = true := beq_iff_eq.mpr c23; have c23b1 : (t485 != a1_0) = false := bne_eq_false_iff_eq.mpr c23; clear c23; obtain ⟨t486, A24, H⟩ := oB H; (try dsimp only at H)
     by_cases c25 : t486 = true
     ·
      subst c25
      rw [if_pos rfl] at H
      obtain rfl := Option.some.inj H
      try go_wp2
      refine sB [] impl_PartOk.tab1 impl_PartOk.bits1 ?_; intro w26 _ HT_ HW_
      refine tB 0 (some 5) (bz 39 1) HT_ HW_ ?_
      refine o1 1 (some 6) (bz 39 3) HT_ rfl (kC Tryz.func105 (impl_ConfOk.calls (w := _) (h := A5.out)) ?_); intro w27 _
      refine nA (some 6) ?_
      refine pA 2 (some 7) (bz 39 7) HT_ ?_
      refine pA 3 (some 8) (bz 39 15) HT_ ?_
      refine tB 4 (some 9) (bz 39 31) HT_ HW_ ?_
      refine o1 5 (some 10) (bz 39 63) HT_ rfl (kD Tryz.func106 (impl_within.calls (w := _) (h := A7.out)) ?_); intro w28 _
      refine nA (some 10) ?_
      refine pA 6 (some 11) (bz 39 127) HT_ ?_
      refine pA 7 (some 12) (bz 39 255) HT_ ?_
      refine pA 8 (some 13) (bz 39 511) HT_ ?_
      refine tB 9 (some 14) (bz 39 1023) HT_ HW_ ?_
      refine pA 10 (some 15) (bz 39 2047) HT_ ?_
      refine pA 11 (some 16) (bz 39 4095) HT_ ?_
      refine pA 12 (some 17) (bz 39 0x1fff) HT_ ?_
      refine tB 13 (some 18) (bz 39 0x3fff) HT_ HW_ ?_
      refine o1 14 (some 19) (bz 39 0x7fff) HT_ rfl (kC Tryz.func107 (impl_NameOk.calls (w := _) (h := A20.out)) ?_); intro w29 _
      refine nA (some 19) ?_
      refine pA 15 (some 20) (bz 39 0xffff) HT_ ?_
      refine pA 16 (some 21) (bz 39 0x1ffff) HT_ ?_
      refine tB 17 (some 22) (bz 39 0x3ffff) HT_ HW_ ?_
      refine pA 19 (some 24) (bz 39 0xbffff) HT_ ?_
      refine tB 20 (some 25) (bz 39 0x1bffff) HT_ HW_ ?_
      refine o1 18 (some 23) (bz 39 0x1fffff) HT_ rfl (kC Tryz.func108 (impl_ViewOf.calls (w := _) (h := A22.out)) ?_); intro w30 _
      refine nA (some 23) ?_
      refine pA 21 (some 26) (bz 39 0x3fffff) HT_ ?_
      refine pA 22 (some 27) (bz 39 0x7fffff) HT_ ?_
      refine pA 23 (some 28) (bz 39 0xffffff) HT_ ?_
      refine pA 24 (some 29) (bz 39 0x1ffffff) HT_ ?_
      refine pA 25 (some 30) (bz 39 0x3ffffff) HT_ ?_
      refine pA 26 (some 31) (bz 39 0x7ffffff) HT_ ?_
      refine tB 27 (some 32) (bz 39 0xfffffff) HT_ HW_ ?_
      refine pA 28 (some 33) (bz 39 0x1fffffff) HT_ ?_
      refine tB 29 (some 34) (bz 39 0x3fffffff) HT_ HW_ ?_
      refine o1 30 (some 35) (bz 39 0x7fffffff) HT_ rfl (kD Tryz.func51 (impl_SetOk.calls (hr1 := pC HR1_2) (hc1 := HC1_2.out) (w := _) (h := A24.out)) ?_); intro w31 _
      refine nA (some 35) ?_
      refine pA 31 (some 36) (bz 39 0xffffffff) HT_ ?_
      refine pA 32 (some 37) (bz 39 0x1ffffffff) HT_ ?_
      refine pA 33 (some 38) (bz 39 0x3ffffffff) HT_ ?_
      refine tB 34 (some 39) (bz 39 0x7ffffffff) HT_ HW_ ?_
      refine pA 35 (some 40) (bz 39 0xfffffffff) HT_ ?_
      refine pA 36 (some 41) (bz 39 0x1fffffffff) HT_ ?_
      refine pA 37 (some 42) (bz 39 0x3fffffffff) HT_ ?_
      refine pA 38 (some 4) (bz 39 0x7fffffffff) HT_ ?_
      refine done_ (done_of HT_.out (by kernel_rfl)) ?_
      try go_wp2
      go_ret
      exact ⟨y0_13, UpW.out⟩
     replace c25 := Bool.eq_false_iff.mpr c25; subst c25
     rw [if_neg (show ¬ (false = true) by decide)] at H
     obtain rfl := Option.some.inj H
     try go_wp2
     refine sB [] impl_PartOk.tab1 impl_PartOk.bits1 ?_; intro w32 _ HT_ HW_
     refine tB 0 (some 5) (bz 39 1) HT_ HW_ ?_
     refine o1 1 (some 6) (bz 39 3) HT_ rfl (kC Tryz.func105 (impl_ConfOk.calls (w := _) (h := A5.out)) ?_); intro w33 _
     refine nA (some 6) ?_
     refine pA 2 (some 7) (bz 39 7) HT_ ?_
     refine pA 3 (some 8) (bz 39 15) HT_ ?_
     refine tB 4 (some 9) (bz 39 31) HT_ HW_ ?_
     refine o1 5 (some 10) (bz 39 63) HT_ rfl (kD Tryz.func106 (impl_within.calls (w := _) (h := A7.out)) ?_); intro w34 _
     refine nA (some 10) ?_
     refine pA 6 (some 11) (bz 39 127) HT_ ?_
     refine pA 7 (some 12) (bz 39 255) HT_ ?_
     refine pA 8 (some 13) (bz 39 511) HT_ ?_
     refine tB 9 (some 14) (bz 39 1023) HT_ HW_ ?_
     refine pA 10 (some 15) (bz 39 2047) HT_ ?_
     refine pA 11 (some 16) (bz 39 4095) HT_ ?_
     refine pA 12 (some 17) (bz 39 0x1fff) HT_ ?_
     refine tB 13 (some 18) (bz 39 0x3fff) HT_ HW_ ?_
     refine o1 14 (some 19) (bz 39 0x7fff) HT_ rfl (kC Tryz.func107 (impl_NameOk.calls (w := _) (h := A20.out)) ?_); intro w35 _
     refine nA (some 19) ?_
     refine pA 15 (some 20) (bz 39 0xffff) HT_ ?_
     refine pA 16 (some 21) (bz 39 0x1ffff) HT_ ?_
     refine tB 17 (some 22) (bz 39 0x3ffff) HT_ HW_ ?_
     refine pA 19 (some 24) (bz 39 0xbffff) HT_ ?_
     refine tB 20 (some 25) (bz 39 0x1bffff) HT_ HW_ ?_
     refine o1 18 (some 23) (bz 39 0x1fffff) HT_ rfl (kC Tryz.func108 (impl_ViewOf.calls (w := _) (h := A22.out)) ?_); intro w36 _
     refine nA (some 23) ?_
     refine pA 21 (some 26) (bz 39 0x3fffff) HT_ ?_
     refine pA 22 (some 27) (bz 39 0x7fffff) HT_ ?_
     refine pA 23 (some 28) (bz 39 0xffffff) HT_ ?_
     refine pA 24 (some 29) (bz 39 0x1ffffff) HT_ ?_
     refine pA 25 (some 30) (bz 39 0x3ffffff) HT_ ?_
     refine pA 26 (some 31) (bz 39 0x7ffffff) HT_ ?_
     refine tB 27 (some 32) (bz 39 0xfffffff) HT_ HW_ ?_
     refine pA 28 (some 33) (bz 39 0x1fffffff) HT_ ?_
     refine tB 29 (some 34) (bz 39 0x3fffffff) HT_ HW_ ?_
     refine o1 30 (some 35) (bz 39 0x7fffffff) HT_ rfl (kD Tryz.func51 (impl_SetOk.calls (hr1 := pC HR1_2) (hc1 := HC1_2.out) (w := _) (h := A24.out)) ?_); intro w37 _
     refine nA (some 35) ?_
     refine pA 31 (some 36) (bz 39 0xffffffff) HT_ ?_
     refine pA 32 (some 37) (bz 39 0x1ffffffff) HT_ ?_
     refine pU 33 (some 38) (bz 39 0x3ffffffff) HT_ ?_
     refine pU 34 (some 39) (bz 39 0x7ffffffff) HT_ ?_
     refine pU 35 (some 40) (bz 39 0xfffffffff) HT_ ?_
     refine pU 36 (some 41) (bz 39 0x1fffffffff) HT_ ?_
     refine pA 37 (some 42) (bz 39 0x3fffffffff) HT_ ?_
     refine pA 38 (some 4) (bz 39 0x7fffffffff) HT_ ?_
     refine done_ (done_of HT_.out (by kernel_rfl)) ?_
     try go_wp2
     go_ret
     exact ⟨y0_13, UpW.out⟩
    rw [if_neg c23] at H
    have c23b0 : (t485 == a1_0) = false := beq_eq_false_iff_ne.mpr c23; have c23b1 : (t485 != a1_0) = true := bne_iff_ne.mpr c23; obtain rfl := Option.some.inj H
    try go_wp2
    refine sB [] impl_PartOk.tab1 impl_PartOk.bits1 ?_; intro w38 _ HT_ HW_
    refine tB 0 (some 5) (bz 39 1) HT_ HW_ ?_
    refine o1 1 (some 6) (bz 39 3) HT_ rfl (kC Tryz.func105 (impl_ConfOk.calls (w := _) (h := A5.out)) ?_); intro w39 _
    refine nA (some 6) ?_
    refine pA 2 (some 7) (bz 39 7) HT_ ?_
    refine pA 3 (some 8) (bz 39 15) HT_ ?_
    refine tB 4 (some 9) (bz 39 31) HT_ HW_ ?_
    refine o1 5 (some 10) (bz 39 63) HT_ rfl (kD Tryz.func106 (impl_within.calls (w := _) (h := A7.out)) ?_); intro w40 _
    refine nA (some 10) ?_
    refine pA 6 (some 11) (bz 39 127) HT_ ?_
    refine pA 7 (some 12) (bz 39 255) HT_ ?_
    refine pA 8 (some 13) (bz 39 511) HT_ ?_
    refine tB 9 (some 14) (bz 39 1023) HT_ HW_ ?_
    refine pA 10 (some 15) (bz 39 2047) HT_ ?_
    refine pA 11 (some 16) (bz 39 4095) HT_ ?_
    refine pA 12 (some 17) (bz 39 0x1fff) HT_ ?_
    refine tB 13 (some 18) (bz 39 0x3fff) HT_ HW_ ?_
    refine o1 14 (some 19) (bz 39 0x7fff) HT_ rfl (kC Tryz.func107 (impl_NameOk.calls (w := _) (h := A20.out)) ?_); intro w41 _
    refine nA (some 19) ?_
    refine pA 15 (some 20) (bz 39 0xffff) HT_ ?_
    refine pA 16 (some 21) (bz 39 0x1ffff) HT_ ?_
    refine tB 17 (some 22) (bz 39 0x3ffff) HT_ HW_ ?_
    refine pA 19 (some 24) (bz 39 0xbffff) HT_ ?_
    refine tB 20 (some 25) (bz 39 0x1bffff) HT_ HW_ ?_
    refine o1 18 (some 23) (bz 39 0x1fffff) HT_ rfl (kC Tryz.func108 (impl_ViewOf.calls (w := _) (h := A22.out)) ?_); intro w42 _
    refine nA (some 23) ?_
    refine pA 21 (some 26) (bz 39 0x3fffff) HT_ ?_
    refine pA 22 (some 27) (bz 39 0x7fffff) HT_ ?_
    refine pA 23 (some 28) (bz 39 0xffffff) HT_ ?_
    refine pA 24 (some 29) (bz 39 0x1ffffff) HT_ ?_
    refine pA 25 (some 30) (bz 39 0x3ffffff) HT_ ?_
    refine pU 26 (some 31) (bz 39 0x7ffffff) HT_ ?_
    refine pU 27 (some 32) (bz 39 0xfffffff) HT_ ?_
    refine pU 28 (some 33) (bz 39 0x1fffffff) HT_ ?_
    refine pU 29 (some 34) (bz 39 0x3fffffff) HT_ ?_
    refine pU 30 (some 35) (bz 39 0x7fffffff) HT_ ?_
    refine pA 31 (some 36) (bz 39 0xffffffff) HT_ ?_
    refine pA 32 (some 37) (bz 39 0x1ffffffff) HT_ ?_
    refine pU 33 (some 38) (bz 39 0x3ffffffff) HT_ ?_
    refine pU 34 (some 39) (bz 39 0x7ffffffff) HT_ ?_
    refine pU 35 (some 40) (bz 39 0xfffffffff) HT_ ?_
    refine pU 36 (some 41) (bz 39 0x1fffffffff) HT_ ?_
    refine pA 37 (some 42) (bz 39 0x3fffffffff) HT_ ?_
    refine pA 38 (some 4) (bz 39 0x7fffffffff) HT_ ?_
    refine done_ (done_of HT_.out (by kernel_rfl)) ?_
    try go_wp2
    go_ret
    exact ⟨y0_13, UpW.out⟩
   replace c21 := Bool.eq_false_iff.mpr c21; subst c21
   rw [if_neg (show ¬ (false = true) by decide)] at H
   obtain rfl := Option.some.inj H
   try go_wp2
   refine sB [] impl_PartOk.tab1 impl_PartOk.bits1 ?_; intro w43 _ HT_ HW_
   refine tB 0 (some 5) (bz 39 1) HT_ HW_ ?_
   refine o1 1 (some 6) (bz 39 3) HT_ rfl (kC Tryz.func105 (impl_ConfOk.calls (w := _) (h := A5.out)) ?_); intro w44 _
   refine nA (some 6) ?_
   refine pA 2 (some 7) (bz 39 7) HT_ ?_
   refine pA 3 (some 8) (bz 39 15) HT_ ?_
   refine tB 4 (some 9) (bz 39 31) HT_ HW_ ?_
   refine o1 5 (some 10) (bz 39 63) HT_ rfl (kD Tryz.func106 (impl_within.calls (w := _) (h := A7.out)) ?_); intro w45 _
   refine nA (some 10) ?_
   refine pA 6 (some 11) (bz 39 127) HT_ ?_
   refine pA 7 (some 12) (bz 39 255) HT_ ?_
   refine pA 8 (some 13) (bz 39 511) HT_ ?_
   refine tB 9 (some 14) (bz 39 1023) HT_ HW_ ?_
   refine pA 10 (some 15) (bz 39 2047) HT_ ?_
   refine pA 11 (some 16) (bz 39 4095) HT_ ?_
   refine pA 12 (some 17) (bz 39 0x1fff) HT_ ?_
   refine tB 13 (some 18) (bz 39 0x3fff) HT_ HW_ ?_
   refine o1 14 (some 19) (bz 39 0x7fff) HT_ rfl (kC Tryz.func107 (impl_NameOk.calls (w := _) (h := A20.out)) ?_); intro w46 _
   refine nA (some 19) ?_
   refine pA 15 (some 20) (bz 39 0xffff) HT_ ?_
   refine pU 16 (some 21) (bz 39 0x1ffff) HT_ ?_
   refine pU 17 (some 22) (bz 39 0x3ffff) HT_ ?_
   refine pU 18 (some 23) (bz 39 0x7ffff) HT_ ?_
   refine pU 19 (some 24) (bz 39 0xfffff) HT_ ?_
   refine pU 20 (some 25) (bz 39 0x1fffff) HT_ ?_
   refine pU 21 (some 26) (bz 39 0x3fffff) HT_ ?_
   refine pA 22 (some 27) (bz 39 0x7fffff) HT_ ?_
   refine pA 23 (some 28) (bz 39 0xffffff) HT_ ?_
   refine pA 24 (some 29) (bz 39 0x1ffffff) HT_ ?_
   refine pA 25 (some 30) (bz 39 0x3ffffff) HT_ ?_
   refine pU 26 (some 31) (bz 39 0x7ffffff) HT_ ?_
   refine pU 27 (some 32) (bz 39 0xfffffff) HT_ ?_
   refine pU 28 (some 33) (bz 39 0x1fffffff) HT_ ?_
   refine pU 29 (some 34) (bz 39 0x3fffffff) HT_ ?_
   refine pU 30 (some 35) (bz 39 0x7fffffff) HT_ ?_
   refine pA 31 (some 36) (bz 39 0xffffffff) HT_ ?_
   refine pA 32 (some 37) (bz 39 0x1ffffffff) HT_ ?_
   refine pU 33 (some 38) (bz 39 0x3ffffffff) HT_ ?_
   refine pU 34 (some 39) (bz 39 0x7ffffffff) HT_ ?_
   refine pU 35 (some 40) (bz 39 0xfffffffff) HT_ ?_
   refine pU 36 (some 41) (bz 39 0x1fffffffff) HT_ ?_
   refine pA 37 (some 42) (bz 39 0x3fffffffff) HT_ ?_
   refine pA 38 (some 4) (bz 39 0x7fffffffff) HT_ ?_
   refine done_ (done_of HT_.out (by kernel_rfl)) ?_
   try go_wp2
   go_ret
   exact ⟨y0_13, UpW.out⟩
  replace c8 := Bool.eq_false_iff.mpr c8; subst c8
  rw [if_neg (show ¬ (false = true) by decide)] at H
  obtain rfl := Option.some.inj H
  try go_wp2
  refine sB [] impl_PartOk.tab1 impl_PartOk.bits1 ?_; intro w47 _ HT_ HW_
  refine tB 0 (some 5) (bz 39 1) HT_ HW_ ?_
  refine o1 1 (some 6) (bz 39 3) HT_ rfl (kC Tryz.func105 (impl_ConfOk.calls (w := _) (h := A5.out)) ?_); intro w48 _
  refine nA (some 6) ?_
  refine pA 2 (some 7) (bz 39 7) HT_ ?_
  refine pA 3 (some 8) (bz 39 15) HT_ ?_
  refine tB 4 (some 9) (bz 39 31) HT_ HW_ ?_
  refine o1 5 (some 10) (bz 39 63) HT_ rfl (kD Tryz.func106 (impl_within.calls (w := _) (h := A7.out)) ?_); intro w49 _
  refine nA (some 10) ?_
  refine pA 6 (some 11) (bz 39 127) HT_ ?_
  refine pA 7 (some 12) (bz 39 255) HT_ ?_
  refine pU 8 (some 13) (bz 39 511) HT_ ?_
  refine pU 9 (some 14) (bz 39 1023) HT_ ?_
  refine pU 10 (some 15) (bz 39 2047) HT_ ?_
  refine pU 11 (some 16) (bz 39 4095) HT_ ?_
  refine pU 12 (some 17) (bz 39 0x1fff) HT_ ?_
  refine pU 13 (some 18) (bz 39 0x3fff) HT_ ?_
  refine pU 14 (some 19) (bz 39 0x7fff) HT_ ?_
  refine pU 15 (some 20) (bz 39 0xffff) HT_ ?_
  refine pU 16 (some 21) (bz 39 0x1ffff) HT_ ?_
  refine pU 17 (some 22) (bz 39 0x3ffff) HT_ ?_
  refine pU 18 (some 23) (bz 39 0x7ffff) HT_ ?_
  refine pU 19 (some 24) (bz 39 0xfffff) HT_ ?_
  refine pU 20 (some 25) (bz 39 0x1fffff) HT_ ?_
  refine pU 21 (some 26) (bz 39 0x3fffff) HT_ ?_
  refine pU 22 (some 27) (bz 39 0x7fffff) HT_ ?_
  refine pU 23 (some 28) (bz 39 0xffffff) HT_ ?_
  refine pA 24 (some 29) (bz 39 0x1ffffff) HT_ ?_
  refine pA 25 (some 30) (bz 39 0x3ffffff) HT_ ?_
  refine pU 26 (some 31) (bz 39 0x7ffffff) HT_ ?_
  refine pU 27 (some 32) (bz 39 0xfffffff) HT_ ?_
  refine pU 28 (some 33) (bz 39 0x1fffffff) HT_ ?_
  refine pU 29 (some 34) (bz 39 0x3fffffff) HT_ ?_
  refine pU 30 (some 35) (bz 39 0x7fffffff) HT_ ?_
  refine pA 31 (some 36) (bz 39 0xffffffff) HT_ ?_
  refine pA 32 (some 37) (bz 39 0x1ffffffff) HT_ ?_
  refine pU 33 (some 38) (bz 39 0x3ffffffff) HT_ ?_
  refine pU 34 (some 39) (bz 39 0x7ffffffff) HT_ ?_
  refine pU 35 (some 40) (bz 39 0xfffffffff) HT_ ?_
  refine pU 36 (some 41) (bz 39 0x1fffffffff) HT_ ?_
  refine pA 37 (some 42) (bz 39 0x3fffffffff) HT_ ?_
  refine pA 38 (some 4) (bz 39 0x7fffffffff) HT_ ?_
  refine done_ (done_of HT_.out (by kernel_rfl)) ?_
  try go_wp2
  go_ret
  exact ⟨y0_13, UpW.out⟩
 replace c6 := Bool.eq_false_iff.mpr c6; subst c6
 rw [if_neg (show ¬ (false = true) by decide)] at H
 obtain rfl := Option.some.inj H
 try go_wp2
 refine sB [] impl_PartOk.tab1 impl_PartOk.bits1 ?_; intro w50 _ HT_ HW_
 refine tB 0 (some 5) (bz 39 1) HT_ HW_ ?_
 refine o1 1 (some 6) (bz 39 3) HT_ rfl (kC Tryz.func105 (impl_ConfOk.calls (w := _) (h := A5.out)) ?_); intro w51 _
 refine nA (some 6) ?_
 refine pA 2 (some 7) (bz 39 7) HT_ ?_
 refine pU 3 (some 8) (bz 39 15) HT_ ?_
 refine pU 4 (some 9) (bz 39 31) HT_ ?_
 refine pU 5 (some 10) (bz 39 63) HT_ ?_
 refine pA 6 (some 11) (bz 39 127) HT_ ?_
 refine pA 7 (some 12) (bz 39 255) HT_ ?_
 refine pU 8 (some 13) (bz 39 511) HT_ ?_
 refine pU 9 (some 14) (bz 39 1023) HT_ ?_
 refine pU 10 (some 15) (bz 39 2047) HT_ ?_
 refine pU 11 (some 16) (bz 39 4095) HT_ ?_
 refine pU 12 (some 17) (bz 39 0x1fff) HT_ ?_
 refine pU 13 (some 18) (bz 39 0x3fff) HT_ ?_
 refine pU 14 (some 19) (bz 39 0x7fff) HT_ ?_
 refine pU 15 (some 20) (bz 39 0xffff) HT_ ?_
 refine pU 16 (some 21) (bz 39 0x1ffff) HT_ ?_
 refine pU 17 (some 22) (bz 39 0x3ffff) HT_ ?_
 refine pU 18 (some 23) (bz 39 0x7ffff) HT_ ?_
 refine pU 19 (some 24) (bz 39 0xfffff) HT_ ?_
 refine pU 20 (some 25) (bz 39 0x1fffff) HT_ ?_
 refine pU 21 (some 26) (bz 39 0x3fffff) HT_ ?_
 refine pU 22 (some 27) (bz 39 0x7fffff) HT_ ?_
 refine pU 23 (some 28) (bz 39 0xffffff) HT_ ?_
 refine pA 24 (some 29) (bz 39 0x1ffffff) HT_ ?_
 refine pA 25 (some 30) (bz 39 0x3ffffff) HT_ ?_
 refine pU 26 (some 31) (bz 39 0x7ffffff) HT_ ?_
 refine pU 27 (some 32) (bz 39 0xfffffff) HT_ ?_
 refine pU 28 (some 33) (bz 39 0x1fffffff) HT_ ?_
 refine pU 29 (some 34) (bz 39 0x3fffffff) HT_ ?_
 refine pU 30 (some 35) (bz 39 0x7fffffff) HT_ ?_
 refine pA 31 (some 36) (bz 39 0xffffffff) HT_ ?_
 refine pA 32 (some 37) (bz 39 0x1ffffffff) HT_ ?_
 refine pU 33 (some 38) (bz 39 0x3ffffffff) HT_ ?_
 refine pU 34 (some 39) (bz 39 0x7ffffffff) HT_ ?_
 refine pU 35 (some 40) (bz 39 0xfffffffff) HT_ ?_
 refine pU 36 (some 41) (bz 39 0x1fffffffff) HT_ ?_
 refine pA 37 (some 42) (bz 39 0x3fffffffff) HT_ ?_
 refine pA 38 (some 4) (bz 39 0x7fffffffff) HT_ ?_
 refine done_ (done_of HT_.out (by kernel_rfl)) ?_
 try go_wp2
 go_ret
 exact ⟨y0_13, UpW.out⟩

/-! ### cmp_isNaN_int: function 162 -/
def cmp_isNaN_int.f (a0 : Int) : Option (Bool) := some (a0 != a0)
set_option maxHeartbeats 8000000 in
set_option maxRecDepth 100000 in
theorem cmp_isNaN_int.calls (a0 : Int) (r : Bool) (w : World) (h : cmp_isNaN_int.f a0 = some r) :
  Calls Tryz.prog 162 #[.int .i64 a0] w fun e w' => e = .returned (.bool r) ∧ Drawn0 w w' := by
 have H := h; unfold cmp_isNaN_int.f at H; clear h; obtain rfl := Option.some.inj H
 go_enter Tryz.func162, Tryz.ntmps162
 go_wp2
 go_ret
 exact ⟨y0_13, y0_9⟩

/-! ### cmp_Compare_int: function 136 -/
def cmp_Compare_int.f (a0 : Int) (a1 : Int) : Option (Int) := (cmp_isNaN_int.f a0).bind fun t487 => ((cmp_isNaN_int.f a1).bind fun t488 => (if t487 = true then (if t488 = true then (some 0) else (some (-1))) else (if t488 = true then (some 1) else (if a0 < a1 then (some (-1)) else (if a0 > a1 then (some 1) else (some 0))))))
set_option maxHeartbeats 8000000 in
set_option maxRecDepth 100000 in
theorem cmp_Compare_int.calls (a0 : Int) (a1 : Int) (r : Int) (w : World) (h : cmp_Compare_int.f a0 a1 = some r) :
  Calls Tryz.prog 136 #[.int .i64 a0, .int .i64 a1] w fun e w' => e = .returned (.int .i64 r) ∧ Drawn0 w w' := by
 have H := h; unfold cmp_Compare_int.f at H
 clear h; obtain ⟨t487, A3, H⟩ := oB H; (try dsimp only at H); obtain ⟨t488, A4, H⟩ := oB H; (try dsimp only at H)
 by_cases c5 : t487 = true
 ·
  subst c5
  rw [if_pos rfl] at H
  by_cases c6 : t488 = true
  ·
   subst c6
   rw [if_pos rfl] at H
   obtain rfl := Option.some.inj H
   go_enter Tryz.func136, Tryz.ntmps136
   go_wp2_with (first | ((with_reducible refine gate_callee (f := 162) rfl ?_); refine gB (some 8) Tryz.func162 #[.int .i64 a0] ?_; (with_reducible refine (cmp_isNaN_int.calls a0 true _ A3.out).mono ?_); rintro e w' ⟨rfl, ⟨nd, rfl⟩⟩; refine ⟨_, rfl, ?_⟩) | ((with_reducible refine gate_callee (f := 162) rfl ?_); refine gB (some 10) Tryz.func162 #[.int .i64 a1] ?_; (with_reducible refine (cmp_isNaN_int.calls a1 true _ A4.out).mono ?_); rintro e w' ⟨rfl, ⟨nd, rfl⟩⟩; refine ⟨_, rfl, ?_⟩))
   go_ret
   exact ⟨y0_13, y0_9⟩
  replace c6 := Bool.eq_false_iff.mpr c6; subst c6
  rw [if_neg (show ¬ (false = true) by decide)] at H
  obtain rfl := Option.some.inj H
  go_enter Tryz.func136, Tryz.ntmps136
  go_wp2_with (first | ((with_reducible refine gate_callee (f := 162) rfl ?_); refine gB (some 8) Tryz.func162 #[.int .i64 a0] ?_; (with_reducible refine (cmp_isNaN_int.calls a0 true _ A3.out).mono ?_); rintro e w' ⟨rfl, ⟨nd, rfl⟩⟩; refine ⟨_, rfl, ?_⟩) | ((with_reducible refine gate_callee (f := 162) rfl ?_); refine gB (some 10) Tryz.func162 #[.int .i64 a1] ?_; (with_reducible refine (cmp_isNaN_int.calls a1 false _ A4.out).mono ?_); rintro e w' ⟨rfl, ⟨nd, rfl⟩⟩; refine ⟨_, rfl, ?_⟩))
  go_ret
  exact ⟨y0_13, y0_9⟩
 replace c5 := Bool.eq_false_iff.mpr c5; subst c5
 rw [if_neg (show ¬ (false = true) by decide)] at H
 by_cases c7 : t488 = true
 ·
  subst c7
  rw [if_pos rfl] at H
  obtain rfl := Option.some.inj H
  go_enter Tryz.func136, Tryz.ntmps136
  go_wp2_with (first | ((with_reducible refine gate_callee (f := 162) rfl ?_); refine gB (some 8) Tryz.func162 #[.int .i64 a0] ?_; (with_reducible refine (cmp_isNaN_int.calls a0 false _ A3.out).mono ?_); rintro e w' ⟨rfl, ⟨nd, rfl⟩⟩; refine ⟨_, rfl, ?_⟩) | ((with_reducible refine gate_callee (f := 162) rfl ?_); refine gB (some 10) Tryz.func162 #[.int .i64 a1] ?_; (with_reducible refine (cmp_isNaN_int.calls a1 true _ A4.out).mono ?_); rintro e w' ⟨rfl, ⟨nd, rfl⟩⟩; refine ⟨_, rfl, ?_⟩))
  go_ret
  exact ⟨y0_13, y0_9⟩
 replace c7 := Bool.eq_false_iff.mpr c7; subst c7
 rw [if_neg (show ¬ (false = true) by decide)] at H
 by_cases c8 : a0 < a1
 ·
  rw [if_pos c8] at H
  have c8b0 : decide (a0 < a1) = true := decide_eq_true c8; clear c8; obtain rfl := Option.some.inj H
  go_enter Tryz.func136, Tryz.ntmps136
  go_wp2_with (first | ((with_reducible refine gate_callee (f := 162) rfl ?_); refine gB (some 8) Tryz.func162 #[.int .i64 a0] ?_; (with_reducible refine (cmp_isNaN_int.calls a0 false _ A3.out).mono ?_); rintro e w' ⟨rfl, ⟨nd, rfl⟩⟩; refine ⟨_, rfl, ?_⟩) | ((with_reducible refine gate_callee (f := 162) rfl ?_); refine gB (some 10) Tryz.func162 #[.int .i64 a1] ?_; (with_reducible refine (cmp_isNaN_int.calls a1 false _ A4.out).mono ?_); rintro e w' ⟨rfl, ⟨nd, rfl⟩⟩; refine ⟨_, rfl, ?_⟩))
  go_ret
  exact ⟨y0_13, y0_9⟩
 rw [if_neg c8] at H
 have c8b0 : decide (a0 < a1) = false := decide_eq_false c8; clear c8
 by_cases c9 : a0 > a1
 ·
  rw [if_pos c9] at H
  have c9b0 : decide (a1 < a0) = true := decide_eq_true c9; clear c9; obtain rfl := Option.some.inj H
  go_enter Tryz.func136, Tryz.ntmps136
  go_wp2_with (first | ((with_reducible refine gate_callee (f := 162) rfl ?_); refine gB (some 8) Tryz.func162 #[.int .i64 a0] ?_; (with_reducible refine (cmp_isNaN_int.calls a0 false _ A3.out).mono ?_); rintro e w' ⟨rfl, ⟨nd, rfl⟩⟩; refine ⟨_, rfl, ?_⟩) | ((with_reducible refine gate_callee (f := 162) rfl ?_); refine gB (some 10) Tryz.func162 #[.int .i64 a1] ?_; (with_reducible refine (cmp_isNaN_int.calls a1 false _ A4.out).mono ?_); rintro e w' ⟨rfl, ⟨nd, rfl⟩⟩; refine ⟨_, rfl, ?_⟩))
  go_ret
  exact ⟨y0_13, y0_9⟩
 rw [if_neg c9] at H
 have c9b0 : decide (a1 < a0) = false := decide_eq_false c9; clear c9; obtain rfl := Option.some.inj H
 go_enter Tryz.func136, Tryz.ntmps136
 go_wp2_with (first | ((with_reducible refine gate_callee (f := 162) rfl ?_); refine gB (some 8) Tryz.func162 #[.int .i64 a0] ?_; (with_reducible refine (cmp_isNaN_int.calls a0 false _ A3.out).mono ?_); rintro e w' ⟨rfl, ⟨nd, rfl⟩⟩; refine ⟨_, rfl, ?_⟩) | ((with_reducible refine gate_callee (f := 162) rfl ?_); refine gB (some 10) Tryz.func162 #[.int .i64 a1] ?_; (with_reducible refine (cmp_isNaN_int.calls a1 false _ A4.out).mono ?_); rintro e w' ⟨rfl, ⟨nd, rfl⟩⟩; refine ⟨_, rfl, ?_⟩))
 go_ret
 exact ⟨y0_13, y0_9⟩

/-! ### cmp_isNaN_string: function 163 -/
def cmp_isNaN_string.f (a0 : ByteArray) : Option (Bool) := some (a0.toList != a0.toList)
set_option maxHeartbeats 8000000 in
set_option maxRecDepth 100000 in
theorem cmp_isNaN_string.calls (a0 : ByteArray) (r : Bool) (w : World) (h : cmp_isNaN_string.f a0 = some r) :
  Calls Tryz.prog 163 #[.string a0] w fun e w' => e = .returned (.bool r) ∧ Drawn0 w w' := by
 have H := h; unfold cmp_isNaN_string.f at H; clear h; obtain rfl := Option.some.inj H
 go_enter Tryz.func163, Tryz.ntmps163
 go_wp2
 go_ret
 exact ⟨y0_13, y0_9⟩

theorem lessGt : ∀ x y : List UInt8, (!(Op.bytesLess x y || x == y)) = Op.bytesLess y x
 | [], [] => by simp [Op.bytesLess]
 | [], b :: y => by simp [Op.bytesLess]
 | a :: x, [] => by simp [Op.bytesLess]
 | a :: x, b :: y => by
  have ih := lessGt x y
  simp only [Op.bytesLess]
  by_cases h1 : a < b
  ·
   have h2 : ¬ b < a := by rw [UInt8.lt_iff_toNat_lt] at h1 ⊢; omega
   have h3 : b ≠ a := by rintro rfl; exact h2 h1
   simp [h1, h2, h3]
  by_cases h2 : a = b
  ·
   subst h2
   simp only [List.cons_beq_cons, beq_self_eq_true, Bool.true_and, h1, decide_false, Bool.false_or]
   exact ih
  have h3 : b < a := by
   rw [UInt8.lt_iff_toNat_lt] at h1 ⊢
   have : a.toNat ≠ b.toNat := fun e => h2 (UInt8.toNat_inj.1 e)
   omega
  have h4 : b ≠ a := fun e => h2 e.symm
  simp [h1, h2, h3]
theorem gtr_str (t : TypeId) (a b : ByteArray) : binOp .gtr t (.string a) (.string b) = pure (.bool (Op.bytesLess b.toList a.toList)) := by
 rw [← lessGt]
 simp [binOp, Op.stringOp]

/-! ### cmp_Compare_string: function 137 -/
def cmp_Compare_string.f (a0 : ByteArray) (a1 : ByteArray) : Option (Int) := (cmp_isNaN_string.f a0).bind fun t489 => ((cmp_isNaN_string.f a1).bind fun t490 => (if t489 = true then (if t490 = true then (some 0) else (some (-1))) else (if t490 = true then (some 1) else (if (Op.bytesLess a0.toList a1.toList) = true then (some (-1)) else (if (Op.bytesLess a1.toList a0.toList) = true then (some 1) else (some 0))))))
set_option maxHeartbeats 8000000 in
set_option maxRecDepth 100000 in
theorem cmp_Compare_string.calls (a0 : ByteArray) (a1 : ByteArray) (r : Int) (w : World) (h : cmp_Compare_string.f a0 a1 = some r) :
  Calls Tryz.prog 137 #[.string a0, .string a1] w fun e w' => e = .returned (.int .i64 r) ∧ Drawn0 w w' := by
 have hgs := gtr_str
 have H := h; unfold cmp_Compare_string.f at H
 clear h; obtain ⟨t489, A3, H⟩ := oB H; (try dsimp only at H); obtain ⟨t490, A4, H⟩ := oB H; (try dsimp only at H)
 by_cases c5 : t489 = true
 ·
  subst c5
  rw [if_pos rfl] at H
  by_cases c6 : t490 = true
  ·
   subst c6
   rw [if_pos rfl] at H
   obtain rfl := Option.some.inj H
   go_enter Tryz.func137, Tryz.ntmps137
   go_wp2_with (first | ((with_reducible refine gate_callee (f := 163) rfl ?_); refine gB (some 8) Tryz.func163 #[.string a0] ?_; (with_reducible refine (cmp_isNaN_string.calls a0 true _ A3.out).mono ?_); rintro e w' ⟨rfl, ⟨nd, rfl⟩⟩; refine ⟨_, rfl, ?_⟩) | ((with_reducible refine gate_callee (f := 163) rfl ?_); refine gB (some 10) Tryz.func163 #[.string a1] ?_; (with_reducible refine (cmp_isNaN_string.calls a1 true _ A4.out).mono ?_); rintro e w' ⟨rfl, ⟨nd, rfl⟩⟩; refine ⟨_, rfl, ?_⟩))
   go_ret
   exact ⟨y0_13, y0_9⟩
  replace c6 := Bool.eq_false_iff.mpr c6; subst c6
  rw [if_neg (show ¬ (false = true) by decide)] at H
  obtain rfl := Option.some.inj H
  go_enter Tryz.func137, Tryz.ntmps137
  go_wp2_with (first | ((with_reducible refine gate_callee (f := 163) rfl ?_); refine gB (some 8) Tryz.func163 #[.string a0] ?_; (with_reducible refine (cmp_isNaN_string.calls a0 true _ A3.out).mono ?_); rintro e w' ⟨rfl, ⟨nd, rfl⟩⟩; refine ⟨_, rfl, ?_⟩) | ((with_reducible refine gate_callee (f := 163) rfl ?_); refine gB (some 10) Tryz.func163 #[.string a1] ?_; (with_reducible refine (cmp_isNaN_string.calls a1 false _ A4.out).mono ?_); rintro e w' ⟨rfl, ⟨nd, rfl⟩⟩; refine ⟨_, rfl, ?_⟩))
  go_ret
  exact ⟨y0_13, y0_9⟩
 replace c5 := Bool.eq_false_iff.mpr c5; subst c5
 rw [if_neg (show ¬ (false = true) by decide)] at H
 by_cases c7 : t490 = true
 ·
  subst c7
  rw [if_pos rfl] at H
  obtain rfl := Option.some.inj H
  go_enter Tryz.func137, Tryz.ntmps137
  go_wp2_with (first | ((with_reducible refine gate_callee (f := 163) rfl ?_); refine gB (some 8) Tryz.func163 #[.string a0] ?_; (with_reducible refine (cmp_isNaN_string.calls a0 false _ A3.out).mono ?_); rintro e w' ⟨rfl, ⟨nd, rfl⟩⟩; refine ⟨_, rfl, ?_⟩) | ((with_reducible refine gate_callee (f := 163) rfl ?_); refine gB (some 10) Tryz.func163 #[.string a1] ?_; (with_reducible refine (cmp_isNaN_string.calls a1 true _ A4.out).mono ?_); rintro e w' ⟨rfl, ⟨nd, rfl⟩⟩; refine ⟨_, rfl, ?_⟩))
  go_ret
  exact ⟨y0_13, y0_9⟩
 replace c7 := Bool.eq_false_iff.mpr c7; subst c7
 rw [if_neg (show ¬ (false = true) by decide)] at H
 by_cases c8 : (Op.bytesLess a0.toList a1.toList) = true
 ·
  rw [if_pos c8] at H
  have c8b0 : (Op.bytesLess a0.toList a1.toList) = true := c8; clear c8; obtain rfl := Option.some.inj H
  go_enter Tryz.func137, Tryz.ntmps137
  go_wp2_with (first | ((with_reducible refine gate_callee (f := 163) rfl ?_); refine gB (some 8) Tryz.func163 #[.string a0] ?_; (with_reducible refine (cmp_isNaN_string.calls a0 false _ A3.out).mono ?_); rintro e w' ⟨rfl, ⟨nd, rfl⟩⟩; refine ⟨_, rfl, ?_⟩) | ((with_reducible refine gate_callee (f := 163) rfl ?_); refine gB (some 10) Tryz.func163 #[.string a1] ?_; (with_reducible refine (cmp_isNaN_string.calls a1 false _ A4.out).mono ?_); rintro e w' ⟨rfl, ⟨nd, rfl⟩⟩; refine ⟨_, rfl, ?_⟩))
  go_ret
  exact ⟨y0_13, y0_9⟩
 rw [if_neg c8] at H
 have c8b0 : (Op.bytesLess a0.toList a1.toList) = false := by simpa using c8
 clear c8
 by_cases c9 : (Op.bytesLess a1.toList a0.toList) = true
 ·
  rw [if_pos c9] at H
  have c9b0 : (Op.bytesLess a1.toList a0.toList) = true := c9; clear c9; obtain rfl := Option.some.inj H
  go_enter Tryz.func137, Tryz.ntmps137
  go_wp2_with (first | ((with_reducible refine gate_callee (f := 163) rfl ?_); refine gB (some 8) Tryz.func163 #[.string a0] ?_; (with_reducible refine (cmp_isNaN_string.calls a0 false _ A3.out).mono ?_); rintro e w' ⟨rfl, ⟨nd, rfl⟩⟩; refine ⟨_, rfl, ?_⟩) | ((with_reducible refine gate_callee (f := 163) rfl ?_); refine gB (some 10) Tryz.func163 #[.string a1] ?_; (with_reducible refine (cmp_isNaN_string.calls a1 false _ A4.out).mono ?_); rintro e w' ⟨rfl, ⟨nd, rfl⟩⟩; refine ⟨_, rfl, ?_⟩))
  go_ret
  exact ⟨y0_13, y0_9⟩
 rw [if_neg c9] at H
 have c9b0 : (Op.bytesLess a1.toList a0.toList) = false := by simpa using c9
 clear c9; obtain rfl := Option.some.inj H
 go_enter Tryz.func137, Tryz.ntmps137
 go_wp2_with (first | ((with_reducible refine gate_callee (f := 163) rfl ?_); refine gB (some 8) Tryz.func163 #[.string a0] ?_; (with_reducible refine (cmp_isNaN_string.calls a0 false _ A3.out).mono ?_); rintro e w' ⟨rfl, ⟨nd, rfl⟩⟩; refine ⟨_, rfl, ?_⟩) | ((with_reducible refine gate_callee (f := 163) rfl ?_); refine gB (some 10) Tryz.func163 #[.string a1] ?_; (with_reducible refine (cmp_isNaN_string.calls a1 false _ A4.out).mono ?_); rintro e w' ⟨rfl, ⟨nd, rfl⟩⟩; refine ⟨_, rfl, ?_⟩))
 go_ret
 exact ⟨y0_13, y0_9⟩

/-! ### impl_comparePlace: function 83 -/
def impl_comparePlace.f (a0_0 : Int) (a0_1 : ByteArray) (l0_2 : List Int) (a1_0 : Int) (a1_1 : ByteArray) (l1_2 : List Int) : Option (Int) := (cmp_Compare_int.f a0_0 a1_0).bind fun t493 => (if t493 = 0 then ((cmp_Compare_string.f a0_1 a1_1).bind fun t494 => (some t494)) else (some t493))
set_option maxHeartbeats 8000000 in
set_option maxRecDepth 100000 in
theorem impl_comparePlace.calls (a0_0 : Int) (a0_1 : ByteArray) (A0_2 : Option Addr) (c0_2 : Nat) (l0_2 : List Int) (a1_0 : Int) (a1_1 : ByteArray) (A1_2 : Option Addr) (c1_2 : Nat) (l1_2 : List Int) (r : Int) (w : World) (hr0_2 : Kd.C (Kd.int .i64) w A0_2 l0_2.length l0_2) (hc0_2 : l0_2.length ≤ c0_2) (hr1_2 : Kd.C (Kd.int .i64) w A1_2 l1_2.length l1_2) (hc1_2 : l1_2.length ≤ c1_2) (h : impl_comparePlace.f a0_0 a0_1 l0_2 a1_0 a1_1 l1_2 = some r) :
  Calls Tryz.prog 83 #[.agg #[.int .i64 a0_0, .string a0_1, .slice A0_2 l0_2.length c0_2], .agg #[.int .i64 a1_0, .string a1_1, .slice A1_2 l1_2.length c1_2]] w fun e w' => e = .returned (.int .i64 r) ∧ Below w.heap.size w w' := by
 have hu48 := Tryz.underlying48; have HR0_2 := Aside0.mk hr0_2; have HC0_2 := Aside0.mk hc0_2; clear hr0_2 hc0_2; have HR1_2 := Aside0.mk hr1_2; have HC1_2 := Aside0.mk hc1_2; clear hr1_2 hc1_2; have HB := Aside0.mk (Below.refl w.heap.size w)
 have H := h; unfold impl_comparePlace.f at H
 clear h; obtain ⟨t493, A3, H⟩ := oB H; (try dsimp only at H)
 go_enter Tryz.func83, Tryz.ntmps83
 have H' := Aside0.mk H; clear H
 go_upto_if 12 with (first | ((with_reducible refine gd 2 ?_); refine bL 2 #[.int .i64 a0_0, .string a0_1, .slice A0_2 l0_2.length c0_2] 48 ?_; intro gb491 w4 _ _ _) | ((with_reducible refine gd 3 ?_); refine bL 3 #[.int .i64 a1_0, .string a1_1, .slice A1_2 l1_2.length c1_2] 48 ?_; intro gb492 w5 _ _ _) | ((with_reducible refine gate_callee (f := 136) rfl ?_); refine gD (some 10) Tryz.func136 (cmp_Compare_int.calls (w := _) (h := A3.out)) ?_; intro w6 _))
 have H := H'.out; clear H'
 by_cases c7 : t493 = 0
 ·
  rw [if_pos c7] at H
  have c7b0 : (t493 == 0) = true := beq_iff_eq.mpr c7; have c7b1 : (t493 != 0) = false := bne_eq_false_iff_eq.mpr c7; clear c7
  (first | rw [c7b0] | (simp only [i64_w, i32_w]; rw [c7b0]) | skip)
  obtain ⟨t494, A8, H⟩ := oB H; (try dsimp only at H); obtain rfl := Option.some.inj H
  go_wp2_with (first | ((with_reducible refine gate_callee (f := 137) rfl ?_); refine gD (some 18) Tryz.func137 (cmp_Compare_string.calls (w := _) (h := A8.out)) ?_; intro w9 _))
  go_ret
  exact ⟨y0_13, UpW.out⟩
 rw [if_neg c7] at H
 have c7b0 : (t493 == 0) = false := beq_eq_false_iff_ne.mpr c7; have c7b1 : (t493 != 0) = true := bne_iff_ne.mpr c7
 (first | rw [c7b0] | (simp only [i64_w, i32_w]; rw [c7b0]) | skip)
 obtain rfl := Option.some.inj H
 go_wp2
 go_ret
 exact ⟨y0_13, UpW.out⟩

end Go.Proofs.YtdmjhgogljhfkaaGreatDoor.PFnExactTableAdd
