import Derived.Test.YtdmjhgogljhfkaaGreatDoorPFnNotesx0
import Derived.Test.YtdmjhgogljhfkaaGreatDoorPFnNotesx4
import Derived.Test.YtdmjhgogljhfkaaGreatDoorPFnNotesx10
import Derived.Test.YtdmjhgogljhfkaaGreatDoorPFnNotesx13
import Derived.Test.YtdmjhgogljhfkaaGreatDoorPFnNotesx1
import Derived.Test.YtdmjhgogljhfkaaGreatDoorPFnNotesx7
namespace Go.Proofs.YtdmjhgogljhfkaaGreatDoor.PFnNotes
open Go.RowKit Go.Proofs.YtdmjhgogljhfkaaGreatDoorW.PrintWords Go.Proofs.YtdmjhgogljhfkaaGreatDoorW.PrintLast Go.Proofs.YtdmjhgogljhfkaaGreatDoorW.PrintMore
attribute [local go_sem] max2_int min2_int max_two min_two max_three min_three max_four min_four
attribute [local go_sem] cell_in frozen_in cell_g cell_p cell_r cell_q
set_option synthInstance.maxSize 1000000
set_option synthInstance.maxHeartbeats 2000000
set_option linter.unusedVariables false
set_option linter.unusedSimpArgs false
set_option maxHeartbeats 8000000
set_option maxRecDepth 100000
def spec_See.f (k : Nat) (a0_0 : Int) (a0_1 : Int) (a1_0 : Int) (a1_1 : Int) (a1_2 : Int) (a1_3 : ByteArray) (l1_4 : List Int) (a1_5 : ByteArray) (a2_0 : Int) (a2_1 : ByteArray) (l2_2 : List Int) : Option (Int × Int × Int × ByteArray × List Int × ByteArray) := (spec_l11Copy.f a1_0 a1_1 a1_2 a1_3 l1_4 a1_5).bind fun bt834 => ((spec_SafeOk.f k a0_0 a0_1 a1_0 a1_1 a1_2 a1_3 l1_4 a1_5).bind fun t843 => (if t843 = true then ((spec_QcOk.f k a0_0 a0_1 a2_0 a2_1 l2_2).bind fun t844 => (if t844 = true then ((spec_QcLater.f a2_0 a2_1 l2_2 a1_2 a1_3 l1_4).bind fun bt845 => ((spec_UpOf.f k a2_1).bind fun t850 => ((spec_ViewOf.f k t850).bind fun t851 => ((spec_l1Max.f a1_1 t851).bind fun t852 => ((spec_Settles.f k a2_1).bind fun bt853 => (if bt853.2 = true then ((spec_Extends.f k bt853.1 a1_5).bind fun t855 => (if t855 = true then (some (bt834.1, t852, bt845.1, bt845.2.1, bt845.2.2, bt853.1)) else (some (bt834.1, t852, bt845.1, bt845.2.1, bt845.2.2, bt834.2.2.2.2.2)))) else (some (bt834.1, t852, bt845.1, bt845.2.1, bt845.2.2, bt834.2.2.2.2.2)))))))) else (some (bt834.1, bt834.2.1, bt834.2.2.1, bt834.2.2.2.1, bt834.2.2.2.2.1, bt834.2.2.2.2.2)))) else (some (bt834.1, bt834.2.1, bt834.2.2.1, bt834.2.2.2.1, bt834.2.2.2.2.1, bt834.2.2.2.2.2))))
def spec_See.T5 : Bool × List (List Nat × List Nat) := (true, [([], []), ([0], [0]), ([], []), ([2], [2]), ([3], [3]), ([4, 4], [4]), ([1, 5, 5], [1, 5]), ([0, 1, 2, 3, 4, 5, 6], []), ([7, 6, 6, 0, 1, 2, 3, 4, 5, 6], [6, 7])])
def spec_See.B5 : List Nat := [0, 1, 0, 4, 12, 28, 63, 127, 255]
theorem spec_See.tab5 : rtab .any (opsOf Tryz.f157 5) = spec_See.T5 := by kernel_rfl
theorem spec_See.bits5 : waitsOk spec_See.T5.2 spec_See.B5 = true := by kernel_rfl
theorem spec_See.calls (k : Nat) (a0_0 : Int) (a0_1 : Int) (a1_0 : Int) (a1_1 : Int) (a1_2 : Int) (a1_3 : ByteArray) (A1_4 : Option Addr) (c1_4 : Nat) (l1_4 : List Int) (a1_5 : ByteArray) (a2_0 : Int) (a2_1 : ByteArray) (A2_2 : Option Addr) (c2_2 : Nat) (l2_2 : List Int) (r1 : Int) (r2 : Int) (r3 : Int) (r4 : ByteArray) (r5 : List Int) (r6 : ByteArray) (w : World) (hr1_4 : Kd.C (Kd.int .i64) w A1_4 l1_4.length l1_4) (hc1_4 : l1_4.length ≤ c1_4) (hr2_2 : Kd.C (Kd.int .i64) w A2_2 l2_2.length l2_2) (hc2_2 : l2_2.length ≤ c2_2) (h : spec_See.f k a0_0 a0_1 a1_0 a1_1 a1_2 a1_3 l1_4 a1_5 a2_0 a2_1 l2_2 = some (r1, r2, r3, r4, r5, r6)) :
  Calls Tryz.prog 157 #[.agg #[.int .i64 a0_0, .int .i64 a0_1], .agg #[.int .i64 a1_0, .int .i64 a1_1, .int .i64 a1_2, .string a1_3, .slice A1_4 l1_4.length c1_4, .string a1_5], .agg #[.int .i64 a2_0, .string a2_1, .slice A2_2 l2_2.length c2_2]] w fun e w' => ∃ v4_ : Value, e = .returned (.agg #[.int .i64 r1, .int .i64 r2, .int .i64 r3, .string r4, v4_, .string r6]) ∧ Kd.R (Kd.int .i64) 3 w' w.heap.size (fun _ => True) v4_ r5 ∧ Below w.heap.size w w' := by
 have hu32 := Tryz.underlying32; have hu29 := Tryz.underlying29; have hu27 := Tryz.underlying27; have HR1_4 := Aside0.mk hr1_4; have HC1_4 := Aside0.mk hc1_4; clear hr1_4 hc1_4; have HR2_2 := Aside0.mk hr2_2; have HC2_2 := Aside0.mk hc2_2; clear hr2_2 hc2_2; have HB := Aside0.mk (Below.refl w.heap.size w)
 have H := h; unfold spec_See.f at H
 clear h; obtain ⟨⟨t834, t835, t836, t837, t838, t841⟩, A4, H⟩ := oB H; (try dsimp only at H)
 go_enter Tryz.func157, Tryz.ntmps157
 have H' := Aside0.mk H; clear H
 go_upto_region 2 with (first | ((with_reducible refine gd 3 ?_); refine bL 3 #[.int .i64 a0_0, .int .i64 a0_1] 32 ?_; intro gb830 w5 _ _ _) | ((with_reducible refine gd 4 ?_); refine bL 4 #[.int .i64 a1_0, .int .i64 a1_1, .int .i64 a1_2, .string a1_3, .slice A1_4 l1_4.length c1_4, .string a1_5] 29 ?_; intro gb831 w6 _ _ _) | ((with_reducible refine gd 5 ?_); refine bL 5 #[.int .i64 a2_0, .string a2_1, .slice A2_2 l2_2.length c2_2] 27 ?_; intro gb832 w7 _ _ _) | ((with_reducible refine gd 6 ?_); refine bL 6 #[.int .i64 0, .int .i64 0, .int .i64 0, .string (⟨#[]⟩ : ByteArray), .slice none 0 0, .string (⟨#[]⟩ : ByteArray)] 29 ?_; intro gb833 w8 _ _ _) | ((with_reducible refine gate_callee (f := 184) rfl ?_); refine gC1 (some 11) Tryz.func184 (spec_l11Copy.calls (hr0_4 := pC HR1_4) (hc0_4 := HC1_4.out) (w := _) (h := A4.out)) ?_; intro Ao839 co839 w9 _ HO840) | ((with_reducible refine gd 7 ?_); refine bL 7 #[.int .i64 0, .int .i64 0, .int .i64 0, .string (⟨#[]⟩ : ByteArray), .slice none 0 0, .string (⟨#[]⟩ : ByteArray)] 29 ?_; intro gb842 w10 _ _ _))
 have H := H'.out; clear H'; obtain ⟨t843, A11, H⟩ := oB H; (try dsimp only at H)
 by_cases c12 : t843 = true
 ·
  subst c12
  rw [if_pos rfl] at H
  obtain ⟨t844, A13, H⟩ := oB H; (try dsimp only at H); have H' := Aside0.mk H; clear H
  go_upto_if 21 with (first | ((with_reducible refine gate_callee (f := 129) rfl ?_); refine gC (some 14) Tryz.func129 (spec_SafeOk.calls (hr1_4 := pC HR1_4) (hc1_4 := HC1_4.out) (w := _) (h := A11.out)) ?_; intro w14 _) | (go_at_call 100; refine aC (spec_QcOk.calls (hr1_2 := pC HR2_2) (hc1_2 := HC2_2.out) (w := _) (h := A13.out)) ?_; intro w15 _))
  have H := H'.out; clear H'
  by_cases c16 : t844 = true
  ·
   subst c16
   rw [if_pos rfl] at H
   obtain ⟨⟨t845, t846, t847⟩, A17, H⟩ := oB H; (try dsimp only at H); obtain ⟨t850, A18, H⟩ := oB H; (try dsimp only at H); obtain ⟨t851, A19, H⟩ := oB H; (try dsimp only at H); obtain ⟨t852, A20, H⟩ := oB H; (try dsimp only at H); obtain ⟨⟨t853, t854⟩, A21, H⟩ := oB H; (try dsimp only at H); have H' := Aside0.mk H; clear H
   try go_wp2_with (first | ((with_reducible refine gate_callee (f := 185) rfl ?_); refine gC1 (some 26) Tryz.func185 (spec_QcLater.calls (hr0_2 := pC HR2_2) (hc0_2 := HC2_2.out) (hr1_2 := pC HR1_4) (hc1_2 := HC1_4.out) (w := _) (h := A17.out)) ?_; intro Ao848 co848 w22 _ HO849))
   refine sB [gb842] spec_See.tab5 spec_See.bits5 ?_; intro w23 _ HT_ HW_
   refine pA 0 (some 28) (bz 9 1) HT_ ?_
   refine tB 1 (some 29) (bz 9 3) HT_ HW_ ?_
   refine pA 2 (some 30) (bz 9 7) HT_ ?_
   refine tB 3 (some 31) (bz 9 15) HT_ HW_ ?_
   refine o1 4 (some 32) (bz 9 31) HT_ rfl (kC Tryz.func186 (spec_UpOf.calls (w := _) (h := A18.out)) ?_); intro w24 _
   refine nA (some 32) ?_
   refine o1 5 (some 33) (bz 9 63) HT_ rfl (kC Tryz.func113 (spec_ViewOf.calls (w := _) (h := A19.out)) ?_); intro w25 _
   refine nA (some 33) ?_
   refine o1 6 (some 34) (bz 9 127) HT_ rfl (kD Tryz.func165 (spec_l1Max.calls (w := _) (h := A20.out)) ?_); intro w26 _
   refine nA (some 34) ?_
   refine pA 7 (some 35) (bz 9 255) HT_ ?_
   refine o1 8 none (bz 9 511) HT_ rfl (kS ?_)
   refine done_ (done_of HT_.out (by kernel_rfl)) ?_
   go_upto_region 7 with (first | ((with_reducible refine gate_callee (f := 187) rfl ?_); refine gC (some 39) Tryz.func187 (spec_Settles.calls (w := _) (h := A21.out)) ?_; intro w27 _))
   have H := H'.out; clear H'
   by_cases c28 : t854 = true
   ·
    subst c28
    rw [if_pos rfl] at H
    obtain ⟨t855, A29, H⟩ := oB H; (try dsimp only at H); have H' := Aside0.mk H; clear H
    go_upto_if 48 with (first | (go_at_call 188; refine aC (spec_Extends.calls (w := _) (h := A29.out)) ?_; intro w30 _))
    have H := H'.out; clear H'
    by_cases c31 : t855 = true
    ·
     subst c31
     rw [if_pos rfl] at H
     simp only [Option.some.injEq, Prod.mk.injEq] at H
     obtain ⟨rfl, rfl, rfl, rfl, rfl, rfl⟩ := H
     go_wp2
     refine bodyPost_ret (results_cell_row rfl _ _ gb833 29 #[.int .i64 t834, .int .i64 t852, .int .i64 t845, .string t846, .slice Ao848 t847.length co848, .string t853] (0, 0) _ rfl xB Tryz.underlying29 rfl (by kernel_rfl)) rfl ?_
     exact ⟨_, y0_8, rR HO849, UpW.out⟩
    replace c31 := Bool.eq_false_iff.mpr c31; subst c31
    rw [if_neg Bool.false_ne_true] at H
    simp only [Option.some.injEq, Prod.mk.injEq] at H
    obtain ⟨rfl, rfl, rfl, rfl, rfl, rfl⟩ := H
    go_wp2
    refine bodyPost_ret (results_cell_row rfl _ _ gb833 29 #[.int .i64 t834, .int .i64 t852, .int .i64 t845, .string t846, .slice Ao848 t847.length co848, .string t841] (0, 0) _ rfl xB Tryz.underlying29 rfl (by kernel_rfl)) rfl ?_
    exact ⟨_, y0_8, rR HO849, UpW.out⟩
   replace c28 := Bool.eq_false_iff.mpr c28; subst c28
   rw [if_neg Bool.false_ne_true] at H
   simp only [Option.some.injEq, Prod.mk.injEq] at H
   obtain ⟨rfl, rfl, rfl, rfl, rfl, rfl⟩ := H
   go_wp2
   refine bodyPost_ret (results_cell_row rfl _ _ gb833 29 #[.int .i64 t834, .int .i64 t852, .int .i64 t845, .string t846, .slice Ao848 t847.length co848, .string t841] (0, 0) _ rfl xB Tryz.underlying29 rfl (by kernel_rfl)) rfl ?_
   exact ⟨_, y0_8, rR HO849, UpW.out⟩
  replace c16 := Bool.eq_false_iff.mpr c16; subst c16
  rw [if_neg Bool.false_ne_true] at H
  simp only [Option.some.injEq, Prod.mk.injEq] at H
  obtain ⟨rfl, rfl, rfl, rfl, rfl, rfl⟩ := H
  go_wp2
  refine bodyPost_ret (results_cell_row rfl _ _ gb833 29 #[.int .i64 t834, .int .i64 t835, .int .i64 t836, .string t837, .slice Ao839 t838.length co839, .string t841] (0, 0) _ rfl xB Tryz.underlying29 rfl (by kernel_rfl)) rfl ?_
  exact ⟨_, y0_8, rR HO840, UpW.out⟩
 replace c12 := Bool.eq_false_iff.mpr c12; subst c12
 rw [if_neg Bool.false_ne_true] at H
 have H' := Aside0.mk H; clear H
 go_upto_if 21 with (first | ((with_reducible refine gate_callee (f := 129) rfl ?_); refine gC (some 14) Tryz.func129 (spec_SafeOk.calls (hr1_4 := pC HR1_4) (hc1_4 := HC1_4.out) (w := _) (h := A11.out)) ?_; intro w32 _))
 have H := H'.out; clear H'
 simp only [Option.some.injEq, Prod.mk.injEq] at H
 obtain ⟨rfl, rfl, rfl, rfl, rfl, rfl⟩ := H
 go_wp2
 refine bodyPost_ret (results_cell_row rfl _ _ gb833 29 #[.int .i64 t834, .int .i64 t835, .int .i64 t836, .string t837, .slice Ao839 t838.length co839, .string t841] (0, 0) _ rfl xB Tryz.underlying29 rfl (by kernel_rfl)) rfl ?_
 exact ⟨_, y0_8, rR HO840, UpW.out⟩
def spec_MayVote.f (k : Nat) (a0_0 : Int) (a0_1 : Int) (a1_0 : Int) (a1_1 : Int) (a1_2 : Int) (a1_3 : ByteArray) (l1_4 : List Int) (a1_5 : ByteArray) (a2_0 : ByteArray) (a2_1 : Int) (a2_2 : ByteArray) (l2_3 : List Int) : Option (Bool) := (spec_SafeOk.f k a0_0 a0_1 a1_0 a1_1 a1_2 a1_3 l1_4 a1_5).bind fun t859 => (if t859 = true then ((spec_BlockOk.f k a0_0 a0_1 a2_0 a2_1 a2_2 l2_3).bind fun t860 => (if t860 = true then ((spec_ViewOf.f k a2_0).bind fun t861 => (if t861 > a1_0 then (some (decide (a2_1 ≥ a1_1))) else (some false))) else (some false))) else (some false))
def spec_MayVote.T1 : Bool × List (List Nat × List Nat) := (true, [([], []), ([], []), ([0, 1], [0, 1]), ([2, 2], [2]), ([3], [3]), ([3], [3]), ([4, 5, 3, 3], [3, 4, 5]), ([3, 6], [3, 6]), ([7, 6], [7]), ([8], [8]), ([9, 8], [8, 9]), ([10, 8, 8], [8, 10]), ([8], [8]), ([12, 8], [8, 12]), ([11, 13, 8], [8, 11, 13]), ([8, 14], [8, 14]), ([15, 11], [15]), ([16], [16]), ([17, 16], [16, 17]), ([18, 16], [16, 18]), ([16], [16]), ([20, 16], [16, 20]), ([19, 21, 16], [16, 19, 21]), ([16, 22], [16, 22]), ([23, 16, 0, 1, 2, 3, 4, 5, 6, 7, 8, 9, 10, 11, 12, 13, 14, 15, 16, 17, 18, 19, 20, 21, 22, 23], [23])])
def spec_MayVote.B1 : List Nat := [0, 0, 3, 7, 15, 15, 63, 127, 255, 511, 1023, 2047, 511, 4607, 16383, 32767, 65535, 131071, 262143, 524287, 131071, 1179647, 4194303, 8388607, 16777215]
theorem spec_MayVote.tab1 : rtab .any (opsOf Tryz.f189 1) = spec_MayVote.T1 := by kernel_rfl
theorem spec_MayVote.bits1 : waitsOk spec_MayVote.T1.2 spec_MayVote.B1 = true := by kernel_rfl
theorem spec_MayVote.calls (k : Nat) (a0_0 : Int) (a0_1 : Int) (a1_0 : Int) (a1_1 : Int) (a1_2 : Int) (a1_3 : ByteArray) (A1_4 : Option Addr) (c1_4 : Nat) (l1_4 : List Int) (a1_5 : ByteArray) (a2_0 : ByteArray) (a2_1 : Int) (a2_2 : ByteArray) (A2_3 : Option Addr) (c2_3 : Nat) (l2_3 : List Int) (r : Bool) (w : World) (hr1_4 : Kd.C (Kd.int .i64) w A1_4 l1_4.length l1_4) (hc1_4 : l1_4.length ≤ c1_4) (hr2_3 : Kd.C (Kd.int .i64) w A2_3 l2_3.length l2_3) (hc2_3 : l2_3.length ≤ c2_3) (h : spec_MayVote.f k a0_0 a0_1 a1_0 a1_1 a1_2 a1_3 l1_4 a1_5 a2_0 a2_1 a2_2 l2_3 = some r) :
  Calls Tryz.prog 189 #[.agg #[.int .i64 a0_0, .int .i64 a0_1], .agg #[.int .i64 a1_0, .int .i64 a1_1, .int .i64 a1_2, .string a1_3, .slice A1_4 l1_4.length c1_4, .string a1_5], .agg #[.string a2_0, .int .i64 a2_1, .string a2_2, .slice A2_3 l2_3.length c2_3]] w fun e w' => e = .returned (.bool r) ∧ Below w.heap.size w w' := by
 have hu32 := Tryz.underlying32; have hu29 := Tryz.underlying29; have hu165 := Tryz.underlying165; have HR1_4 := Aside0.mk hr1_4; have HC1_4 := Aside0.mk hc1_4; clear hr1_4 hc1_4; have HR2_3 := Aside0.mk hr2_3; have HC2_3 := Aside0.mk hc2_3; clear hr2_3 hc2_3; have HB := Aside0.mk (Below.refl w.heap.size w)
 have H := h; unfold spec_MayVote.f at H
 clear h
 go_enter Tryz.func189, Tryz.ntmps189
 have H' := Aside0.mk H; clear H
 go_upto_region 1 with (first | ((with_reducible refine gd 3 ?_); refine bL 3 #[.int .i64 a0_0, .int .i64 a0_1] 32 ?_; intro gb856 w4 _ _ _) | ((with_reducible refine gd 4 ?_); refine bL 4 #[.int .i64 a1_0, .int .i64 a1_1, .int .i64 a1_2, .string a1_3, .slice A1_4 l1_4.length c1_4, .string a1_5] 29 ?_; intro gb857 w5 _ _ _) | ((with_reducible refine gd 5 ?_); refine bL 5 #[.string a2_0, .int .i64 a2_1, .string a2_2, .slice A2_3 l2_3.length c2_3] 165 ?_; intro gb858 w6 _ _ _))
 have H := H'.out; clear H'; obtain ⟨t859, A7, H⟩ := oB H; (try dsimp only at H)
 by_cases c8 : t859 = true
 ·
  subst c8
  rw [if_pos rfl] at H
  obtain ⟨t860, A9, H⟩ := oB H; (try dsimp only at H)
  by_cases c10 : t860 = true
  ·
   subst c10
   rw [if_pos rfl] at H
   obtain ⟨t861, A11, H⟩ := oB H; (try dsimp only at H)
   by_cases c12 : t861 > a1_0
   ·
    rw [if_pos c12] at H
    have c12b0 : decide (a1_0 < t861) = true := decide_eq_true c12; clear c12
    (first | rw [c12b0] | (simp only [i64_w, i32_w]; rw [c12b0]) | skip)
    obtain rfl := Option.some.inj H
    try go_wp2
    refine sB [] spec_MayVote.tab1 spec_MayVote.bits1 ?_; intro w13 _ HT_ HW_
    refine tB 0 (some 7) (bz 25 1) HT_ HW_ ?_
    refine tB 1 (some 8) (bz 25 3) HT_ HW_ ?_
    refine o1 2 (some 9) (bz 25 7) HT_ rfl (kC Tryz.func129 (spec_SafeOk.calls (hr1_4 := pC HR1_4) (hc1_4 := HC1_4.out) (w := _) (h := A7.out)) ?_); intro w14 _
    refine nA (some 9) ?_
    refine pA 3 (some 10) (bz 25 15) HT_ ?_
    refine tB 4 (some 11) (bz 25 31) HT_ HW_ ?_
    refine tB 5 (some 12) (bz 25 63) HT_ HW_ ?_
    refine o1 6 (some 13) (bz 25 127) HT_ rfl (kC Tryz.func201 (spec_BlockOk.calls (hr1_3 := pC HR2_3) (hc1_3 := HC2_3.out) (w := _) (h := A9.out)) ?_); intro w15 _
    refine nA (some 13) ?_
    refine pA 7 (some 14) (bz 25 255) HT_ ?_
    refine pA 8 (some 15) (bz 25 511) HT_ ?_
    refine pA 9 (some 16) (bz 25 1023) HT_ ?_
    refine tB 10 (some 17) (bz 25 2047) HT_ HW_ ?_
    refine pA 12 (some 19) (bz 25 0x17ff) HT_ ?_
    refine tB 13 (some 20) (bz 25 0x37ff) HT_ HW_ ?_
    refine o1 11 (some 18) (bz 25 0x3fff) HT_ rfl (kC Tryz.func113 (spec_ViewOf.calls (w := _) (h := A11.out)) ?_); intro w16 _
    refine nA (some 18) ?_
    refine pA 14 (some 21) (bz 25 0x7fff) HT_ ?_
    refine pA 15 (some 22) (bz 25 0xffff) HT_ ?_
    refine pA 16 (some 23) (bz 25 0x1ffff) HT_ ?_
    refine pA 17 (some 24) (bz 25 0x3ffff) HT_ ?_
    refine pA 18 (some 25) (bz 25 0x7ffff) HT_ ?_
    refine tB 19 (some 26) (bz 25 0xfffff) HT_ HW_ ?_
    refine pA 20 (some 27) (bz 25 0x1fffff) HT_ ?_
    refine tB 21 (some 28) (bz 25 0x3fffff) HT_ HW_ ?_
    refine pA 22 (some 29) (bz 25 0x7fffff) HT_ ?_
    refine pA 23 (some 30) (bz 25 0xffffff) HT_ ?_
    refine pA 24 (some 6) (bz 25 0x1ffffff) HT_ ?_
    refine done_ (done_of HT_.out (by kernel_rfl)) ?_
    try go_wp2
    go_ret
    exact ⟨y0_8, UpW.out⟩
   rw [if_neg c12] at H
   have c12b0 : decide (a1_0 < t861) = false := decide_eq_false c12; clear c12
   (first | rw [c12b0] | (simp only [i64_w, i32_w]; rw [c12b0]) | skip)
   obtain rfl := Option.some.inj H
   try go_wp2
   refine sB [] spec_MayVote.tab1 spec_MayVote.bits1 ?_; intro w17 _ HT_ HW_
   refine tB 0 (some 7) (bz 25 1) HT_ HW_ ?_
   refine tB 1 (some 8) (bz 25 3) HT_ HW_ ?_
   refine o1 2 (some 9) (bz 25 7) HT_ rfl (kC Tryz.func129 (spec_SafeOk.calls (hr1_4 := pC HR1_4) (hc1_4 := HC1_4.out) (w := _) (h := A7.out)) ?_); intro w18 _
   refine nA (some 9) ?_
   refine pA 3 (some 10) (bz 25 15) HT_ ?_
   refine tB 4 (some 11) (bz 25 31) HT_ HW_ ?_
   refine tB 5 (some 12) (bz 25 63) HT_ HW_ ?_
   refine o1 6 (some 13) (bz 25 127) HT_ rfl (kC Tryz.func201 (spec_BlockOk.calls (hr1_3 := pC HR2_3) (hc1_3 := HC2_3.out) (w := _) (h := A9.out)) ?_); intro w19 _
   refine nA (some 13) ?_
   refine pA 7 (some 14) (bz 25 255) HT_ ?_
   refine pA 8 (some 15) (bz 25 511) HT_ ?_
   refine pA 9 (some 16) (bz 25 1023) HT_ ?_
   refine tB 10 (some 17) (bz 25 2047) HT_ HW_ ?_
   refine pA 12 (some 19) (bz 25 0x17ff) HT_ ?_
   refine tB 13 (some 20) (bz 25 0x37ff) HT_ HW_ ?_
   refine o1 11 (some 18) (bz 25 0x3fff) HT_ rfl (kC Tryz.func113 (spec_ViewOf.calls (w := _) (h := A11.out)) ?_); intro w20 _
   refine nA (some 18) ?_
   refine pA 14 (some 21) (bz 25 0x7fff) HT_ ?_
   refine pA 15 (some 22) (bz 25 0xffff) HT_ ?_
   refine pA 16 (some 23) (bz 25 0x1ffff) HT_ ?_
   refine pU 17 (some 24) (bz 25 0x3ffff) HT_ ?_
   refine pU 18 (some 25) (bz 25 0x7ffff) HT_ ?_
   refine pU 19 (some 26) (bz 25 0xfffff) HT_ ?_
   refine pU 20 (some 27) (bz 25 0x1fffff) HT_ ?_
   refine pU 21 (some 28) (bz 25 0x3fffff) HT_ ?_
   refine pU 22 (some 29) (bz 25 0x7fffff) HT_ ?_
   refine pA 23 (some 30) (bz 25 0xffffff) HT_ ?_
   refine pA 24 (some 6) (bz 25 0x1ffffff) HT_ ?_
   refine done_ (done_of HT_.out (by kernel_rfl)) ?_
   try go_wp2
   go_ret
   exact ⟨y0_8, UpW.out⟩
  replace c10 := Bool.eq_false_iff.mpr c10; subst c10
  rw [if_neg Bool.false_ne_true] at H
  obtain rfl := Option.some.inj H
  try go_wp2
  refine sB [] spec_MayVote.tab1 spec_MayVote.bits1 ?_; intro w21 _ HT_ HW_
  refine tB 0 (some 7) (bz 25 1) HT_ HW_ ?_
  refine tB 1 (some 8) (bz 25 3) HT_ HW_ ?_
  refine o1 2 (some 9) (bz 25 7) HT_ rfl (kC Tryz.func129 (spec_SafeOk.calls (hr1_4 := pC HR1_4) (hc1_4 := HC1_4.out) (w := _) (h := A7.out)) ?_); intro w22 _
  refine nA (some 9) ?_
  refine pA 3 (some 10) (bz 25 15) HT_ ?_
  refine tB 4 (some 11) (bz 25 31) HT_ HW_ ?_
  refine tB 5 (some 12) (bz 25 63) HT_ HW_ ?_
  refine o1 6 (some 13) (bz 25 127) HT_ rfl (kC Tryz.func201 (spec_BlockOk.calls (hr1_3 := pC HR2_3) (hc1_3 := HC2_3.out) (w := _) (h := A9.out)) ?_); intro w23 _
  refine nA (some 13) ?_
  refine pA 7 (some 14) (bz 25 255) HT_ ?_
  refine pA 8 (some 15) (bz 25 511) HT_ ?_
  refine pU 9 (some 16) (bz 25 1023) HT_ ?_
  refine pU 10 (some 17) (bz 25 2047) HT_ ?_
  refine pU 11 (some 18) (bz 25 4095) HT_ ?_
  refine pU 12 (some 19) (bz 25 0x1fff) HT_ ?_
  refine pU 13 (some 20) (bz 25 0x3fff) HT_ ?_
  refine pU 14 (some 21) (bz 25 0x7fff) HT_ ?_
  refine pA 15 (some 22) (bz 25 0xffff) HT_ ?_
  refine pA 16 (some 23) (bz 25 0x1ffff) HT_ ?_
  refine pU 17 (some 24) (bz 25 0x3ffff) HT_ ?_
  refine pU 18 (some 25) (bz 25 0x7ffff) HT_ ?_
  refine pU 19 (some 26) (bz 25 0xfffff) HT_ ?_
  refine pU 20 (some 27) (bz 25 0x1fffff) HT_ ?_
  refine pU 21 (some 28) (bz 25 0x3fffff) HT_ ?_
  refine pU 22 (some 29) (bz 25 0x7fffff) HT_ ?_
  refine pA 23 (some 30) (bz 25 0xffffff) HT_ ?_
  refine pA 24 (some 6) (bz 25 0x1ffffff) HT_ ?_
  refine done_ (done_of HT_.out (by kernel_rfl)) ?_
  try go_wp2
  go_ret
  exact ⟨y0_8, UpW.out⟩
 replace c8 := Bool.eq_false_iff.mpr c8; subst c8
 rw [if_neg Bool.false_ne_true] at H
 obtain rfl := Option.some.inj H
 try go_wp2
 refine sB [] spec_MayVote.tab1 spec_MayVote.bits1 ?_; intro w24 _ HT_ HW_
 refine tB 0 (some 7) (bz 25 1) HT_ HW_ ?_
 refine tB 1 (some 8) (bz 25 3) HT_ HW_ ?_
 refine o1 2 (some 9) (bz 25 7) HT_ rfl (kC Tryz.func129 (spec_SafeOk.calls (hr1_4 := pC HR1_4) (hc1_4 := HC1_4.out) (w := _) (h := A7.out)) ?_); intro w25 _
 refine nA (some 9) ?_
 refine pA 3 (some 10) (bz 25 15) HT_ ?_
 refine pU 4 (some 11) (bz 25 31) HT_ ?_
 refine pU 5 (some 12) (bz 25 63) HT_ ?_
 refine pU 6 (some 13) (bz 25 127) HT_ ?_
 refine pA 7 (some 14) (bz 25 255) HT_ ?_
 refine pA 8 (some 15) (bz 25 511) HT_ ?_
 refine pU 9 (some 16) (bz 25 1023) HT_ ?_
 refine pU 10 (some 17) (bz 25 2047) HT_ ?_
 refine pU 11 (some 18) (bz 25 4095) HT_ ?_
 refine pU 12 (some 19) (bz 25 0x1fff) HT_ ?_
 refine pU 13 (some 20) (bz 25 0x3fff) HT_ ?_
 refine pU 14 (some 21) (bz 25 0x7fff) HT_ ?_
 refine pA 15 (some 22) (bz 25 0xffff) HT_ ?_
 refine pA 16 (some 23) (bz 25 0x1ffff) HT_ ?_
 refine pU 17 (some 24) (bz 25 0x3ffff) HT_ ?_
 refine pU 18 (some 25) (bz 25 0x7ffff) HT_ ?_
 refine pU 19 (some 26) (bz 25 0xfffff) HT_ ?_
 refine pU 20 (some 27) (bz 25 0x1fffff) HT_ ?_
 refine pU 21 (some 28) (bz 25 0x3fffff) HT_ ?_
 refine pU 22 (some 29) (bz 25 0x7fffff) HT_ ?_
 refine pA 23 (some 30) (bz 25 0xffffff) HT_ ?_
 refine pA 24 (some 6) (bz 25 0x1ffffff) HT_ ?_
 refine done_ (done_of HT_.out (by kernel_rfl)) ?_
 try go_wp2
 go_ret
 exact ⟨y0_8, UpW.out⟩
def spec_Vote.f (k : Nat) (a0_0 : Int) (a0_1 : Int) (a1_0 : Int) (a1_1 : Int) (a1_2 : Int) (a1_3 : ByteArray) (l1_4 : List Int) (a1_5 : ByteArray) (a2_0 : ByteArray) (a2_1 : Int) (a2_2 : ByteArray) (l2_3 : List Int) : Option (Int × Int × Int × ByteArray × List Int × ByteArray × Bool) := (spec_l11Copy.f a1_0 a1_1 a1_2 a1_3 l1_4 a1_5).bind fun bt866 => ((spec_MayVote.f k a0_0 a0_1 a1_0 a1_1 a1_2 a1_3 l1_4 a1_5 a2_0 a2_1 a2_2 l2_3).bind fun t875 => (if t875 = true then ((spec_ViewOf.f k a2_0).bind fun t876 => (some (t876, bt866.2.1, bt866.2.2.1, bt866.2.2.2.1, bt866.2.2.2.2.1, bt866.2.2.2.2.2, true))) else (some (bt866.1, bt866.2.1, bt866.2.2.1, bt866.2.2.2.1, bt866.2.2.2.2.1, bt866.2.2.2.2.2, false))))
theorem spec_Vote.calls (k : Nat) (a0_0 : Int) (a0_1 : Int) (a1_0 : Int) (a1_1 : Int) (a1_2 : Int) (a1_3 : ByteArray) (A1_4 : Option Addr) (c1_4 : Nat) (l1_4 : List Int) (a1_5 : ByteArray) (a2_0 : ByteArray) (a2_1 : Int) (a2_2 : ByteArray) (A2_3 : Option Addr) (c2_3 : Nat) (l2_3 : List Int) (r1 : Int) (r2 : Int) (r3 : Int) (r4 : ByteArray) (r5 : List Int) (r6 : ByteArray) (r7 : Bool) (w : World) (hr1_4 : Kd.C (Kd.int .i64) w A1_4 l1_4.length l1_4) (hc1_4 : l1_4.length ≤ c1_4) (hr2_3 : Kd.C (Kd.int .i64) w A2_3 l2_3.length l2_3) (hc2_3 : l2_3.length ≤ c2_3) (h : spec_Vote.f k a0_0 a0_1 a1_0 a1_1 a1_2 a1_3 l1_4 a1_5 a2_0 a2_1 a2_2 l2_3 = some (r1, r2, r3, r4, r5, r6, r7)) :
  Calls Tryz.prog 158 #[.agg #[.int .i64 a0_0, .int .i64 a0_1], .agg #[.int .i64 a1_0, .int .i64 a1_1, .int .i64 a1_2, .string a1_3, .slice A1_4 l1_4.length c1_4, .string a1_5], .agg #[.string a2_0, .int .i64 a2_1, .string a2_2, .slice A2_3 l2_3.length c2_3]] w fun e w' => ∃ v4_ : Value, e = .returned (.tuple #[.agg #[.int .i64 r1, .int .i64 r2, .int .i64 r3, .string r4, v4_, .string r6], .bool r7]) ∧ Kd.R (Kd.int .i64) 3 w' w.heap.size (fun _ => True) v4_ r5 ∧ Below w.heap.size w w' := by
 have hu32 := Tryz.underlying32; have hu29 := Tryz.underlying29; have hu165 := Tryz.underlying165; have HR1_4 := Aside0.mk hr1_4; have HC1_4 := Aside0.mk hc1_4; clear hr1_4 hc1_4; have HR2_3 := Aside0.mk hr2_3; have HC2_3 := Aside0.mk hc2_3; clear hr2_3 hc2_3; have HB := Aside0.mk (Below.refl w.heap.size w)
 have H := h; unfold spec_Vote.f at H
 clear h; obtain ⟨⟨t866, t867, t868, t869, t870, t873⟩, A4, H⟩ := oB H; (try dsimp only at H); obtain ⟨t875, A5, H⟩ := oB H; (try dsimp only at H)
 go_enter Tryz.func158, Tryz.ntmps158
 have H' := Aside0.mk H; clear H
 go_upto_if 15 with (first | ((with_reducible refine gd 3 ?_); refine bL 3 #[.int .i64 a0_0, .int .i64 a0_1] 32 ?_; intro gb862 w6 _ _ _) | ((with_reducible refine gd 4 ?_); refine bL 4 #[.int .i64 a1_0, .int .i64 a1_1, .int .i64 a1_2, .string a1_3, .slice A1_4 l1_4.length c1_4, .string a1_5] 29 ?_; intro gb863 w7 _ _ _) | ((with_reducible refine gd 5 ?_); refine bL 5 #[.string a2_0, .int .i64 a2_1, .string a2_2, .slice A2_3 l2_3.length c2_3] 165 ?_; intro gb864 w8 _ _ _) | ((with_reducible refine gd 6 ?_); refine bL 6 #[.int .i64 0, .int .i64 0, .int .i64 0, .string (⟨#[]⟩ : ByteArray), .slice none 0 0, .string (⟨#[]⟩ : ByteArray)] 29 ?_; intro gb865 w9 _ _ _) | ((with_reducible refine gate_callee (f := 184) rfl ?_); refine gC1 (some 10) Tryz.func184 (spec_l11Copy.calls (hr0_4 := pC HR1_4) (hc0_4 := HC1_4.out) (w := _) (h := A4.out)) ?_; intro Ao871 co871 w10 _ HO872) | ((with_reducible refine gd 8 ?_); refine bL 8 #[.int .i64 0, .int .i64 0, .int .i64 0, .string (⟨#[]⟩ : ByteArray), .slice none 0 0, .string (⟨#[]⟩ : ByteArray)] 29 ?_; intro gb874 w11 _ _ _) | ((with_reducible refine gate_callee (f := 189) rfl ?_); refine gC (some 14) Tryz.func189 (spec_MayVote.calls (hr1_4 := pC HR1_4) (hc1_4 := HC1_4.out) (hr2_3 := pC HR2_3) (hc2_3 := HC2_3.out) (w := _) (h := A5.out)) ?_; intro w12 _))
 have H := H'.out; clear H'
 by_cases c13 : t875 = true
 ·
  subst c13
  rw [if_pos rfl] at H
  obtain ⟨t876, A14, H⟩ := oB H; (try dsimp only at H)
  simp only [Option.some.injEq, Prod.mk.injEq] at H
  obtain ⟨rfl, rfl, rfl, rfl, rfl, rfl, rfl⟩ := H
  go_wp2_with (first | ((with_reducible refine gate_callee (f := 113) rfl ?_); refine gC (some 19) Tryz.func113 (spec_ViewOf.calls (w := _) (h := A14.out)) ?_; intro w15 _))
  refine bodyPost_ret (results_ct rfl _ _ gb865 29 #[.int .i64 t876, .int .i64 t867, .int .i64 t868, .string t869, .slice Ao871 t870.length co871, .string t873] (0, 0) _ rfl xB Tryz.underlying29 rfl (by kernel_rfl)) rfl ?_
  exact ⟨_, y0_8, rR HO872, UpW.out⟩
 replace c13 := Bool.eq_false_iff.mpr c13; subst c13
 rw [if_neg Bool.false_ne_true] at H
 simp only [Option.some.injEq, Prod.mk.injEq] at H
 obtain ⟨rfl, rfl, rfl, rfl, rfl, rfl, rfl⟩ := H
 go_wp2
 refine bodyPost_ret (results_ct rfl _ _ gb865 29 #[.int .i64 t866, .int .i64 t867, .int .i64 t868, .string t869, .slice Ao871 t870.length co871, .string t873] (0, 0) _ rfl xB Tryz.underlying29 rfl (by kernel_rfl)) rfl ?_
 exact ⟨_, y0_8, rR HO872, UpW.out⟩
def spec_l11DrawRight.l0 : Nat → Int → List Int → Int → Int → Int → Int → Int → Int → Int → ByteArray → List Int → ByteArray → Option (Int × Int × Int × ByteArray × List Int × ByteArray × Int × Int)
 | 0, _, _, _, _, _, _, _, _, _, _, _, _ => none
 | k + 1, x6, x1000, x1001, x1002, x878000, x878001, x888000, x888001, x888002, x888003, x888004, x888005 => (spec_l1Below.f x1000 x1001 x1002 5).bind fun bt888 => (if x6 < bt888.1 then ((spec_l8DrawRight.f k x1000 bt888.2.1 bt888.2.2 x878000 x878001).bind fun bt891 => ((spec_See.f k x878000 x878001 x888000 x888001 x888002 x888003 x888004 x888005 bt891.2.1 bt891.2.2.1 bt891.2.2.2.1).bind fun bt900 => ((spec_l1Once.f x1000 bt891.2.2.2.2.1 bt891.2.2.2.2.2 3).bind fun bt908 => (if bt908.1 = true then (spec_l11DrawRight.l0 k (wrap64 (x6 + 1)) x1000 bt908.2.1 bt908.2.2 x878000 x878001 bt900.1 bt900.2.1 bt900.2.2.1 bt900.2.2.2.1 bt900.2.2.2.2.1 bt900.2.2.2.2.2) else ((spec_Vote.f k x878000 x878001 bt900.1 bt900.2.1 bt900.2.2.1 bt900.2.2.2.1 bt900.2.2.2.2.1 bt900.2.2.2.2.2 bt891.1 bt891.2.1 bt891.2.2.1 bt891.2.2.2.1).bind fun bt911 => (spec_l11DrawRight.l0 k (wrap64 (x6 + 1)) x1000 bt908.2.1 bt908.2.2 x878000 x878001 bt911.1 bt911.2.1 bt911.2.2.1 bt911.2.2.2.1 bt911.2.2.2.2.1 bt911.2.2.2.2.2.1)))))) else (some (x888000, x888001, x888002, x888003, x888004, x888005, bt888.2.1, bt888.2.2)))
def spec_l11DrawRight.f (k : Nat) (s0_0 : List Int) (s0_1 : Int) (s0_2 : Int) (a1_0 : Int) (a1_1 : Int) : Option (Int × Int × Int × ByteArray × List Int × ByteArray × Int × Int) := (spec_SafeNew.f).bind fun bt879 => (spec_l11DrawRight.l0 k 0 s0_0 s0_1 s0_2 a1_0 a1_1 bt879.1 bt879.2.1 bt879.2.2.1 bt879.2.2.2.1 bt879.2.2.2.2.1 bt879.2.2.2.2.2)
theorem spec_l11DrawRight.calls (k : Nat) (g : Nat) (s0_0 : List Int) (s0_1 : Int) (s0_2 : Int) (a1_0 : Int) (a1_1 : Int) (r1 : Int) (r2 : Int) (r3 : Int) (r4 : ByteArray) (r5 : List Int) (r6 : ByteArray) (r7 : Int) (r8 : Int) (w0 w : World) (hI : IsS149 w0 w g s0_0 s0_1 s0_2) (hB : Below w0.heap.size w0 w) (h : spec_l11DrawRight.f k s0_0 s0_1 s0_2 a1_0 a1_1 = some (r1, r2, r3, r4, r5, r6, r7, r8)) :
  Calls Tryz.prog 122 #[.pointer (some ⟨g, 0, none⟩), .agg #[.int .i64 a1_0, .int .i64 a1_1]] w fun e w' => ∃ v4_ : Value, e = .returned (.agg #[.int .i64 r1, .int .i64 r2, .int .i64 r3, .string r4, v4_, .string r6]) ∧ Kd.R (Kd.int .i64) 3 w' w.heap.size (fun _ => True) v4_ r5 ∧ IsS149 w0 w' g s0_0 r7 r8 ∧ Below w0.heap.size w0 w' ∧ KeepBut w w' g none := by
 have hu32 := Tryz.underlying32; have hu29 := Tryz.underlying29; have hu165 := Tryz.underlying165; have hu27 := Tryz.underlying27; have HI0 := Aside0.mk hI; have HK := Aside0.mk (KeepBut.refl w g none); have HL := Aside0.mk hB.size; clear hI; have HW0 := Aside0.mk hB.size; have HB := Aside0.mk hB; clear hB
 have H := h; unfold spec_l11DrawRight.f at H
 clear h; obtain ⟨⟨t879, t880, t881, t882, t883, t886⟩, A3, H⟩ := oB H; (try dsimp only at H); have i0_ := iB149 HI0; have i1_ : LB w0 w := ⟨HB.out⟩
 go_enter Tryz.func122, Tryz.ntmps122
 have H' := Aside0.mk H; clear H
 go_wp2_with (first | ((with_reducible refine gd 3 ?_); refine bL 3 #[.int .i64 a1_0, .int .i64 a1_1] 32 ?_; intro gb877 w4 _ _ _) | ((with_reducible refine gd 4 ?_); refine bL 4 #[.int .i64 0, .int .i64 0, .int .i64 0, .string (⟨#[]⟩ : ByteArray), .slice none 0 0, .string (⟨#[]⟩ : ByteArray)] 29 ?_; intro gb878 w5 _ _ _) | ((with_reducible refine gate_callee (f := 71) rfl ?_); refine gC1 (some 8) Tryz.func71 (spec_SafeNew.calls (w := _) (h := A3.out)) ?_; intro Ao884 co884 w6 _ HO885) | ((with_reducible refine gd 5 ?_); refine bL 5 #[.int .i64 0, .int .i64 0, .int .i64 0, .string (⟨#[]⟩ : ByteArray), .slice none 0 0, .string (⟨#[]⟩ : ByteArray)] 29 ?_; intro gb887 w7 _ _ _))
 refine wC ?_; intro w8 _
 go_loopg [6] k (fun kq v6 w' => ∃ (x6_1 : Int) (x1001_1 : Int) (x1002_1 : Int) (x888000_1 : Int) (x888001_1 : Int) (x888002_1 : Int) (x888003_1 : ByteArray) (x888004_1 : List Int) (x888005_1 : ByteArray) (Ao888004_1 : Option Addr) (co888004_1 : Nat), v6 = .int .i64 x6_1 ∧ Aside0 (spec_l11DrawRight.l0 kq x6_1 s0_0 x1001_1 x1002_1 a1_0 a1_1 x888000_1 x888001_1 x888002_1 x888003_1 x888004_1 x888005_1 = some (r1, r2, r3, r4, r5, r6, r7, r8)) ∧ Aside0 (kq ≤ k) ∧ Aside0 (Kd.R (Kd.int .i64) 3 w' w.heap.size (iv w w') (.slice Ao888004_1 x888004_1.length co888004_1) x888004_1) ∧ BkI gb887 w' #[.int .i64 x888000_1, .int .i64 x888001_1, .int .i64 x888002_1, .string x888003_1, .slice Ao888004_1 x888004_1.length co888004_1, .string x888005_1] 29 ∧ StB g w' 149 ∧ Aside0 (IsS149 w0 w' g s0_0 x1001_1 x1002_1) ∧ KL w8 [g, gb887] w' ∧ LB w0 w' ∧ KS w g w')
 case atStart => exact ⟨(0), (s0_1), (s0_2), (t879), (t880), (t881), (t882), (t883), (t886), (Ao884), (co884), y0_8, H', ⟨Nat.le_refl _⟩, ⟨rJ HO885⟩, ⟨xB⟩, iB149 ⟨iS149 HI0⟩, ⟨iS149 HI0⟩, ⟨UpL.out⟩, ⟨UpW.out⟩, ⟨UpB.out⟩⟩
 case round =>
  clear H'; obtain ⟨x6_1, x1001_1, x1002_1, x888000_1, x888001_1, x888002_1, x888003_1, x888004_1, x888005_1, Ao888004_1, co888004_1, rfl, HA, HK1, HO_888004, _, _, HI9, _, _, _⟩ := hrel; cases gk with
  | zero => exact absurd HA.out (by simp [spec_l11DrawRight.l0])
  | succ k1 =>
   have H := HA.out; clear HA
   simp only [spec_l11DrawRight.l0] at H
   obtain ⟨⟨t888, t889, t890⟩, A10, H⟩ := oB H; (try dsimp only at H); have H' := Aside0.mk H; clear H
   go_upto_if 12 with (first | ((with_reducible refine gate_callee (f := 97) rfl ?_); refine gK (some 11) Tryz.func97 (spec_l1Below.calls (hI := iS149 HI9) (hB := UpW.out) (w := _) (h := A10.out)) ?_; intro w11 _ _ _ HI12))
   have H := H'.out; clear H'
   by_cases c13 : x6_1 < t888
   ·
    rw [if_pos c13] at H
    have c13b0 : decide (x6_1 < t888) = true := decide_eq_true c13; clear c13
    (first | rw [c13b0] | (simp only [i64_w, i32_w]; rw [c13b0]) | skip)
    obtain ⟨⟨t891, t892, t893, t894, t897, t898⟩, A14, H⟩ := oB H; (try dsimp only at H); obtain ⟨⟨t900, t901, t902, t903, t904, t907⟩, A15, H⟩ := oB H; (try dsimp only at H); obtain ⟨⟨t908, t909, t910⟩, A16, H⟩ := oB H; (try dsimp only at H); have H' := Aside0.mk H; clear H
    go_upto_if 25 with (first | ((with_reducible refine gate_callee (f := 156) rfl ?_); refine gK1 (some 17) Tryz.func156 (spec_l8DrawRight.calls (hI := iS149 HI12) (hB := UpW.out) (w := _) (h := A14.out)) ?_; intro Ao895 co895 w17 _ _ _ HI18 HO896) | ((with_reducible refine gd 7 ?_); refine bL 7 #[.string (⟨#[]⟩ : ByteArray), .int .i64 0, .string (⟨#[]⟩ : ByteArray), .slice none 0 0] 165 ?_; intro gb899 w19 _ _ _) | ((with_reducible refine gate_callee (f := 157) rfl ?_); refine gC1 (some 22) Tryz.func157 (spec_See.calls (hr1_4 := rC HO_888004) (hc1_4 := rL HO_888004) (hr2_2 := rC HO896) (hc2_2 := rL HO896) (w := _) (h := A15.out)) ?_; intro Ao905 co905 w20 _ HO906) | ((with_reducible refine gate_callee (f := 93) rfl ?_); refine gK (some 24) Tryz.func93 (spec_l1Once.calls (hI := iS149 HI18) (hB := UpW.out) (w := _) (h := A16.out)) ?_; intro w21 _ _ _ HI22))
    have H := H'.out; clear H'
    by_cases c23 : t908 = true
    ·
     subst c23
     rw [if_pos rfl] at H
     have H' := Aside0.mk H; clear H
     go_wp2
     go_roundg k1
     case measure => have := HK1.out; omega
     case rel => exact ⟨(wrap64 (x6_1 + 1)), (t909), (t910), (t900), (t901), (t902), (t903), (t904), (t907), (Ao905), (co905), y0_8, H', ⟨y0_11⟩, ⟨rJ HO906⟩, ⟨xB⟩, iB149 ⟨iS149 HI22⟩, ⟨iS149 HI22⟩, ⟨UpL.out⟩, ⟨UpW.out⟩, ⟨UpB.out⟩⟩
    replace c23 := Bool.eq_false_iff.mpr c23; subst c23
    rw [if_neg Bool.false_ne_true] at H
    obtain ⟨⟨t911, t912, t913, t914, t915, t918, t919⟩, A24, H⟩ := oB H; (try dsimp only at H); have H' := Aside0.mk H; clear H
    go_wp2_with (first | ((with_reducible refine gate_callee (f := 158) rfl ?_); refine gC1 (some 30) Tryz.func158 (spec_Vote.calls (hr1_4 := rC HO906) (hc1_4 := rL HO906) (hr2_3 := rC HO896) (hc2_3 := rL HO896) (w := _) (h := A24.out)) ?_; intro Ao916 co916 w25 _ HO917))
    go_roundg k1
    case measure => have := HK1.out; omega
    case rel => exact ⟨(wrap64 (x6_1 + 1)), (t909), (t910), (t911), (t912), (t913), (t914), (t915), (t918), (Ao916), (co916), y0_8, H', ⟨y0_11⟩, ⟨rJ HO917⟩, ⟨xB⟩, iB149 ⟨iS149 HI22⟩, ⟨iS149 HI22⟩, ⟨UpL.out⟩, ⟨UpW.out⟩, ⟨UpB.out⟩⟩
   rw [if_neg c13] at H
   have c13b0 : decide (x6_1 < t888) = false := decide_eq_false c13; clear c13
   (first | rw [c13b0] | (simp only [i64_w, i32_w]; rw [c13b0]) | skip)
   simp only [Option.some.injEq, Prod.mk.injEq] at H
   obtain ⟨rfl, rfl, rfl, rfl, rfl, rfl, rfl, rfl⟩ := H
   go_wp2
   refine bodyPost_ret (results_cell_row rfl _ _ gb878 29 #[.int .i64 x888000_1, .int .i64 x888001_1, .int .i64 x888002_1, .string x888003_1, .slice Ao888004_1 x888004_1.length co888004_1, .string x888005_1] (0, 0) _ rfl xB Tryz.underlying29 rfl (by kernel_rfl)) rfl ?_
   exact ⟨_, y0_8, rR HO_888004, iS149 HI12, UpW.out, UpB.out⟩
def spec_l11Draw.f (k : Nat) (s0_0 : List Int) (s0_1 : Int) (s0_2 : Int) (a1_0 : Int) (a1_1 : Int) : Option (Int × Int × Int × ByteArray × List Int × ByteArray × Int × Int) := (spec_l11DrawRight.f k s0_0 s0_1 s0_2 a1_0 a1_1).bind fun bt922 => ((spec_l1Below.f s0_0 bt922.2.2.2.2.2.2.1 bt922.2.2.2.2.2.2.2 10).bind fun bt933 => (if bt933.1 = 0 then ((spec_l1PickInt.f s0_0 bt933.2.1 bt933.2.2 (([(-1), 60, 61] : List Int))).bind fun bt939 => (some (bt939.1, bt922.2.1, bt922.2.2.1, bt922.2.2.2.1, bt922.2.2.2.2.1, bt922.2.2.2.2.2.1, bt939.2.1, bt939.2.2))) else (if bt933.1 = 1 then ((spec_l1PickInt.f s0_0 bt933.2.1 bt933.2.2 (([(-1), 0, 60, 61] : List Int))).bind fun bt945 => (some (bt922.1, bt945.1, bt922.2.2.1, bt922.2.2.2.1, bt922.2.2.2.2.1, bt922.2.2.2.2.2.1, bt945.2.1, bt945.2.2))) else (if bt933.1 = 2 then ((spec_l5Draw.f k s0_0 bt933.2.1 bt933.2.2).bind fun bt948 => (some (bt922.1, bt922.2.1, bt922.2.2.1, bt922.2.2.2.1, bt922.2.2.2.2.1, bt948.1, bt948.2.1, bt948.2.2))) else (if bt933.1 = 3 then ((spec_l7Draw.f k s0_0 bt933.2.1 bt933.2.2 a1_0 a1_1).bind fun bt951 => (some (bt922.1, bt922.2.1, bt951.1, bt951.2.1, bt951.2.2.1, bt922.2.2.2.2.2.1, bt951.2.2.2.1, bt951.2.2.2.2))) else (some (bt922.1, bt922.2.1, bt922.2.2.1, bt922.2.2.2.1, bt922.2.2.2.2.1, bt922.2.2.2.2.2.1, bt933.2.1, bt933.2.2)))))))
theorem spec_l11Draw.calls (k : Nat) (g : Nat) (s0_0 : List Int) (s0_1 : Int) (s0_2 : Int) (a1_0 : Int) (a1_1 : Int) (r1 : Int) (r2 : Int) (r3 : Int) (r4 : ByteArray) (r5 : List Int) (r6 : ByteArray) (r7 : Int) (r8 : Int) (w0 w : World) (hI : IsS149 w0 w g s0_0 s0_1 s0_2) (hB : Below w0.heap.size w0 w) (h : spec_l11Draw.f k s0_0 s0_1 s0_2 a1_0 a1_1 = some (r1, r2, r3, r4, r5, r6, r7, r8)) :
  Calls Tryz.prog 155 #[.pointer (some ⟨g, 0, none⟩), .agg #[.int .i64 a1_0, .int .i64 a1_1]] w fun e w' => ∃ v4_ : Value, e = .returned (.agg #[.int .i64 r1, .int .i64 r2, .int .i64 r3, .string r4, v4_, .string r6]) ∧ Kd.R (Kd.int .i64) 3 w' w.heap.size (fun _ => True) v4_ r5 ∧ IsS149 w0 w' g s0_0 r7 r8 ∧ Below w0.heap.size w0 w' ∧ KeepBut w w' g none := by
 have hu32 := Tryz.underlying32; have hu29 := Tryz.underlying29; have hu27 := Tryz.underlying27; have HI0 := Aside0.mk hI; have HK := Aside0.mk (KeepBut.refl w g none); have HL := Aside0.mk hB.size; clear hI; have HW0 := Aside0.mk hB.size; have HB := Aside0.mk hB; clear hB
 have H := h; unfold spec_l11Draw.f at H
 clear h; obtain ⟨⟨t922, t923, t924, t925, t926, t929, t930, t931⟩, A3, H⟩ := oB H; (try dsimp only at H); obtain ⟨⟨t933, t934, t935⟩, A4, H⟩ := oB H; (try dsimp only at H); have i0_ := iB149 HI0; have i1_ : LB w0 w := ⟨HB.out⟩
 go_enter Tryz.func155, Tryz.ntmps155
 have H' := Aside0.mk H; clear H
 go_upto_if 11 with (first | ((with_reducible refine gd 3 ?_); refine bL 3 #[.int .i64 a1_0, .int .i64 a1_1] 32 ?_; intro gb920 w5 _ _ _) | ((with_reducible refine gd 4 ?_); refine bL 4 #[.int .i64 0, .int .i64 0, .int .i64 0, .string (⟨#[]⟩ : ByteArray), .slice none 0 0, .string (⟨#[]⟩ : ByteArray)] 29 ?_; intro gb921 w6 _ _ _) | ((with_reducible refine gate_callee (f := 122) rfl ?_); refine gK1 (some 8) Tryz.func122 (spec_l11DrawRight.calls (hI := iS149 HI0) (hB := UpW.out) (w := _) (h := A3.out)) ?_; intro Ao927 co927 w7 _ _ _ HI8 HO928) | ((with_reducible refine gd 5 ?_); refine bL 5 #[.int .i64 0, .int .i64 0, .int .i64 0, .string (⟨#[]⟩ : ByteArray), .slice none 0 0, .string (⟨#[]⟩ : ByteArray)] 29 ?_; intro gb932 w9 _ _ _) | ((with_reducible refine gate_callee (f := 97) rfl ?_); refine gK (some 10) Tryz.func97 (spec_l1Below.calls (hI := iS149 HI8) (hB := UpW.out) (w := _) (h := A4.out)) ?_; intro w10 _ _ _ HI11))
 have H := H'.out; clear H'
 by_cases c12 : t933 = 0
 ·
  rw [if_pos c12] at H
  have c12b0 : (t933 == 0) = true := beq_iff_eq.mpr c12; have c12b1 : (t933 != 0) = false := bne_eq_false_iff_eq.mpr c12; clear c12
  (first | rw [c12b0] | (simp only [i64_w, i32_w]; rw [c12b0]) | skip)
  obtain ⟨y936, hy936⟩ : ∃ y_ : List Int, y_ = (([(-1), 60, 61] : List Int)) := ⟨_, rfl⟩
  replace H : ((spec_l1PickInt.f s0_0 t934 t935 y936).bind fun bt939 => (some (bt939.1, t923, t924, t925, t926, t929, bt939.2.1, bt939.2.2))) = some (r1, r2, r3, r4, r5, r6, r7, r8) := by first | (rw [hy936]; with_reducible exact H) | (rw [hy936]; with_reducible exact (Option.bind_some _ _).symm.trans H) | (rw [hy936]; exact H) | exact H
  have Ny936 := Aside0.mk hy936; clear hy936; obtain ⟨⟨t939, t940, t941⟩, A13, H⟩ := oB H; (try dsimp only at H)
  simp only [Option.some.injEq, Prod.mk.injEq] at H
  obtain ⟨rfl, rfl, rfl, rfl, rfl, rfl, rfl, rfl⟩ := H
  go_wp2_with (first | ((with_reducible refine gate_dst (N := 14) rfl ?_); refine lL 14 3 (Kd.int .i64) rfl Ny936 ?_; intro Ao937 co937 w14 _ HO938) | ((with_reducible refine gate_callee (f := 132) rfl ?_); refine gK (some 15) Tryz.func132 (spec_l1PickInt.calls (hI := iS149 HI11) (hB := UpW.out) (hr1 := rC HO938) (hc1 := rL HO938) (hf1 := fS HO938) (w := _) (h := A13.out)) ?_; intro w15 _ _ _ HI16))
  refine bodyPost_ret (results_cell_row rfl _ _ gb921 29 #[.int .i64 t939, .int .i64 t923, .int .i64 t924, .string t925, .slice Ao927 t926.length co927, .string t929] (0, 0) _ rfl xB Tryz.underlying29 rfl (by kernel_rfl)) rfl ?_
  exact ⟨_, y0_8, rR HO928, iS149 HI16, UpW.out, UpB.out⟩
 rw [if_neg c12] at H
 have c12b0 : (t933 == 0) = false := beq_eq_false_iff_ne.mpr c12; have c12b1 : (t933 != 0) = true := bne_iff_ne.mpr c12
 (first | rw [c12b0] | (simp only [i64_w, i32_w]; rw [c12b0]) | skip)
 by_cases c17 : t933 = 1
 ·
  rw [if_pos c17] at H
  have c17b0 : (t933 == 1) = true := beq_iff_eq.mpr c17; have c17b1 : (t933 != 1) = false := bne_eq_false_iff_eq.mpr c17; clear c17; obtain ⟨y942, hy942⟩ : ∃ y_ : List Int, y_ = (([(-1), 0, 60, 61] : List Int)) := ⟨_, rfl⟩
  replace H : ((spec_l1PickInt.f s0_0 t934 t935 y942).bind fun bt945 => (some (t922, bt945.1, t924, t925, t926, t929, bt945.2.1, bt945.2.2))) = some (r1, r2, r3, r4, r5, r6, r7, r8) := by first | (rw [hy942]; with_reducible exact H) | (rw [hy942]; with_reducible exact (Option.bind_some _ _).symm.trans H) | (rw [hy942]; exact H) | exact H
  have Ny942 := Aside0.mk hy942; clear hy942; obtain ⟨⟨t945, t946, t947⟩, A18, H⟩ := oB H; (try dsimp only at H)
  simp only [Option.some.injEq, Prod.mk.injEq] at H
  obtain ⟨rfl, rfl, rfl, rfl, rfl, rfl, rfl, rfl⟩ := H
  go_wp2_with (first | ((with_reducible refine gate_dst (N := 20) rfl ?_); refine lL 20 3 (Kd.int .i64) rfl Ny942 ?_; intro Ao943 co943 w19 _ HO944) | ((with_reducible refine gate_callee (f := 132) rfl ?_); refine gK (some 21) Tryz.func132 (spec_l1PickInt.calls (hI := iS149 HI11) (hB := UpW.out) (hr1 := rC HO944) (hc1 := rL HO944) (hf1 := fS HO944) (w := _) (h := A18.out)) ?_; intro w20 _ _ _ HI21))
  refine bodyPost_ret (results_cell_row rfl _ _ gb921 29 #[.int .i64 t922, .int .i64 t945, .int .i64 t924, .string t925, .slice Ao927 t926.length co927, .string t929] (0, 0) _ rfl xB Tryz.underlying29 rfl (by kernel_rfl)) rfl ?_
  exact ⟨_, y0_8, rR HO928, iS149 HI21, UpW.out, UpB.out⟩
 rw [if_neg c17] at H
 have c17b0 : (t933 == 1) = false := beq_eq_false_iff_ne.mpr c17; have c17b1 : (t933 != 1) = true := bne_iff_ne.mpr c17
 by_cases c22 : t933 = 2
 ·
  rw [if_pos c22] at H
  have c22b0 : (t933 == 2) = true := beq_iff_eq.mpr c22; have c22b1 : (t933 != 2) = false := bne_eq_false_iff_eq.mpr c22; clear c22; obtain ⟨⟨t948, t949, t950⟩, A23, H⟩ := oB H; (try dsimp only at H)
  simp only [Option.some.injEq, Prod.mk.injEq] at H
  obtain ⟨rfl, rfl, rfl, rfl, rfl, rfl, rfl, rfl⟩ := H
  go_wp2_with (first | ((with_reducible refine gate_callee (f := 143) rfl ?_); refine gK (some 26) Tryz.func143 (spec_l5Draw.calls (hI := iS149 HI11) (hB := UpW.out) (w := _) (h := A23.out)) ?_; intro w24 _ _ _ HI25))
  refine bodyPost_ret (results_cell_row rfl _ _ gb921 29 #[.int .i64 t922, .int .i64 t923, .int .i64 t924, .string t925, .slice Ao927 t926.length co927, .string t948] (0, 0) _ rfl xB Tryz.underlying29 rfl (by kernel_rfl)) rfl ?_
  exact ⟨_, y0_8, rR HO928, iS149 HI25, UpW.out, UpB.out⟩
 rw [if_neg c22] at H
 have c22b0 : (t933 == 2) = false := beq_eq_false_iff_ne.mpr c22; have c22b1 : (t933 != 2) = true := bne_iff_ne.mpr c22
 by_cases c26 : t933 = 3
 ·
  rw [if_pos c26] at H
  have c26b0 : (t933 == 3) = true := beq_iff_eq.mpr c26; have c26b1 : (t933 != 3) = false := bne_eq_false_iff_eq.mpr c26; clear c26; obtain ⟨⟨t951, t952, t953, t956, t957⟩, A27, H⟩ := oB H; (try dsimp only at H)
  simp only [Option.some.injEq, Prod.mk.injEq] at H
  obtain ⟨rfl, rfl, rfl, rfl, rfl, rfl, rfl, rfl⟩ := H
  go_wp2_with (first | ((with_reducible refine gate_callee (f := 98) rfl ?_); refine gK1 (some 32) Tryz.func98 (spec_l7Draw.calls (hI := iS149 HI11) (hB := UpW.out) (w := _) (h := A27.out)) ?_; intro Ao954 co954 w28 _ _ _ HI29 HO955))
  refine bodyPost_ret (results_cell_row rfl _ _ gb921 29 #[.int .i64 t922, .int .i64 t923, .int .i64 t951, .string t952, .slice Ao954 t953.length co954, .string t929] (0, 0) _ rfl xB Tryz.underlying29 rfl (by kernel_rfl)) rfl ?_
  exact ⟨_, y0_8, rR HO955, iS149 HI29, UpW.out, UpB.out⟩
 rw [if_neg c26] at H
 have c26b0 : (t933 == 3) = false := beq_eq_false_iff_ne.mpr c26; have c26b1 : (t933 != 3) = true := bne_iff_ne.mpr c26
 simp only [Option.some.injEq, Prod.mk.injEq] at H
 obtain ⟨rfl, rfl, rfl, rfl, rfl, rfl, rfl, rfl⟩ := H
 go_wp2
 refine bodyPost_ret (results_cell_row rfl _ _ gb921 29 #[.int .i64 t922, .int .i64 t923, .int .i64 t924, .string t925, .slice Ao927 t926.length co927, .string t929] (0, 0) _ rfl xB Tryz.underlying29 rfl (by kernel_rfl)) rfl ?_
 exact ⟨_, y0_8, rR HO928, iS149 HI11, UpW.out, UpB.out⟩
def spec_DrawSafeOk.f (k : Nat) (l0 : List Int) : Option (Int × Int × Int × Int × Int × ByteArray × List Int × ByteArray) := (spec_l1New.f k l0).bind fun bt960 => ((spec_l7DrawConf.f bt960.1 bt960.2.1 bt960.2.2).bind fun bt964 => ((spec_l11Draw.f k bt960.1 bt964.2.2.1 bt964.2.2.2 bt964.1 bt964.2.1).bind fun bt969 => ((spec_l1Once.f bt960.1 bt969.2.2.2.2.2.2.1 bt969.2.2.2.2.2.2.2 10).bind fun bt980 => (if bt980.1 = true then ((spec_l7DrawBent.f bt960.1 bt980.2.1 bt980.2.2).bind fun bt983 => (some (bt983.1, bt983.2.1, bt969.1, bt969.2.1, bt969.2.2.1, bt969.2.2.2.1, bt969.2.2.2.2.1, bt969.2.2.2.2.2.1))) else (some (bt964.1, bt964.2.1, bt969.1, bt969.2.1, bt969.2.2.1, bt969.2.2.2.1, bt969.2.2.2.2.1, bt969.2.2.2.2.2.1))))))
def spec_DrawSafeOk.T6 : Bool × List (List Nat × List Nat) := (true, [([], []), ([], []), ([0, 0], [0]), ([1, 2, 0, 1, 2], [1])])
def spec_DrawSafeOk.B6 : List Nat := [0, 0, 1, 7]
theorem spec_DrawSafeOk.tab6 : rtab .any (opsOf Tryz.f117 6) = spec_DrawSafeOk.T6 := by kernel_rfl
theorem spec_DrawSafeOk.bits6 : waitsOk spec_DrawSafeOk.T6.2 spec_DrawSafeOk.B6 = true := by kernel_rfl
theorem spec_DrawSafeOk.calls (k : Nat) (A0 : Option Addr) (c0 : Nat) (l0 : List Int) (r1 : Int) (r2 : Int) (r3 : Int) (r4 : Int) (r5 : Int) (r6 : ByteArray) (r7 : List Int) (r8 : ByteArray) (w : World) (hr0 : Kd.C (Kd.int .u8) w A0 l0.length l0) (hc0 : l0.length ≤ c0) (h : spec_DrawSafeOk.f k l0 = some (r1, r2, r3, r4, r5, r6, r7, r8)) :
  Calls Tryz.prog 117 #[.slice A0 l0.length c0] w fun e w' => ∃ v6_ : Value, e = .returned (.tuple #[.agg #[.int .i64 r1, .int .i64 r2], .agg #[.int .i64 r3, .int .i64 r4, .int .i64 r5, .string r6, v6_, .string r8]]) ∧ Kd.R (Kd.int .i64) 3 w' w.heap.size (fun _ => True) v6_ r7 ∧ Below w.heap.size w w' := by
 have hu32 := Tryz.underlying32; have hu29 := Tryz.underlying29; have HR0 := Aside0.mk hr0; have HC0 := Aside0.mk hc0; clear hr0 hc0; have HB := Aside0.mk (Below.refl w.heap.size w)
 have H := h; unfold spec_DrawSafeOk.f at H
 clear h; obtain ⟨⟨t960, t961, t962⟩, A2, H⟩ := oB H; (try dsimp only at H); obtain ⟨⟨t964, t965, t966, t967⟩, A3, H⟩ := oB H; (try dsimp only at H); obtain ⟨⟨t969, t970, t971, t972, t973, t976, t977, t978⟩, A4, H⟩ := oB H; (try dsimp only at H); obtain ⟨⟨t980, t981, t982⟩, A5, H⟩ := oB H; (try dsimp only at H)
 go_enter Tryz.func117, Tryz.ntmps117
 have H' := Aside0.mk H; clear H
 go_upto_if 15 with (first | ((with_reducible refine gd 2 ?_); refine bL 2 #[.int .i64 0, .int .i64 0] 32 ?_; intro gb958 w6 _ _ _) | ((with_reducible refine gd 3 ?_); refine bL 3 #[.int .i64 0, .int .i64 0, .int .i64 0, .string (⟨#[]⟩ : ByteArray), .slice none 0 0, .string (⟨#[]⟩ : ByteArray)] 29 ?_; intro gb959 w7 _ _ _) | ((with_reducible refine gate_callee (f := 90) rfl ?_); refine wL ?_; intro w8 _; refine gN (some 8) Tryz.func90 (spec_l1New.calls (hB := Below.refl _ _) (hr0 := pC HR0) (hc0 := HC0.out) (w := _) (h := A2.out)) ?_; intro g963 w9 _ _ _ HI10) | ((with_reducible refine gate_callee (f := 91) rfl ?_); refine gK (some 10) Tryz.func91 (spec_l7DrawConf.calls (hI := iS149 HI10) (hB := UpW.out) (w := _) (h := A3.out)) ?_; intro w11 _ _ _ HI12) | ((with_reducible refine gd 5 ?_); refine bL 5 #[.int .i64 0, .int .i64 0] 32 ?_; intro gb968 w13 _ _ _) | ((with_reducible refine gate_callee (f := 155) rfl ?_); refine gK1 (some 13) Tryz.func155 (spec_l11Draw.calls (hI := iS149 HI12) (hB := UpW.out) (w := _) (h := A4.out)) ?_; intro Ao974 co974 w14 _ _ _ HI15 HO975) | ((with_reducible refine gd 6 ?_); refine bL 6 #[.int .i64 0, .int .i64 0, .int .i64 0, .string (⟨#[]⟩ : ByteArray), .slice none 0 0, .string (⟨#[]⟩ : ByteArray)] 29 ?_; intro gb979 w16 _ _ _) | ((with_reducible refine gate_callee (f := 93) rfl ?_); refine gK (some 15) Tryz.func93 (spec_l1Once.calls (hI := iS149 HI15) (hB := UpW.out) (w := _) (h := A5.out)) ?_; intro w17 _ _ _ HI18))
 have H := H'.out; clear H'
 by_cases c19 : t980 = true
 ·
  subst c19
  rw [if_pos rfl] at H
  obtain ⟨⟨t983, t984, t985, t986⟩, A20, H⟩ := oB H; (try dsimp only at H)
  simp only [Option.some.injEq, Prod.mk.injEq] at H
  obtain ⟨rfl, rfl, rfl, rfl, rfl, rfl, rfl, rfl⟩ := H
  try go_wp2_with (first | ((with_reducible refine gate_callee (f := 102) rfl ?_); refine gK (some 17) Tryz.func102 (spec_l7DrawBent.calls (hI := iS149 HI18) (hB := UpW.out) (w := _) (h := A20.out)) ?_; intro w21 _ _ _ HI22))
  refine sB [gb958, gb959] spec_DrawSafeOk.tab6 spec_DrawSafeOk.bits6 ?_; intro w23 _ HT_ HW_
  refine tB 0 (some 18) (bz 4 1) HT_ HW_ ?_
  refine tB 1 (some 19) (bz 4 3) HT_ HW_ ?_
  refine o1 2 none (bz 4 7) HT_ rfl (kS ?_)
  refine o1 3 none (bz 4 15) HT_ rfl (kS ?_)
  refine done_ (done_of HT_.out (by kernel_rfl)) ?_
  try go_wp2
  refine bodyPost_ret (results_cc rfl _ _ gb958 gb959 32 29 #[.int .i64 t983, .int .i64 t984] #[.int .i64 t969, .int .i64 t970, .int .i64 t971, .string t972, .slice Ao974 t973.length co974, .string t976] (0, 0) (0, 0) _ _ rfl xB Tryz.underlying32 rfl (by kernel_rfl) rfl xB Tryz.underlying29 rfl (by kernel_rfl)) rfl ?_
  exact ⟨_, y0_8, rR HO975, UpW.out⟩
 replace c19 := Bool.eq_false_iff.mpr c19; subst c19
 rw [if_neg Bool.false_ne_true] at H
 simp only [Option.some.injEq, Prod.mk.injEq] at H
 obtain ⟨rfl, rfl, rfl, rfl, rfl, rfl, rfl, rfl⟩ := H
 try go_wp2
 refine sB [gb958, gb959] spec_DrawSafeOk.tab6 spec_DrawSafeOk.bits6 ?_; intro w24 _ HT_ HW_
 refine tB 0 (some 18) (bz 4 1) HT_ HW_ ?_
 refine tB 1 (some 19) (bz 4 3) HT_ HW_ ?_
 refine o1 2 none (bz 4 7) HT_ rfl (kS ?_)
 refine o1 3 none (bz 4 15) HT_ rfl (kS ?_)
 refine done_ (done_of HT_.out (by kernel_rfl)) ?_
 try go_wp2
 refine bodyPost_ret (results_cc rfl _ _ gb958 gb959 32 29 #[.int .i64 t964, .int .i64 t965] #[.int .i64 t969, .int .i64 t970, .int .i64 t971, .string t972, .slice Ao974 t973.length co974, .string t976] (0, 0) (0, 0) _ _ rfl xB Tryz.underlying32 rfl (by kernel_rfl) rfl xB Tryz.underlying29 rfl (by kernel_rfl)) rfl ?_
 exact ⟨_, y0_8, rR HO975, UpW.out⟩
def spec_DrawSafeBytes.f (k : Nat) (l0 : List Int) : Option (Int × Int × Int × Int × Int × ByteArray × List Int × ByteArray) := (spec_DrawSafeOk.f k l0).bind fun bt989 => (some (bt989.1, bt989.2.1, bt989.2.2.1, bt989.2.2.2.1, bt989.2.2.2.2.1, bt989.2.2.2.2.2.1, bt989.2.2.2.2.2.2.1, bt989.2.2.2.2.2.2.2))
def spec_DrawSafeBytes.T2 : Bool × List (List Nat × List Nat) := (true, [([], []), ([], []), ([0, 0], [0]), ([1, 2, 0, 1, 2], [1])])
def spec_DrawSafeBytes.B2 : List Nat := [0, 0, 1, 7]
theorem spec_DrawSafeBytes.tab2 : rtab .any (opsOf Tryz.f53 2) = spec_DrawSafeBytes.T2 := by kernel_rfl
theorem spec_DrawSafeBytes.bits2 : waitsOk spec_DrawSafeBytes.T2.2 spec_DrawSafeBytes.B2 = true := by kernel_rfl
theorem spec_DrawSafeBytes.calls (k : Nat) (A0 : Option Addr) (c0 : Nat) (l0 : List Int) (r1 : Int) (r2 : Int) (r3 : Int) (r4 : Int) (r5 : Int) (r6 : ByteArray) (r7 : List Int) (r8 : ByteArray) (w : World) (hr0 : Kd.C (Kd.int .u8) w A0 l0.length l0) (hc0 : l0.length ≤ c0) (h : spec_DrawSafeBytes.f k l0 = some (r1, r2, r3, r4, r5, r6, r7, r8)) :
  Calls Tryz.prog 53 #[.slice A0 l0.length c0] w fun e w' => ∃ v6_ : Value, e = .returned (.tuple #[.agg #[.int .i64 r1, .int .i64 r2], .agg #[.int .i64 r3, .int .i64 r4, .int .i64 r5, .string r6, v6_, .string r8]]) ∧ Kd.R (Kd.int .i64) 3 w' w.heap.size (fun _ => True) v6_ r7 ∧ Below w.heap.size w w' := by
 have hu32 := Tryz.underlying32; have hu29 := Tryz.underlying29; have HR0 := Aside0.mk hr0; have HC0 := Aside0.mk hc0; clear hr0 hc0; have HB := Aside0.mk (Below.refl w.heap.size w)
 have H := h; unfold spec_DrawSafeBytes.f at H
 clear h; obtain ⟨⟨t989, t990, t991, t992, t993, t994, t995, t998⟩, A2, H⟩ := oB H; (try dsimp only at H)
 simp only [Option.some.injEq, Prod.mk.injEq] at H
 obtain ⟨rfl, rfl, rfl, rfl, rfl, rfl, rfl, rfl⟩ := H
 go_enter Tryz.func53, Tryz.ntmps53
 try go_wp2_with (first | ((with_reducible refine gd 2 ?_); refine bL 2 #[.int .i64 0, .int .i64 0] 32 ?_; intro gb987 w3 _ _ _) | ((with_reducible refine gd 3 ?_); refine bL 3 #[.int .i64 0, .int .i64 0, .int .i64 0, .string (⟨#[]⟩ : ByteArray), .slice none 0 0, .string (⟨#[]⟩ : ByteArray)] 29 ?_; intro gb988 w4 _ _ _) | ((with_reducible refine gate_callee (f := 117) rfl ?_); refine gC1 (some 8) Tryz.func117 (spec_DrawSafeOk.calls (hr0 := pC HR0) (hc0 := HC0.out) (w := _) (h := A2.out)) ?_; intro Ao996 co996 w5 _ HO997) | ((with_reducible refine gd 4 ?_); refine bL 4 #[.int .i64 0, .int .i64 0] 32 ?_; intro gb999 w6 _ _ _) | ((with_reducible refine gd 5 ?_); refine bL 5 #[.int .i64 0, .int .i64 0, .int .i64 0, .string (⟨#[]⟩ : ByteArray), .slice none 0 0, .string (⟨#[]⟩ : ByteArray)] 29 ?_; intro gb1000 w7 _ _ _))
 refine sB [gb987, gb988] spec_DrawSafeBytes.tab2 spec_DrawSafeBytes.bits2 ?_; intro w8 _ HT_ HW_
 refine tB 0 (some 11) (bz 4 1) HT_ HW_ ?_
 refine tB 1 (some 12) (bz 4 3) HT_ HW_ ?_
 refine o1 2 none (bz 4 7) HT_ rfl (kS ?_)
 refine o1 3 none (bz 4 15) HT_ rfl (kS ?_)
 refine done_ (done_of HT_.out (by kernel_rfl)) ?_
 try go_wp2
 refine bodyPost_ret (results_cc rfl _ _ gb987 gb988 32 29 #[.int .i64 t989, .int .i64 t990] #[.int .i64 t991, .int .i64 t992, .int .i64 t993, .string t994, .slice Ao996 t995.length co996, .string t998] (0, 0) (0, 0) _ _ rfl xB Tryz.underlying32 rfl (by kernel_rfl) rfl xB Tryz.underlying29 rfl (by kernel_rfl)) rfl ?_
 exact ⟨_, y0_8, rR HO997, UpW.out⟩
def impl_putNums.l0 : Nat → List Int → List Int → Int → Int → Option (List Int)
 | 0, _, _, _, _ => none
 | k + 1, x3, x6, x7, x8 => if x8 < x7 then (if 0 ≤ x8 then (if x8 < (x6.length : Int) then ((impl_PutNum.f k (rd x6 x8)).bind fun t1002 => (if x3.length + t1002.length < 140737488355328 then (impl_putNums.l0 k (x3 ++ t1002) x6 x7 (wrap64 (x8 + 1))) else (none))) else (none)) else (none)) else (some x3)
def impl_putNums.f (k : Nat) (l0 : List Int) : Option (List Int) := impl_putNums.l0 k ([] : List Int) l0 (l0.length : Int) 0
theorem impl_putNums.calls (k : Nat) (A0 : Option Addr) (c0 : Nat) (l0 : List Int) (r : List Int) (w : World) (hr0 : Kd.C (Kd.int .i64) w A0 l0.length l0) (hc0 : l0.length ≤ c0) (h : impl_putNums.f k l0 = some r) :
  Calls Tryz.prog 118 #[.slice A0 l0.length c0] w fun e w' => ∃ v0_ : Value, e = .returned (v0_) ∧ Kd.R (Kd.int .u8) 5 w' w.heap.size (fun _ => True) v0_ r ∧ Below w.heap.size w w' := by
 have HR0 := Aside0.mk hr0; have HC0 := Aside0.mk hc0; clear hr0 hc0; have HB := Aside0.mk (Below.refl w.heap.size w); have H := h; unfold impl_putNums.f at H; clear h
 go_enter Tryz.func118, Tryz.ntmps118
 have H' := Aside0.mk H; clear H
 go_wp2
 refine wC ?_; intro w2 _
 go_loopg [3, 8] k (fun kq v3 v8 w' => ∃ (x3_1 : List Int) (x8_1 : Int) (Ao3_1 : Option Addr) (co3_1 : Nat), v3 = .slice Ao3_1 x3_1.length co3_1 ∧ v8 = .int .i64 x8_1 ∧ Aside0 (impl_putNums.l0 kq x3_1 l0 (l0.length : Int) x8_1 = some r) ∧ Aside0 (kq ≤ k) ∧ Aside0 (Kd.R (Kd.int .u8) 5 w' w2.heap.size (iv w2 w') (.slice Ao3_1 x3_1.length co3_1) x3_1) ∧ KT w2 [] w2 _ (Kd.int .u8) 5 w' ∧ LB w w')
 case atStart => exact ⟨(([] : List Int)), (0), (none), (0), y0_8, y0_8, H', ⟨Nat.le_refl _⟩, ⟨Kd.R_nil _ _ _ _ _⟩, ⟨UpT.out⟩, ⟨UpW.out⟩⟩
 case round =>
  clear H'; obtain ⟨x3_1, x8_1, Ao3_1, co3_1, rfl, rfl, HA, HK1, HO_3, _, _⟩ := hrel; cases gk with
  | zero => exact absurd HA.out (by simp [impl_putNums.l0])
  | succ k1 =>
   have H := HA.out; clear HA
   simp only [impl_putNums.l0] at H
   by_cases c3 : x8_1 < (l0.length : Int)
   ·
    rw [if_pos c3] at H
    have c3b0 : decide (x8_1 < (l0.length : Int)) = true := decide_eq_true c3; clear c3
    by_cases c4 : 0 ≤ x8_1
    rotate_left
    ·
     rw [if_neg c4] at H
     exact absurd H (by simp)
    rw [if_pos c4] at H
    have c4b0 : decide (0 ≤ x8_1) = true := decide_eq_true c4; clear c4
    by_cases c5 : x8_1 < (l0.length : Int)
    rotate_left
    ·
     rw [if_neg c5] at H
     exact absurd H (by simp)
    rw [if_pos c5] at H
    have c5b0 : decide (x8_1 < (l0.length : Int)) = true := decide_eq_true c5; clear c5; obtain ⟨t1002, A6, H⟩ := oB H; (try dsimp only at H)
    by_cases c7 : x3_1.length + t1002.length < 140737488355328
    rotate_left
    ·
     rw [if_neg c7] at H
     exact absurd H (by simp)
    rw [if_pos c7] at H
    have LMc7 := Aside0.mk c7; clear c7; obtain ⟨y1005, hy1005⟩ : ∃ y_ : List Int, y_ = (x3_1 ++ t1002) := ⟨_, rfl⟩
    replace H : (impl_putNums.l0 k1 y1005 l0 (l0.length : Int) (wrap64 (x8_1 + 1))) = some r := by first | (rw [hy1005]; with_reducible exact H) | (rw [hy1005]; with_reducible exact (Option.bind_some _ _).symm.trans H) | (rw [hy1005]; exact H) | exact H
    have Ny1005 := Aside0.mk hy1005; clear hy1005; have H' := Aside0.mk H; clear H; have p1001 : 0 ≤ (x8_1 : Int) := of_decide_eq_true y0_7; have q1001 : x8_1 < (l0.length : Int) := of_decide_eq_true y0_7; obtain ⟨ad1001, e1001, hx1001_0⟩ := Kd.at_int HR0.out x8_1 p1001 q1001; cases e1001; have i1001_0_ := RdP.mk hx1001_0; clear hx1001_0; replace p1001 := eq_true p1001; replace q1001 := eq_true q1001
    go_wp2_with (first | ((with_reducible refine gate_callee (f := 120) rfl ?_); refine gC1 (some 14) Tryz.func120 (impl_PutNum.calls (w := _) (h := A6.out)) ?_; intro Ao1003 co1003 w8 _ HO1004) | ((with_reducible refine gate_builtin (b := .append) (xs := #[.tmp 12, .tmp 14]) rfl ?_); at_builtin; refine gR (Kd.int .u8) (.tmp 12) (.tmp 14) 24 5 (.int .u8 0) 1 w2 Ny1005 HO_3 (rC HO1004) (by have := LMc7.out; omega) ?_ (ht := Tryz.underlying24) (hinfo := info5); intro Ao1006 co1006 w9 _ _ HO1007))
    go_roundg k1
    case measure => have := HK1.out; omega
    case rel => exact ⟨(y1005), (wrap64 (x8_1 + 1)), (Ao1006), (co1006), y0_8, y0_8, H', ⟨y0_11⟩, ⟨rJ HO1007⟩, ⟨UpT.out⟩, ⟨UpW.out⟩⟩
   rw [if_neg c3] at H
   have c3b0 : decide (x8_1 < (l0.length : Int)) = false := decide_eq_false c3; clear c3; obtain rfl := Option.some.inj H
   go_wp2
   go_ret
   exact ⟨_, y0_8, rR HO_3, UpW.out⟩
def impl_PutText.f (k : Nat) (a0 : ByteArray) : Option (List Int) := (impl_PutNum.f k (a0.size : Int)).bind fun t1008 => (if t1008.length + a0.size < 140737488355328 then (some (t1008 ++ bytesOf a0)) else (none))
theorem impl_PutText.calls (k : Nat) (a0 : ByteArray) (r : List Int) (w : World) (h : impl_PutText.f k a0 = some r) :
  Calls Tryz.prog 119 #[.string a0] w fun e w' => ∃ v0_ : Value, e = .returned (v0_) ∧ Kd.R (Kd.int .u8) 5 w' w.heap.size (fun _ => True) v0_ r ∧ Below w.heap.size w w' := by
 have HB := Aside0.mk (Below.refl w.heap.size w)
 have H := h; unfold impl_PutText.f at H
 clear h; obtain ⟨t1008, A2, H⟩ := oB H; (try dsimp only at H)
 by_cases c3 : t1008.length + a0.size < 140737488355328
 ·
  rw [if_pos c3] at H
  have LMc3 := Aside0.mk c3; clear c3; obtain ⟨y1011, hy1011⟩ : ∃ y_ : List Int, y_ = (t1008 ++ bytesOf a0) := ⟨_, rfl⟩
  replace H : (some y1011) = some r := by first | (rw [hy1011]; with_reducible exact H) | (rw [hy1011]; with_reducible exact (Option.bind_some _ _).symm.trans H) | (rw [hy1011]; exact H) | exact H
  have Ny1011 := Aside0.mk hy1011; clear hy1011; obtain rfl := Option.some.inj H
  go_enter Tryz.func119, Tryz.ntmps119
  go_wp2_with (first | ((with_reducible refine gate_callee (f := 120) rfl ?_); refine gB (some 5) Tryz.func120 #[.int .i64 (a0.size : Int)] ?_; (with_reducible refine (impl_PutNum.calls k (a0.size : Int) t1008 _ A2.out).mono ?_); rintro e w4 ⟨v1009, rfl, ho0, hb⟩; refine ⟨_, rfl, ?_⟩; have HO1010 := Aside0.mk (Kd.R_lower ho0 (below_size (bI HB.out))); replace HB := bs HB hb; (try clear hb); (try clear ho0)) | (at_builtin; refine print_append_str (w0 := w) w.heap.size rfl (.tmp 5) _ 24 9 5 rfl Tryz.underlying24 Tryz.underlying9 info5 v1009 t1008 a0 rfl rfl ?aO ?aB ?aS ?aL ?_; (case aB => exact (bI HB.out)); (case aO => exact (Kd.own_of_R (rI HO1010.out))); (case aS => exact (below_size (bI HB.out))); (case aL => have := LMc3.out; omega); intro v1012 w5 ho0 hb hg; have ho := Kd.R_of_own (h1 := fun _ => rfl) (ok := fun _ => True) ho0 (fun _ _ => trivial); clear ho0; have hat := True.intro; rw [← Ny1011.out] at ho; change Kd.R (Kd.int .u8) 5 w5 w.heap.size (fun _ => True) v1012 y1011 at ho; have n0_ := Aside0.mk (hb); have n1_ := Aside0.mk (ho); clear HB; clear HO1010; have HB := n0_; have HO1013 := n1_; clear n0_ n1_; clear ho hb hg hat))
  go_ret
  exact ⟨_, y0_3, by (with_reducible repeat (first | apply Kd.R_alloc | apply Kd.R_drewN | apply Kd.R_drew)); exact HO1013.out, bI HB.out⟩
 rw [if_neg c3] at H
 exact absurd H (by simp)
def impl_QcBytes.f (k : Nat) (a0_0 : Int) (a0_1 : Int) (a1_0 : Int) (a1_1 : ByteArray) (l1_2 : List Int) : Option (List Int) := (impl_QcOk.f k a0_0 a0_1 a1_0 a1_1 l1_2).bind fun t1016 => (if t1016 = true then ((impl_PutNum.f k a1_0).bind fun t1017 => ((impl_PutText.f k a1_1).bind fun t1020 => (if t1017.length + t1020.length < 140737488355328 then ((some (t1017 ++ t1020 : List Int)).bind fun y1023 => ((impl_PutNum.f k (l1_2.length : Int)).bind fun t1026 => (if y1023.length + t1026.length < 140737488355328 then ((some (y1023 ++ t1026 : List Int)).bind fun y1029 => ((impl_putNums.f k l1_2).bind fun t1032 => (if y1029.length + t1032.length < 140737488355328 then (some (y1029 ++ t1032)) else (none)))) else (none)))) else (none)))) else (some ([] : List Int)))
def impl_QcBytes.T3 : Bool × List (List Nat × List Nat) := (true, [([], []), ([0], [0]), ([1], [1]), ([], []), ([3], [3]), ([4, 2], [4]), ([2, 5, 5], [2, 5]), ([6, 6, 0, 1, 2, 3, 4, 5, 6], [6])])
def impl_QcBytes.B3 : List Nat := [0, 1, 3, 0, 8, 31, 63, 127]
theorem impl_QcBytes.tab3 : rtab .any (opsOf Tryz.f67 3) = impl_QcBytes.T3 := by kernel_rfl
theorem impl_QcBytes.bits3 : waitsOk impl_QcBytes.T3.2 impl_QcBytes.B3 = true := by kernel_rfl
theorem impl_QcBytes.calls (k : Nat) (a0_0 : Int) (a0_1 : Int) (a1_0 : Int) (a1_1 : ByteArray) (A1_2 : Option Addr) (c1_2 : Nat) (l1_2 : List Int) (r : List Int) (w : World) (hr1_2 : Kd.C (Kd.int .i64) w A1_2 l1_2.length l1_2) (hc1_2 : l1_2.length ≤ c1_2) (h : impl_QcBytes.f k a0_0 a0_1 a1_0 a1_1 l1_2 = some r) (hG : Glob w := by exact gG HG HB) :
  Calls Tryz.prog 67 #[.agg #[.int .i64 a0_0, .int .i64 a0_1], .agg #[.int .i64 a1_0, .string a1_1, .slice A1_2 l1_2.length c1_2]] w fun e w' => ∃ v0_ : Value, e = .returned (v0_) ∧ Kd.R (Kd.int .u8) 5 w' w.heap.size (fun _ => True) v0_ r ∧ Below w.heap.size w w' := by
 have HG := Aside0.mk hG; clear hG; have hu32 := Tryz.underlying32; have hu27 := Tryz.underlying27; have HR1_2 := Aside0.mk hr1_2; have HC1_2 := Aside0.mk hc1_2; clear hr1_2 hc1_2; have HB := Aside0.mk (Below.refl w.heap.size w)
 have H := h; unfold impl_QcBytes.f at H
 clear h; obtain ⟨t1016, A3, H⟩ := oB H; (try dsimp only at H)
 go_enter Tryz.func67, Tryz.ntmps67
 have H' := Aside0.mk H; clear H
 go_upto_if 9 with (first | ((with_reducible refine gd 2 ?_); refine bL 2 #[.int .i64 a0_0, .int .i64 a0_1] 32 ?_; intro gb1014 w4 _ _ _) | ((with_reducible refine gd 3 ?_); refine bL 3 #[.int .i64 a1_0, .string a1_1, .slice A1_2 l1_2.length c1_2] 27 ?_; intro gb1015 w5 _ _ _) | ((with_reducible refine gate_callee (f := 50) rfl ?_); refine gC (some 8) Tryz.func50 (impl_QcOk.calls (hr1_2 := pC HR1_2) (hc1_2 := HC1_2.out) (w := _) (h := A3.out)) ?_; intro w6 _))
 have H := H'.out; clear H'
 by_cases c7 : t1016 = true
 ·
  subst c7
  rw [if_pos rfl] at H
  obtain ⟨t1017, A8, H⟩ := oB H; (try dsimp only at H); obtain ⟨t1020, A9, H⟩ := oB H; (try dsimp only at H)
  by_cases c10 : t1017.length + t1020.length < 140737488355328
  rotate_left
  ·
   rw [if_neg c10] at H
   exact absurd H (by simp)
  rw [if_pos c10] at H
  have LMc10 := Aside0.mk c10; clear c10; obtain ⟨y1023, hy1023⟩ : ∃ y_ : List Int, y_ = (t1017 ++ t1020) := ⟨_, rfl⟩
  replace H : ((impl_PutNum.f k (l1_2.length : Int)).bind fun t1026 => (if y1023.length + t1026.length < 140737488355328 then ((some (y1023 ++ t1026 : List Int)).bind fun y1029 => ((impl_putNums.f k l1_2).bind fun t1032 => (if y1029.length + t1032.length < 140737488355328 then (some (y1029 ++ t1032)) else (none)))) else (none))) = some r := by first | (rw [hy1023]; with_reducible exact H) | (rw [hy1023]; with_reducible exact (Option.bind_some _ _).symm.trans H) | (rw [hy1023]; exact H) | exact H
  have Ny1023 := Aside0.mk hy1023; clear hy1023; obtain ⟨t1026, A11, H⟩ := oB H; (try dsimp only at H)
  by_cases c12 : y1023.length + t1026.length < 140737488355328
  rotate_left
  ·
   rw [if_neg c12] at H
   exact absurd H (by simp)
  rw [if_pos c12] at H
  have LMc12 := Aside0.mk c12; clear c12; obtain ⟨y1029, hy1029⟩ : ∃ y_ : List Int, y_ = (y1023 ++ t1026) := ⟨_, rfl⟩
  replace H : ((impl_putNums.f k l1_2).bind fun t1032 => (if y1029.length + t1032.length < 140737488355328 then (some (y1029 ++ t1032)) else (none))) = some r := by first | (rw [hy1029]; with_reducible exact H) | (rw [hy1029]; with_reducible exact (Option.bind_some _ _).symm.trans H) | (rw [hy1029]; exact H) | exact H
  have Ny1029 := Aside0.mk hy1029; clear hy1029; obtain ⟨t1032, A13, H⟩ := oB H; (try dsimp only at H)
  by_cases c14 : y1029.length + t1032.length < 140737488355328
  rotate_left
  ·
   rw [if_neg c14] at H
   exact absurd H (by simp)
  rw [if_pos c14] at H
  have LMc14 := Aside0.mk c14; clear c14; obtain ⟨y1035, hy1035⟩ : ∃ y_ : List Int, y_ = (y1029 ++ t1032) := ⟨_, rfl⟩
  replace H : (some y1035) = some r := by first | (rw [hy1035]; with_reducible exact H) | (rw [hy1035]; with_reducible exact (Option.bind_some _ _).symm.trans H) | (rw [hy1035]; exact H) | exact H
  have Ny1035 := Aside0.mk hy1035; clear hy1035; obtain rfl := Option.some.inj H
  try go_wp2
  refine sB [] impl_QcBytes.tab3 impl_QcBytes.bits3 ?_; intro w15 _ HT_ HW_
  refine pA 0 (some 10) (bz 8 1) HT_ ?_
  refine tB 1 (some 11) (bz 8 3) HT_ HW_ ?_
  refine pA 3 (some 13) (bz 8 11) HT_ ?_
  refine tB 4 (some 14) (bz 8 27) HT_ HW_ ?_
  refine o1 2 (some 12) (bz 8 31) HT_ rfl (kC1 Tryz.func120 (impl_PutNum.calls (w := _) (h := A8.out)) ?_); intro Ao1018 co1018 w16 _ HO1019
  refine nA (some 12) ?_
  refine o1 5 (some 15) (bz 8 63) HT_ rfl (kC1 Tryz.func119 (impl_PutText.calls (w := _) (h := A9.out)) ?_); intro Ao1021 co1021 w17 _ HO1022
  refine nA (some 15) ?_
  refine o1 6 (some 16) (bz 8 127) HT_ rfl (kGR (Kd.int .u8) (.tmp 12) (.tmp 15) 24 5 (.int .u8 0) 1 w15 Ny1023 HO1019 (rC HO1022) y0_10 ?_ (ht := Tryz.underlying24) (hinfo := info5)); intro Ao1024 co1024 w18 _ _ HO1025
  refine nA (some 16) ?_
  refine pA 7 (some 5) (bz 8 255) HT_ ?_
  refine done_ (done_of HT_.out (by kernel_rfl)) ?_
  try go_wp2_with (first | ((with_reducible refine gate_callee (f := 120) rfl ?_); refine gC1 (some 21) Tryz.func120 (impl_PutNum.calls (w := _) (h := A11.out)) ?_; intro Ao1027 co1027 w19 _ HO1028) | ((with_reducible refine gate_builtin (b := .append) (xs := #[.tmp 17, .tmp 21]) rfl ?_); at_builtin; refine gR (Kd.int .u8) (.tmp 17) (.tmp 21) 24 5 (.int .u8 0) 1 w15 Ny1029 HO1025 (rC HO1028) (by have := LMc12.out; omega) ?_ (ht := Tryz.underlying24) (hinfo := info5); intro Ao1030 co1030 w20 _ _ HO1031) | ((with_reducible refine gate_callee (f := 118) rfl ?_); refine gC1 (some 26) Tryz.func118 (impl_putNums.calls (hr0 := pC HR1_2) (hc0 := HC1_2.out) (w := _) (h := A13.out)) ?_; intro Ao1033 co1033 w21 _ HO1034) | ((with_reducible refine gate_builtin (b := .append) (xs := #[.tmp 23, .tmp 26]) rfl ?_); at_builtin; refine gR (Kd.int .u8) (.tmp 23) (.tmp 26) 24 5 (.int .u8 0) 1 w15 Ny1035 HO1031 (rC HO1034) (by have := LMc14.out; omega) ?_ (ht := Tryz.underlying24) (hinfo := info5); intro Ao1036 co1036 w22 _ _ HO1037))
  go_ret
  exact ⟨_, y0_8, rR HO1037, UpW.out⟩
 replace c7 := Bool.eq_false_iff.mpr c7; subst c7
 rw [if_neg Bool.false_ne_true] at H
 obtain rfl := Option.some.inj H
 go_wp2
 go_ret
 exact ⟨_, y0_8, Kd.R_nil _ _ _ _ _, UpW.out⟩
def impl_SafeBytes.f (k : Nat) (a0_0 : Int) (a0_1 : Int) (a1_0 : Int) (a1_1 : Int) (a1_2 : Int) (a1_3 : ByteArray) (l1_4 : List Int) (a1_5 : ByteArray) : Option (List Int) := (impl_SafeOk.f k a0_0 a0_1 a1_0 a1_1 a1_2 a1_3 l1_4 a1_5).bind fun t1040 => (if t1040 = true then ((impl_putNums.f k (([a1_0, a1_1] : List Int))).bind fun t1044 => ((impl_QcBytes.f k a0_0 a0_1 a1_2 a1_3 l1_4).bind fun t1047 => (if t1044.length + t1047.length < 140737488355328 then ((some (t1044 ++ t1047 : List Int)).bind fun y1050 => ((impl_PutText.f k a1_5).bind fun t1053 => (if y1050.length + t1053.length < 140737488355328 then (some (y1050 ++ t1053)) else (none)))) else (none)))) else (some ([] : List Int)))
def impl_SafeBytes.T3 : Bool × List (List Nat × List Nat) := (true, [([], []), ([0], [0]), ([], []), ([2], [2]), ([1, 3], [1, 3]), ([4], [4]), ([], []), ([], []), ([7], [7]), ([6, 8, 5], [6, 8]), ([5, 9, 9], [5, 9]), ([10, 10, 0, 1, 2, 3, 4, 5, 6, 7, 8, 9, 10], [10])])
def impl_SafeBytes.B3 : List Nat := [0, 1, 0, 4, 15, 31, 0, 0, 128, 511, 1023, 2047]
theorem impl_SafeBytes.tab3 : rtab .any (opsOf Tryz.f54 3) = impl_SafeBytes.T3 := by kernel_rfl
theorem impl_SafeBytes.bits3 : waitsOk impl_SafeBytes.T3.2 impl_SafeBytes.B3 = true := by kernel_rfl
theorem impl_SafeBytes.calls (k : Nat) (a0_0 : Int) (a0_1 : Int) (a1_0 : Int) (a1_1 : Int) (a1_2 : Int) (a1_3 : ByteArray) (A1_4 : Option Addr) (c1_4 : Nat) (l1_4 : List Int) (a1_5 : ByteArray) (r : List Int) (w : World) (hr1_4 : Kd.C (Kd.int .i64) w A1_4 l1_4.length l1_4) (hc1_4 : l1_4.length ≤ c1_4) (h : impl_SafeBytes.f k a0_0 a0_1 a1_0 a1_1 a1_2 a1_3 l1_4 a1_5 = some r) (hG : Glob w := by exact gG HG HB) :
  Calls Tryz.prog 54 #[.agg #[.int .i64 a0_0, .int .i64 a0_1], .agg #[.int .i64 a1_0, .int .i64 a1_1, .int .i64 a1_2, .string a1_3, .slice A1_4 l1_4.length c1_4, .string a1_5]] w fun e w' => ∃ v0_ : Value, e = .returned (v0_) ∧ Kd.R (Kd.int .u8) 5 w' w.heap.size (fun _ => True) v0_ r ∧ Below w.heap.size w w' := by
 have HG := Aside0.mk hG; clear hG; have hu32 := Tryz.underlying32; have hu29 := Tryz.underlying29; have hu27 := Tryz.underlying27; have HR1_4 := Aside0.mk hr1_4; have HC1_4 := Aside0.mk hc1_4; clear hr1_4 hc1_4; have HB := Aside0.mk (Below.refl w.heap.size w)
 have H := h; unfold impl_SafeBytes.f at H
 clear h; obtain ⟨t1040, A3, H⟩ := oB H; (try dsimp only at H)
 go_enter Tryz.func54, Tryz.ntmps54
 have H' := Aside0.mk H; clear H
 go_upto_if 9 with (first | ((with_reducible refine gd 2 ?_); refine bL 2 #[.int .i64 a0_0, .int .i64 a0_1] 32 ?_; intro gb1038 w4 _ _ _) | ((with_reducible refine gd 3 ?_); refine bL 3 #[.int .i64 a1_0, .int .i64 a1_1, .int .i64 a1_2, .string a1_3, .slice A1_4 l1_4.length c1_4, .string a1_5] 29 ?_; intro gb1039 w5 _ _ _) | ((with_reducible refine gate_callee (f := 69) rfl ?_); refine gC (some 8) Tryz.func69 (impl_SafeOk.calls (hr1_4 := pC HR1_4) (hc1_4 := HC1_4.out) (w := _) (h := A3.out)) ?_; intro w6 _))
 have H := H'.out; clear H'
 by_cases c7 : t1040 = true
 ·
  subst c7
  rw [if_pos rfl] at H
  obtain ⟨y1041, hy1041⟩ : ∃ y_ : List Int, y_ = (([a1_0, a1_1] : List Int)) := ⟨_, rfl⟩
  replace H : ((impl_putNums.f k y1041).bind fun t1044 => ((impl_QcBytes.f k a0_0 a0_1 a1_2 a1_3 l1_4).bind fun t1047 => (if t1044.length + t1047.length < 140737488355328 then ((some (t1044 ++ t1047 : List Int)).bind fun y1050 => ((impl_PutText.f k a1_5).bind fun t1053 => (if y1050.length + t1053.length < 140737488355328 then (some (y1050 ++ t1053)) else (none)))) else (none)))) = some r := by first | (rw [hy1041]; with_reducible exact H) | (rw [hy1041]; with_reducible exact (Option.bind_some _ _).symm.trans H) | (rw [hy1041]; exact H) | exact H
  have Ny1041 := Aside0.mk hy1041; clear hy1041; obtain ⟨t1044, A8, H⟩ := oB H; (try dsimp only at H); obtain ⟨t1047, A9, H⟩ := oB H; (try dsimp only at H)
  by_cases c10 : t1044.length + t1047.length < 140737488355328
  rotate_left
  ·
   rw [if_neg c10] at H
   exact absurd H (by simp)
  rw [if_pos c10] at H
  have LMc10 := Aside0.mk c10; clear c10; obtain ⟨y1050, hy1050⟩ : ∃ y_ : List Int, y_ = (t1044 ++ t1047) := ⟨_, rfl⟩
  replace H : ((impl_PutText.f k a1_5).bind fun t1053 => (if y1050.length + t1053.length < 140737488355328 then (some (y1050 ++ t1053)) else (none))) = some r := by first | (rw [hy1050]; with_reducible exact H) | (rw [hy1050]; with_reducible exact (Option.bind_some _ _).symm.trans H) | (rw [hy1050]; exact H) | exact H
  have Ny1050 := Aside0.mk hy1050; clear hy1050; obtain ⟨t1053, A11, H⟩ := oB H; (try dsimp only at H)
  by_cases c12 : y1050.length + t1053.length < 140737488355328
  rotate_left
  ·
   rw [if_neg c12] at H
   exact absurd H (by simp)
  rw [if_pos c12] at H
  have LMc12 := Aside0.mk c12; clear c12; obtain ⟨y1056, hy1056⟩ : ∃ y_ : List Int, y_ = (y1050 ++ t1053) := ⟨_, rfl⟩
  replace H : (some y1056) = some r := by first | (rw [hy1056]; with_reducible exact H) | (rw [hy1056]; with_reducible exact (Option.bind_some _ _).symm.trans H) | (rw [hy1056]; exact H) | exact H
  have Ny1056 := Aside0.mk hy1056; clear hy1056; obtain rfl := Option.some.inj H
  try go_wp2
  refine sB [] impl_SafeBytes.tab3 impl_SafeBytes.bits3 ?_; intro w13 _ HT_ HW_
  refine pA 0 (some 10) (bz 12 1) HT_ ?_
  refine tB 1 (some 11) (bz 12 3) HT_ HW_ ?_
  refine pA 2 (some 12) (bz 12 7) HT_ ?_
  refine tB 3 (some 13) (bz 12 15) HT_ HW_ ?_
  refine tB 6 (some 16) (bz 12 79) HT_ HW_ ?_
  refine pA 7 (some 17) (bz 12 207) HT_ ?_
  refine tB 8 (some 18) (bz 12 463) HT_ HW_ ?_
  refine o1 4 (some 14) (bz 12 479) HT_ rfl (kL 3 (Kd.int .i64) rfl Ny1041 ?_); intro Ao1042 co1042 w14 _ HO1043
  refine nA (some 14) ?_
  refine o1 5 (some 15) (bz 12 511) HT_ rfl (kC1 Tryz.func118 (impl_putNums.calls (hr0 := rC HO1043) (hc0 := rL HO1043) (w := _) (h := A8.out)) ?_); intro Ao1045 co1045 w15 _ HO1046
  refine nA (some 15) ?_
  refine o1 9 (some 19) (bz 12 1023) HT_ rfl (kC1 Tryz.func67 (impl_QcBytes.calls (hr1_2 := pC HR1_4) (hc1_2 := HC1_4.out) (w := _) (h := A9.out)) ?_); intro Ao1048 co1048 w16 _ HO1049
  refine nA (some 19) ?_
  refine o1 10 (some 20) (bz 12 2047) HT_ rfl (kGR (Kd.int .u8) (.tmp 15) (.tmp 19) 24 5 (.int .u8 0) 1 w14 Ny1050 HO1046 (rC HO1049) y0_10 ?_ (ht := Tryz.underlying24) (hinfo := info5)); intro Ao1051 co1051 w17 _ _ HO1052
  refine nA (some 20) ?_
  refine pA 11 (some 5) (bz 12 4095) HT_ ?_
  refine done_ (done_of HT_.out (by kernel_rfl)) ?_
  try go_wp2_with (first | ((with_reducible refine gate_callee (f := 119) rfl ?_); refine gC1 (some 24) Tryz.func119 (impl_PutText.calls (w := _) (h := A11.out)) ?_; intro Ao1054 co1054 w18 _ HO1055) | ((with_reducible refine gate_builtin (b := .append) (xs := #[.tmp 21, .tmp 24]) rfl ?_); at_builtin; refine gR (Kd.int .u8) (.tmp 21) (.tmp 24) 24 5 (.int .u8 0) 1 w14 Ny1056 HO1052 (rC HO1055) (by have := LMc12.out; omega) ?_ (ht := Tryz.underlying24) (hinfo := info5); intro Ao1057 co1057 w19 _ _ HO1058))
  go_ret
  exact ⟨_, y0_8, rR HO1058, UpW.out⟩
 replace c7 := Bool.eq_false_iff.mpr c7; subst c7
 rw [if_neg Bool.false_ne_true] at H
 obtain rfl := Option.some.inj H
 go_wp2
 go_ret
 exact ⟨_, y0_8, Kd.R_nil _ _ _ _ _, UpW.out⟩
def impl_NoteBytes.f (k : Nat) (a0_0 : Int) (a0_1 : Int) (a1_0 : Int) (a1_1 : Int) (a1_2 : Int) (a1_3 : ByteArray) (l1_4 : List Int) (a1_5 : ByteArray) : Option (List Int) := (impl_SafeBytes.f k a0_0 a0_1 a1_0 a1_1 a1_2 a1_3 l1_4 a1_5).bind fun t1061 => (if (t1061.length : Int) = 0 then (some ([] : List Int)) else ((impl_PutNum.f k (t1061.length : Int)).bind fun t1064 => (if t1064.length + t1061.length < 140737488355328 then ((some (t1064 ++ t1061 : List Int)).bind fun y1067 => (if y1067.length < 140737488355328 then (some (y1067 ++ [10])) else (none))) else (none))))
theorem impl_NoteBytes.calls (k : Nat) (a0_0 : Int) (a0_1 : Int) (a1_0 : Int) (a1_1 : Int) (a1_2 : Int) (a1_3 : ByteArray) (A1_4 : Option Addr) (c1_4 : Nat) (l1_4 : List Int) (a1_5 : ByteArray) (r : List Int) (w : World) (hr1_4 : Kd.C (Kd.int .i64) w A1_4 l1_4.length l1_4) (hc1_4 : l1_4.length ≤ c1_4) (h : impl_NoteBytes.f k a0_0 a0_1 a1_0 a1_1 a1_2 a1_3 l1_4 a1_5 = some r) (hG : Glob w := by exact gG HG HB) :
  Calls Tryz.prog 55 #[.agg #[.int .i64 a0_0, .int .i64 a0_1], .agg #[.int .i64 a1_0, .int .i64 a1_1, .int .i64 a1_2, .string a1_3, .slice A1_4 l1_4.length c1_4, .string a1_5]] w fun e w' => ∃ v0_ : Value, e = .returned (v0_) ∧ Kd.R (Kd.int .u8) 5 w' w.heap.size (fun _ => True) v0_ r ∧ Below w.heap.size w w' := by
 have HG := Aside0.mk hG; clear hG; have hu32 := Tryz.underlying32; have hu29 := Tryz.underlying29; have HR1_4 := Aside0.mk hr1_4; have HC1_4 := Aside0.mk hc1_4; clear hr1_4 hc1_4; have HB := Aside0.mk (Below.refl w.heap.size w)
 have H := h; unfold impl_NoteBytes.f at H
 clear h; obtain ⟨t1061, A3, H⟩ := oB H; (try dsimp only at H)
 go_enter Tryz.func55, Tryz.ntmps55
 have H' := Aside0.mk H; clear H
 go_upto_if 11 with (first | ((with_reducible refine gd 2 ?_); refine bL 2 #[.int .i64 a0_0, .int .i64 a0_1] 32 ?_; intro gb1059 w4 _ _ _) | ((with_reducible refine gd 3 ?_); refine bL 3 #[.int .i64 a1_0, .int .i64 a1_1, .int .i64 a1_2, .string a1_3, .slice A1_4 l1_4.length c1_4, .string a1_5] 29 ?_; intro gb1060 w5 _ _ _) | ((with_reducible refine gate_callee (f := 54) rfl ?_); refine gC1 (some 8) Tryz.func54 (impl_SafeBytes.calls (hr1_4 := pC HR1_4) (hc1_4 := HC1_4.out) (w := _) (h := A3.out)) ?_; intro Ao1062 co1062 w6 _ HO1063))
 have H := H'.out; clear H'
 by_cases c7 : (t1061.length : Int) = 0
 ·
  rw [if_pos c7] at H
  have c7b0 : ((t1061.length : Int) == 0) = true := beq_iff_eq.mpr c7; have c7b1 : ((t1061.length : Int) != 0) = false := bne_eq_false_iff_eq.mpr c7; clear c7
  (first | rw [c7b0] | (simp only [i64_w, i32_w]; rw [c7b0]) | skip)
  obtain rfl := Option.some.inj H
  go_wp2
  go_ret
  exact ⟨_, y0_8, Kd.R_nil _ _ _ _ _, UpW.out⟩
 rw [if_neg c7] at H
 have c7b0 : ((t1061.length : Int) == 0) = false := beq_eq_false_iff_ne.mpr c7; have c7b1 : ((t1061.length : Int) != 0) = true := bne_iff_ne.mpr c7
 have c7b2 : ¬ (t1061 = []) := fun h_ => c7 (by rw [h_]; rfl)
 (first | rw [c7b0] | (simp only [i64_w, i32_w]; rw [c7b0]) | skip)
 obtain ⟨t1064, A8, H⟩ := oB H; (try dsimp only at H)
 by_cases c9 : t1064.length + t1061.length < 140737488355328
 ·
  rw [if_pos c9] at H
  have LMc9 := Aside0.mk c9; clear c9; obtain ⟨y1067, hy1067⟩ : ∃ y_ : List Int, y_ = (t1064 ++ t1061) := ⟨_, rfl⟩
  replace H : (if y1067.length < 140737488355328 then (some (y1067 ++ [10])) else (none)) = some r := by first | (rw [hy1067]; with_reducible exact H) | (rw [hy1067]; with_reducible exact (Option.bind_some _ _).symm.trans H) | (rw [hy1067]; exact H) | exact H
  have Ny1067 := Aside0.mk hy1067; clear hy1067
  by_cases c10 : y1067.length < 140737488355328
  rotate_left
  ·
   rw [if_neg c10] at H
   exact absurd H (by simp)
  rw [if_pos c10] at H
  have LMc10 := Aside0.mk c10; clear c10; obtain ⟨y1070, hy1070⟩ : ∃ y_ : List Int, y_ = (y1067 ++ [10]) := ⟨_, rfl⟩
  replace H : (some y1070) = some r := by first | (rw [hy1070]; with_reducible exact H) | (rw [hy1070]; with_reducible exact (Option.bind_some _ _).symm.trans H) | (rw [hy1070]; exact H) | exact H
  have Ny1070 := Aside0.mk hy1070; clear hy1070; obtain rfl := Option.some.inj H
  go_wp2_with (first | ((with_reducible refine gate_callee (f := 120) rfl ?_); refine gC1 (some 14) Tryz.func120 (impl_PutNum.calls (w := _) (h := A8.out)) ?_; intro Ao1065 co1065 w11 _ HO1066) | ((with_reducible refine gate_builtin (b := .append) (xs := #[.tmp 14, .tmp 15]) rfl ?_); at_builtin; refine gR (Kd.int .u8) (.tmp 14) (.tmp 15) 24 5 (.int .u8 0) 1 w6 Ny1067 HO1066 (rC HO1063) (by have := LMc9.out; omega) ?_ (ht := Tryz.underlying24) (hinfo := info5); intro Ao1068 co1068 w12 _ _ HO1069; replace HO1063 := rG (W' := w12) HO1063) | ((with_reducible refine gate_builtin (b := .append) (xs := #[.tmp 16, .tmp 17]) rfl ?_); at_builtin; refine gA (Kd.int .u8) (.tmp 16) (.tmp 17) 24 5 (.int .u8 0) 1 10 [.int .u8 10] w6 Ny1070 HO1069 rfl y0_10 ?_ (ht := Tryz.underlying24) (hinfo := info5); intro Ao1071 co1071 w13 _ _ HO1072; replace HO1063 := rG (W' := w13) HO1063))
  go_ret
  exact ⟨_, y0_8, rR HO1072, UpW.out⟩
 rw [if_neg c9] at H
 exact absurd H (by simp)
def spec_PutNum.l0 : Nat → Int → List Int → Option (List Int)
 | 0, _, _ => none
 | k + 1, x0, x3 => if x0 > 127 then (if x3.length < 140737488355328 then (spec_PutNum.l0 k (wrap64 (Int.tdiv x0 128)) (x3 ++ [(wrap64 ((Int.tmod x0 128) + 128)) % 256])) else (none)) else (if x3.length < 140737488355328 then (some (x3 ++ [(x0) % 256])) else (none))
def spec_PutNum.f (k : Nat) (a0 : Int) : Option (List Int) := (some (([] : List Int) : List Int)).bind fun y1073 => ((spec_l1In.f a0 0 2147483647).bind fun t1076 => (if t1076 = true then (spec_PutNum.l0 k a0 y1073) else (some y1073)))
theorem spec_PutNum.calls (k : Nat) (a0 : Int) (r : List Int) (w : World) (h : spec_PutNum.f k a0 = some r) :
  Calls Tryz.prog 133 #[.int .i64 a0] w fun e w' => ∃ v0_ : Value, e = .returned (v0_) ∧ Kd.R (Kd.int .u8) 5 w' w.heap.size (fun _ => True) v0_ r ∧ Below w.heap.size w w' := by
 have HB := Aside0.mk (Below.refl w.heap.size w)
 have H := h; unfold spec_PutNum.f at H
 clear h; obtain ⟨y1073, hy1073⟩ : ∃ y_ : List Int, y_ = (([] : List Int)) := ⟨_, rfl⟩
 replace H : ((spec_l1In.f a0 0 2147483647).bind fun t1076 => (if t1076 = true then (spec_PutNum.l0 k a0 y1073) else (some y1073))) = some r := by first | (rw [hy1073]; with_reducible exact H) | (rw [hy1073]; with_reducible exact (Option.bind_some _ _).symm.trans H) | (rw [hy1073]; exact H) | exact H
 have Ny1073 := Aside0.mk hy1073; clear hy1073; obtain ⟨t1076, A2, H⟩ := oB H; (try dsimp only at H)
 go_enter Tryz.func133, Tryz.ntmps133
 have H' := Aside0.mk H; clear H
 go_upto_if 7 with (first | ((with_reducible refine gate_dst (N := 4) rfl ?_); refine lL 4 5 (Kd.int .u8) rfl Ny1073 ?_; intro Ao1074 co1074 w3 _ HO1075) | ((with_reducible refine gate_callee (f := 110) rfl ?_); refine gD (some 6) Tryz.func110 (spec_l1In.calls (w := _) (h := A2.out)) ?_; intro w4 _))
 have H := H'.out; clear H'
 by_cases c5 : t1076 = true
 ·
  subst c5
  rw [if_pos rfl] at H
  have H' := Aside0.mk H; clear H
  go_wp2
  refine wC ?_; intro w6 _
  go_loopg [0, 3] k (fun kq v0 v3 w' => ∃ (x0_1 : Int) (x3_1 : List Int) (Ao3_1 : Option Addr) (co3_1 : Nat), v0 = .int .i64 x0_1 ∧ v3 = .slice Ao3_1 x3_1.length co3_1 ∧ Aside0 (spec_PutNum.l0 kq x0_1 x3_1 = some r) ∧ Aside0 (kq ≤ k) ∧ Aside0 (Kd.R (Kd.int .u8) 5 w' w.heap.size (iv w w') (.slice Ao3_1 x3_1.length co3_1) x3_1) ∧ KT w6 [] w _ (Kd.int .u8) 5 w' ∧ LB w w')
  case atStart => exact ⟨(a0), (y1073), (Ao1074), (co1074), y0_8, y0_8, H', ⟨Nat.le_refl _⟩, ⟨rJ HO1075⟩, ⟨UpT.out⟩, ⟨UpW.out⟩⟩
  case round =>
   clear H'; obtain ⟨x0_1, x3_1, Ao3_1, co3_1, rfl, rfl, HA, HK1, HO_3, _, _⟩ := hrel; have HO_4 := HO1075; cases gk with
   | zero => exact absurd HA.out (by simp [spec_PutNum.l0])
   | succ k1 =>
    have H := HA.out; clear HA
    simp only [spec_PutNum.l0] at H
    by_cases c7 : x0_1 > 127
    ·
     rw [if_pos c7] at H
     have c7b0 : decide (127 < x0_1) = true := decide_eq_true c7; clear c7
     (first | rw [c7b0] | (simp only [i64_w, i32_w]; rw [c7b0]) | skip)
     by_cases c8 : x3_1.length < 140737488355328
     rotate_left
     ·
      rw [if_neg c8] at H
      exact absurd H (by simp)
     rw [if_pos c8] at H
     have LMc8 := Aside0.mk c8; clear c8; obtain ⟨y1077, hy1077⟩ : ∃ y_ : List Int, y_ = (x3_1 ++ [(wrap64 ((Int.tmod x0_1 128) + 128)) % 256]) := ⟨_, rfl⟩
     replace H : (spec_PutNum.l0 k1 (wrap64 (Int.tdiv x0_1 128)) y1077) = some r := by first | (rw [hy1077]; with_reducible exact H) | (rw [hy1077]; with_reducible exact (Option.bind_some _ _).symm.trans H) | (rw [hy1077]; exact H) | exact H
     have Ny1077 := Aside0.mk hy1077; clear hy1077; have H' := Aside0.mk H; clear H
     go_wp2_with (first | ((with_reducible refine gate_builtin (b := .append) (xs := #[.tmp 11, .tmp 16]) rfl ?_); at_builtin; refine gA (Kd.int .u8) (.tmp 11) (.tmp 16) 24 5 (.int .u8 0) 1 ((wrap64 ((Int.tmod x0_1 128) + 128)) % 256) [.int .u8 ((wrap64 ((Int.tmod x0_1 128) + 128)) % 256)] w Ny1077 HO_3 rfl (by have := LMc8.out; omega) ?_ (ht := Tryz.underlying24) (hinfo := info5); intro Ao1078 co1078 w9 _ _ HO1079))
     go_roundg k1
     case measure => have := HK1.out; omega
     case rel => exact ⟨(wrap64 (Int.tdiv x0_1 128)), (y1077), (Ao1078), (co1078), y0_8, y0_8, H', ⟨y0_11⟩, ⟨rJ HO1079⟩, ⟨UpT.out⟩, ⟨UpW.out⟩⟩
    rw [if_neg c7] at H
    have c7b0 : decide (127 < x0_1) = false := decide_eq_false c7; clear c7
    (first | rw [c7b0] | (simp only [i64_w, i32_w]; rw [c7b0]) | skip)
    by_cases c10 : x3_1.length < 140737488355328
    rotate_left
    ·
     rw [if_neg c10] at H
     exact absurd H (by simp)
    rw [if_pos c10] at H
    have LMc10 := Aside0.mk c10; clear c10; obtain ⟨y1080, hy1080⟩ : ∃ y_ : List Int, y_ = (x3_1 ++ [(x0_1) % 256]) := ⟨_, rfl⟩
    replace H : (some y1080) = some r := by first | (rw [hy1080]; with_reducible exact H) | (rw [hy1080]; with_reducible exact (Option.bind_some _ _).symm.trans H) | (rw [hy1080]; exact H) | exact H
    have Ny1080 := Aside0.mk hy1080; clear hy1080; obtain rfl := Option.some.inj H
    go_wp2_with (first | ((with_reducible refine gate_builtin (b := .append) (xs := #[.tmp 20, .tmp 23]) rfl ?_); at_builtin; refine gA (Kd.int .u8) (.tmp 20) (.tmp 23) 24 5 (.int .u8 0) 1 ((x0_1) % 256) [.int .u8 ((x0_1) % 256)] w Ny1080 HO_3 rfl y0_10 ?_ (ht := Tryz.underlying24) (hinfo := info5); intro Ao1081 co1081 w11 _ _ HO1082))
    go_ret
    exact ⟨_, y0_8, rR HO1082, UpW.out⟩
 replace c5 := Bool.eq_false_iff.mpr c5; subst c5
 rw [if_neg Bool.false_ne_true] at H
 obtain rfl := Option.some.inj H
 go_wp2
 go_ret
 exact ⟨_, y0_8, rR HO1075, UpW.out⟩
def spec_PutText.f (k : Nat) (a0 : ByteArray) : Option (List Int) := (spec_PutNum.f k (a0.size : Int)).bind fun t1 => (if t1.length + a0.size < 140737488355328 then (some (t1 ++ bytesOf a0)) else (none))
theorem spec_PutText.up {w W : World} (h : Below w.heap.size w W) (e : TypeId) (s : ByteArray) : Below w.heap.size w (Go.Lib.bytesWorld W e s) := bytes_below h (below_size h) e s
theorem spec_PutText.calls (k : Nat) (a0 : ByteArray) (r : List Int) (w : World) (h : spec_PutText.f k a0 = some r) :
  Calls Tryz.prog 134 #[.string a0] w fun e w' => ∃ v0_ : Value, e = .returned (v0_) ∧ Kd.R (Kd.int .u8) 5 w' w.heap.size (fun _ => True) v0_ r ∧ Below w.heap.size w w' := by
 have HB := Aside0.mk (Below.refl w.heap.size w); obtain ⟨t1, A20, H⟩ := Option.bind_eq_some_iff.mp h
 try dsimp only at H
 have A2 := Aside0.mk A20; clear A20 h
 by_cases c3 : t1.length + a0.size < 140737488355328
 ·
  rw [if_pos c3] at H
  have LMc3 := Aside0.mk c3; clear c3; obtain ⟨y1, hy1⟩ : ∃ y_ : List Int, y_ = (t1 ++ bytesOf a0) := ⟨_, rfl⟩
  rw [← hy1] at H
  have Ny1 := Aside0.mk hy1; clear hy1; obtain rfl := Option.some.inj H; clear H
  have kb := fun W => print_bytes (P := Tryz.prog) 9 24 5 Tryz.underlying9 Tryz.underlying24 Tryz.underlying5 a0 W
  go_enter Tryz.func134, Tryz.ntmps134
  go_wp2_with (first | ((with_reducible refine gate_callee (f := 133) rfl ?_); refine gB (some 5) Tryz.func133 #[.int .i64 (a0.size : Int)] ?_; (with_reducible refine (spec_PutNum.calls k (a0.size : Int) t1 _ A2.out).mono ?_); rintro e w4 ⟨v1, rfl, ho0, hb⟩; refine ⟨_, rfl, ?_⟩; have HO1 := Aside0.mk (Kd.R_lower ho0 (below_size (bI HB.out))); replace HB := bs HB hb; clear hb ho0; have HB1 := Aside0.mk (spec_PutText.up HB.out 5 a0); have HO2 := Aside0.mk (Kd.R_below HO1.out (spec_PutText.up (Below.refl _ _) 5 a0))) | (at_builtin; refine Kd.R_append_rows (Kd.int .u8) (w0 := w) w.heap.size rfl (.tmp 5) (.tmp 7) 24 5 (.int .u8 0) 1 rfl Tryz.underlying24 info5 rfl (by decide) (by omega) v1 t1 (bytesOf a0) _ _ _ (fun _ => True) (fun _ => False) rfl rfl ?aO ?aR (fun _ _ h => h) (fun _ h => h.elim) ?aF ?aB ?aS ?aL ?_; (case aR => rw [← bytesOf_length a0]; exact Kd.C_of_reads (d := (0 : Int)) (h1 := fun _ => rfl) (readsInt_of.1 (by rw [bytesOf_length]; exact bytes_reads w4 5 a0 (by have := LMc3.out; omega)))); (case aB => exact HB1.out); (case aF => exact (fun _ _ => trivial)); (case aO => exact HO2.out); (case aS => exact (below_size HB1.out)); (case aL => have := LMc3.out; omega); intro v2 w5 ho hb hg hat; rw [← Ny1.out] at ho))
  go_ret
  exact ⟨_, y0_8, ho, hb⟩
 rw [if_neg c3] at H
 exact absurd H (by simp)
def spec_QcBytes.l0 : Nat → List Int → Int → Int → ByteArray → List Int → Option (List Int)
 | 0, _, _, _, _, _ => none
 | k + 1, x5, x6, x1085000, x1085001, x1085002 => if x6 < (x1085002.length : Int) then (if 0 ≤ x6 then ((spec_PutNum.f k (rd x1085002 x6)).bind fun t1102 => (if x5.length + t1102.length < 140737488355328 then (spec_QcBytes.l0 k (x5 ++ t1102) (wrap64 (x6 + 1)) x1085000 x1085001 x1085002) else (none))) else (none)) else (some x5)
def spec_QcBytes.f (k : Nat) (a0_0 : Int) (a0_1 : Int) (a1_0 : Int) (a1_1 : ByteArray) (l1_2 : List Int) : Option (List Int) := (spec_QcOk.f k a0_0 a0_1 a1_0 a1_1 l1_2).bind fun t1085 => (if t1085 = true then ((spec_PutNum.f k a1_0).bind fun t1086 => ((spec_PutText.f k a1_1).bind fun t1089 => (if t1086.length + t1089.length < 140737488355328 then ((some (t1086 ++ t1089 : List Int)).bind fun y1092 => ((spec_PutNum.f k (l1_2.length : Int)).bind fun t1095 => (if y1092.length + t1095.length < 140737488355328 then (spec_QcBytes.l0 k (y1092 ++ t1095) 0 a1_0 a1_1 l1_2) else (none)))) else (none)))) else (some (([] : List Int))))
def spec_QcBytes.T3 : Bool × List (List Nat × List Nat) := (true, [([], []), ([0], [0]), ([1], [1]), ([], []), ([3], [3]), ([4, 2], [4]), ([2, 5, 5], [2, 5]), ([6, 6, 0, 1, 2, 3, 4, 5, 6], [6])])
def spec_QcBytes.B3 : List Nat := [0, 1, 3, 0, 8, 31, 63, 127]
theorem spec_QcBytes.tab3 : rtab .any (opsOf Tryz.f68 3) = spec_QcBytes.T3 := by kernel_rfl
theorem spec_QcBytes.bits3 : waitsOk spec_QcBytes.T3.2 spec_QcBytes.B3 = true := by kernel_rfl
theorem spec_QcBytes.calls (k : Nat) (a0_0 : Int) (a0_1 : Int) (a1_0 : Int) (a1_1 : ByteArray) (A1_2 : Option Addr) (c1_2 : Nat) (l1_2 : List Int) (r : List Int) (w : World) (hr1_2 : Kd.C (Kd.int .i64) w A1_2 l1_2.length l1_2) (hc1_2 : l1_2.length ≤ c1_2) (h : spec_QcBytes.f k a0_0 a0_1 a1_0 a1_1 l1_2 = some r) :
  Calls Tryz.prog 68 #[.agg #[.int .i64 a0_0, .int .i64 a0_1], .agg #[.int .i64 a1_0, .string a1_1, .slice A1_2 l1_2.length c1_2]] w fun e w' => ∃ v0_ : Value, e = .returned (v0_) ∧ Kd.R (Kd.int .u8) 5 w' w.heap.size (fun _ => True) v0_ r ∧ Below w.heap.size w w' := by
 have hu32 := Tryz.underlying32; have hu27 := Tryz.underlying27; have HR1_2 := Aside0.mk hr1_2; have HC1_2 := Aside0.mk hc1_2; clear hr1_2 hc1_2; have HB := Aside0.mk (Below.refl w.heap.size w)
 have H := h; unfold spec_QcBytes.f at H
 clear h; obtain ⟨t1085, A3, H⟩ := oB H; (try dsimp only at H)
 go_enter Tryz.func68, Tryz.ntmps68
 have H' := Aside0.mk H; clear H
 go_upto_if 10 with (first | ((with_reducible refine gd 2 ?_); refine bL 2 #[.int .i64 a0_0, .int .i64 a0_1] 32 ?_; intro gb1083 w4 _ _ _) | ((with_reducible refine gd 3 ?_); refine bL 3 #[.int .i64 a1_0, .string a1_1, .slice A1_2 l1_2.length c1_2] 27 ?_; intro gb1084 w5 _ _ _) | ((with_reducible refine gate_callee (f := 100) rfl ?_); refine gC (some 9) Tryz.func100 (spec_QcOk.calls (hr1_2 := pC HR1_2) (hc1_2 := HC1_2.out) (w := _) (h := A3.out)) ?_; intro w6 _))
 have H := H'.out; clear H'
 by_cases c7 : t1085 = true
 ·
  subst c7
  rw [if_pos rfl] at H
  obtain ⟨t1086, A8, H⟩ := oB H; (try dsimp only at H); obtain ⟨t1089, A9, H⟩ := oB H; (try dsimp only at H)
  by_cases c10 : t1086.length + t1089.length < 140737488355328
  rotate_left
  ·
   rw [if_neg c10] at H
   exact absurd H (by simp)
  rw [if_pos c10] at H
  have LMc10 := Aside0.mk c10; clear c10; obtain ⟨y1092, hy1092⟩ : ∃ y_ : List Int, y_ = (t1086 ++ t1089) := ⟨_, rfl⟩
  replace H : ((spec_PutNum.f k (l1_2.length : Int)).bind fun t1095 => (if y1092.length + t1095.length < 140737488355328 then (spec_QcBytes.l0 k (y1092 ++ t1095) 0 a1_0 a1_1 l1_2) else (none))) = some r := by first | (rw [hy1092]; with_reducible exact H) | (rw [hy1092]; with_reducible exact (Option.bind_some _ _).symm.trans H) | (rw [hy1092]; exact H) | exact H
  have Ny1092 := Aside0.mk hy1092; clear hy1092; obtain ⟨t1095, A11, H⟩ := oB H; (try dsimp only at H)
  by_cases c12 : y1092.length + t1095.length < 140737488355328
  rotate_left
  ·
   rw [if_neg c12] at H
   exact absurd H (by simp)
  rw [if_pos c12] at H
  have LMc12 := Aside0.mk c12; clear c12; obtain ⟨y1098, hy1098⟩ : ∃ y_ : List Int, y_ = (y1092 ++ t1095) := ⟨_, rfl⟩
  replace H : (spec_QcBytes.l0 k y1098 0 a1_0 a1_1 l1_2) = some r := by first | (rw [hy1098]; with_reducible exact H) | (rw [hy1098]; with_reducible exact (Option.bind_some _ _).symm.trans H) | (rw [hy1098]; exact H) | exact H
  have Ny1098 := Aside0.mk hy1098; clear hy1098; have H' := Aside0.mk H; clear H
  try go_wp2
  refine sB [] spec_QcBytes.tab3 spec_QcBytes.bits3 ?_; intro w13 _ HT_ HW_
  refine pA 0 (some 12) (bz 8 1) HT_ ?_
  refine tB 1 (some 13) (bz 8 3) HT_ HW_ ?_
  refine pA 3 (some 15) (bz 8 11) HT_ ?_
  refine tB 4 (some 16) (bz 8 27) HT_ HW_ ?_
  refine o1 2 (some 14) (bz 8 31) HT_ rfl (kC1 Tryz.func133 (spec_PutNum.calls (w := _) (h := A8.out)) ?_); intro Ao1087 co1087 w14 _ HO1088
  refine nA (some 14) ?_
  refine o1 5 (some 17) (bz 8 63) HT_ rfl (kC1 Tryz.func134 (spec_PutText.calls (w := _) (h := A9.out)) ?_); intro Ao1090 co1090 w15 _ HO1091
  refine nA (some 17) ?_
  refine o1 6 (some 18) (bz 8 127) HT_ rfl (kGR (Kd.int .u8) (.tmp 14) (.tmp 17) 24 5 (.int .u8 0) 1 w13 Ny1092 HO1088 (rC HO1091) y0_10 ?_ (ht := Tryz.underlying24) (hinfo := info5)); intro Ao1093 co1093 w16 _ _ HO1094
  refine nA (some 18) ?_
  refine pA 7 (some 5) (bz 8 255) HT_ ?_
  refine done_ (done_of HT_.out (by kernel_rfl)) ?_
  try go_wp2_with (first | ((with_reducible refine gate_callee (f := 133) rfl ?_); refine gC1 (some 23) Tryz.func133 (spec_PutNum.calls (w := _) (h := A11.out)) ?_; intro Ao1096 co1096 w17 _ HO1097) | ((with_reducible refine gate_builtin (b := .append) (xs := #[.tmp 19, .tmp 23]) rfl ?_); at_builtin; refine gR (Kd.int .u8) (.tmp 19) (.tmp 23) 24 5 (.int .u8 0) 1 w13 Ny1098 HO1094 (rC HO1097) (by have := LMc12.out; omega) ?_ (ht := Tryz.underlying24) (hinfo := info5); intro Ao1099 co1099 w18 _ _ HO1100))
  refine wC ?_; intro w19 _
  go_loopg [5, 6] k (fun kq v5 v6 w' => ∃ (x5_1 : List Int) (x6_1 : Int) (Ao5_1 : Option Addr) (co5_1 : Nat), v5 = .slice Ao5_1 x5_1.length co5_1 ∧ v6 = .int .i64 x6_1 ∧ Aside0 (spec_QcBytes.l0 kq x5_1 x6_1 a1_0 a1_1 l1_2 = some r) ∧ Aside0 (kq ≤ k) ∧ Aside0 (Kd.R (Kd.int .u8) 5 w' w13.heap.size (iv w13 w') (.slice Ao5_1 x5_1.length co5_1) x5_1) ∧ KT w19 [] w13 _ (Kd.int .u8) 5 w' ∧ LB w w')
  case atStart => exact ⟨(y1098), (0), (Ao1099), (co1099), y0_8, y0_8, H', ⟨Nat.le_refl _⟩, ⟨rJ HO1100⟩, ⟨UpT.out⟩, ⟨UpW.out⟩⟩
  case round =>
   clear H'; obtain ⟨x5_1, x6_1, Ao5_1, co5_1, rfl, rfl, HA, HK1, HO_5, _, _⟩ := hrel; have HO_24 := HO1100; cases gk with
   | zero => exact absurd HA.out (by simp [spec_QcBytes.l0])
   | succ k1 =>
    have H := HA.out; clear HA
    simp only [spec_QcBytes.l0] at H
    have H' := Aside0.mk H; clear H
    go_upto_if 29 with fail
    have H := H'.out; clear H'
    by_cases c20 : x6_1 < (l1_2.length : Int)
    ·
     rw [if_pos c20] at H
     have c20b0 : decide (x6_1 < (l1_2.length : Int)) = true := decide_eq_true c20; clear c20
     (first | rw [c20b0] | (simp only [i64_w, i32_w]; rw [c20b0]) | skip)
     by_cases c21 : 0 ≤ x6_1
     rotate_left
     ·
      rw [if_neg c21] at H
      exact absurd H (by simp)
     rw [if_pos c21] at H
     have c21b0 : decide (0 ≤ x6_1) = true := decide_eq_true c21; clear c21; obtain ⟨t1102, A22, H⟩ := oB H; (try dsimp only at H)
     by_cases c23 : x5_1.length + t1102.length < 140737488355328
     rotate_left
     ·
      rw [if_neg c23] at H
      exact absurd H (by simp)
     rw [if_pos c23] at H
     have LMc23 := Aside0.mk c23; clear c23; obtain ⟨y1105, hy1105⟩ : ∃ y_ : List Int, y_ = (x5_1 ++ t1102) := ⟨_, rfl⟩
     replace H : (spec_QcBytes.l0 k1 y1105 (wrap64 (x6_1 + 1)) a1_0 a1_1 l1_2) = some r := by first | (rw [hy1105]; with_reducible exact H) | (rw [hy1105]; with_reducible exact (Option.bind_some _ _).symm.trans H) | (rw [hy1105]; exact H) | exact H
     have Ny1105 := Aside0.mk hy1105; clear hy1105; have H' := Aside0.mk H; clear H; have p1101 : 0 ≤ (x6_1 : Int) := of_decide_eq_true y0_7; have q1101 : x6_1 < (l1_2.length : Int) := of_decide_eq_true y0_7; obtain ⟨ad1101, e1101, hx1101_0⟩ := Kd.at_int HR1_2.out x6_1 p1101 q1101; cases e1101; have i1101_0_ := RdP.mk hx1101_0; clear hx1101_0; replace p1101 := eq_true p1101; replace q1101 := eq_true q1101
     go_wp2_with (first | ((with_reducible refine gate_callee (f := 133) rfl ?_); refine gC1 (some 38) Tryz.func133 (spec_PutNum.calls (w := _) (h := A22.out)) ?_; intro Ao1103 co1103 w24 _ HO1104) | ((with_reducible refine gate_builtin (b := .append) (xs := #[.tmp 32, .tmp 38]) rfl ?_); at_builtin; refine gR (Kd.int .u8) (.tmp 32) (.tmp 38) 24 5 (.int .u8 0) 1 w13 Ny1105 HO_5 (rC HO1104) (by have := LMc23.out; omega) ?_ (ht := Tryz.underlying24) (hinfo := info5); intro Ao1106 co1106 w25 _ _ HO1107))
     go_roundg k1
     case measure => have := HK1.out; omega
     case rel => exact ⟨(y1105), (wrap64 (x6_1 + 1)), (Ao1106), (co1106), y0_8, y0_8, H', ⟨y0_11⟩, ⟨rJ HO1107⟩, ⟨UpT.out⟩, ⟨UpW.out⟩⟩
    rw [if_neg c20] at H
    have c20b0 : decide (x6_1 < (l1_2.length : Int)) = false := decide_eq_false c20; clear c20
    (first | rw [c20b0] | (simp only [i64_w, i32_w]; rw [c20b0]) | skip)
    obtain rfl := Option.some.inj H
    go_wp2
    go_ret
    exact ⟨_, y0_8, rR HO_5, UpW.out⟩
 replace c7 := Bool.eq_false_iff.mpr c7; subst c7
 rw [if_neg Bool.false_ne_true] at H
 obtain ⟨y1108, hy1108⟩ : ∃ y_ : List Int, y_ = (([] : List Int)) := ⟨_, rfl⟩
 replace H : (some y1108) = some r := by first | (rw [hy1108]; with_reducible exact H) | (rw [hy1108]; with_reducible exact (Option.bind_some _ _).symm.trans H) | (rw [hy1108]; exact H) | exact H
 have Ny1108 := Aside0.mk hy1108; clear hy1108; obtain rfl := Option.some.inj H
 go_wp2_with (first | ((with_reducible refine gate_dst (N := 11) rfl ?_); refine lL 11 5 (Kd.int .u8) rfl Ny1108 ?_; intro Ao1109 co1109 w26 _ HO1110))
 go_ret
 exact ⟨_, y0_8, rR HO1110, UpW.out⟩
def spec_SafeBytes.f (k : Nat) (a0_0 : Int) (a0_1 : Int) (a1_0 : Int) (a1_1 : Int) (a1_2 : Int) (a1_3 : ByteArray) (l1_4 : List Int) (a1_5 : ByteArray) : Option (List Int) := (spec_SafeOk.f k a0_0 a0_1 a1_0 a1_1 a1_2 a1_3 l1_4 a1_5).bind fun t1113 => (if t1113 = true then ((spec_PutNum.f k a1_0).bind fun t1114 => ((spec_PutNum.f k a1_1).bind fun t1117 => (if t1114.length + t1117.length < 140737488355328 then ((some (t1114 ++ t1117 : List Int)).bind fun y1120 => ((spec_QcBytes.f k a0_0 a0_1 a1_2 a1_3 l1_4).bind fun t1123 => (if y1120.length + t1123.length < 140737488355328 then ((some (y1120 ++ t1123 : List Int)).bind fun y1126 => ((spec_PutText.f k a1_5).bind fun t1129 => (if y1126.length + t1129.length < 140737488355328 then (some (y1126 ++ t1129)) else (none)))) else (none)))) else (none)))) else (some (([] : List Int))))
def spec_SafeBytes.T3 : Bool × List (List Nat × List Nat) := (true, [([], []), ([0], [0]), ([1], [1]), ([], []), ([3], [3]), ([4, 2], [4]), ([2, 5, 5], [2, 5]), ([6, 6, 0, 1, 2, 3, 4, 5, 6], [6])])
def spec_SafeBytes.B3 : List Nat := [0, 1, 3, 0, 8, 31, 63, 127]
theorem spec_SafeBytes.tab3 : rtab .any (opsOf Tryz.f64 3) = spec_SafeBytes.T3 := by kernel_rfl
theorem spec_SafeBytes.bits3 : waitsOk spec_SafeBytes.T3.2 spec_SafeBytes.B3 = true := by kernel_rfl
theorem spec_SafeBytes.calls (k : Nat) (a0_0 : Int) (a0_1 : Int) (a1_0 : Int) (a1_1 : Int) (a1_2 : Int) (a1_3 : ByteArray) (A1_4 : Option Addr) (c1_4 : Nat) (l1_4 : List Int) (a1_5 : ByteArray) (r : List Int) (w : World) (hr1_4 : Kd.C (Kd.int .i64) w A1_4 l1_4.length l1_4) (hc1_4 : l1_4.length ≤ c1_4) (h : spec_SafeBytes.f k a0_0 a0_1 a1_0 a1_1 a1_2 a1_3 l1_4 a1_5 = some r) :
  Calls Tryz.prog 64 #[.agg #[.int .i64 a0_0, .int .i64 a0_1], .agg #[.int .i64 a1_0, .int .i64 a1_1, .int .i64 a1_2, .string a1_3, .slice A1_4 l1_4.length c1_4, .string a1_5]] w fun e w' => ∃ v0_ : Value, e = .returned (v0_) ∧ Kd.R (Kd.int .u8) 5 w' w.heap.size (fun _ => True) v0_ r ∧ Below w.heap.size w w' := by
 have hu32 := Tryz.underlying32; have hu29 := Tryz.underlying29; have hu27 := Tryz.underlying27; have HR1_4 := Aside0.mk hr1_4; have HC1_4 := Aside0.mk hc1_4; clear hr1_4 hc1_4; have HB := Aside0.mk (Below.refl w.heap.size w)
 have H := h; unfold spec_SafeBytes.f at H
 clear h; obtain ⟨t1113, A3, H⟩ := oB H; (try dsimp only at H)
 go_enter Tryz.func64, Tryz.ntmps64
 have H' := Aside0.mk H; clear H
 go_upto_if 9 with (first | ((with_reducible refine gd 2 ?_); refine bL 2 #[.int .i64 a0_0, .int .i64 a0_1] 32 ?_; intro gb1111 w4 _ _ _) | ((with_reducible refine gd 3 ?_); refine bL 3 #[.int .i64 a1_0, .int .i64 a1_1, .int .i64 a1_2, .string a1_3, .slice A1_4 l1_4.length c1_4, .string a1_5] 29 ?_; intro gb1112 w5 _ _ _) | ((with_reducible refine gate_callee (f := 129) rfl ?_); refine gC (some 8) Tryz.func129 (spec_SafeOk.calls (hr1_4 := pC HR1_4) (hc1_4 := HC1_4.out) (w := _) (h := A3.out)) ?_; intro w6 _))
 have H := H'.out; clear H'
 by_cases c7 : t1113 = true
 ·
  subst c7
  rw [if_pos rfl] at H
  obtain ⟨t1114, A8, H⟩ := oB H; (try dsimp only at H); obtain ⟨t1117, A9, H⟩ := oB H; (try dsimp only at H)
  by_cases c10 : t1114.length + t1117.length < 140737488355328
  rotate_left
  ·
   rw [if_neg c10] at H
   exact absurd H (by simp)
  rw [if_pos c10] at H
  have LMc10 := Aside0.mk c10; clear c10; obtain ⟨y1120, hy1120⟩ : ∃ y_ : List Int, y_ = (t1114 ++ t1117) := ⟨_, rfl⟩
  replace H : ((spec_QcBytes.f k a0_0 a0_1 a1_2 a1_3 l1_4).bind fun t1123 => (if y1120.length + t1123.length < 140737488355328 then ((some (y1120 ++ t1123 : List Int)).bind fun y1126 => ((spec_PutText.f k a1_5).bind fun t1129 => (if y1126.length + t1129.length < 140737488355328 then (some (y1126 ++ t1129)) else (none)))) else (none))) = some r := by first | (rw [hy1120]; with_reducible exact H) | (rw [hy1120]; with_reducible exact (Option.bind_some _ _).symm.trans H) | (rw [hy1120]; exact H) | exact H
  have Ny1120 := Aside0.mk hy1120; clear hy1120; obtain ⟨t1123, A11, H⟩ := oB H; (try dsimp only at H)
  by_cases c12 : y1120.length + t1123.length < 140737488355328
  rotate_left
  ·
   rw [if_neg c12] at H
   exact absurd H (by simp)
  rw [if_pos c12] at H
  have LMc12 := Aside0.mk c12; clear c12; obtain ⟨y1126, hy1126⟩ : ∃ y_ : List Int, y_ = (y1120 ++ t1123) := ⟨_, rfl⟩
  replace H : ((spec_PutText.f k a1_5).bind fun t1129 => (if y1126.length + t1129.length < 140737488355328 then (some (y1126 ++ t1129)) else (none))) = some r := by first | (rw [hy1126]; with_reducible exact H) | (rw [hy1126]; with_reducible exact (Option.bind_some _ _).symm.trans H) | (rw [hy1126]; exact H) | exact H
  have Ny1126 := Aside0.mk hy1126; clear hy1126; obtain ⟨t1129, A13, H⟩ := oB H; (try dsimp only at H)
  by_cases c14 : y1126.length + t1129.length < 140737488355328
  rotate_left
  ·
   rw [if_neg c14] at H
   exact absurd H (by simp)
  rw [if_pos c14] at H
  have LMc14 := Aside0.mk c14; clear c14; obtain ⟨y1132, hy1132⟩ : ∃ y_ : List Int, y_ = (y1126 ++ t1129) := ⟨_, rfl⟩
  replace H : (some y1132) = some r := by first | (rw [hy1132]; with_reducible exact H) | (rw [hy1132]; with_reducible exact (Option.bind_some _ _).symm.trans H) | (rw [hy1132]; exact H) | exact H
  have Ny1132 := Aside0.mk hy1132; clear hy1132; obtain rfl := Option.some.inj H
  try go_wp2
  refine sB [] spec_SafeBytes.tab3 spec_SafeBytes.bits3 ?_; intro w15 _ HT_ HW_
  refine pA 0 (some 11) (bz 8 1) HT_ ?_
  refine tB 1 (some 12) (bz 8 3) HT_ HW_ ?_
  refine pA 3 (some 14) (bz 8 11) HT_ ?_
  refine tB 4 (some 15) (bz 8 27) HT_ HW_ ?_
  refine o1 2 (some 13) (bz 8 31) HT_ rfl (kC1 Tryz.func133 (spec_PutNum.calls (w := _) (h := A8.out)) ?_); intro Ao1115 co1115 w16 _ HO1116
  refine nA (some 13) ?_
  refine o1 5 (some 16) (bz 8 63) HT_ rfl (kC1 Tryz.func133 (spec_PutNum.calls (w := _) (h := A9.out)) ?_); intro Ao1118 co1118 w17 _ HO1119
  refine nA (some 16) ?_
  refine o1 6 (some 17) (bz 8 127) HT_ rfl (kGR (Kd.int .u8) (.tmp 13) (.tmp 16) 24 5 (.int .u8 0) 1 w15 Ny1120 HO1116 (rC HO1119) y0_10 ?_ (ht := Tryz.underlying24) (hinfo := info5)); intro Ao1121 co1121 w18 _ _ HO1122
  refine nA (some 17) ?_
  refine pA 7 (some 5) (bz 8 255) HT_ ?_
  refine done_ (done_of HT_.out (by kernel_rfl)) ?_
  try go_wp2_with (first | ((with_reducible refine gate_callee (f := 68) rfl ?_); refine gC1 (some 22) Tryz.func68 (spec_QcBytes.calls (hr1_2 := pC HR1_4) (hc1_2 := HC1_4.out) (w := _) (h := A11.out)) ?_; intro Ao1124 co1124 w19 _ HO1125) | ((with_reducible refine gate_builtin (b := .append) (xs := #[.tmp 18, .tmp 22]) rfl ?_); at_builtin; refine gR (Kd.int .u8) (.tmp 18) (.tmp 22) 24 5 (.int .u8 0) 1 w15 Ny1126 HO1122 (rC HO1125) (by have := LMc12.out; omega) ?_ (ht := Tryz.underlying24) (hinfo := info5); intro Ao1127 co1127 w20 _ _ HO1128) | ((with_reducible refine gate_callee (f := 134) rfl ?_); refine gC1 (some 27) Tryz.func134 (spec_PutText.calls (w := _) (h := A13.out)) ?_; intro Ao1130 co1130 w21 _ HO1131) | ((with_reducible refine gate_builtin (b := .append) (xs := #[.tmp 24, .tmp 27]) rfl ?_); at_builtin; refine gR (Kd.int .u8) (.tmp 24) (.tmp 27) 24 5 (.int .u8 0) 1 w15 Ny1132 HO1128 (rC HO1131) (by have := LMc14.out; omega) ?_ (ht := Tryz.underlying24) (hinfo := info5); intro Ao1133 co1133 w22 _ _ HO1134))
  go_ret
  exact ⟨_, y0_8, rR HO1134, UpW.out⟩
 replace c7 := Bool.eq_false_iff.mpr c7; subst c7
 rw [if_neg Bool.false_ne_true] at H
 obtain ⟨y1135, hy1135⟩ : ∃ y_ : List Int, y_ = (([] : List Int)) := ⟨_, rfl⟩
 replace H : (some y1135) = some r := by first | (rw [hy1135]; with_reducible exact H) | (rw [hy1135]; with_reducible exact (Option.bind_some _ _).symm.trans H) | (rw [hy1135]; exact H) | exact H
 have Ny1135 := Aside0.mk hy1135; clear hy1135; obtain rfl := Option.some.inj H
 go_wp2_with (first | ((with_reducible refine gate_dst (N := 10) rfl ?_); refine lL 10 5 (Kd.int .u8) rfl Ny1135 ?_; intro Ao1136 co1136 w23 _ HO1137))
 go_ret
 exact ⟨_, y0_8, rR HO1137, UpW.out⟩
def spec_l12Dent.f (s0_0 : List Int) (s0_1 : Int) (s0_2 : Int) (l1 : List Int) : Option (List Int × Int × Int) := (spec_l1Below.f s0_0 s0_1 s0_2 (wrap64 ((l1.length : Int) + 1))).bind fun bt => ((spec_l1Below.f s0_0 bt.2.1 bt.2.2 5).bind fun bt2 => (if bt2.1 = 0 then (if 0 ≤ bt.1 then (if bt.1 ≤ (l1.length : Int) then (some (l1.take bt.1.toNat, bt2.2.1, bt2.2.2)) else (none)) else (none)) else (if bt2.1 = 1 then (if 0 ≤ bt.1 then (if bt.1 ≤ (l1.length : Int) then ((spec_l1PickInt.f s0_0 bt2.2.1 bt2.2.2 (([0, 1, 128, 3] : List Int))).bind fun bt3 => (if l1.length < 70368744177664 then (some (l1.take bt.1.toNat ++ ([bt3.1 % 256] ++ l1.drop bt.1.toNat), bt3.2.1, bt3.2.2)) else (none))) else (none)) else (none)) else (some (l1, bt2.2.1, bt2.2.2)))))
def spec_l12Dent.T6 : Bool × List (List Nat × List Nat) := (true, [([], []), ([], []), ([], []), ([1, 2], [1, 2]), ([0, 3], [0, 3]), ([], []), ([], []), ([5, 6, 4], [5, 6]), ([7], [7]), ([8], [8]), ([], []), ([], []), ([10, 11], [10, 11]), ([9, 12, 7], [9, 12]), ([4, 13, 13], [4, 13]), ([14, 14, 0, 1, 2, 3, 4, 5, 6, 7, 8, 9, 10, 11, 12, 13, 14], [14])])
def spec_l12Dent.B6 : List Nat := [0, 0, 0, 6, 15, 0, 0, 127, 255, 511, 0, 0, 3072, 8191, 16383, 32767]
theorem spec_l12Dent.tab6 : rtab .any (opsOf Tryz.f121 6) = spec_l12Dent.T6 := by kernel_rfl
theorem spec_l12Dent.bits6 : waitsOk spec_l12Dent.T6.2 spec_l12Dent.B6 = true := by kernel_rfl
theorem spec_l12Dent.calls (g : Nat) (s0_0 : List Int) (s0_1 : Int) (s0_2 : Int) (A1 : Option Addr) (c1 : Nat) (l1 : List Int) (r1 : List Int) (r2 : Int) (r3 : Int) (w0 wb w : World) (hI : IsS149 w0 w g s0_0 s0_1 s0_2) (hB : Below w0.heap.size w0 w) (ho1 : Kd.R (Kd.int .u8) 5 w wb.heap.size (fun _ => True) (.slice A1 l1.length c1) l1) (hwb : wb.heap.size ≤ w.heap.size) (h : spec_l12Dent.f s0_0 s0_1 s0_2 l1 = some (r1, r2, r3)) :
 Calls Tryz.prog 121 #[.pointer (some ⟨g, 0, none⟩), .slice A1 l1.length c1] w fun e w' => ∃ v0_ : Value, e = .returned (v0_) ∧ Kd.R (Kd.int .u8) 5 w' wb.heap.size (fun _ => True) v0_ r1 ∧ IsS149 w0 w' g s0_0 r2 r3 ∧ Below w0.heap.size w0 w' ∧ KeepBut w w' g none := by
 have HO1 : Aside0 (Kd.R (Kd.int .u8) 5 w wb.heap.size (iv wb w) (.slice A1 l1.length c1) l1) := ⟨R_iv ho1⟩; clear ho1; have HI0 := Aside0.mk hI; have HB := Aside0.mk hB; clear hI hB; have i0_ := iB149 HI0; have i1_ : LB w0 w := ⟨HB.out⟩; have i2_ : SzI wb w := ⟨hwb⟩; have H := h; unfold spec_l12Dent.f at H; clear h
 obtain ⟨⟨t1, t2, t3⟩, AA1, H⟩ := oB H; (try dsimp only at H)
 obtain ⟨⟨t4, t5, t6⟩, AA2, H⟩ := oB H; (try dsimp only at H)
 go_enter Tryz.func121, Tryz.ntmps121
 have H' := Aside0.mk H; clear H
 go_upto_if 13 with (first | ((with_reducible refine gate_callee (f := 97) rfl ?_); refine gK (some 10) Tryz.func97 (spec_l1Below.calls (hI := iS149 HI0) (hB := UpW.out) (w := _) (h := AA1.out)) ?_; intro w3 _ _ _ HI4) | ((with_reducible refine gate_callee (f := 97) rfl ?_); refine gK (some 12) Tryz.func97 (spec_l1Below.calls (hI := iS149 HI4) (hB := UpW.out) (w := _) (h := AA2.out)) ?_; intro w5 _ _ _ HI6))
 have H := H'.out; clear H'
 by_cases c7 : t4 = 0
 ·
  subst c7
  rw [if_pos rfl] at H
  by_cases q1 : 0 ≤ t1
  rotate_left
  ·
   rw [if_neg q1] at H
   exact absurd H (by simp)
  rw [if_pos q1] at H
  by_cases q2 : t1 ≤ (l1.length : Int)
  rotate_left
  ·
   rw [if_neg q2] at H
   exact absurd H (by simp)
  rw [if_pos q2] at H
  simp only [Option.some.injEq, Prod.mk.injEq] at H
  obtain ⟨rfl, rfl, rfl⟩ := H; obtain ⟨i0, hi0, _, hsz, _⟩ := info_parts info5; have hcut := cut_to (P := Tryz.prog) 24 5 .i64 Tryz.underlying24 hi0 A1 l1.length c1 t1 q1 q2 (rL HO1); clear hi0 hsz
  go_wp2
  go_ret
  exact ⟨_, rfl, Kd.R_take (m := t1.toNat) (rR (W := w5) HO1) (by omega), iS149 HI6, UpW.out, UpB.out⟩
 have c8 : ¬ t4 = 0 := c7
 rw [if_neg c7] at H
 by_cases c9 : t4 = 1
 rotate_left
 ·
  rw [if_neg c9] at H
  simp only [Option.some.injEq, Prod.mk.injEq] at H
  obtain ⟨rfl, rfl, rfl⟩ := H
  go_wp2
  go_ret
  exact ⟨_, rfl, rR HO1, iS149 HI6, UpW.out, UpB.out⟩
 subst c9
 rw [if_pos rfl] at H
 by_cases q1 : 0 ≤ t1
 rotate_left
 ·
  rw [if_neg q1] at H
  exact absurd H (by simp)
 rw [if_pos q1] at H
 by_cases q2 : t1 ≤ (l1.length : Int)
 rotate_left
 ·
  rw [if_neg q2] at H
  exact absurd H (by simp)
 rw [if_pos q2] at H
 obtain ⟨⟨t7, t8, t9⟩, AA3, H⟩ := oB H; (try dsimp only at H)
 by_cases q3 : l1.length < 70368744177664
 rotate_left
 ·
  rw [if_neg q3] at H
  exact absurd H (by simp)
 rw [if_pos q3] at H
 simp only [Option.some.injEq, Prod.mk.injEq] at H
 obtain ⟨rfl, rfl, rfl⟩ := H; obtain ⟨i0, hi0, _, hsz, _⟩ := info_parts info5; obtain ⟨hcT, hrT, _⟩ := print_take_of (P := Tryz.prog) (Value.int .u8) 0 24 5 .i64 Tryz.underlying24 hi0 hsz A1 c1 l1 t1 q1 q2 (rL HO1); obtain ⟨A9, hcD, hrD, _⟩ := print_drop_of (P := Tryz.prog) (Value.int .u8) 0 24 5 .i64 Tryz.underlying24 hi0 hsz A1 c1 l1 t1 q1 q2 (rL HO1); clear hi0 hsz
 have hCT : ∀ W : World, (Kd.int .u8).C W A1 l1.length l1 → (Kd.int .u8).C W A1 t1.toNat (l1.take t1.toNat) := fun W h => by
  have e := Kd.C_of_reads (h1 := fun _ => rfl) (hrT _ (Kd.reads_of_C h))
  rwa [List.length_take, Nat.min_eq_left (by omega)] at e
 have hCD : ∀ W : World, (Kd.int .u8).C W A1 l1.length l1 → (Kd.int .u8).C W A9 (l1.length - t1.toNat) (l1.drop t1.toNat) := fun W h => by
  have e := Kd.C_of_reads (h1 := fun _ => rfl) (hrD _ (Kd.reads_of_C h))
  rwa [List.length_drop] at e
 obtain ⟨y20, hy20⟩ : ∃ y_ : List Int, y_ = ([] : List Int) := ⟨_, rfl⟩; obtain ⟨y24, hy24⟩ : ∃ y_ : List Int, y_ = y20 ++ l1.take t1.toNat := ⟨_, rfl⟩; obtain ⟨y26, hy26⟩ : ∃ y_ : List Int, y_ = ([0, 1, 128, 3] : List Int) := ⟨_, rfl⟩; obtain ⟨y29, hy29⟩ : ∃ y_ : List Int, y_ = ([t7 % 256] : List Int) := ⟨_, rfl⟩; obtain ⟨y33, hy33⟩ : ∃ y_ : List Int, y_ = y29 ++ l1.drop t1.toNat := ⟨_, rfl⟩; obtain ⟨y34, hy34⟩ : ∃ y_ : List Int, y_ = y24 ++ y33 := ⟨_, rfl⟩
 have hy : l1.take t1.toNat ++ ([t7 % 256] ++ l1.drop t1.toNat) = y34 := by rw [hy34, hy24, hy33, hy20, hy29, List.nil_append]
 have hz24 : y24.length ≤ 70368744177664 := by rw [hy24, hy20, List.nil_append, List.length_take]; omega
 have hz33 : y33.length ≤ 70368744177665 := by rw [hy33, hy29, List.length_append, List.length_drop, List.length_singleton]; omega
 have lim1 : (y20.length + t1.toNat) * 1 ≤ 140737488355328 := by rw [hy20, List.length_nil]; omega
 have lim2 : (y29.length + (l1.length - t1.toNat)) * 1 ≤ 140737488355328 := by rw [hy29, List.length_singleton]; omega
 have lim3 : (y24.length + y33.length) * 1 ≤ 140737488355328 := by rw [hy24, hy33, hy20, hy29, List.nil_append, List.length_append, List.length_take, List.length_drop, List.length_singleton]; omega
 have Hy := Aside0.mk hy
 have AA4 : spec_l1PickInt.f s0_0 t5 t6 y26 = some (t7, t8, t9) := by rw [hy26]; exact AA3.out
 have Ny20 := Aside0.mk hy20; have Ny24 := Aside0.mk hy24; have Ny26 := Aside0.mk hy26; have Ny29 := Aside0.mk hy29; have Ny33 := Aside0.mk hy33; have Ny34 := Aside0.mk hy34; have hAA4 := Aside0.mk AA4; clear hy hy20 hy24 hy26 hy29 hy33 hy34 AA4 AA3 hz24 hz33 hrT hrD
 have ty_ : TyNe (Kd.int .i64) 3 5 := ⟨by decide⟩
 try go_wp2
 refine sB [g] spec_l12Dent.tab6 spec_l12Dent.bits6 ?_; intro w7 _ HT_ HW_
 refine pA 1 (some 21) (bz 16 2) HT_ ?_
 refine pA 2 (some 22) (bz 16 6) HT_ ?_
 refine pA 3 (some 23) (bz 16 14) HT_ ?_
 refine pA 5 (some 25) (bz 16 46) HT_ ?_
 refine pA 10 (some 30) (bz 16 1070) HT_ ?_
 refine pA 11 (some 31) (bz 16 3118) HT_ ?_
 refine pA 12 (some 32) (bz 16 7214) HT_ ?_
 refine o2 0 6 (some 20) (some 26) (bz 16 7215) (bz 16 7278) HT_ rfl rfl (kL 5 (Kd.int .u8) rfl Ny20 ?_) (kL 3 (Kd.int .i64) rfl Ny26 ?_)
 ·
  intro Ao20 co20 w8 _ HO20
  refine nA (some 20) ?_
  refine o2 4 6 (some 24) (some 26) (bz 16 7231) (bz 16 7279) HT_ rfl rfl (kGR (Kd.int .u8) (.tmp 20) (.tmp 23) 24 5 (.int .u8 0) 1 w7 Ny24 HO20 (hCT _ (rC HO1)) lim1 ?_ (ht := Tryz.underlying24) (hinfo := info5)) (kL 3 (Kd.int .i64) rfl Ny26 ?_)
  ·
   intro Ao24 co24 w9 _ _ HO24
   refine nA (some 24) ?_
   replace HO1 := rG (W' := w9) HO1
   refine o1 6 (some 26) (bz 16 7295) HT_ rfl (kL 3 (Kd.int .i64) rfl Ny26 ?_); intro Ao26 co26 w10 _ HO26
   refine nA (some 26) ?_
   refine o1 7 (some 27) (bz 16 7423) HT_ rfl (kK Tryz.func132 (spec_l1PickInt.calls (hI := iS149 HI6) (hB := UpW.out) (hr1 := rC HO26) (hc1 := rL HO26) (hf1 := fS HO26) (w := _) (h := hAA4.out)) ?_); intro w11 _ _ _ HI12
   refine nA (some 27) ?_
   refine pA 8 (some 28) (bz 16 7679) HT_ ?_
   refine o1 9 (some 29) (bz 16 8191) HT_ rfl (kL 5 (Kd.int .u8) rfl Ny29 ?_); intro Ao29 co29 w12 _ HO29
   refine nA (some 29) ?_
   refine o1 13 (some 33) (bz 16 16383) HT_ rfl (kGR (Kd.int .u8) (.tmp 29) (.tmp 32) 24 5 (.int .u8 0) 1 w11 Ny33 HO29 (hCD _ (rC HO1)) lim2 ?_ (ht := Tryz.underlying24) (hinfo := info5)); intro Ao33 co33 w13 _ _ HO33
   refine nA (some 33) ?_
   replace HO24 := rG (W' := w13) HO24; replace HO1 := rG (W' := w13) HO1
   refine o1 14 (some 34) (bz 16 32767) HT_ rfl (kGR (Kd.int .u8) (.tmp 24) (.tmp 33) 24 5 (.int .u8 0) 1 w7 Ny34 HO24 (rC HO33) lim3 ?_ (ht := Tryz.underlying24) (hinfo := info5)); intro Ao34 co34 w14 _ _ HO34
   refine nA (some 34) ?_
   refine pA 15 (some 4) (bz 16 65535) HT_ ?_
   refine done_ (done_of HT_.out (by kernel_rfl)) ?_
   go_wp2
   go_ret
   exact ⟨_, rfl, (by rw [Hy.out]; exact rR HO34), iS149 HI12, UpW.out, UpB.out⟩
  intro Ao26 co26 w9 _ HO26
  refine nA (some 26) ?_
  refine o1 4 (some 24) (bz 16 7295) HT_ rfl (kGR (Kd.int .u8) (.tmp 20) (.tmp 23) 24 5 (.int .u8 0) 1 w7 Ny24 HO20 (hCT _ (rC HO1)) lim1 ?_ (ht := Tryz.underlying24) (hinfo := info5)); intro Ao24 co24 w10 _ _ HO24
  refine nA (some 24) ?_
  replace HO1 := rG (W' := w10) HO1
  refine o1 7 (some 27) (bz 16 7423) HT_ rfl (kK Tryz.func132 (spec_l1PickInt.calls (hI := iS149 HI6) (hB := UpW.out) (hr1 := rC HO26) (hc1 := rL HO26) (hf1 := fS HO26) (w := _) (h := hAA4.out)) ?_); intro w11 _ _ _ HI12
  refine nA (some 27) ?_
  refine pA 8 (some 28) (bz 16 7679) HT_ ?_
  refine o1 9 (some 29) (bz 16 8191) HT_ rfl (kL 5 (Kd.int .u8) rfl Ny29 ?_); intro Ao29 co29 w12 _ HO29
  refine nA (some 29) ?_
  refine o1 13 (some 33) (bz 16 16383) HT_ rfl (kGR (Kd.int .u8) (.tmp 29) (.tmp 32) 24 5 (.int .u8 0) 1 w11 Ny33 HO29 (hCD _ (rC HO1)) lim2 ?_ (ht := Tryz.underlying24) (hinfo := info5)); intro Ao33 co33 w13 _ _ HO33
  refine nA (some 33) ?_
  replace HO24 := rG (W' := w13) HO24; replace HO1 := rG (W' := w13) HO1
  refine o1 14 (some 34) (bz 16 32767) HT_ rfl (kGR (Kd.int .u8) (.tmp 24) (.tmp 33) 24 5 (.int .u8 0) 1 w7 Ny34 HO24 (rC HO33) lim3 ?_ (ht := Tryz.underlying24) (hinfo := info5)); intro Ao34 co34 w14 _ _ HO34
  refine nA (some 34) ?_
  refine pA 15 (some 4) (bz 16 65535) HT_ ?_
  refine done_ (done_of HT_.out (by kernel_rfl)) ?_
  go_wp2
  go_ret
  exact ⟨_, rfl, (by rw [Hy.out]; exact rR HO34), iS149 HI12, UpW.out, UpB.out⟩
 intro Ao26 co26 w8 _ HO26
 refine nA (some 26) ?_
 refine o1 0 (some 20) (bz 16 7279) HT_ rfl (kL 5 (Kd.int .u8) rfl Ny20 ?_); intro Ao20 co20 w9 _ HO20
 refine nA (some 20) ?_
 refine o1 4 (some 24) (bz 16 7295) HT_ rfl (kGR (Kd.int .u8) (.tmp 20) (.tmp 23) 24 5 (.int .u8 0) 1 w8 Ny24 HO20 (hCT _ (rC HO1)) lim1 ?_ (ht := Tryz.underlying24) (hinfo := info5)); intro Ao24 co24 w10 _ _ HO24
 refine nA (some 24) ?_
 replace HO1 := rG (W' := w10) HO1
 refine o1 7 (some 27) (bz 16 7423) HT_ rfl (kK Tryz.func132 (spec_l1PickInt.calls (hI := iS149 HI6) (hB := UpW.out) (hr1 := rC HO26) (hc1 := rL HO26) (hf1 := fS HO26) (w := _) (h := hAA4.out)) ?_); intro w11 _ _ _ HI12
 refine nA (some 27) ?_
 refine pA 8 (some 28) (bz 16 7679) HT_ ?_
 refine o1 9 (some 29) (bz 16 8191) HT_ rfl (kL 5 (Kd.int .u8) rfl Ny29 ?_); intro Ao29 co29 w12 _ HO29
 refine nA (some 29) ?_
 refine o1 13 (some 33) (bz 16 16383) HT_ rfl (kGR (Kd.int .u8) (.tmp 29) (.tmp 32) 24 5 (.int .u8 0) 1 w11 Ny33 HO29 (hCD _ (rC HO1)) lim2 ?_ (ht := Tryz.underlying24) (hinfo := info5)); intro Ao33 co33 w13 _ _ HO33
 refine nA (some 33) ?_
 replace HO24 := rG (W' := w13) HO24; replace HO1 := rG (W' := w13) HO1
 refine o1 14 (some 34) (bz 16 32767) HT_ rfl (kGR (Kd.int .u8) (.tmp 24) (.tmp 33) 24 5 (.int .u8 0) 1 w8 Ny34 HO24 (rC HO33) lim3 ?_ (ht := Tryz.underlying24) (hinfo := info5)); intro Ao34 co34 w14 _ _ HO34
 refine nA (some 34) ?_
 refine pA 15 (some 4) (bz 16 65535) HT_ ?_
 refine done_ (done_of HT_.out (by kernel_rfl)) ?_
 go_wp2
 go_ret
 exact ⟨_, rfl, (by rw [Hy.out]; exact rR HO34), iS149 HI12, UpW.out, UpB.out⟩
def spec_DrawSafeOf.f (k : Nat) (l0 : List Int) : Option (Int × Int × List Int) := (spec_l1New.f k l0).bind fun bt1139 => ((spec_l7DrawConf.f bt1139.1 bt1139.2.1 bt1139.2.2).bind fun bt1143 => ((spec_l11DrawRight.f k bt1139.1 bt1143.2.2.1 bt1143.2.2.2 bt1143.1 bt1143.2.1).bind fun bt1148 => ((spec_SafeBytes.f k bt1143.1 bt1143.2.1 bt1148.1 bt1148.2.1 bt1148.2.2.1 bt1148.2.2.2.1 bt1148.2.2.2.2.1 bt1148.2.2.2.2.2.1).bind fun t1158 => ((spec_l12Dent.f bt1139.1 bt1148.2.2.2.2.2.2.1 bt1148.2.2.2.2.2.2.2 t1158).bind fun bt1161 => (some (bt1143.1, bt1143.2.1, bt1161.1))))))
def spec_DrawSafeOf.T3 : Bool × List (List Nat × List Nat) := (true, [([], []), ([], []), ([], []), ([], []), ([], []), ([3, 4], [3, 4]), ([2, 5, 5], [2, 5]), ([1, 6, 6], [1, 6]), ([0, 7, 0], [0]), ([7, 8, 0, 1, 2, 3, 4, 5, 6, 7, 8], [7])])
def spec_DrawSafeOf.B3 : List Nat := [0, 0, 0, 0, 0, 24, 60, 126, 255, 511]
theorem spec_DrawSafeOf.tab3 : rtab .any (opsOf Tryz.f56 3) = spec_DrawSafeOf.T3 := by kernel_rfl
theorem spec_DrawSafeOf.bits3 : waitsOk spec_DrawSafeOf.T3.2 spec_DrawSafeOf.B3 = true := by kernel_rfl
theorem spec_DrawSafeOf.calls (k : Nat) (A0 : Option Addr) (c0 : Nat) (l0 : List Int) (r1 : Int) (r2 : Int) (r3 : List Int) (w : World) (hr0 : Kd.C (Kd.int .u8) w A0 l0.length l0) (hc0 : l0.length ≤ c0) (h : spec_DrawSafeOf.f k l0 = some (r1, r2, r3)) :
  Calls Tryz.prog 56 #[.slice A0 l0.length c0] w fun e w' => ∃ v2_ : Value, e = .returned (.tuple #[.agg #[.int .i64 r1, .int .i64 r2], v2_]) ∧ Kd.R (Kd.int .u8) 5 w' w.heap.size (fun _ => True) v2_ r3 ∧ Below w.heap.size w w' := by
 have hu32 := Tryz.underlying32; have HR0 := Aside0.mk hr0; have HC0 := Aside0.mk hc0; clear hr0 hc0; have HB := Aside0.mk (Below.refl w.heap.size w)
 have H := h; unfold spec_DrawSafeOf.f at H
 clear h; obtain ⟨⟨t1139, t1140, t1141⟩, A2, H⟩ := oB H; (try dsimp only at H); obtain ⟨⟨t1143, t1144, t1145, t1146⟩, A3, H⟩ := oB H; (try dsimp only at H); obtain ⟨⟨t1148, t1149, t1150, t1151, t1152, t1155, t1156, t1157⟩, A4, H⟩ := oB H; (try dsimp only at H); obtain ⟨t1158, A5, H⟩ := oB H; (try dsimp only at H); obtain ⟨⟨t1161, t1164, t1165⟩, A6, H⟩ := oB H; (try dsimp only at H)
 simp only [Option.some.injEq, Prod.mk.injEq] at H
 obtain ⟨rfl, rfl, rfl⟩ := H
 go_enter Tryz.func56, Tryz.ntmps56
 try go_wp2_with (first | ((with_reducible refine gd 2 ?_); refine bL 2 #[.int .i64 0, .int .i64 0] 32 ?_; intro gb1138 w7 _ _ _) | ((with_reducible refine gate_callee (f := 90) rfl ?_); refine wL ?_; intro w8 _; refine gN (some 7) Tryz.func90 (spec_l1New.calls (hB := Below.refl _ _) (hr0 := pC HR0) (hc0 := HC0.out) (w := _) (h := A2.out)) ?_; intro g1142 w9 _ _ _ HI10) | ((with_reducible refine gate_callee (f := 91) rfl ?_); refine gK (some 9) Tryz.func91 (spec_l7DrawConf.calls (hI := iS149 HI10) (hB := UpW.out) (w := _) (h := A3.out)) ?_; intro w11 _ _ _ HI12) | ((with_reducible refine gd 5 ?_); refine bL 5 #[.int .i64 0, .int .i64 0] 32 ?_; intro gb1147 w13 _ _ _))
 refine sB [g1142, gb1138] spec_DrawSafeOf.tab3 spec_DrawSafeOf.bits3 ?_; intro w14 _ HT_ HW_
 refine tB 0 (some 10) (bz 10 1) HT_ HW_ ?_
 refine pA 1 (some 11) (bz 10 3) HT_ ?_
 refine tB 2 (some 12) (bz 10 7) HT_ HW_ ?_
 refine pA 3 (some 13) (bz 10 15) HT_ ?_
 refine tB 4 (some 14) (bz 10 31) HT_ HW_ ?_
 refine o1 5 (some 15) (bz 10 63) HT_ rfl (kK1 Tryz.func122 (spec_l11DrawRight.calls (hI := iS149 HI12) (hB := UpW.out) (w := _) (h := A4.out)) ?_); intro Ao1153 co1153 w15 _ _ _ HI16 HO1154
 refine nA (some 15) ?_
 refine o1 6 (some 16) (bz 10 127) HT_ rfl (kC1 Tryz.func64 (spec_SafeBytes.calls (hr1_4 := rC HO1154) (hc1_4 := rL HO1154) (w := _) (h := A5.out)) ?_); intro Ao1159 co1159 w17 _ HO1160
 refine nA (some 16) ?_
 refine o1 7 (some 17) (bz 10 255) HT_ rfl (kKT1 Tryz.func121 (spec_l12Dent.calls (hI := iS149 HI16) (hB := UpW.out) (wb := w) (hwb := SzI.out) (ho1 := rR HO1160) (w := _) (h := A6.out)) ?_); intro Ao1162 co1162 w18 _ _ _ HI19 HO1163
 refine nA (some 17) ?_
 refine o1 8 none (bz 10 511) HT_ rfl (kS ?_)
 refine pA 9 (some 3) (bz 10 1023) HT_ ?_
 refine done_ (done_of HT_.out (by kernel_rfl)) ?_
 try go_wp2
 refine bodyPost_ret (results_ct rfl _ _ gb1138 32 #[.int .i64 t1143, .int .i64 t1144] (0, 0) _ rfl xB Tryz.underlying32 rfl (by kernel_rfl)) rfl ?_
 exact ⟨_, y0_8, rR HO1163, UpW.out⟩
def spec_NoteBytes.f (k : Nat) (a0_0 : Int) (a0_1 : Int) (a1_0 : Int) (a1_1 : Int) (a1_2 : Int) (a1_3 : ByteArray) (l1_4 : List Int) (a1_5 : ByteArray) : Option (List Int) := (spec_SafeBytes.f k a0_0 a0_1 a1_0 a1_1 a1_2 a1_3 l1_4 a1_5).bind fun t1168 => (if (t1168.length : Int) = 0 then (some (([] : List Int))) else ((spec_PutNum.f k (t1168.length : Int)).bind fun t1174 => (if t1174.length + t1168.length < 140737488355328 then ((some (t1174 ++ t1168 : List Int)).bind fun y1177 => (if y1177.length < 140737488355328 then (some (y1177 ++ [10])) else (none))) else (none))))
theorem spec_NoteBytes.calls (k : Nat) (a0_0 : Int) (a0_1 : Int) (a1_0 : Int) (a1_1 : Int) (a1_2 : Int) (a1_3 : ByteArray) (A1_4 : Option Addr) (c1_4 : Nat) (l1_4 : List Int) (a1_5 : ByteArray) (r : List Int) (w : World) (hr1_4 : Kd.C (Kd.int .i64) w A1_4 l1_4.length l1_4) (hc1_4 : l1_4.length ≤ c1_4) (h : spec_NoteBytes.f k a0_0 a0_1 a1_0 a1_1 a1_2 a1_3 l1_4 a1_5 = some r) :
  Calls Tryz.prog 65 #[.agg #[.int .i64 a0_0, .int .i64 a0_1], .agg #[.int .i64 a1_0, .int .i64 a1_1, .int .i64 a1_2, .string a1_3, .slice A1_4 l1_4.length c1_4, .string a1_5]] w fun e w' => ∃ v0_ : Value, e = .returned (v0_) ∧ Kd.R (Kd.int .u8) 5 w' w.heap.size (fun _ => True) v0_ r ∧ Below w.heap.size w w' := by
 have hu32 := Tryz.underlying32; have hu29 := Tryz.underlying29; have HR1_4 := Aside0.mk hr1_4; have HC1_4 := Aside0.mk hc1_4; clear hr1_4 hc1_4; have HB := Aside0.mk (Below.refl w.heap.size w)
 have H := h; unfold spec_NoteBytes.f at H
 clear h; obtain ⟨t1168, A3, H⟩ := oB H; (try dsimp only at H)
 go_enter Tryz.func65, Tryz.ntmps65
 have H' := Aside0.mk H; clear H
 go_upto_if 12 with (first | ((with_reducible refine gd 2 ?_); refine bL 2 #[.int .i64 a0_0, .int .i64 a0_1] 32 ?_; intro gb1166 w4 _ _ _) | ((with_reducible refine gd 3 ?_); refine bL 3 #[.int .i64 a1_0, .int .i64 a1_1, .int .i64 a1_2, .string a1_3, .slice A1_4 l1_4.length c1_4, .string a1_5] 29 ?_; intro gb1167 w5 _ _ _) | ((with_reducible refine gate_callee (f := 64) rfl ?_); refine gC1 (some 9) Tryz.func64 (spec_SafeBytes.calls (hr1_4 := pC HR1_4) (hc1_4 := HC1_4.out) (w := _) (h := A3.out)) ?_; intro Ao1169 co1169 w6 _ HO1170))
 have H := H'.out; clear H'
 by_cases c7 : (t1168.length : Int) = 0
 ·
  rw [if_pos c7] at H
  have c7b0 : ((t1168.length : Int) == 0) = true := beq_iff_eq.mpr c7; have c7b1 : ((t1168.length : Int) != 0) = false := bne_eq_false_iff_eq.mpr c7; clear c7
  (first | rw [c7b0] | (simp only [i64_w, i32_w]; rw [c7b0]) | skip)
  obtain ⟨y1171, hy1171⟩ : ∃ y_ : List Int, y_ = (([] : List Int)) := ⟨_, rfl⟩
  replace H : (some y1171) = some r := by first | (rw [hy1171]; with_reducible exact H) | (rw [hy1171]; with_reducible exact (Option.bind_some _ _).symm.trans H) | (rw [hy1171]; exact H) | exact H
  have Ny1171 := Aside0.mk hy1171; clear hy1171; obtain rfl := Option.some.inj H
  go_wp2_with (first | ((with_reducible refine gate_dst (N := 13) rfl ?_); refine lL 13 5 (Kd.int .u8) rfl Ny1171 ?_; intro Ao1172 co1172 w8 _ HO1173))
  go_ret
  exact ⟨_, y0_8, rR HO1173, UpW.out⟩
 rw [if_neg c7] at H
 have c7b0 : ((t1168.length : Int) == 0) = false := beq_eq_false_iff_ne.mpr c7; have c7b1 : ((t1168.length : Int) != 0) = true := bne_iff_ne.mpr c7
 have c7b2 : ¬ (t1168 = []) := fun h_ => c7 (by rw [h_]; rfl)
 (first | rw [c7b0] | (simp only [i64_w, i32_w]; rw [c7b0]) | skip)
 obtain ⟨t1174, A9, H⟩ := oB H; (try dsimp only at H)
 by_cases c10 : t1174.length + t1168.length < 140737488355328
 ·
  rw [if_pos c10] at H
  have LMc10 := Aside0.mk c10; clear c10; obtain ⟨y1177, hy1177⟩ : ∃ y_ : List Int, y_ = (t1174 ++ t1168) := ⟨_, rfl⟩
  replace H : (if y1177.length < 140737488355328 then (some (y1177 ++ [10])) else (none)) = some r := by first | (rw [hy1177]; with_reducible exact H) | (rw [hy1177]; with_reducible exact (Option.bind_some _ _).symm.trans H) | (rw [hy1177]; exact H) | exact H
  have Ny1177 := Aside0.mk hy1177; clear hy1177
  by_cases c11 : y1177.length < 140737488355328
  rotate_left
  ·
   rw [if_neg c11] at H
   exact absurd H (by simp)
  rw [if_pos c11] at H
  have LMc11 := Aside0.mk c11; clear c11; obtain ⟨y1180, hy1180⟩ : ∃ y_ : List Int, y_ = (y1177 ++ [10]) := ⟨_, rfl⟩
  replace H : (some y1180) = some r := by first | (rw [hy1180]; with_reducible exact H) | (rw [hy1180]; with_reducible exact (Option.bind_some _ _).symm.trans H) | (rw [hy1180]; exact H) | exact H
  have Ny1180 := Aside0.mk hy1180; clear hy1180; obtain rfl := Option.some.inj H
  go_wp2_with (first | ((with_reducible refine gate_callee (f := 133) rfl ?_); refine gC1 (some 16) Tryz.func133 (spec_PutNum.calls (w := _) (h := A9.out)) ?_; intro Ao1175 co1175 w12 _ HO1176) | ((with_reducible refine gate_builtin (b := .append) (xs := #[.tmp 16, .tmp 17]) rfl ?_); at_builtin; refine gR (Kd.int .u8) (.tmp 16) (.tmp 17) 24 5 (.int .u8 0) 1 w6 Ny1177 HO1176 (rC HO1170) y0_10 ?_ (ht := Tryz.underlying24) (hinfo := info5); intro Ao1178 co1178 w13 _ _ HO1179; replace HO1170 := rG (W' := w13) HO1170) | ((with_reducible refine gate_builtin (b := .append) (xs := #[.tmp 19, .tmp 20]) rfl ?_); at_builtin; refine gA (Kd.int .u8) (.tmp 19) (.tmp 20) 24 5 (.int .u8 0) 1 10 [.int .u8 10] w6 Ny1180 HO1179 rfl (by have := LMc11.out; omega) ?_ (ht := Tryz.underlying24) (hinfo := info5); intro Ao1181 co1181 w14 _ _ HO1182; replace HO1170 := rG (W' := w14) HO1170))
  go_ret
  exact ⟨_, y0_8, rR HO1182, UpW.out⟩
 rw [if_neg c10] at H
 exact absurd H (by simp)
def spec_DrawLastNote.l0 : Nat → List Int → Int → List Int → Int → Int → Int → Int → Option (Int × Int × List Int)
 | 0, _, _, _, _, _, _, _ => none
 | k + 1, x6, x7, x1188000, x1188001, x1188002, x1193000, x1193001 => (spec_l1Below.f x1188000 x1188001 x1188002 4).bind fun bt1196 => (if x7 < bt1196.1 then ((spec_l11DrawRight.f k x1188000 bt1196.2.1 bt1196.2.2 x1193000 x1193001).bind fun bt1199 => ((spec_NoteBytes.f k x1193000 x1193001 bt1199.1 bt1199.2.1 bt1199.2.2.1 bt1199.2.2.2.1 bt1199.2.2.2.2.1 bt1199.2.2.2.2.2.1).bind fun t1209 => (if x6.length + t1209.length < 140737488355328 then (spec_DrawLastNote.l0 k (x6 ++ t1209) (wrap64 (x7 + 1)) x1188000 bt1199.2.2.2.2.2.2.1 bt1199.2.2.2.2.2.2.2 x1193000 x1193001) else (none)))) else ((spec_l12Dent.f x1188000 bt1196.2.1 bt1196.2.2 x6).bind fun bt1215 => (some (x1193000, x1193001, bt1215.1))))
def spec_DrawLastNote.f (k : Nat) (l0 : List Int) : Option (Int × Int × List Int) := (spec_l1New.f k l0).bind fun bt1184 => ((spec_l7DrawConf.f bt1184.1 bt1184.2.1 bt1184.2.2).bind fun bt1188 => (spec_DrawLastNote.l0 k (([] : List Int)) 0 bt1184.1 bt1188.2.2.1 bt1188.2.2.2 bt1188.1 bt1188.2.1))
def spec_DrawLastNote.T7 : Bool × List (List Nat × List Nat) := (true, [([], []), ([], []), ([], []), ([], []), ([2, 3], [2, 3]), ([1, 4, 4], [1, 4]), ([0, 5, 5], [0, 5]), ([6, 6, 0, 1, 2, 3, 4, 5, 6], [0, 6])])
def spec_DrawLastNote.B7 : List Nat := [0, 0, 0, 0, 12, 30, 63, 127]
theorem spec_DrawLastNote.tab7 : rtab .any (opsOf Tryz.f59 7) = spec_DrawLastNote.T7 := by kernel_rfl
theorem spec_DrawLastNote.bits7 : waitsOk spec_DrawLastNote.T7.2 spec_DrawLastNote.B7 = true := by kernel_rfl
def spec_DrawLastNote.T8 : Bool × List (List Nat × List Nat) := (true, [([], []), ([], []), ([], []), ([1, 2], [1, 2]), ([0, 3, 0], [0]), ([3, 4, 0, 1, 2, 3, 4], [3])])
def spec_DrawLastNote.B8 : List Nat := [0, 0, 0, 6, 15, 31]
theorem spec_DrawLastNote.tab8 : rtab .any (opsOf Tryz.f59 8) = spec_DrawLastNote.T8 := by kernel_rfl
theorem spec_DrawLastNote.bits8 : waitsOk spec_DrawLastNote.T8.2 spec_DrawLastNote.B8 = true := by kernel_rfl
theorem spec_DrawLastNote.calls (k : Nat) (A0 : Option Addr) (c0 : Nat) (l0 : List Int) (r1 : Int) (r2 : Int) (r3 : List Int) (w : World) (hr0 : Kd.C (Kd.int .u8) w A0 l0.length l0) (hc0 : l0.length ≤ c0) (h : spec_DrawLastNote.f k l0 = some (r1, r2, r3)) :
  Calls Tryz.prog 59 #[.slice A0 l0.length c0] w fun e w' => ∃ v2_ : Value, e = .returned (.tuple #[.agg #[.int .i64 r1, .int .i64 r2], v2_]) ∧ Kd.R (Kd.int .u8) 5 w' w.heap.size (fun _ => True) v2_ r3 ∧ Below w.heap.size w w' := by
 have hu32 := Tryz.underlying32; have HR0 := Aside0.mk hr0; have HC0 := Aside0.mk hc0; clear hr0 hc0; have HB := Aside0.mk (Below.refl w.heap.size w)
 have H := h; unfold spec_DrawLastNote.f at H
 clear h; obtain ⟨⟨t1184, t1185, t1186⟩, A2, H⟩ := oB H; (try dsimp only at H); obtain ⟨⟨t1188, t1189, t1190, t1191⟩, A3, H⟩ := oB H; (try dsimp only at H); obtain ⟨y1193, hy1193⟩ : ∃ y_ : List Int, y_ = (([] : List Int)) := ⟨_, rfl⟩
 replace H : (spec_DrawLastNote.l0 k y1193 0 t1184 t1190 t1191 t1188 t1189) = some (r1, r2, r3) := by first | (rw [hy1193]; with_reducible exact H) | (rw [hy1193]; with_reducible exact (Option.bind_some _ _).symm.trans H) | (rw [hy1193]; exact H) | exact H
 have Ny1193 := Aside0.mk hy1193; clear hy1193
 go_enter Tryz.func59, Tryz.ntmps59
 have H' := Aside0.mk H; clear H
 go_wp2_with (first | ((with_reducible refine gd 2 ?_); refine bL 2 #[.int .i64 0, .int .i64 0] 32 ?_; intro gb1183 w4 _ _ _) | ((with_reducible refine gate_callee (f := 90) rfl ?_); refine wL ?_; intro w5 _; refine gN (some 9) Tryz.func90 (spec_l1New.calls (hB := Below.refl _ _) (hr0 := pC HR0) (hc0 := HC0.out) (w := _) (h := A2.out)) ?_; intro g1187 w6 _ _ _ HI7) | ((with_reducible refine gate_callee (f := 91) rfl ?_); refine gK (some 11) Tryz.func91 (spec_l7DrawConf.calls (hI := iS149 HI7) (hB := UpW.out) (w := _) (h := A3.out)) ?_; intro w8 _ _ _ HI9) | ((with_reducible refine gd 5 ?_); refine bL 5 #[.int .i64 0, .int .i64 0] 32 ?_; intro gb1192 w10 _ _ _) | ((with_reducible refine gate_dst (N := 12) rfl ?_); refine lL 12 5 (Kd.int .u8) rfl Ny1193 ?_; intro Ao1194 co1194 w11 _ HO1195))
 refine wC ?_; intro w12 _
 go_loopg [6, 7] k (fun kq v6 v7 w' => ∃ (x6_1 : List Int) (x7_1 : Int) (x1188001_1 : Int) (x1188002_1 : Int) (Ao6_1 : Option Addr) (co6_1 : Nat), v6 = .slice Ao6_1 x6_1.length co6_1 ∧ v7 = .int .i64 x7_1 ∧ Aside0 (spec_DrawLastNote.l0 kq x6_1 x7_1 t1184 x1188001_1 x1188002_1 t1188 t1189 = some (r1, r2, r3)) ∧ Aside0 (kq ≤ k) ∧ Aside0 (Kd.R (Kd.int .u8) 5 w' w10.heap.size (iv w10 w') (.slice Ao6_1 x6_1.length co6_1) x6_1) ∧ StB g1187 w' 149 ∧ Aside0 (IsS149 w5 w' g1187 t1184 x1188001_1 x1188002_1) ∧ KT w12 [g1187] w10 _ (Kd.int .u8) 5 w' ∧ LB w w' ∧ LB w5 w')
 case atStart => exact ⟨(y1193), (0), (t1190), (t1191), (Ao1194), (co1194), y0_8, y0_8, H', ⟨Nat.le_refl _⟩, ⟨rJ HO1195⟩, iB149 ⟨iS149 HI9⟩, ⟨iS149 HI9⟩, ⟨UpT.out⟩, ⟨UpW.out⟩, ⟨UpW.out⟩⟩
 case round =>
  clear H'; obtain ⟨x6_1, x7_1, x1188001_1, x1188002_1, Ao6_1, co6_1, rfl, rfl, HA, HK1, HO_6, _, HI13, _, _, _⟩ := hrel; have HO_12 := HO1195; cases gk with
  | zero => exact absurd HA.out (by simp [spec_DrawLastNote.l0])
  | succ k1 =>
   have H := HA.out; clear HA
   simp only [spec_DrawLastNote.l0] at H
   obtain ⟨⟨t1196, t1197, t1198⟩, A14, H⟩ := oB H; (try dsimp only at H); have H' := Aside0.mk H; clear H
   go_upto_if 16 with (first | ((with_reducible refine gate_callee (f := 97) rfl ?_); refine gK (some 15) Tryz.func97 (spec_l1Below.calls (hI := iS149 HI13) (hB := UpW.out) (w := _) (h := A14.out)) ?_; intro w15 _ _ _ HI16))
   have H := H'.out; clear H'
   by_cases c17 : x7_1 < t1196
   ·
    rw [if_pos c17] at H
    have c17b0 : decide (x7_1 < t1196) = true := decide_eq_true c17; clear c17
    (first | rw [c17b0] | (simp only [i64_w, i32_w]; rw [c17b0]) | skip)
    obtain ⟨⟨t1199, t1200, t1201, t1202, t1203, t1206, t1207, t1208⟩, A18, H⟩ := oB H; (try dsimp only at H); obtain ⟨t1209, A19, H⟩ := oB H; (try dsimp only at H)
    by_cases c20 : x6_1.length + t1209.length < 140737488355328
    rotate_left
    ·
     rw [if_neg c20] at H
     exact absurd H (by simp)
    rw [if_pos c20] at H
    have LMc20 := Aside0.mk c20; clear c20; obtain ⟨y1212, hy1212⟩ : ∃ y_ : List Int, y_ = (x6_1 ++ t1209) := ⟨_, rfl⟩
    replace H : (spec_DrawLastNote.l0 k1 y1212 (wrap64 (x7_1 + 1)) t1184 t1207 t1208 t1188 t1189) = some (r1, r2, r3) := by first | (rw [hy1212]; with_reducible exact H) | (rw [hy1212]; with_reducible exact (Option.bind_some _ _).symm.trans H) | (rw [hy1212]; exact H) | exact H
    have Ny1212 := Aside0.mk hy1212; clear hy1212; have H' := Aside0.mk H; clear H
    try go_wp2
    have ow21 := ownI HO_6
    refine sB (g1187 :: (.slice Ao6_1 x6_1.length co6_1 : Value).ownBlock.toList) spec_DrawLastNote.tab7 spec_DrawLastNote.bits7 ?_; intro w22 _ HT_ HW_
    refine pA 0 (some 19) (bz 8 1) HT_ ?_
    refine tB 1 (some 20) (bz 8 3) HT_ HW_ ?_
    refine pA 2 (some 21) (bz 8 7) HT_ ?_
    refine tB 3 (some 22) (bz 8 15) HT_ HW_ ?_
    refine o1 4 (some 23) (bz 8 31) HT_ rfl (kK1 Tryz.func122 (spec_l11DrawRight.calls (hI := iS149 HI16) (hB := UpW.out) (w := _) (h := A18.out)) ?_); intro Ao1204 co1204 w23 _ _ _ HI24 HO1205
    refine nA (some 23) ?_
    refine o1 5 (some 24) (bz 8 63) HT_ rfl (kC1 Tryz.func65 (spec_NoteBytes.calls (hr1_4 := rC HO1205) (hc1_4 := rL HO1205) (w := _) (h := A19.out)) ?_); intro Ao1210 co1210 w25 _ HO1211
    refine nA (some 24) ?_
    refine o1 6 (some 25) (bz 8 127) HT_ rfl (kGR (Kd.int .u8) (.tmp 19) (.tmp 24) 24 5 (.int .u8 0) 1 w10 Ny1212 HO_6 (rC HO1211) (by have := LMc20.out; omega) ?_ (ht := Tryz.underlying24) (hinfo := info5)); intro Ao1213 co1213 w26 _ _ HO1214
    refine nA (some 25) ?_
    refine pA 7 (some 6) (bz 8 255) HT_ ?_
    refine done_ (done_of HT_.out (by kernel_rfl)) ?_
    try go_wp2
    go_roundg k1
    case measure => have := HK1.out; omega
    case rel => exact ⟨(y1212), (wrap64 (x7_1 + 1)), (t1207), (t1208), (Ao1213), (co1213), y0_8, y0_8, H', ⟨y0_11⟩, ⟨rJ HO1214⟩, iB149 ⟨iS149 HI24⟩, ⟨iS149 HI24⟩, ⟨UpT.out⟩, ⟨UpW.out⟩, ⟨UpW.out⟩⟩
   rw [if_neg c17] at H
   have c17b0 : decide (x7_1 < t1196) = false := decide_eq_false c17; clear c17
   (first | rw [c17b0] | (simp only [i64_w, i32_w]; rw [c17b0]) | skip)
   obtain ⟨⟨t1215, t1218, t1219⟩, A27, H⟩ := oB H; (try dsimp only at H)
   simp only [Option.some.injEq, Prod.mk.injEq] at H
   obtain ⟨rfl, rfl, rfl⟩ := H
   try go_wp2
   refine sB [g1187, gb1183] spec_DrawLastNote.tab8 spec_DrawLastNote.bits8 ?_; intro w28 _ HT_ HW_
   refine tB 0 (some 26) (bz 6 1) HT_ HW_ ?_
   refine pA 1 (some 27) (bz 6 3) HT_ ?_
   refine pA 2 (some 28) (bz 6 7) HT_ ?_
   refine o1 3 (some 29) (bz 6 15) HT_ rfl (kKT1 Tryz.func121 (spec_l12Dent.calls (hI := iS149 HI16) (hB := UpW.out) (wb := w) (hwb := SzI.out) (ho1 := rR HO_6) (w := _) (h := A27.out)) ?_); intro Ao1216 co1216 w29 _ _ _ HI30 HO1217
   refine nA (some 29) ?_
   refine o1 4 none (bz 6 31) HT_ rfl (kS ?_)
   refine pA 5 (some 3) (bz 6 63) HT_ ?_
   refine done_ (done_of HT_.out (by kernel_rfl)) ?_
   try go_wp2
   refine bodyPost_ret (results_ct rfl _ _ gb1183 32 #[.int .i64 t1188, .int .i64 t1189] (0, 0) _ rfl xB Tryz.underlying32 rfl (by kernel_rfl)) rfl ?_
   exact ⟨_, y0_8, rR HO1217, UpW.out⟩
def spec_DrawQcOk.f (k : Nat) (l0 : List Int) : Option (Int × Int × Int × ByteArray × List Int) := (spec_l1New.f k l0).bind fun bt1222 => ((spec_l7DrawConf.f bt1222.1 bt1222.2.1 bt1222.2.2).bind fun bt1226 => ((spec_l7Draw.f k bt1222.1 bt1226.2.2.1 bt1226.2.2.2 bt1226.1 bt1226.2.1).bind fun bt1231 => ((spec_l1Once.f bt1222.1 bt1231.2.2.2.1 bt1231.2.2.2.2 10).bind fun bt1239 => (if bt1239.1 = true then ((spec_l7DrawBent.f bt1222.1 bt1239.2.1 bt1239.2.2).bind fun bt1242 => (some (bt1242.1, bt1242.2.1, bt1231.1, bt1231.2.1, bt1231.2.2.1))) else (some (bt1226.1, bt1226.2.1, bt1231.1, bt1231.2.1, bt1231.2.2.1))))))
def spec_DrawQcOk.T6 : Bool × List (List Nat × List Nat) := (true, [([], []), ([], []), ([0, 0], [0]), ([1, 2, 0, 1, 2], [1])])
def spec_DrawQcOk.B6 : List Nat := [0, 0, 1, 7]
theorem spec_DrawQcOk.tab6 : rtab .any (opsOf Tryz.f130 6) = spec_DrawQcOk.T6 := by kernel_rfl
theorem spec_DrawQcOk.bits6 : waitsOk spec_DrawQcOk.T6.2 spec_DrawQcOk.B6 = true := by kernel_rfl
theorem spec_DrawQcOk.calls (k : Nat) (A0 : Option Addr) (c0 : Nat) (l0 : List Int) (r1 : Int) (r2 : Int) (r3 : Int) (r4 : ByteArray) (r5 : List Int) (w : World) (hr0 : Kd.C (Kd.int .u8) w A0 l0.length l0) (hc0 : l0.length ≤ c0) (h : spec_DrawQcOk.f k l0 = some (r1, r2, r3, r4, r5)) :
  Calls Tryz.prog 130 #[.slice A0 l0.length c0] w fun e w' => ∃ v4_ : Value, e = .returned (.tuple #[.agg #[.int .i64 r1, .int .i64 r2], .agg #[.int .i64 r3, .string r4, v4_]]) ∧ Kd.R (Kd.int .i64) 3 w' w.heap.size (fun _ => True) v4_ r5 ∧ Below w.heap.size w w' := by
 have hu32 := Tryz.underlying32; have hu27 := Tryz.underlying27; have HR0 := Aside0.mk hr0; have HC0 := Aside0.mk hc0; clear hr0 hc0; have HB := Aside0.mk (Below.refl w.heap.size w)
 have H := h; unfold spec_DrawQcOk.f at H
 clear h; obtain ⟨⟨t1222, t1223, t1224⟩, A2, H⟩ := oB H; (try dsimp only at H); obtain ⟨⟨t1226, t1227, t1228, t1229⟩, A3, H⟩ := oB H; (try dsimp only at H); obtain ⟨⟨t1231, t1232, t1233, t1236, t1237⟩, A4, H⟩ := oB H; (try dsimp only at H); obtain ⟨⟨t1239, t1240, t1241⟩, A5, H⟩ := oB H; (try dsimp only at H)
 go_enter Tryz.func130, Tryz.ntmps130
 have H' := Aside0.mk H; clear H
 go_upto_if 15 with (first | ((with_reducible refine gd 2 ?_); refine bL 2 #[.int .i64 0, .int .i64 0] 32 ?_; intro gb1220 w6 _ _ _) | ((with_reducible refine gd 3 ?_); refine bL 3 #[.int .i64 0, .string (⟨#[]⟩ : ByteArray), .slice none 0 0] 27 ?_; intro gb1221 w7 _ _ _) | ((with_reducible refine gate_callee (f := 90) rfl ?_); refine wL ?_; intro w8 _; refine gN (some 8) Tryz.func90 (spec_l1New.calls (hB := Below.refl _ _) (hr0 := pC HR0) (hc0 := HC0.out) (w := _) (h := A2.out)) ?_; intro g1225 w9 _ _ _ HI10) | ((with_reducible refine gate_callee (f := 91) rfl ?_); refine gK (some 10) Tryz.func91 (spec_l7DrawConf.calls (hI := iS149 HI10) (hB := UpW.out) (w := _) (h := A3.out)) ?_; intro w11 _ _ _ HI12) | ((with_reducible refine gd 5 ?_); refine bL 5 #[.int .i64 0, .int .i64 0] 32 ?_; intro gb1230 w13 _ _ _) | ((with_reducible refine gate_callee (f := 98) rfl ?_); refine gK1 (some 13) Tryz.func98 (spec_l7Draw.calls (hI := iS149 HI12) (hB := UpW.out) (w := _) (h := A4.out)) ?_; intro Ao1234 co1234 w14 _ _ _ HI15 HO1235) | ((with_reducible refine gd 6 ?_); refine bL 6 #[.int .i64 0, .string (⟨#[]⟩ : ByteArray), .slice none 0 0] 27 ?_; intro gb1238 w16 _ _ _) | ((with_reducible refine gate_callee (f := 93) rfl ?_); refine gK (some 15) Tryz.func93 (spec_l1Once.calls (hI := iS149 HI15) (hB := UpW.out) (w := _) (h := A5.out)) ?_; intro w17 _ _ _ HI18))
 have H := H'.out; clear H'
 by_cases c19 : t1239 = true
 ·
  subst c19
  rw [if_pos rfl] at H
  obtain ⟨⟨t1242, t1243, t1244, t1245⟩, A20, H⟩ := oB H; (try dsimp only at H)
  simp only [Option.some.injEq, Prod.mk.injEq] at H
  obtain ⟨rfl, rfl, rfl, rfl, rfl⟩ := H
  try go_wp2_with (first | ((with_reducible refine gate_callee (f := 102) rfl ?_); refine gK (some 17) Tryz.func102 (spec_l7DrawBent.calls (hI := iS149 HI18) (hB := UpW.out) (w := _) (h := A20.out)) ?_; intro w21 _ _ _ HI22))
  refine sB [gb1220, gb1221] spec_DrawQcOk.tab6 spec_DrawQcOk.bits6 ?_; intro w23 _ HT_ HW_
  refine tB 0 (some 18) (bz 4 1) HT_ HW_ ?_
  refine tB 1 (some 19) (bz 4 3) HT_ HW_ ?_
  refine o1 2 none (bz 4 7) HT_ rfl (kS ?_)
  refine o1 3 none (bz 4 15) HT_ rfl (kS ?_)
  refine done_ (done_of HT_.out (by kernel_rfl)) ?_
  try go_wp2
  refine bodyPost_ret (results_cc rfl _ _ gb1220 gb1221 32 27 #[.int .i64 t1242, .int .i64 t1243] #[.int .i64 t1231, .string t1232, .slice Ao1234 t1233.length co1234] (0, 0) (0, 0) _ _ rfl xB Tryz.underlying32 rfl (by kernel_rfl) rfl xB Tryz.underlying27 rfl (by kernel_rfl)) rfl ?_
  exact ⟨_, y0_8, rR HO1235, UpW.out⟩
 replace c19 := Bool.eq_false_iff.mpr c19; subst c19
 rw [if_neg Bool.false_ne_true] at H
 simp only [Option.some.injEq, Prod.mk.injEq] at H
 obtain ⟨rfl, rfl, rfl, rfl, rfl⟩ := H
 try go_wp2
 refine sB [gb1220, gb1221] spec_DrawQcOk.tab6 spec_DrawQcOk.bits6 ?_; intro w24 _ HT_ HW_
 refine tB 0 (some 18) (bz 4 1) HT_ HW_ ?_
 refine tB 1 (some 19) (bz 4 3) HT_ HW_ ?_
 refine o1 2 none (bz 4 7) HT_ rfl (kS ?_)
 refine o1 3 none (bz 4 15) HT_ rfl (kS ?_)
 refine done_ (done_of HT_.out (by kernel_rfl)) ?_
 try go_wp2
 refine bodyPost_ret (results_cc rfl _ _ gb1220 gb1221 32 27 #[.int .i64 t1226, .int .i64 t1227] #[.int .i64 t1231, .string t1232, .slice Ao1234 t1233.length co1234] (0, 0) (0, 0) _ _ rfl xB Tryz.underlying32 rfl (by kernel_rfl) rfl xB Tryz.underlying27 rfl (by kernel_rfl)) rfl ?_
 exact ⟨_, y0_8, rR HO1235, UpW.out⟩
def spec_DrawQcBytes.f (k : Nat) (l0 : List Int) : Option (Int × Int × Int × ByteArray × List Int) := (spec_DrawQcOk.f k l0).bind fun bt1248 => (some (bt1248.1, bt1248.2.1, bt1248.2.2.1, bt1248.2.2.2.1, bt1248.2.2.2.2))
def spec_DrawQcBytes.T2 : Bool × List (List Nat × List Nat) := (true, [([], []), ([], []), ([0, 0], [0]), ([1, 2, 0, 1, 2], [1])])
def spec_DrawQcBytes.B2 : List Nat := [0, 0, 1, 7]
theorem spec_DrawQcBytes.tab2 : rtab .any (opsOf Tryz.f60 2) = spec_DrawQcBytes.T2 := by kernel_rfl
theorem spec_DrawQcBytes.bits2 : waitsOk spec_DrawQcBytes.T2.2 spec_DrawQcBytes.B2 = true := by kernel_rfl
theorem spec_DrawQcBytes.calls (k : Nat) (A0 : Option Addr) (c0 : Nat) (l0 : List Int) (r1 : Int) (r2 : Int) (r3 : Int) (r4 : ByteArray) (r5 : List Int) (w : World) (hr0 : Kd.C (Kd.int .u8) w A0 l0.length l0) (hc0 : l0.length ≤ c0) (h : spec_DrawQcBytes.f k l0 = some (r1, r2, r3, r4, r5)) :
  Calls Tryz.prog 60 #[.slice A0 l0.length c0] w fun e w' => ∃ v4_ : Value, e = .returned (.tuple #[.agg #[.int .i64 r1, .int .i64 r2], .agg #[.int .i64 r3, .string r4, v4_]]) ∧ Kd.R (Kd.int .i64) 3 w' w.heap.size (fun _ => True) v4_ r5 ∧ Below w.heap.size w w' := by
 have hu32 := Tryz.underlying32; have hu27 := Tryz.underlying27; have HR0 := Aside0.mk hr0; have HC0 := Aside0.mk hc0; clear hr0 hc0; have HB := Aside0.mk (Below.refl w.heap.size w)
 have H := h; unfold spec_DrawQcBytes.f at H
 clear h; obtain ⟨⟨t1248, t1249, t1250, t1251, t1252⟩, A2, H⟩ := oB H; (try dsimp only at H)
 simp only [Option.some.injEq, Prod.mk.injEq] at H
 obtain ⟨rfl, rfl, rfl, rfl, rfl⟩ := H
 go_enter Tryz.func60, Tryz.ntmps60
 try go_wp2_with (first | ((with_reducible refine gd 2 ?_); refine bL 2 #[.int .i64 0, .int .i64 0] 32 ?_; intro gb1246 w3 _ _ _) | ((with_reducible refine gd 3 ?_); refine bL 3 #[.int .i64 0, .string (⟨#[]⟩ : ByteArray), .slice none 0 0] 27 ?_; intro gb1247 w4 _ _ _) | ((with_reducible refine gate_callee (f := 130) rfl ?_); refine gC1 (some 8) Tryz.func130 (spec_DrawQcOk.calls (hr0 := pC HR0) (hc0 := HC0.out) (w := _) (h := A2.out)) ?_; intro Ao1253 co1253 w5 _ HO1254) | ((with_reducible refine gd 4 ?_); refine bL 4 #[.int .i64 0, .int .i64 0] 32 ?_; intro gb1255 w6 _ _ _) | ((with_reducible refine gd 5 ?_); refine bL 5 #[.int .i64 0, .string (⟨#[]⟩ : ByteArray), .slice none 0 0] 27 ?_; intro gb1256 w7 _ _ _))
 refine sB [gb1246, gb1247] spec_DrawQcBytes.tab2 spec_DrawQcBytes.bits2 ?_; intro w8 _ HT_ HW_
 refine tB 0 (some 11) (bz 4 1) HT_ HW_ ?_
 refine tB 1 (some 12) (bz 4 3) HT_ HW_ ?_
 refine o1 2 none (bz 4 7) HT_ rfl (kS ?_)
 refine o1 3 none (bz 4 15) HT_ rfl (kS ?_)
 refine done_ (done_of HT_.out (by kernel_rfl)) ?_
 try go_wp2
 refine bodyPost_ret (results_cc rfl _ _ gb1246 gb1247 32 27 #[.int .i64 t1248, .int .i64 t1249] #[.int .i64 t1250, .string t1251, .slice Ao1253 t1252.length co1253] (0, 0) (0, 0) _ _ rfl xB Tryz.underlying32 rfl (by kernel_rfl) rfl xB Tryz.underlying27 rfl (by kernel_rfl)) rfl ?_
 exact ⟨_, y0_8, rR HO1254, UpW.out⟩
def spec_l1DrawNums.l0 : Nat → List Int → Int → List Int → Int → Int → Option (List Int × Int × Int)
 | 0, _, _, _, _, _ => none
 | k + 1, x3, x4, x1000, x1001, x1002 => (spec_l1Below.f x1000 x1001 x1002 4).bind fun bt1260 => (if x4 < bt1260.1 then ((spec_l1PickInt.f x1000 bt1260.2.1 bt1260.2.2 (([0, 1, 127, 128, 300, 2147483647] : List Int))).bind fun bt1266 => ((spec_PutNum.f k bt1266.1).bind fun t1269 => (if x3.length + t1269.length < 140737488355328 then (spec_l1DrawNums.l0 k (x3 ++ t1269) (wrap64 (x4 + 1)) x1000 bt1266.2.1 bt1266.2.2) else (none)))) else ((spec_l1Once.f x1000 bt1260.2.1 bt1260.2.2 3).bind fun bt1275 => (if bt1275.1 = true then ((spec_l1PickInt.f x1000 bt1275.2.1 bt1275.2.2 (([0, 128, 255] : List Int))).bind fun bt1281 => ((spec_l1Below.f x1000 bt1281.2.1 bt1281.2.2 3).bind fun bt1284 => ((some (([(bt1281.1) % 256, (bt1284.1) % 256] : List Int) : List Int)).bind fun y1287 => (if x3.length + y1287.length < 140737488355328 then (some ((x3 ++ y1287), bt1284.2.1, bt1284.2.2)) else (none))))) else (some (x3, bt1275.2.1, bt1275.2.2)))))
def spec_l1DrawNums.f (k : Nat) (s0_0 : List Int) (s0_1 : Int) (s0_2 : Int) : Option (List Int × Int × Int) := spec_l1DrawNums.l0 k (([] : List Int)) 0 s0_0 s0_1 s0_2
theorem spec_l1DrawNums.calls (k : Nat) (g : Nat) (s0_0 : List Int) (s0_1 : Int) (s0_2 : Int) (r1 : List Int) (r2 : Int) (r3 : Int) (w0 w : World) (hI : IsS149 w0 w g s0_0 s0_1 s0_2) (hB : Below w0.heap.size w0 w) (h : spec_l1DrawNums.f k s0_0 s0_1 s0_2 = some (r1, r2, r3)) :
  Calls Tryz.prog 131 #[.pointer (some ⟨g, 0, none⟩)] w fun e w' => ∃ v0_ : Value, e = .returned (v0_) ∧ Kd.R (Kd.int .u8) 5 w' w.heap.size (fun _ => True) v0_ r1 ∧ IsS149 w0 w' g s0_0 r2 r3 ∧ Below w0.heap.size w0 w' ∧ KeepBut w w' g none := by
 have HI0 := Aside0.mk hI; have HK := Aside0.mk (KeepBut.refl w g none); have HL := Aside0.mk hB.size; clear hI; have HW0 := Aside0.mk hB.size; have HB := Aside0.mk hB; clear hB; have H := h; unfold spec_l1DrawNums.f at H; clear h; obtain ⟨y1257, hy1257⟩ : ∃ y_ : List Int, y_ = (([] : List Int)) := ⟨_, rfl⟩
 replace H : (spec_l1DrawNums.l0 k y1257 0 s0_0 s0_1 s0_2) = some (r1, r2, r3) := by first | (rw [hy1257]; with_reducible exact H) | (rw [hy1257]; with_reducible exact (Option.bind_some _ _).symm.trans H) | (rw [hy1257]; exact H) | exact H
 have Ny1257 := Aside0.mk hy1257; clear hy1257; have i0_ := iB149 HI0; have i1_ : LB w0 w := ⟨HB.out⟩
 go_enter Tryz.func131, Tryz.ntmps131
 have H' := Aside0.mk H; clear H
 go_wp2_with (first | ((with_reducible refine gate_dst (N := 5) rfl ?_); refine lL 5 5 (Kd.int .u8) rfl Ny1257 ?_; intro Ao1258 co1258 w2 _ HO1259))
 refine wC ?_; intro w3 _
 go_loopg [3, 4] k (fun kq v3 v4 w' => ∃ (x3_1 : List Int) (x4_1 : Int) (x1001_1 : Int) (x1002_1 : Int) (Ao3_1 : Option Addr) (co3_1 : Nat), v3 = .slice Ao3_1 x3_1.length co3_1 ∧ v4 = .int .i64 x4_1 ∧ Aside0 (spec_l1DrawNums.l0 kq x3_1 x4_1 s0_0 x1001_1 x1002_1 = some (r1, r2, r3)) ∧ Aside0 (kq ≤ k) ∧ Aside0 (Kd.R (Kd.int .u8) 5 w' w.heap.size (iv w w') (.slice Ao3_1 x3_1.length co3_1) x3_1) ∧ StB g w' 149 ∧ Aside0 (IsS149 w0 w' g s0_0 x1001_1 x1002_1) ∧ KT w3 [g] w _ (Kd.int .u8) 5 w' ∧ LB w0 w' ∧ KS w g w')
 case atStart => exact ⟨(y1257), (0), (s0_1), (s0_2), (Ao1258), (co1258), y0_8, y0_8, H', ⟨Nat.le_refl _⟩, ⟨rJ HO1259⟩, iB149 ⟨iS149 HI0⟩, ⟨iS149 HI0⟩, ⟨UpT.out⟩, ⟨UpW.out⟩, ⟨UpB.out⟩⟩
 case round =>
  clear H'; obtain ⟨x3_1, x4_1, x1001_1, x1002_1, Ao3_1, co3_1, rfl, rfl, HA, HK1, HO_3, _, HI4, _, _, _⟩ := hrel; have HO_5 := HO1259; cases gk with
  | zero => exact absurd HA.out (by simp [spec_l1DrawNums.l0])
  | succ k1 =>
   have H := HA.out; clear HA
   simp only [spec_l1DrawNums.l0] at H
   obtain ⟨⟨t1260, t1261, t1262⟩, A5, H⟩ := oB H; (try dsimp only at H); have H' := Aside0.mk H; clear H
   go_upto_if 9 with (first | ((with_reducible refine gate_callee (f := 97) rfl ?_); refine gK (some 8) Tryz.func97 (spec_l1Below.calls (hI := iS149 HI4) (hB := UpW.out) (w := _) (h := A5.out)) ?_; intro w6 _ _ _ HI7))
   have H := H'.out; clear H'
   by_cases c8 : x4_1 < t1260
   ·
    rw [if_pos c8] at H
    have c8b0 : decide (x4_1 < t1260) = true := decide_eq_true c8; clear c8
    (first | rw [c8b0] | (simp only [i64_w, i32_w]; rw [c8b0]) | skip)
    obtain ⟨y1263, hy1263⟩ : ∃ y_ : List Int, y_ = (([0, 1, 127, 128, 300, 2147483647] : List Int)) := ⟨_, rfl⟩
    replace H : ((spec_l1PickInt.f s0_0 t1261 t1262 y1263).bind fun bt1266 => ((spec_PutNum.f k1 bt1266.1).bind fun t1269 => (if x3_1.length + t1269.length < 140737488355328 then (spec_l1DrawNums.l0 k1 (x3_1 ++ t1269) (wrap64 (x4_1 + 1)) s0_0 bt1266.2.1 bt1266.2.2) else (none)))) = some (r1, r2, r3) := by first | (rw [hy1263]; with_reducible exact H) | (rw [hy1263]; with_reducible exact (Option.bind_some _ _).symm.trans H) | (rw [hy1263]; exact H) | exact H
    have Ny1263 := Aside0.mk hy1263; clear hy1263; obtain ⟨⟨t1266, t1267, t1268⟩, A9, H⟩ := oB H; (try dsimp only at H); obtain ⟨t1269, A10, H⟩ := oB H; (try dsimp only at H)
    by_cases c11 : x3_1.length + t1269.length < 140737488355328
    rotate_left
    ·
     rw [if_neg c11] at H
     exact absurd H (by simp)
    rw [if_pos c11] at H
    have LMc11 := Aside0.mk c11; clear c11; obtain ⟨y1272, hy1272⟩ : ∃ y_ : List Int, y_ = (x3_1 ++ t1269) := ⟨_, rfl⟩
    replace H : (spec_l1DrawNums.l0 k1 y1272 (wrap64 (x4_1 + 1)) s0_0 t1267 t1268) = some (r1, r2, r3) := by first | (rw [hy1272]; with_reducible exact H) | (rw [hy1272]; with_reducible exact (Option.bind_some _ _).symm.trans H) | (rw [hy1272]; exact H) | exact H
    have Ny1272 := Aside0.mk hy1272; clear hy1272; have H' := Aside0.mk H; clear H
    go_wp2_with (first | ((with_reducible refine gate_dst (N := 14) rfl ?_); refine lL 14 3 (Kd.int .i64) rfl Ny1263 ?_; intro Ao1264 co1264 w12 _ HO1265) | ((with_reducible refine gate_callee (f := 132) rfl ?_); refine gK (some 15) Tryz.func132 (spec_l1PickInt.calls (hI := iS149 HI7) (hB := UpW.out) (hr1 := rC HO1265) (hc1 := rL HO1265) (hf1 := fS HO1265) (w := _) (h := A9.out)) ?_; intro w13 _ _ _ HI14) | ((with_reducible refine gate_callee (f := 133) rfl ?_); refine gC1 (some 16) Tryz.func133 (spec_PutNum.calls (w := _) (h := A10.out)) ?_; intro Ao1270 co1270 w15 _ HO1271) | ((with_reducible refine gate_builtin (b := .append) (xs := #[.tmp 12, .tmp 16]) rfl ?_); at_builtin; refine gR (Kd.int .u8) (.tmp 12) (.tmp 16) 24 5 (.int .u8 0) 1 w Ny1272 HO_3 (rC HO1271) (by have := LMc11.out; omega) ?_ (ht := Tryz.underlying24) (hinfo := info5); intro Ao1273 co1273 w16 _ _ HO1274))
    go_roundg k1
    case measure => have := HK1.out; omega
    case rel => exact ⟨(y1272), (wrap64 (x4_1 + 1)), (t1267), (t1268), (Ao1273), (co1273), y0_8, y0_8, H', ⟨y0_11⟩, ⟨rJ HO1274⟩, iB149 ⟨iS149 HI14⟩, ⟨iS149 HI14⟩, ⟨UpT.out⟩, ⟨UpW.out⟩, ⟨UpB.out⟩⟩
   rw [if_neg c8] at H
   have c8b0 : decide (x4_1 < t1260) = false := decide_eq_false c8; clear c8
   (first | rw [c8b0] | (simp only [i64_w, i32_w]; rw [c8b0]) | skip)
   obtain ⟨⟨t1275, t1276, t1277⟩, A17, H⟩ := oB H; (try dsimp only at H); have H' := Aside0.mk H; clear H
   go_upto_if 19 with (first | ((with_reducible refine gate_callee (f := 93) rfl ?_); refine gK (some 19) Tryz.func93 (spec_l1Once.calls (hI := iS149 HI7) (hB := UpW.out) (w := _) (h := A17.out)) ?_; intro w18 _ _ _ HI19))
   have H := H'.out; clear H'
   by_cases c20 : t1275 = true
   ·
    subst c20
    rw [if_pos rfl] at H
    obtain ⟨y1278, hy1278⟩ : ∃ y_ : List Int, y_ = (([0, 128, 255] : List Int)) := ⟨_, rfl⟩
    replace H : ((spec_l1PickInt.f s0_0 t1276 t1277 y1278).bind fun bt1281 => ((spec_l1Below.f s0_0 bt1281.2.1 bt1281.2.2 3).bind fun bt1284 => ((some (([(bt1281.1) % 256, (bt1284.1) % 256] : List Int) : List Int)).bind fun y1287 => (if x3_1.length + y1287.length < 140737488355328 then (some ((x3_1 ++ y1287), bt1284.2.1, bt1284.2.2)) else (none))))) = some (r1, r2, r3) := by first | (rw [hy1278]; with_reducible exact H) | (rw [hy1278]; with_reducible exact (Option.bind_some _ _).symm.trans H) | (rw [hy1278]; exact H) | exact H
    have Ny1278 := Aside0.mk hy1278; clear hy1278; obtain ⟨⟨t1281, t1282, t1283⟩, A21, H⟩ := oB H; (try dsimp only at H); obtain ⟨⟨t1284, t1285, t1286⟩, A22, H⟩ := oB H; (try dsimp only at H); obtain ⟨y1287, hy1287⟩ : ∃ y_ : List Int, y_ = (([(t1281) % 256, (t1284) % 256] : List Int)) := ⟨_, rfl⟩
    replace H : (if x3_1.length + y1287.length < 140737488355328 then (some ((x3_1 ++ y1287), t1285, t1286)) else (none)) = some (r1, r2, r3) := by first | (rw [hy1287]; with_reducible exact H) | (rw [hy1287]; with_reducible exact (Option.bind_some _ _).symm.trans H) | (rw [hy1287]; exact H) | exact H
    have Ny1287 := Aside0.mk hy1287; clear hy1287
    by_cases c23 : x3_1.length + y1287.length < 140737488355328
    rotate_left
    ·
     rw [if_neg c23] at H
     exact absurd H (by simp)
    rw [if_pos c23] at H
    have LMc23 := Aside0.mk c23; clear c23; obtain ⟨y1290, hy1290⟩ : ∃ y_ : List Int, y_ = (x3_1 ++ y1287) := ⟨_, rfl⟩
    replace H : (some (y1290, t1285, t1286)) = some (r1, r2, r3) := by first | (rw [hy1290]; with_reducible exact H) | (rw [hy1290]; with_reducible exact (Option.bind_some _ _).symm.trans H) | (rw [hy1290]; exact H) | exact H
    have Ny1290 := Aside0.mk hy1290; clear hy1290
    simp only [Option.some.injEq, Prod.mk.injEq] at H
    obtain ⟨rfl, rfl, rfl⟩ := H
    go_wp2_with (first | ((with_reducible refine gate_dst (N := 22) rfl ?_); refine lL 22 3 (Kd.int .i64) rfl Ny1278 ?_; intro Ao1279 co1279 w24 _ HO1280) | ((with_reducible refine gate_callee (f := 132) rfl ?_); refine gK (some 23) Tryz.func132 (spec_l1PickInt.calls (hI := iS149 HI19) (hB := UpW.out) (hr1 := rC HO1280) (hc1 := rL HO1280) (hf1 := fS HO1280) (w := _) (h := A21.out)) ?_; intro w25 _ _ _ HI26) | ((with_reducible refine gate_callee (f := 97) rfl ?_); refine gK (some 26) Tryz.func97 (spec_l1Below.calls (hI := iS149 HI26) (hB := UpW.out) (w := _) (h := A22.out)) ?_; intro w27 _ _ _ HI28) | ((with_reducible refine gate_dst (N := 28) rfl ?_); refine lL 28 5 (Kd.int .u8) rfl Ny1287 ?_; intro Ao1288 co1288 w29 _ HO1289) | ((with_reducible refine gate_builtin (b := .append) (xs := #[.tmp 20, .tmp 28]) rfl ?_); at_builtin; refine gR (Kd.int .u8) (.tmp 20) (.tmp 28) 24 5 (.int .u8 0) 1 w Ny1290 HO_3 (rC HO1289) (by have := LMc23.out; omega) ?_ (ht := Tryz.underlying24) (hinfo := info5); intro Ao1291 co1291 w30 _ _ HO1292))
    go_ret
    exact ⟨_, y0_8, rR HO1292, iS149 HI28, UpW.out, UpB.out⟩
   replace c20 := Bool.eq_false_iff.mpr c20; subst c20
   rw [if_neg Bool.false_ne_true] at H
   simp only [Option.some.injEq, Prod.mk.injEq] at H
   obtain ⟨rfl, rfl, rfl⟩ := H
   go_wp2
   go_ret
   exact ⟨_, y0_8, rR HO_3, iS149 HI19, UpW.out, UpB.out⟩
def spec_DrawQcOf.f (k : Nat) (l0 : List Int) : Option (Int × Int × List Int × Int) := (spec_l1New.f k l0).bind fun bt1294 => ((spec_l7DrawConf.f bt1294.1 bt1294.2.1 bt1294.2.2).bind fun bt1298 => ((spec_l7Draw.f k bt1294.1 bt1298.2.2.1 bt1298.2.2.2 bt1298.1 bt1298.2.1).bind fun bt1303 => ((spec_QcBytes.f k bt1298.1 bt1298.2.1 bt1303.1 bt1303.2.1 bt1303.2.2.1).bind fun t1310 => ((spec_l1DrawNums.f k bt1294.1 bt1303.2.2.2.1 bt1303.2.2.2.2).bind fun bt1313 => (if t1310.length + bt1313.1.length < 140737488355328 then ((spec_l12Dent.f bt1294.1 bt1313.2.1 bt1313.2.2 (t1310 ++ bt1313.1)).bind fun bt1321 => ((spec_l1PickInt.f bt1294.1 bt1321.2.1 bt1321.2.2 (([0, 0, 0, 1, (bt1321.1.length : Int), (-1)] : List Int))).bind fun bt1329 => (some (bt1298.1, bt1298.2.1, bt1321.1, bt1329.1)))) else (none))))))
def spec_DrawQcOf.T3 : Bool × List (List Nat × List Nat) := (true, [([], []), ([], []), ([], []), ([], []), ([2, 3], [2, 3]), ([1, 4, 4], [1, 4]), ([], []), ([6, 5], [6]), ([5, 7, 7], [5, 7]), ([0, 8, 8], [0, 8]), ([9, 9, 0, 1, 2, 3, 4, 5, 6, 7, 8, 9], [9])])
def spec_DrawQcOf.B3 : List Nat := [0, 0, 0, 0, 12, 30, 0, 126, 254, 511, 1023]
theorem spec_DrawQcOf.tab3 : rtab .any (opsOf Tryz.f61 3) = spec_DrawQcOf.T3 := by kernel_rfl
theorem spec_DrawQcOf.bits3 : waitsOk spec_DrawQcOf.T3.2 spec_DrawQcOf.B3 = true := by kernel_rfl
def spec_DrawQcOf.T4 : Bool × List (List Nat × List Nat) := (true, [([], []), ([], []), ([], []), ([], []), ([3], [3]), ([4], [4]), ([2, 5], [2, 5]), ([0, 6, 0], [0]), ([1, 7, 0, 1, 7], [1]), ([6, 8, 0, 1, 2, 3, 4, 5, 6, 7, 8], [6])])
def spec_DrawQcOf.B4 : List Nat := [0, 0, 0, 0, 8, 24, 60, 125, 255, 511]
theorem spec_DrawQcOf.tab4 : rtab .any (opsOf Tryz.f61 4) = spec_DrawQcOf.T4 := by kernel_rfl
theorem spec_DrawQcOf.bits4 : waitsOk spec_DrawQcOf.T4.2 spec_DrawQcOf.B4 = true := by kernel_rfl
theorem spec_DrawQcOf.calls (k : Nat) (A0 : Option Addr) (c0 : Nat) (l0 : List Int) (r1 : Int) (r2 : Int) (r3 : List Int) (r4 : Int) (w : World) (hr0 : Kd.C (Kd.int .u8) w A0 l0.length l0) (hc0 : l0.length ≤ c0) (h : spec_DrawQcOf.f k l0 = some (r1, r2, r3, r4)) :
  Calls Tryz.prog 61 #[.slice A0 l0.length c0] w fun e w' => ∃ v2_ : Value, e = .returned (.tuple #[.agg #[.int .i64 r1, .int .i64 r2], v2_, .int .i64 r4]) ∧ Kd.R (Kd.int .u8) 5 w' w.heap.size (fun _ => True) v2_ r3 ∧ Below w.heap.size w w' := by
 have hu32 := Tryz.underlying32; have HR0 := Aside0.mk hr0; have HC0 := Aside0.mk hc0; clear hr0 hc0; have HB := Aside0.mk (Below.refl w.heap.size w)
 have H := h; unfold spec_DrawQcOf.f at H
 clear h; obtain ⟨⟨t1294, t1295, t1296⟩, A2, H⟩ := oB H; (try dsimp only at H); obtain ⟨⟨t1298, t1299, t1300, t1301⟩, A3, H⟩ := oB H; (try dsimp only at H); obtain ⟨⟨t1303, t1304, t1305, t1308, t1309⟩, A4, H⟩ := oB H; (try dsimp only at H); obtain ⟨t1310, A5, H⟩ := oB H; (try dsimp only at H); obtain ⟨⟨t1313, t1316, t1317⟩, A6, H⟩ := oB H; (try dsimp only at H)
 by_cases c7 : t1310.length + t1313.length < 140737488355328
 ·
  rw [if_pos c7] at H
  have LMc7 := Aside0.mk c7; clear c7; obtain ⟨y1318, hy1318⟩ : ∃ y_ : List Int, y_ = (t1310 ++ t1313) := ⟨_, rfl⟩
  replace H : ((spec_l12Dent.f t1294 t1316 t1317 y1318).bind fun bt1321 => ((spec_l1PickInt.f t1294 bt1321.2.1 bt1321.2.2 (([0, 0, 0, 1, (bt1321.1.length : Int), (-1)] : List Int))).bind fun bt1329 => (some (t1298, t1299, bt1321.1, bt1329.1)))) = some (r1, r2, r3, r4) := by first | (rw [hy1318]; with_reducible exact H) | (rw [hy1318]; with_reducible exact (Option.bind_some _ _).symm.trans H) | (rw [hy1318]; exact H) | exact H
  have Ny1318 := Aside0.mk hy1318; clear hy1318; obtain ⟨⟨t1321, t1324, t1325⟩, A8, H⟩ := oB H; (try dsimp only at H); obtain ⟨y1326, hy1326⟩ : ∃ y_ : List Int, y_ = (([0, 0, 0, 1, (t1321.length : Int), (-1)] : List Int)) := ⟨_, rfl⟩
  replace H : ((spec_l1PickInt.f t1294 t1324 t1325 y1326).bind fun bt1329 => (some (t1298, t1299, t1321, bt1329.1))) = some (r1, r2, r3, r4) := by first | (rw [hy1326]; with_reducible exact H) | (rw [hy1326]; with_reducible exact (Option.bind_some _ _).symm.trans H) | (rw [hy1326]; exact H) | exact H
  have Ny1326 := Aside0.mk hy1326; clear hy1326; obtain ⟨⟨t1329, t1330, t1331⟩, A9, H⟩ := oB H; (try dsimp only at H)
  simp only [Option.some.injEq, Prod.mk.injEq] at H
  obtain ⟨rfl, rfl, rfl, rfl⟩ := H
  go_enter Tryz.func61, Tryz.ntmps61
  try go_wp2_with (first | ((with_reducible refine gd 2 ?_); refine bL 2 #[.int .i64 0, .int .i64 0] 32 ?_; intro gb1293 w10 _ _ _) | ((with_reducible refine gate_callee (f := 90) rfl ?_); refine wL ?_; intro w11 _; refine gN (some 9) Tryz.func90 (spec_l1New.calls (hB := Below.refl _ _) (hr0 := pC HR0) (hc0 := HC0.out) (w := _) (h := A2.out)) ?_; intro g1297 w12 _ _ _ HI13) | ((with_reducible refine gate_callee (f := 91) rfl ?_); refine gK (some 11) Tryz.func91 (spec_l7DrawConf.calls (hI := iS149 HI13) (hB := UpW.out) (w := _) (h := A3.out)) ?_; intro w14 _ _ _ HI15) | ((with_reducible refine gd 6 ?_); refine bL 6 #[.int .i64 0, .int .i64 0] 32 ?_; intro gb1302 w16 _ _ _))
  refine sB [g1297] spec_DrawQcOf.tab3 spec_DrawQcOf.bits3 ?_; intro w17 _ HT_ HW_
  refine pA 0 (some 12) (bz 11 1) HT_ ?_
  refine tB 1 (some 13) (bz 11 3) HT_ HW_ ?_
  refine pA 2 (some 14) (bz 11 7) HT_ ?_
  refine tB 3 (some 15) (bz 11 15) HT_ HW_ ?_
  refine pA 6 (some 18) (bz 11 79) HT_ ?_
  refine o1 4 (some 16) (bz 11 95) HT_ rfl (kK1 Tryz.func98 (spec_l7Draw.calls (hI := iS149 HI15) (hB := UpW.out) (w := _) (h := A4.out)) ?_); intro Ao1306 co1306 w18 _ _ _ HI19 HO1307
  refine nA (some 16) ?_
  refine o1 5 (some 17) (bz 11 127) HT_ rfl (kC1 Tryz.func68 (spec_QcBytes.calls (hr1_2 := rC HO1307) (hc1_2 := rL HO1307) (w := _) (h := A5.out)) ?_); intro Ao1311 co1311 w20 _ HO1312
  refine nA (some 17) ?_
  refine o1 7 (some 19) (bz 11 255) HT_ rfl (kK1 Tryz.func131 (spec_l1DrawNums.calls (hI := iS149 HI19) (hB := UpW.out) (w := _) (h := A6.out)) ?_); intro Ao1314 co1314 w21 _ _ _ HI22 HO1315
  refine nA (some 19) ?_
  refine o1 8 (some 20) (bz 11 511) HT_ rfl (kGR (Kd.int .u8) (.tmp 17) (.tmp 19) 24 5 (.int .u8 0) 1 w18 Ny1318 HO1312 (rC HO1315) (by have := LMc7.out; omega) ?_ (ht := Tryz.underlying24) (hinfo := info5)); intro Ao1319 co1319 w23 _ _ HO1320
  refine nA (some 20) ?_
  refine o1 9 (some 21) (bz 11 1023) HT_ rfl (kKT1 Tryz.func121 (spec_l12Dent.calls (hI := iS149 HI22) (hB := UpW.out) (wb := w) (hwb := SzI.out) (ho1 := rR HO1320) (w := _) (h := A8.out)) ?_); intro Ao1322 co1322 w24 _ _ _ HI25 HO1323
  refine nA (some 21) ?_
  refine pA 10 (some 7) (bz 11 2047) HT_ ?_
  refine done_ (done_of HT_.out (by kernel_rfl)) ?_
  try go_wp2
  refine sB [g1297, gb1293] spec_DrawQcOf.tab4 spec_DrawQcOf.bits4 ?_; intro w26 _ HT_ HW_
  refine tB 0 (some 22) (bz 10 1) HT_ HW_ ?_
  refine pA 1 (some 23) (bz 10 3) HT_ ?_
  refine pA 2 (some 24) (bz 10 7) HT_ ?_
  refine pA 3 (some 25) (bz 10 15) HT_ ?_
  refine pA 4 (some 26) (bz 10 31) HT_ ?_
  refine o1 5 (some 27) (bz 10 63) HT_ rfl (kL 3 (Kd.int .i64) rfl Ny1326 ?_); intro Ao1327 co1327 w27 _ HO1328
  refine nA (some 27) ?_
  refine o1 6 (some 28) (bz 10 127) HT_ rfl (kK Tryz.func132 (spec_l1PickInt.calls (hI := iS149 HI25) (hB := UpW.out) (hr1 := rC HO1328) (hc1 := rL HO1328) (hf1 := fS HO1328) (w := _) (h := A9.out)) ?_); intro w28 _ _ _ HI29
  refine nA (some 28) ?_
  refine o1 7 none (bz 10 255) HT_ rfl (kS ?_)
  refine pA 8 (some 3) (bz 10 511) HT_ ?_
  refine pA 9 (some 4) (bz 10 1023) HT_ ?_
  refine done_ (done_of HT_.out (by kernel_rfl)) ?_
  try go_wp2
  refine bodyPost_ret (results_ctt rfl _ _ gb1293 32 #[.int .i64 t1298, .int .i64 t1299] (0, 0) _ rfl xB Tryz.underlying32 rfl (by kernel_rfl)) rfl ?_
  exact ⟨_, y0_8, rR HO1323, UpW.out⟩
 rw [if_neg c7] at H
 exact absurd H (by simp)
def impl_QcOf.f (k : Nat) (a0_0 : Int) (a0_1 : Int) (l1 : List Int) (a2 : Int) : Option (Int × ByteArray × List Int × Int × Bool) := (impl_reader_qc.f k l1 a2 false).bind fun bt1335 => (if bt1335.2.2.2.2 = true then (some (0, (⟨#[]⟩ : ByteArray), ([] : List Int), 0, false)) else ((impl_QcOk.f k a0_0 a0_1 bt1335.1 bt1335.2.1 bt1335.2.2.1).bind fun t1343 => (if t1343 = true then (some (bt1335.1, bt1335.2.1, bt1335.2.2.1, bt1335.2.2.2.1, true)) else (some (0, (⟨#[]⟩ : ByteArray), ([] : List Int), 0, false)))))
def impl_QcOf.T5 : Bool × List (List Nat × List Nat) := (true, [([], []), ([], []), ([1], [1]), ([2], [2]), ([3], [3]), ([0, 0], [0]), ([4, 5, 0, 1, 2, 3, 4, 5], [4]), ([6, 0, 1, 2, 3, 4, 5, 6], [])])
def impl_QcOf.B5 : List Nat := [0, 0, 2, 6, 14, 1, 63, 127]
theorem impl_QcOf.tab5 : rtab .any (opsOf Tryz.f62 5) = impl_QcOf.T5 := by kernel_rfl
theorem impl_QcOf.bits5 : waitsOk impl_QcOf.T5.2 impl_QcOf.B5 = true := by kernel_rfl
theorem impl_QcOf.calls (k : Nat) (a0_0 : Int) (a0_1 : Int) (A1 : Option Addr) (c1 : Nat) (l1 : List Int) (a2 : Int) (r1 : Int) (r2 : ByteArray) (r3 : List Int) (r4 : Int) (r5 : Bool) (w : World) (hr1 : Kd.C (Kd.int .u8) w A1 l1.length l1) (hc1 : l1.length ≤ c1) (h : impl_QcOf.f k a0_0 a0_1 l1 a2 = some (r1, r2, r3, r4, r5)) (hG : Glob w := by exact gG HG HB) :
  Calls Tryz.prog 62 #[.agg #[.int .i64 a0_0, .int .i64 a0_1], .slice A1 l1.length c1, .int .i64 a2] w fun e w' => ∃ v2_ : Value, e = .returned (.tuple #[.agg #[.int .i64 r1, .string r2, v2_], .int .i64 r4, .bool r5]) ∧ Kd.R (Kd.int .i64) 3 w' w.heap.size (fun _ => True) v2_ r3 ∧ Below w.heap.size w w' := by
 have HG := Aside0.mk hG; clear hG; have hu32 := Tryz.underlying32; have hu27 := Tryz.underlying27; have hu134 := Tryz.underlying134; have HR1 := Aside0.mk hr1; have HC1 := Aside0.mk hc1; clear hr1 hc1; have HB := Aside0.mk (Below.refl w.heap.size w)
 have H := h; unfold impl_QcOf.f at H
 clear h; obtain ⟨⟨t1335, t1336, t1337, t1340, t1341⟩, A4, H⟩ := oB H; (try dsimp only at H)
 go_enter Tryz.func62, Tryz.ntmps62
 have H' := Aside0.mk H; clear H
 go_upto_region 3 with (first | ((with_reducible refine gd 3 ?_); refine bL 3 #[.int .i64 a0_0, .int .i64 a0_1] 32 ?_; intro gb1332 w5 _ _ _) | ((with_reducible refine gd 6 ?_); refine bL 6 #[.int .i64 0, .string (⟨#[]⟩ : ByteArray), .slice none 0 0] 27 ?_; intro gb1333 w6 _ _ _) | ((with_reducible refine gd 14 ?_); refine bL 14 #[.slice A1 l1.length c1, .int .i64 a2, .bool false] 134 ?_; intro gb1334 w7 _ _ _) | ((with_reducible refine gate_callee (f := 124) rfl ?_); refine gK1 (some 16) Tryz.func124 (impl_reader_qc.calls (hI := (nS134 xB HR1 HC1)) (hB := UpW.out) (w := _) (h := A4.out)) ?_; intro Ao1338 co1338 w8 _ _ _ HI9 HO1339; obtain ⟨AS10_0, cS10_0, bk10, HG10, HS10_0, HL10_0⟩ := oS134 HI9) | ((with_reducible refine gd 10 ?_); refine bL 10 #[.int .i64 0, .string (⟨#[]⟩ : ByteArray), .slice none 0 0] 27 ?_; intro gb1342 w11 _ _ _))
 have H := H'.out; clear H'
 by_cases c12 : t1341 = true
 ·
  subst c12
  rw [if_pos rfl] at H
  have H' := Aside0.mk H; clear H
  go_upto_if 26 with fail
  have H := H'.out; clear H'
  simp only [Option.some.injEq, Prod.mk.injEq] at H
  obtain ⟨rfl, rfl, rfl, rfl, rfl⟩ := H
  go_wp2
  refine bodyPost_ret (results_ctt rfl _ _ gb1333 27 #[.int .i64 0, .string (⟨#[]⟩ : ByteArray), .slice none 0 0] (0, 0) _ rfl xB Tryz.underlying27 rfl (by kernel_rfl)) rfl ?_
  exact ⟨_, y0_8, Kd.R_nil _ _ _ _ _, UpW.out⟩
 replace c12 := Bool.eq_false_iff.mpr c12; subst c12
 rw [if_neg Bool.false_ne_true] at H
 obtain ⟨t1343, A13, H⟩ := oB H; (try dsimp only at H); have H' := Aside0.mk H; clear H
 go_upto_if 26 with (first | (go_at_call 50; refine aC (impl_QcOk.calls (hr1_2 := rC HO1339) (hc1_2 := rL HO1339) (w := _) (h := A13.out)) ?_; intro w14 _))
 have H := H'.out; clear H'
 by_cases c15 : t1343 = true
 ·
  subst c15
  rw [if_pos rfl] at H
  simp only [Option.some.injEq, Prod.mk.injEq] at H
  obtain ⟨rfl, rfl, rfl, rfl, rfl⟩ := H
  try go_wp2
  refine sB [gb1333] impl_QcOf.tab5 impl_QcOf.bits5 ?_; intro w16 _ HT_ HW_
  refine tB 0 (some 28) (bz 8 1) HT_ HW_ ?_
  refine pA 1 (some 29) (bz 8 3) HT_ ?_
  refine pA 2 (some 30) (bz 8 7) HT_ ?_
  refine pA 3 (some 31) (bz 8 15) HT_ ?_
  refine tB 4 (some 32) (bz 8 31) HT_ HW_ ?_
  refine o1 5 none (bz 8 63) HT_ rfl (kS ?_)
  refine pA 6 (some 7) (bz 8 127) HT_ ?_
  refine pA 7 (some 8) (bz 8 255) HT_ ?_
  refine done_ (done_of HT_.out (by kernel_rfl)) ?_
  try go_wp2
  refine bodyPost_ret (results_ctt rfl _ _ gb1333 27 #[.int .i64 t1335, .string t1336, .slice Ao1338 t1337.length co1338] (0, 0) _ rfl xB Tryz.underlying27 rfl (by kernel_rfl)) rfl ?_
  exact ⟨_, y0_8, rR HO1339, UpW.out⟩
 replace c15 := Bool.eq_false_iff.mpr c15; subst c15
 rw [if_neg Bool.false_ne_true] at H
 simp only [Option.some.injEq, Prod.mk.injEq] at H
 obtain ⟨rfl, rfl, rfl, rfl, rfl⟩ := H
 go_wp2
 refine bodyPost_ret (results_ctt rfl _ _ gb1333 27 #[.int .i64 0, .string (⟨#[]⟩ : ByteArray), .slice none 0 0] (0, 0) _ rfl xB Tryz.underlying27 rfl (by kernel_rfl)) rfl ?_
 exact ⟨_, y0_8, Kd.R_nil _ _ _ _ _, UpW.out⟩
def spec_QcOf.f (k : Nat) (a0_0 : Int) (a0_1 : Int) (l1 : List Int) (a2 : Int) : Option (Int × ByteArray × List Int × Int × Bool) := (spec_l12Qc.f k l1 a2 true).bind fun bt1347 => (if bt1347.2.2.2.2 = true then ((spec_QcOk.f k a0_0 a0_1 bt1347.1 bt1347.2.1 bt1347.2.2.1).bind fun t1355 => (if t1355 = true then (some (bt1347.1, bt1347.2.1, bt1347.2.2.1, bt1347.2.2.2.1, true)) else (some (0, (⟨#[]⟩ : ByteArray), ([] : List Int), 0, false)))) else (some (0, (⟨#[]⟩ : ByteArray), ([] : List Int), 0, false)))
def spec_QcOf.T5 : Bool × List (List Nat × List Nat) := (true, [([], []), ([], []), ([1], [1]), ([2], [2]), ([3], [3]), ([0, 0], [0]), ([4, 5, 0, 1, 2, 3, 4, 5], [4]), ([6, 0, 1, 2, 3, 4, 5, 6], [])])
def spec_QcOf.B5 : List Nat := [0, 0, 2, 6, 14, 1, 63, 127]
theorem spec_QcOf.tab5 : rtab .any (opsOf Tryz.f63 5) = spec_QcOf.T5 := by kernel_rfl
theorem spec_QcOf.bits5 : waitsOk spec_QcOf.T5.2 spec_QcOf.B5 = true := by kernel_rfl
theorem spec_QcOf.calls (k : Nat) (a0_0 : Int) (a0_1 : Int) (A1 : Option Addr) (c1 : Nat) (l1 : List Int) (a2 : Int) (r1 : Int) (r2 : ByteArray) (r3 : List Int) (r4 : Int) (r5 : Bool) (w : World) (hr1 : Kd.C (Kd.int .u8) w A1 l1.length l1) (hc1 : l1.length ≤ c1) (h : spec_QcOf.f k a0_0 a0_1 l1 a2 = some (r1, r2, r3, r4, r5)) :
  Calls Tryz.prog 63 #[.agg #[.int .i64 a0_0, .int .i64 a0_1], .slice A1 l1.length c1, .int .i64 a2] w fun e w' => ∃ v2_ : Value, e = .returned (.tuple #[.agg #[.int .i64 r1, .string r2, v2_], .int .i64 r4, .bool r5]) ∧ Kd.R (Kd.int .i64) 3 w' w.heap.size (fun _ => True) v2_ r3 ∧ Below w.heap.size w w' := by
 have hu32 := Tryz.underlying32; have hu27 := Tryz.underlying27; have hu139 := Tryz.underlying139; have HR1 := Aside0.mk hr1; have HC1 := Aside0.mk hc1; clear hr1 hc1; have HB := Aside0.mk (Below.refl w.heap.size w)
 have H := h; unfold spec_QcOf.f at H
 clear h; obtain ⟨⟨t1347, t1348, t1349, t1352, t1353⟩, A4, H⟩ := oB H; (try dsimp only at H)
 go_enter Tryz.func63, Tryz.ntmps63
 have H' := Aside0.mk H; clear H
 go_upto_region 3 with (first | ((with_reducible refine gd 3 ?_); refine bL 3 #[.int .i64 a0_0, .int .i64 a0_1] 32 ?_; intro gb1344 w5 _ _ _) | ((with_reducible refine gd 6 ?_); refine bL 6 #[.int .i64 0, .string (⟨#[]⟩ : ByteArray), .slice none 0 0] 27 ?_; intro gb1345 w6 _ _ _) | ((with_reducible refine gd 14 ?_); refine bL 14 #[.slice A1 l1.length c1, .int .i64 a2, .bool true] 139 ?_; intro gb1346 w7 _ _ _) | ((with_reducible refine gate_callee (f := 127) rfl ?_); refine gK1 (some 16) Tryz.func127 (spec_l12Qc.calls (hI := (nS139 xB HR1 HC1)) (hB := UpW.out) (w := _) (h := A4.out)) ?_; intro Ao1350 co1350 w8 _ _ _ HI9 HO1351; obtain ⟨AS10_0, cS10_0, bk10, HG10, HS10_0, HL10_0⟩ := oS139 HI9) | ((with_reducible refine gd 10 ?_); refine bL 10 #[.int .i64 0, .string (⟨#[]⟩ : ByteArray), .slice none 0 0] 27 ?_; intro gb1354 w11 _ _ _))
 have H := H'.out; clear H'
 by_cases c12 : t1353 = true
 ·
  subst c12
  rw [if_pos rfl] at H
  obtain ⟨t1355, A13, H⟩ := oB H; (try dsimp only at H); have H' := Aside0.mk H; clear H
  go_upto_if 27 with (first | (go_at_call 100; refine aC (spec_QcOk.calls (hr1_2 := rC HO1351) (hc1_2 := rL HO1351) (w := _) (h := A13.out)) ?_; intro w14 _))
  have H := H'.out; clear H'
  by_cases c15 : t1355 = true
  ·
   subst c15
   rw [if_pos rfl] at H
   simp only [Option.some.injEq, Prod.mk.injEq] at H
   obtain ⟨rfl, rfl, rfl, rfl, rfl⟩ := H
   try go_wp2
   refine sB [gb1345] spec_QcOf.tab5 spec_QcOf.bits5 ?_; intro w16 _ HT_ HW_
   refine tB 0 (some 29) (bz 8 1) HT_ HW_ ?_
   refine pA 1 (some 30) (bz 8 3) HT_ ?_
   refine pA 2 (some 31) (bz 8 7) HT_ ?_
   refine pA 3 (some 32) (bz 8 15) HT_ ?_
   refine tB 4 (some 33) (bz 8 31) HT_ HW_ ?_
   refine o1 5 none (bz 8 63) HT_ rfl (kS ?_)
   refine pA 6 (some 7) (bz 8 127) HT_ ?_
   refine pA 7 (some 8) (bz 8 255) HT_ ?_
   refine done_ (done_of HT_.out (by kernel_rfl)) ?_
   try go_wp2
   refine bodyPost_ret (results_ctt rfl _ _ gb1345 27 #[.int .i64 t1347, .string t1348, .slice Ao1350 t1349.length co1350] (0, 0) _ rfl xB Tryz.underlying27 rfl (by kernel_rfl)) rfl ?_
   exact ⟨_, y0_8, rR HO1351, UpW.out⟩
  replace c15 := Bool.eq_false_iff.mpr c15; subst c15
  rw [if_neg Bool.false_ne_true] at H
  simp only [Option.some.injEq, Prod.mk.injEq] at H
  obtain ⟨rfl, rfl, rfl, rfl, rfl⟩ := H
  go_wp2
  refine bodyPost_ret (results_ctt rfl _ _ gb1345 27 #[.int .i64 0, .string (⟨#[]⟩ : ByteArray), .slice none 0 0] (0, 0) _ rfl xB Tryz.underlying27 rfl (by kernel_rfl)) rfl ?_
  exact ⟨_, y0_8, Kd.R_nil _ _ _ _ _, UpW.out⟩
 replace c12 := Bool.eq_false_iff.mpr c12; subst c12
 rw [if_neg Bool.false_ne_true] at H
 have H' := Aside0.mk H; clear H
 go_upto_if 27 with fail
 have H := H'.out; clear H'
 simp only [Option.some.injEq, Prod.mk.injEq] at H
 obtain ⟨rfl, rfl, rfl, rfl, rfl⟩ := H
 go_wp2
 refine bodyPost_ret (results_ctt rfl _ _ gb1345 27 #[.int .i64 0, .string (⟨#[]⟩ : ByteArray), .slice none 0 0] (0, 0) _ rfl xB Tryz.underlying27 rfl (by kernel_rfl)) rfl ?_
 exact ⟨_, y0_8, Kd.R_nil _ _ _ _ _, UpW.out⟩
def impl_SafeSame.f (k : Nat) (a0_0 : Int) (a0_1 : Int) (a0_2 : Int) (a0_3 : ByteArray) (l0_4 : List Int) (a0_5 : ByteArray) (a1_0 : Int) (a1_1 : Int) (a1_2 : Int) (a1_3 : ByteArray) (l1_4 : List Int) (a1_5 : ByteArray) : Option (Bool) := if a0_0 = a1_0 then (if a0_1 = a1_1 then ((impl_QcSame.f k a0_2 a0_3 l0_4 a1_2 a1_3 l1_4).bind fun t1358 => (if t1358 = true then (some (a0_5.toList == a1_5.toList)) else (some false))) else (some false)) else (some false)
theorem impl_SafeSame.calls (k : Nat) (a0_0 : Int) (a0_1 : Int) (a0_2 : Int) (a0_3 : ByteArray) (A0_4 : Option Addr) (c0_4 : Nat) (l0_4 : List Int) (a0_5 : ByteArray) (a1_0 : Int) (a1_1 : Int) (a1_2 : Int) (a1_3 : ByteArray) (A1_4 : Option Addr) (c1_4 : Nat) (l1_4 : List Int) (a1_5 : ByteArray) (r : Bool) (w : World) (hr0_4 : Kd.C (Kd.int .i64) w A0_4 l0_4.length l0_4) (hc0_4 : l0_4.length ≤ c0_4) (hr1_4 : Kd.C (Kd.int .i64) w A1_4 l1_4.length l1_4) (hc1_4 : l1_4.length ≤ c1_4) (h : impl_SafeSame.f k a0_0 a0_1 a0_2 a0_3 l0_4 a0_5 a1_0 a1_1 a1_2 a1_3 l1_4 a1_5 = some r) :
  Calls Tryz.prog 66 #[.agg #[.int .i64 a0_0, .int .i64 a0_1, .int .i64 a0_2, .string a0_3, .slice A0_4 l0_4.length c0_4, .string a0_5], .agg #[.int .i64 a1_0, .int .i64 a1_1, .int .i64 a1_2, .string a1_3, .slice A1_4 l1_4.length c1_4, .string a1_5]] w fun e w' => e = .returned (.bool r) ∧ Below w.heap.size w w' := by
 have hu29 := Tryz.underlying29; have hu27 := Tryz.underlying27; have HR0_4 := Aside0.mk hr0_4; have HC0_4 := Aside0.mk hc0_4; clear hr0_4 hc0_4; have HR1_4 := Aside0.mk hr1_4; have HC1_4 := Aside0.mk hc1_4; clear hr1_4 hc1_4; have HB := Aside0.mk (Below.refl w.heap.size w)
 have H := h; unfold impl_SafeSame.f at H
 clear h
 go_enter Tryz.func66, Tryz.ntmps66
 have H' := Aside0.mk H; clear H
 go_upto_region 1 with (first | ((with_reducible refine gd 2 ?_); refine bL 2 #[.int .i64 a0_0, .int .i64 a0_1, .int .i64 a0_2, .string a0_3, .slice A0_4 l0_4.length c0_4, .string a0_5] 29 ?_; intro gb1356 w3 _ _ _) | ((with_reducible refine gd 3 ?_); refine bL 3 #[.int .i64 a1_0, .int .i64 a1_1, .int .i64 a1_2, .string a1_3, .slice A1_4 l1_4.length c1_4, .string a1_5] 29 ?_; intro gb1357 w4 _ _ _))
 have H := H'.out; clear H'
 by_cases c5 : a0_0 = a1_0
 ·
  rw [if_pos c5] at H
  have c5b0 : (a0_0 == a1_0) = true := beq_iff_eq.mpr c5; have c5b1 : (a0_0 != a1_0) = false := bne_eq_false_iff_eq.mpr c5; clear c5
  (first | rw [c5b0] | (simp only [i64_w, i32_w]; rw [c5b0]) | skip)
  by_cases c6 : a0_1 = a1_1
  ·
   rw [if_pos c6] at H
   have c6b0 : (a0_1 == a1_1) = true := beq_iff_eq.mpr c6; have c6b1 : (a0_1 != a1_1) = false := bne_eq_false_iff_eq.mpr c6; clear c6; obtain ⟨t1358, A7, H⟩ := oB H; (try dsimp only at H)
   by_cases c8 : t1358 = true
   ·
    subst c8
    rw [if_pos rfl] at H
    obtain rfl := Option.some.inj H
    go_wp2_with (first | (go_at_call 41; refine aC (impl_QcSame.calls (hr0_2 := pC HR0_4) (hc0_2 := HC0_4.out) (hr1_2 := pC HR1_4) (hc1_2 := HC1_4.out) (w := _) (h := A7.out)) ?_; intro w9 _))
    go_ret
    exact ⟨y0_8, UpW.out⟩
   replace c8 := Bool.eq_false_iff.mpr c8; subst c8
   rw [if_neg Bool.false_ne_true] at H
   obtain rfl := Option.some.inj H
   go_wp2_with (first | (go_at_call 41; refine aC (impl_QcSame.calls (hr0_2 := pC HR0_4) (hc0_2 := HC0_4.out) (hr1_2 := pC HR1_4) (hc1_2 := HC1_4.out) (w := _) (h := A7.out)) ?_; intro w10 _))
   go_ret
   exact ⟨y0_8, UpW.out⟩
  rw [if_neg c6] at H
  have c6b0 : (a0_1 == a1_1) = false := beq_eq_false_iff_ne.mpr c6; have c6b1 : (a0_1 != a1_1) = true := bne_iff_ne.mpr c6; obtain rfl := Option.some.inj H
  go_wp2
  go_ret
  exact ⟨y0_8, UpW.out⟩
 rw [if_neg c5] at H
 have c5b0 : (a0_0 == a1_0) = false := beq_eq_false_iff_ne.mpr c5; have c5b1 : (a0_0 != a1_0) = true := bne_iff_ne.mpr c5
 (first | rw [c5b0] | (simp only [i64_w, i32_w]; rw [c5b0]) | skip)
 obtain rfl := Option.some.inj H
 go_wp2
 go_ret
 exact ⟨y0_8, UpW.out⟩
end Go.Proofs.YtdmjhgogljhfkaaGreatDoor.PFnNotes
