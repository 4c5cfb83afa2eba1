-- By a program of this session, out of the translation (the print of the kit, with turns of its own). Lean checks it.
import Derived.Test.YtnpbopadajbopaaGreatDoorPFnBlocksx0
import Derived.Test.YtnpbopadajbopaaGreatDoorPFnBlocksx1
import Derived.Test.YtnpbopadajbopaaGreatDoorPFnBlocksx2
import Derived.Test.YtnpbopadajbopaaGreatDoorPFnBlocksx9
import Derived.Test.YtnpbopadajbopaaGreatDoorPFnBlocksx10
import Derived.Test.YtnpbopadajbopaaGreatDoorPFnBlocksx12
import Derived.Test.YtnpbopadajbopaaGreatDoorPFnBlocksx13
import Derived.Test.YtnpbopadajbopaaGreatDoorPFnBlocksx14
import Derived.Test.YtnpbopadajbopaaGreatDoorPFnBlocksx15
namespace Go.Proofs.YtnpbopadajbopaaGreatDoor.PFnBlocks
open Go.RowKit Go.Proofs.YtnpbopadajbopaaGreatDoorW.PrintWords Go.Proofs.YtnpbopadajbopaaGreatDoorW.PrintLast Go.Proofs.YtnpbopadajbopaaGreatDoorW.PrintMore
attribute [local go_sem] max2_int min2_int max_two min_two max_three min_three max_four min_four   -- for this text's walks alone
attribute [local go_sem] cell_in frozen_in
set_option synthInstance.maxSize 1000000
set_option synthInstance.maxHeartbeats 2000000
set_option linter.unusedVariables false
set_option linter.unusedSimpArgs false

/-! ### laws_FnBlocks: function 7 -/
def laws_FnBlocks.f (k : Nat) (l0 : List Int) : Option (Bool) := (laws_big.f l0).bind fun t860 => (if t860 = true then (some true) else ((spec_DrawBlockOk.f k l0).bind fun bt861 => ((spec_DrawBlockNew.f k l0).bind fun bt871 => ((impl_BlockNew.f k bt871.1 bt871.2.1 bt871.2.2.1 bt871.2.2.2.1 bt871.2.2.2.2.1 bt871.2.2.2.2.2.1 bt871.2.2.2.2.2.2).bind fun bt884 => ((spec_BlockNew.f k bt871.1 bt871.2.1 bt871.2.2.1 bt871.2.2.2.1 bt871.2.2.2.2.1 bt871.2.2.2.2.2.1 bt871.2.2.2.2.2.2).bind fun bt892 => ((spec_DrawBlockSame.f k l0).bind fun bt900 => ((impl_BlockOk.f k bt861.1 bt861.2.1 bt861.2.2.1 bt861.2.2.2.1 bt861.2.2.2.2.1 bt861.2.2.2.2.2).bind fun t914 => ((spec_BlockOk.f k bt861.1 bt861.2.1 bt861.2.2.1 bt861.2.2.2.1 bt861.2.2.2.2.1 bt861.2.2.2.2.2).bind fun t915 => (if (t914 != t915) = true then (some false) else (if (bt884.2.2.2.2 != bt892.2.2.2.2) = true then (some false) else ((impl_BlockSame.f k bt884.1 bt884.2.1 bt884.2.2.1 bt884.2.2.2.1 bt892.1 bt892.2.1 bt892.2.2.1 bt892.2.2.2.1).bind fun t916 => (if t916 = true then ((impl_BlockSame.f k bt900.1 bt900.2.1 bt900.2.2.1 bt900.2.2.2.1 bt900.2.2.2.2.1 bt900.2.2.2.2.2.1 bt900.2.2.2.2.2.2.1 bt900.2.2.2.2.2.2.2).bind fun t917 => ((spec_BlockSame.f k bt900.1 bt900.2.1 bt900.2.2.1 bt900.2.2.2.1 bt900.2.2.2.2.1 bt900.2.2.2.2.2.1 bt900.2.2.2.2.2.2.1 bt900.2.2.2.2.2.2.2).bind fun t918 => (if (t917 != t918) = true then (some false) else ((impl_BlockOk.f k bt861.1 bt861.2.1 bt861.2.2.1 bt861.2.2.2.1 bt861.2.2.2.2.1 bt861.2.2.2.2.2).bind fun t919 => (if t919 = true then ((impl_ViewOf.f k bt861.2.2.1).bind fun t920 => (if t920 ≤ bt861.2.2.2.1 then (some false) else ((impl_Extends.f k bt861.2.2.1 bt861.2.2.2.2.1).bind fun t921 => (if t921 = true then ((impl_Height.f k bt861.2.2.1).bind fun t922 => ((impl_Height.f k bt861.2.2.2.2.1).bind fun t923 => (if t922 = (wrap64 (t923 + 1)) then (if bt884.2.2.2.2 = true then ((impl_BlockOk.f k bt871.1 bt871.2.1 bt884.1 bt884.2.1 bt884.2.2.1 bt884.2.2.2.1).bind fun t924 => (if t924 = true then ((impl_ViewOf.f k bt884.1).bind fun t925 => (if t925 = bt871.2.2.2.2.2.1 then ((impl_UpOf.f k bt884.1).bind fun t926 => (some (t926.toList == bt871.2.2.2.1.toList))) else (some false))) else (some false))) else (some true)) else (some false)))) else (some false))))) else (if bt884.2.2.2.2 = true then ((impl_BlockOk.f k bt871.1 bt871.2.1 bt884.1 bt884.2.1 bt884.2.2.1 bt884.2.2.2.1).bind fun t927 => (if t927 = true then ((impl_ViewOf.f k bt884.1).bind fun t928 => (if t928 = bt871.2.2.2.2.2.1 then ((impl_UpOf.f k bt884.1).bind fun t929 => (some (t929.toList == bt871.2.2.2.1.toList))) else (some false))) else (some false))) else (some true))))))) else (some false)))))))))))))
theorem laws_FnBlocks.mono : ∀ a0 k, LeO (laws_FnBlocks.f k a0) (laws_FnBlocks.f (k + 1) a0) := by
 intro a0 k
 unfold laws_FnBlocks.f
 repeat' first | (with_reducible exact impl_BlockNew.mono _ _ _ _ _ _ _ _) | (with_reducible exact impl_BlockOk.mono _ _ _ _ _ _ _) | (with_reducible exact impl_BlockSame.mono _ _ _ _ _ _ _ _ _) | (with_reducible exact impl_Extends.mono _ _ _) | (with_reducible exact impl_Height.mono _ _) | (with_reducible exact impl_UpOf.mono _ _) | (with_reducible exact impl_ViewOf.mono _ _) | (with_reducible exact spec_BlockNew.mono _ _ _ _ _ _ _ _) | (with_reducible exact spec_BlockOk.mono _ _ _ _ _ _ _) | (with_reducible exact spec_BlockSame.mono _ _ _ _ _ _ _ _ _) | (with_reducible exact spec_DrawBlockNew.mono _ _) | (with_reducible exact spec_DrawBlockOk.mono _ _) | (with_reducible exact spec_DrawBlockSame.mono _ _) | (with_reducible exact LeO.refl _) | (with_reducible exact LeO.none _) | (with_reducible refine LeO.ite ?_ ?_) | (with_reducible refine LeO.bind ?_ (fun _ => ?_))
def laws_FnBlocks.T8 : Bool × List (List Nat × List Nat) := (true, [([], []), ([], []), ([0, 1], [0, 1]), ([], []), ([], []), ([3, 4, 2], [3, 4]), ([2, 5], [2, 5]), ([6, 5], [6]), ([7], [7]), ([7], [7]), ([8, 9, 7], [7, 8, 9]), ([7, 10], [7, 10]), ([11, 7], [11]), ([12], [12]), ([12], [12]), ([13, 14, 12, 12], [12, 13, 14]), ([15, 12], [12, 15]), ([12, 16], [12, 16]), ([17, 15], [17]), ([18], [18]), ([18], [18]), ([19, 20, 18, 18], [18, 19, 20]), ([18], [18]), ([18], [18]), ([22, 23, 21, 18], [18, 22, 23]), ([21, 24, 18], [18, 21, 24]), ([18, 25], [18, 25])])
def laws_FnBlocks.B8 : List Nat := [0, 0, 3, 0, 0, 31, 63, 127, 255, 255, 1023, 2047, 4095, 8191, 8191, 32767, 65535, 131071, 262143, 524287, 524287, 2097151, 524287, 524287, 16777215, 33554431, 67108863]
theorem laws_FnBlocks.tab8 : rtab .any (opsOf Tryz.f7 8) = laws_FnBlocks.T8 := by kernel_rfl
theorem laws_FnBlocks.bits8 : waitsOk laws_FnBlocks.T8.2 laws_FnBlocks.B8 = true := by kernel_rfl
def laws_FnBlocks.T10 : Bool × List (List Nat × List Nat) := (true, [([], []), ([], []), ([0, 1], [0, 1]), ([2, 2], [2]), ([3], [3]), ([4, 3], [3, 4]), ([5, 3, 3], [3, 5]), ([3], [3]), ([7, 3], [3, 7]), ([8, 3], [3, 8]), ([6, 9, 3], [3, 6, 9]), ([10, 6, 3], [3, 10]), ([11], [11]), ([12, 11], [11, 12]), ([11], [11]), ([14, 11], [11, 14]), ([15, 11], [11, 15]), ([13, 16, 11, 11], [11, 13, 16]), ([17, 11], [11, 17]), ([11, 18, 3], [3, 11, 18]), ([19, 17, 3], [3, 19]), ([20], [20]), ([21, 20], [20, 21]), ([22, 20, 20], [20, 22]), ([20], [20]), ([24, 20], [20, 24]), ([25, 20], [20, 25]), ([26, 23, 20], [20, 26]), ([27, 20], [20, 27]), ([23, 28, 20], [20, 23, 28]), ([20, 29, 3], [3, 20, 29]), ([3, 30], [3, 30])])
def laws_FnBlocks.B10 : List Nat := [0, 0, 3, 7, 15, 31, 63, 15, 143, 399, 1023, 2047, 4095, 8191, 4095, 20479, 53247, 131071, 262143, 524287, 1048575, 2097151, 4194303, 8388607, 2097151, 18874367, 52428799, 134217727, 268435455, 536870911, 1073741823, 2147483647]
theorem laws_FnBlocks.tab10 : rtab .any (opsOf Tryz.f7 10) = laws_FnBlocks.T10 := by kernel_rfl
theorem laws_FnBlocks.bits10 : waitsOk laws_FnBlocks.T10.2 laws_FnBlocks.B10 = true := by kernel_rfl
def laws_FnBlocks.T12 : Bool × List (List Nat × List Nat) := (true, [([], []), ([0], [0]), ([1], [1]), ([2], [2]), ([2], [2]), ([3, 4, 2, 2], [2, 3, 4]), ([5, 5, 2], [2, 5]), ([6], [6]), ([7, 6], [6, 7]), ([8, 6, 6], [6, 8]), ([6], [6]), ([9, 10, 6], [6, 9, 10]), ([6, 11, 2], [2, 6, 11]), ([12, 9, 2], [2, 12]), ([13], [13]), ([14, 13], [13, 14]), ([15, 13, 13], [13, 15]), ([13], [13]), ([17, 13], [13, 17]), ([16, 18, 13], [13, 16, 18]), ([13, 19, 2], [2, 13, 19]), ([2, 20], [2, 20]), ([21, 16, 0, 1, 2, 3, 4, 5, 6, 7, 8, 9, 10, 11, 12, 13, 14, 15, 16, 17, 18, 19, 20, 21], [21])])
def laws_FnBlocks.B12 : List Nat := [0, 1, 3, 7, 7, 31, 63, 127, 255, 511, 127, 2047, 4095, 8191, 16383, 32767, 65535, 16383, 147455, 524287, 1048575, 2097151, 4194303]
theorem laws_FnBlocks.tab12 : rtab .any (opsOf Tryz.f7 12) = laws_FnBlocks.T12 := by kernel_rfl
theorem laws_FnBlocks.bits12 : waitsOk laws_FnBlocks.T12.2 laws_FnBlocks.B12 = true := by kernel_rfl
set_option maxHeartbeats 8000000 in
set_option maxRecDepth 100000 in
theorem laws_FnBlocks.calls (k : Nat) (A0 : Option Addr) (c0 : Nat) (l0 : List Int) (r : Bool) (hrt : Aside0 (r = true)) (w : World) (hr0 : Kd.C (Kd.int .u8) w A0 l0.length l0) (hc0 : l0.length ≤ c0) (h : laws_FnBlocks.f k l0 = some r) (hG : Glob w := by exact gG HG HB) :
  Calls Tryz.prog 7 #[.slice A0 l0.length c0] w fun e w' => e = .returned (.bool r) ∧ Below w.heap.size w w' := by
 have HG := Aside0.mk hG; clear hG; have hu32 := Tryz.underlying32; have hu60 := Tryz.underlying60; have hu27 := Tryz.underlying27; have HR0 := Aside0.mk hr0; have HC0 := Aside0.mk hc0; clear hr0 hc0; have HB := Aside0.mk (Below.refl w.heap.size w)
 have H : ((laws_big.f l0).bind fun t860 => (if t860 = true then (some true) else ((spec_DrawBlockOk.f k l0).bind fun bt861 => ((spec_DrawBlockNew.f k l0).bind fun bt871 => ((impl_BlockNew.f k bt871.1 bt871.2.1 bt871.2.2.1 bt871.2.2.2.1 bt871.2.2.2.2.1 bt871.2.2.2.2.2.1 bt871.2.2.2.2.2.2).bind fun bt884 => ((spec_BlockNew.f k bt871.1 bt871.2.1 bt871.2.2.1 bt871.2.2.2.1 bt871.2.2.2.2.1 bt871.2.2.2.2.2.1 bt871.2.2.2.2.2.2).bind fun bt892 => ((spec_DrawBlockSame.f k l0).bind fun bt900 => ((impl_BlockOk.f k bt861.1 bt861.2.1 bt861.2.2.1 bt861.2.2.2.1 bt861.2.2.2.2.1 bt861.2.2.2.2.2).bind fun t914 => ((spec_BlockOk.f k bt861.1 bt861.2.1 bt861.2.2.1 bt861.2.2.2.1 bt861.2.2.2.2.1 bt861.2.2.2.2.2).bind fun t915 => (if (t914 != t915) = true then (some false) else (if (bt884.2.2.2.2 != bt892.2.2.2.2) = true then (some false) else ((impl_BlockSame.f k bt884.1 bt884.2.1 bt884.2.2.1 bt884.2.2.2.1 bt892.1 bt892.2.1 bt892.2.2.1 bt892.2.2.2.1).bind fun t916 => (if t916 = true then ((impl_BlockSame.f k bt900.1 bt900.2.1 bt900.2.2.1 bt900.2.2.2.1 bt900.2.2.2.2.1 bt900.2.2.2.2.2.1 bt900.2.2.2.2.2.2.1 bt900.2.2.2.2.2.2.2).bind fun t917 => ((spec_BlockSame.f k bt900.1 bt900.2.1 bt900.2.2.1 bt900.2.2.2.1 bt900.2.2.2.2.1 bt900.2.2.2.2.2.1 bt900.2.2.2.2.2.2.1 bt900.2.2.2.2.2.2.2).bind fun t918 => (if (t917 != t918) = true then (some false) else ((impl_BlockOk.f k bt861.1 bt861.2.1 bt861.2.2.1 bt861.2.2.2.1 bt861.2.2.2.2.1 bt861.2.2.2.2.2).bind fun t919 => (if t919 = true then ((impl_ViewOf.f k bt861.2.2.1).bind fun t920 => (if t920 ≤ bt861.2.2.2.1 then (some false) else ((impl_Extends.f k bt861.2.2.1 bt861.2.2.2.2.1).bind fun t921 => (if t921 = true then ((impl_Height.f k bt861.2.2.1).bind fun t922 => ((impl_Height.f k bt861.2.2.2.2.1).bind fun t923 => (if t922 = (wrap64 (t923 + 1)) then (if bt884.2.2.2.2 = true then ((impl_BlockOk.f k bt871.1 bt871.2.1 bt884.1 bt884.2.1 bt884.2.2.1 bt884.2.2.2.1).bind fun t924 => (if t924 = true then ((impl_ViewOf.f k bt884.1).bind fun t925 => (if t925 = bt871.2.2.2.2.2.1 then ((impl_UpOf.f k bt884.1).bind fun t926 => (some (t926.toList == bt871.2.2.2.1.toList))) else (some false))) else (some false))) else (some true)) else (some false)))) else (some false))))) else (if bt884.2.2.2.2 = true then ((impl_BlockOk.f k bt871.1 bt871.2.1 bt884.1 bt884.2.1 bt884.2.2.1 bt884.2.2.2.1).bind fun t927 => (if t927 = true then ((impl_ViewOf.f k bt884.1).bind fun t928 => (if t928 = bt871.2.2.2.2.2.1 then ((impl_UpOf.f k bt884.1).bind fun t929 => (some (t929.toList == bt871.2.2.2.1.toList))) else (some false))) else (some false))) else (some true))))))) else (some false)))))))))))))) = some r := h
 clear h; obtain ⟨t860, A20, H⟩ := Option.bind_eq_some_iff.mp H
 try dsimp only at H
 have A2 := Aside0.mk A20; clear A20
 by_cases c3 : t860 = true
 ·
  subst c3
  rw [if_pos rfl] at H
  obtain rfl := Option.some.inj H
  go_enter Tryz.func7, Tryz.ntmps7
  go_wp2_with (first | ((with_reducible refine gate_callee (f := 29) rfl ?_); refine gD (some 16) Tryz.func29 (laws_big.calls (hr0 := pC HR0) (hc0 := HC0.out) (w := _) (h := A2.out)) ?_; intro w4 _))
  go_ret
  exact ⟨y0_18, UpW.out⟩
 replace c3 := Bool.eq_false_iff.mpr c3; subst c3
 rw [if_neg (show ¬ (false = true) by decide)] at H
 obtain ⟨⟨t861, t862, t863, t864, t865, t866⟩, A50, H⟩ := Option.bind_eq_some_iff.mp H
 try dsimp only at H
 have A5 := Aside0.mk A50; clear A50; obtain ⟨⟨t871, t872, t873, t874, t875, t878, t879⟩, A60, H⟩ := Option.bind_eq_some_iff.mp H
 try dsimp only at H
 have A6 := Aside0.mk A60; clear A60; obtain ⟨⟨t884, t885, t886, t887, t890⟩, A70, H⟩ := Option.bind_eq_some_iff.mp H
 try dsimp only at H
 have A7 := Aside0.mk A70; clear A70; obtain ⟨⟨t892, t893, t894, t895, t898⟩, A80, H⟩ := Option.bind_eq_some_iff.mp H
 try dsimp only at H
 have A8 := Aside0.mk A80; clear A80; obtain ⟨⟨t900, t901, t902, t903, t906, t907, t908, t909⟩, A90, H⟩ := Option.bind_eq_some_iff.mp H
 try dsimp only at H
 have A9 := Aside0.mk A90; clear A90; obtain ⟨t914, A100, H⟩ := Option.bind_eq_some_iff.mp H
 try dsimp only at H
 have A10 := Aside0.mk A100; clear A100; obtain ⟨t915, A110, H⟩ := Option.bind_eq_some_iff.mp H
 try dsimp only at H
 have A11 := Aside0.mk A110; clear A110
 by_cases c12 : (t914 != t915) = true
 ·
  rw [if_pos c12] at H
  have c12b0 : (t914 != t915) = true := c12
  (try (have c12b1 : decide (t914 = t915) = false := by simpa using c12))
  (try (have c12b2 : (t914 == t915) = false := by simpa using c12))
  (try (have c12b3 : ¬ (t914 = t915) := by simpa using c12))
  clear c12
  exact absurd (hrt.out.symm.trans (Option.some.inj H).symm) (by decide)
 rw [if_neg c12] at H
 have c12b0 : (t914 != t915) = false := by simpa using c12
 (try (have c12b1 : decide (t914 = t915) = true := by simpa using c12))
 (try (have c12b2 : (t914 == t915) = true := by simpa using c12))
 clear c12
 by_cases c13 : (t890 != t898) = true
 ·
  rw [if_pos c13] at H
  have c13b0 : (t890 != t898) = true := c13
  (try (have c13b1 : decide (t890 = t898) = false := by simpa using c13))
  (try (have c13b2 : (t890 == t898) = false := by simpa using c13))
  (try (have c13b3 : ¬ (t890 = t898) := by simpa using c13))
  clear c13
  exact absurd (hrt.out.symm.trans (Option.some.inj H).symm) (by decide)
 rw [if_neg c13] at H
 have c13b0 : (t890 != t898) = false := by simpa using c13
 (try (have c13b1 : decide (t890 = t898) = true := by simpa using c13))
 (try (have c13b2 : (t890 == t898) = true := by simpa using c13))
 clear c13; obtain ⟨t916, A140, H⟩ := Option.bind_eq_some_iff.mp H
 try dsimp only at H
 have A14 := Aside0.mk A140; clear A140
 by_cases c15 : t916 = true
 ·
  subst c15
  rw [if_pos rfl] at H
  obtain ⟨t917, A160, H⟩ := Option.bind_eq_some_iff.mp H
  try dsimp only at H
  have A16 := Aside0.mk A160; clear A160; obtain ⟨t918, A170, H⟩ := Option.bind_eq_some_iff.mp H
  try dsimp only at H
  have A17 := Aside0.mk A170; clear A170
  by_cases c18 : (t917 != t918) = true
  ·
   rw [if_pos c18] at H
   have c18b0 : (t917 != t918) = true := c18
   (try (have c18b1 : decide (t917 = t918) = false := by simpa using c18))
   (try (have c18b2 : (t917 == t918) = false := by simpa using c18))
   (try (have c18b3 : ¬ (t917 = t918) := by simpa using c18))
   clear c18
   exact absurd (hrt.out.symm.trans (Option.some.inj H).symm) (by decide)
  rw [if_neg c18] at H
  have c18b0 : (t917 != t918) = false := by simpa using c18
  (try (have c18b1 : decide (t917 = t918) = true := by simpa using c18))
  (try (have c18b2 : (t917 == t918) = true := by simpa using c18))
  clear c18; obtain ⟨t919, A190, H⟩ := Option.bind_eq_some_iff.mp H
  try dsimp only at H
  have A19 := Aside0.mk A190; clear A190
  by_cases c20 : t919 = true
  ·
   subst c20
   rw [if_pos rfl] at H
   obtain ⟨t920, A210, H⟩ := Option.bind_eq_some_iff.mp H
   try dsimp only at H
   have A21 := Aside0.mk A210; clear A210
   by_cases c22 : t920 ≤ t864
   ·
    rw [if_pos c22] at H
    have c22b0 : decide (t920 ≤ t864) = true := decide_eq_true c22; clear c22
    exact absurd (hrt.out.symm.trans (Option.some.inj H).symm) (by decide)
   rw [if_neg c22] at H
   have c22b0 : decide (t920 ≤ t864) = false := decide_eq_false c22; clear c22; obtain ⟨t921, A230, H⟩ := Option.bind_eq_some_iff.mp H
   try dsimp only at H
   have A23 := Aside0.mk A230; clear A230
   by_cases c24 : t921 = true
   rotate_left
   ·
    replace c24 := Bool.eq_false_iff.mpr c24; subst c24
    rw [if_neg (show ¬ (false = true) by decide)] at H
    exact absurd (hrt.out.symm.trans (Option.some.inj H).symm) (by decide)
   subst c24
   rw [if_pos rfl] at H
   obtain ⟨t922, A250, H⟩ := Option.bind_eq_some_iff.mp H
   try dsimp only at H
   have A25 := Aside0.mk A250; clear A250; obtain ⟨t923, A260, H⟩ := Option.bind_eq_some_iff.mp H
   try dsimp only at H
   have A26 := Aside0.mk A260; clear A260
   by_cases c27 : t922 = (wrap64 (t923 + 1))
   rotate_left
   ·
    rw [if_neg c27] at H
    have c27b0 : (t922 == (wrap64 (t923 + 1))) = false := beq_eq_false_iff_ne.mpr c27; have c27b1 : (t922 != (wrap64 (t923 + 1))) = true := bne_iff_ne.mpr c27
    exact absurd (hrt.out.symm.trans (Option.some.inj H).symm) (by decide)
   rw [if_pos c27] at H
   have c27b0 : (t922 == (wrap64 (t923 + 1))) = true := beq_iff_eq.mpr c27; have c27b1 : (t922 != (wrap64 (t923 + 1))) = false := bne_eq_false_iff_eq.mpr c27; clear c27
   by_cases c28 : t890 = true
   ·
    subst c28
    rw [if_pos rfl] at H
    obtain ⟨t924, A290, H⟩ := Option.bind_eq_some_iff.mp H
    try dsimp only at H
    have A29 := Aside0.mk A290; clear A290
    by_cases c30 : t924 = true
    rotate_left
    ·
     replace c30 := Bool.eq_false_iff.mpr c30; subst c30
     rw [if_neg (show ¬ (false = true) by decide)] at H
     exact absurd (hrt.out.symm.trans (Option.some.inj H).symm) (by decide)
    subst c30
    rw [if_pos rfl] at H
    obtain ⟨t925, A310, H⟩ := Option.bind_eq_some_iff.mp H
    try dsimp only at H
    have A31 := Aside0.mk A310; clear A310
    by_cases c32 : t925 = t878
    rotate_left
    ·
     rw [if_neg c32] at H
     have c32b0 : (t925 == t878) = false := beq_eq_false_iff_ne.mpr c32; have c32b1 : (t925 != t878) = true := bne_iff_ne.mpr c32
     exact absurd (hrt.out.symm.trans (Option.some.inj H).symm) (by decide)
    rw [if_pos c32] at H
    have c32b0 : (t925 == t878) = true := beq_iff_eq.mpr c32; have c32b1 : (t925 != t878) = false := bne_eq_false_iff_eq.mpr c32; clear c32; obtain ⟨t926, A330, H⟩ := Option.bind_eq_some_iff.mp H
    try dsimp only at H
    have A33 := Aside0.mk A330; clear A330; obtain rfl := Option.some.inj H
    go_enter Tryz.func7, Tryz.ntmps7
    try go_wp2_with (first | ((with_reducible refine gate_callee (f := 29) rfl ?_); refine gD (some 16) Tryz.func29 (laws_big.calls (hr0 := pC HR0) (hc0 := HC0.out) (w := _) (h := A2.out)) ?_; intro w34 _) | ((with_reducible refine gate_callee (f := 74) rfl ?_); refine gC1 (some 19) Tryz.func74 (spec_DrawBlockOk.calls (hr0 := pC HR0) (hc0 := HC0.out) (w := _) (h := A5.out)) ?_; intro Ao867 co867 w35 _ HO868) | ((with_reducible refine gd 3 ?_); refine bL 3 #[.int .i64 0, .int .i64 0] 32 ?_; intro gb869 w36 _ _ _) | ((with_reducible refine gd 4 ?_); refine bL 4 #[.string (⟨#[]⟩ : ByteArray), .int .i64 0, .string (⟨#[]⟩ : ByteArray), .slice none 0 0] 60 ?_; intro gb870 w37 _ _ _) | ((with_reducible refine gate_callee (f := 75) rfl ?_); refine gC2 (some 24) Tryz.func75 (spec_DrawBlockNew.calls (hr0 := pC HR0) (hc0 := HC0.out) (w := _) (h := A6.out)) ?_; intro Ao876 co876 Ao880 co880 w38 _ HO877 HO881) | ((with_reducible refine gd 5 ?_); refine bL 5 #[.int .i64 0, .int .i64 0] 32 ?_; intro gb882 w39 _ _ _) | ((with_reducible refine gd 6 ?_); refine bL 6 #[.int .i64 0, .string (⟨#[]⟩ : ByteArray), .slice none 0 0] 27 ?_; intro gb883 w40 _ _ _) | ((with_reducible refine gate_callee (f := 76) rfl ?_); refine gC1 (some 34) Tryz.func76 (impl_BlockNew.calls (hr1_2 := rC HO877) (hc1_2 := rL HO877) (hr3 := rC HO881) (hc3 := rL HO881) (w := _) (h := A7.out)) ?_; intro Ao888 co888 w41 _ HO889) | ((with_reducible refine gd 9 ?_); refine bL 9 #[.string (⟨#[]⟩ : ByteArray), .int .i64 0, .string (⟨#[]⟩ : ByteArray), .slice none 0 0] 60 ?_; intro gb891 w42 _ _ _) | ((with_reducible refine gate_callee (f := 77) rfl ?_); refine gC1 (some 42) Tryz.func77 (spec_BlockNew.calls (hr1_2 := rC HO877) (hc1_2 := rL HO877) (hr3 := rC HO881) (hc3 := rL HO881) (w := _) (h := A8.out)) ?_; intro Ao896 co896 w43 _ HO897) | ((with_reducible refine gd 11 ?_); refine bL 11 #[.string (⟨#[]⟩ : ByteArray), .int .i64 0, .string (⟨#[]⟩ : ByteArray), .slice none 0 0] 60 ?_; intro gb899 w44 _ _ _) | ((with_reducible refine gate_callee (f := 78) rfl ?_); refine gC2 (some 47) Tryz.func78 (spec_DrawBlockSame.calls (hr0 := pC HR0) (hc0 := HC0.out) (w := _) (h := A9.out)) ?_; intro Ao904 co904 Ao910 co910 w45 _ HO905 HO911) | ((with_reducible refine gd 13 ?_); refine bL 13 #[.string (⟨#[]⟩ : ByteArray), .int .i64 0, .string (⟨#[]⟩ : ByteArray), .slice none 0 0] 60 ?_; intro gb912 w46 _ _ _) | ((with_reducible refine gd 14 ?_); refine bL 14 #[.string (⟨#[]⟩ : ByteArray), .int .i64 0, .string (⟨#[]⟩ : ByteArray), .slice none 0 0] 60 ?_; intro gb913 w47 _ _ _))
    refine sB [] laws_FnBlocks.tab8 laws_FnBlocks.bits8 ?_; intro w48 _ HT_ HW_
    refine tB 0 (some 50) (bz 27 1) HT_ HW_ ?_
    refine tB 1 (some 51) (bz 27 3) HT_ HW_ ?_
    refine tB 3 (some 53) (bz 27 11) HT_ HW_ ?_
    refine tB 4 (some 54) (bz 27 27) HT_ HW_ ?_
    refine o1 2 (some 52) (bz 27 31) HT_ rfl (kC Tryz.func79 (impl_BlockOk.calls (hr1_3 := rC HO868) (hc1_3 := rL HO868) (w := _) (h := A10.out)) ?_); intro w49 _
    refine nA (some 52) ?_
    refine o1 5 (some 55) (bz 27 63) HT_ rfl (kC Tryz.func80 (spec_BlockOk.calls (hr1_3 := rC HO868) (hc1_3 := rL HO868) (w := _) (h := A11.out)) ?_); intro w50 _
    refine nA (some 55) ?_
    refine pA 6 (some 56) (bz 27 127) HT_ ?_
    refine pA 7 (some 57) (bz 27 255) HT_ ?_
    refine pA 8 (some 58) (bz 27 511) HT_ ?_
    refine pA 9 (some 59) (bz 27 1023) HT_ ?_
    refine pA 10 (some 60) (bz 27 2047) HT_ ?_
    refine pA 11 (some 61) (bz 27 4095) HT_ ?_
    refine pA 12 (some 62) (bz 27 0x1fff) HT_ ?_
    refine tB 13 (some 63) (bz 27 0x3fff) HT_ HW_ ?_
    refine tB 14 (some 64) (bz 27 0x7fff) HT_ HW_ ?_
    refine o1 15 (some 65) (bz 27 0xffff) HT_ rfl (kC Tryz.func81 (impl_BlockSame.calls (hr0_3 := rC HO889) (hc0_3 := rL HO889) (hr1_3 := rC HO897) (hc1_3 := rL HO897) (w := _) (h := A14.out)) ?_); intro w51 _
    refine nA (some 65) ?_
    refine pA 16 (some 66) (bz 27 0x1ffff) HT_ ?_
    refine pA 17 (some 67) (bz 27 0x3ffff) HT_ ?_
    refine pA 18 (some 68) (bz 27 0x7ffff) HT_ ?_
    refine tB 19 (some 69) (bz 27 0xfffff) HT_ HW_ ?_
    refine tB 20 (some 70) (bz 27 0x1fffff) HT_ HW_ ?_
    refine tB 22 (some 72) (bz 27 0x5fffff) HT_ HW_ ?_
    refine tB 23 (some 73) (bz 27 0xdfffff) HT_ HW_ ?_
    refine o1 21 (some 71) (bz 27 0xffffff) HT_ rfl (kC Tryz.func81 (impl_BlockSame.calls (hr0_3 := rC HO905) (hc0_3 := rL HO905) (hr1_3 := rC HO911) (hc1_3 := rL HO911) (w := _) (h := A16.out)) ?_); intro w52 _
    refine nA (some 71) ?_
    refine o1 24 (some 74) (bz 27 0x1ffffff) HT_ rfl (kC Tryz.func82 (spec_BlockSame.calls (hr0_3 := rC HO905) (hc0_3 := rL HO905) (hr1_3 := rC HO911) (hc1_3 := rL HO911) (w := _) (h := A17.out)) ?_); intro w53 _
    refine nA (some 74) ?_
    refine pA 25 (some 75) (bz 27 0x3ffffff) HT_ ?_
    refine pA 26 (some 76) (bz 27 0x7ffffff) HT_ ?_
    refine done_ (done_of HT_.out (by kernel_rfl)) ?_
    try go_wp2
    refine sB [] laws_FnBlocks.tab10 laws_FnBlocks.bits10 ?_; intro w54 _ HT_ HW_
    refine tB 0 (some 77) (bz 32 1) HT_ HW_ ?_
    refine tB 1 (some 78) (bz 32 3) HT_ HW_ ?_
    refine o1 2 (some 79) (bz 32 7) HT_ rfl (kC Tryz.func79 (impl_BlockOk.calls (hr1_3 := rC HO868) (hc1_3 := rL HO868) (w := _) (h := A19.out)) ?_); intro w55 _
    refine nA (some 79) ?_
    refine pA 3 (some 80) (bz 32 15) HT_ ?_
    refine pA 4 (some 81) (bz 32 31) HT_ ?_
    refine tB 5 (some 82) (bz 32 63) HT_ HW_ ?_
    refine pA 7 (some 84) (bz 32 191) HT_ ?_
    refine pA 8 (some 85) (bz 32 447) HT_ ?_
    refine tB 9 (some 86) (bz 32 959) HT_ HW_ ?_
    refine o1 6 (some 83) (bz 32 1023) HT_ rfl (kC Tryz.func83 (impl_ViewOf.calls (w := _) (h := A21.out)) ?_); intro w56 _
    refine nA (some 83) ?_
    refine pA 10 (some 87) (bz 32 2047) HT_ ?_
    refine pA 11 (some 88) (bz 32 4095) HT_ ?_
    refine pA 12 (some 89) (bz 32 0x1fff) HT_ ?_
    refine tB 13 (some 90) (bz 32 0x3fff) HT_ HW_ ?_
    refine pA 14 (some 91) (bz 32 0x7fff) HT_ ?_
    refine pA 15 (some 92) (bz 32 0xffff) HT_ ?_
    refine tB 16 (some 93) (bz 32 0x1ffff) HT_ HW_ ?_
    refine o1 17 (some 94) (bz 32 0x3ffff) HT_ rfl (kC Tryz.func47 (impl_Extends.calls (w := _) (h := A23.out)) ?_); intro w57 _
    refine nA (some 94) ?_
    refine pA 18 (some 95) (bz 32 0x7ffff) HT_ ?_
    refine pA 19 (some 96) (bz 32 0xfffff) HT_ ?_
    refine pA 20 (some 97) (bz 32 0x1fffff) HT_ ?_
    refine pA 21 (some 98) (bz 32 0x3fffff) HT_ ?_
    refine tB 22 (some 99) (bz 32 0x7fffff) HT_ HW_ ?_
    refine pA 24 (some 101) (bz 32 0x17fffff) HT_ ?_
    refine pA 25 (some 102) (bz 32 0x37fffff) HT_ ?_
    refine tB 26 (some 103) (bz 32 0x77fffff) HT_ HW_ ?_
    refine o1 23 (some 100) (bz 32 0x7ffffff) HT_ rfl (kC Tryz.func48 (impl_Height.calls (w := _) (h := A25.out)) ?_); intro w58 _
    refine nA (some 100) ?_
    refine o1 27 (some 104) (bz 32 0xfffffff) HT_ rfl (kC Tryz.func48 (impl_Height.calls (w := _) (h := A26.out)) ?_); intro w59 _
    refine nA (some 104) ?_
    refine pA 28 (some 105) (bz 32 0x1fffffff) HT_ ?_
    refine pA 29 (some 106) (bz 32 0x3fffffff) HT_ ?_
    refine pA 30 (some 107) (bz 32 0x7fffffff) HT_ ?_
    refine pA 31 (some 108) (bz 32 0xffffffff) HT_ ?_
    refine done_ (done_of HT_.out (by kernel_rfl)) ?_
    try go_wp2
    refine sB [] laws_FnBlocks.tab12 laws_FnBlocks.bits12 ?_; intro w60 _ HT_ HW_
    refine pA 0 (some 109) (bz 23 1) HT_ ?_
    refine pA 1 (some 110) (bz 23 3) HT_ ?_
    refine pA 2 (some 111) (bz 23 7) HT_ ?_
    refine tB 3 (some 112) (bz 23 15) HT_ HW_ ?_
    refine tB 4 (some 113) (bz 23 31) HT_ HW_ ?_
    refine o1 5 (some 114) (bz 23 63) HT_ rfl (kC Tryz.func79 (impl_BlockOk.calls (hr1_3 := rC HO889) (hc1_3 := rL HO889) (w := _) (h := A29.out)) ?_); intro w61 _
    refine nA (some 114) ?_
    refine pA 6 (some 115) (bz 23 127) HT_ ?_
    refine pA 7 (some 116) (bz 23 255) HT_ ?_
    refine tB 8 (some 117) (bz 23 511) HT_ HW_ ?_
    refine pA 10 (some 119) (bz 23 1535) HT_ ?_
    refine o1 9 (some 118) (bz 23 2047) HT_ rfl (kC Tryz.func83 (impl_ViewOf.calls (w := _) (h := A31.out)) ?_); intro w62 _
    refine nA (some 118) ?_
    refine pA 11 (some 120) (bz 23 4095) HT_ ?_
    refine pA 12 (some 121) (bz 23 0x1fff) HT_ ?_
    refine pA 13 (some 122) (bz 23 0x3fff) HT_ ?_
    refine pA 14 (some 123) (bz 23 0x7fff) HT_ ?_
    refine tB 15 (some 124) (bz 23 0xffff) HT_ HW_ ?_
    refine pA 17 (some 126) (bz 23 0x2ffff) HT_ ?_
    refine tB 18 (some 127) (bz 23 0x6ffff) HT_ HW_ ?_
    refine o1 16 (some 125) (bz 23 0x7ffff) HT_ rfl (kC Tryz.func84 (impl_UpOf.calls (w := _) (h := A33.out)) ?_); intro w63 _
    refine nA (some 125) ?_
    refine pA 19 (some 128) (bz 23 0xfffff) HT_ ?_
    refine pA 20 (some 129) (bz 23 0x1fffff) HT_ ?_
    refine pA 21 (some 130) (bz 23 0x3fffff) HT_ ?_
    refine pA 22 (some 2) (bz 23 0x7fffff) HT_ ?_
    refine done_ (done_of HT_.out (by kernel_rfl)) ?_
    try go_wp2
    go_ret
    exact ⟨y0_18, UpW.out⟩
   replace c28 := Bool.eq_false_iff.mpr c28; subst c28
   rw [if_neg (show ¬ (false = true) by decide)] at H
   obtain rfl := Option.some.inj H
   go_enter Tryz.func7, Tryz.ntmps7
   try go_wp2_with (first | ((with_reducible refine gate_callee (f := 29) rfl ?_); refine gD (some 16) Tryz.func29 (laws_big.calls (hr0 := pC HR0) (hc0 := HC0.out) (w := _) (h := A2.out)) ?_; intro w64 _) | ((with_reducible refine gate_callee (f := 74) rfl ?_); refine gC1 (some 19) Tryz.func74 (spec_DrawBlockOk.calls (hr0 := pC HR0) (hc0 := HC0.out) (w := _) (h := A5.out)) ?_; intro Ao867 co867 w65 _ HO868) | ((with_reducible refine gd 3 ?_); refine bL 3 #[.int .i64 0, .int .i64 0] 32 ?_; intro gb869 w66 _ _ _) | ((with_reducible refine gd 4 ?_); refine bL 4 #[.string (⟨#[]⟩ : ByteArray), .int .i64 0, .string (⟨#[]⟩ : ByteArray), .slice none 0 0] 60 ?_; intro gb870 w67 _ _ _) | ((with_reducible refine gate_callee (f := 75) rfl ?_); refine gC2 (some 24) Tryz.func75 (spec_DrawBlockNew.calls (hr0 := pC HR0) (hc0 := HC0.out) (w := _) (h := A6.out)) ?_; intro Ao876 co876 Ao880 co880 w68 _ HO877 HO881) | ((with_reducible refine gd 5 ?_); refine bL 5 #[.int .i64 0, .int .i64 0] 32 ?_; intro gb882 w69 _ _ _) | ((with_reducible refine gd 6 ?_); refine bL 6 #[.int .i64 0, .string (⟨#[]⟩ : ByteArray), .slice none 0 0] 27 ?_; intro gb883 w70 _ _ _) | ((with_reducible refine gate_callee (f := 76) rfl ?_); refine gC1 (some 34) Tryz.func76 (impl_BlockNew.calls (hr1_2 := rC HO877) (hc1_2 := rL HO877) (hr3 := rC HO881) (hc3 := rL HO881) (w := _) (h := A7.out)) ?_; intro Ao888 co888 w71 _ HO889) | ((with_reducible refine gd 9 ?_); refine bL 9 #[.string (⟨#[]⟩ : ByteArray), .int .i64 0, .string (⟨#[]⟩ : ByteArray), .slice none 0 0] 60 ?_; intro gb891 w72 _ _ _) | ((with_reducible refine gate_callee (f := 77) rfl ?_); refine gC1 (some 42) Tryz.func77 (spec_BlockNew.calls (hr1_2 := rC HO877) (hc1_2 := rL HO877) (hr3 := rC HO881) (hc3 := rL HO881) (w := _) (h := A8.out)) ?_; intro Ao896 co896 w73 _ HO897) | ((with_reducible refine gd 11 ?_); refine bL 11 #[.string (⟨#[]⟩ : ByteArray), .int .i64 0, .string (⟨#[]⟩ : ByteArray), .slice none 0 0] 60 ?_; intro gb899 w74 _ _ _) | ((with_reducible refine gate_callee (f := 78) rfl ?_); refine gC2 (some 47) Tryz.func78 (spec_DrawBlockSame.calls (hr0 := pC HR0) (hc0 := HC0.out) (w := _) (h := A9.out)) ?_; intro Ao904 co904 Ao910 co910 w75 _ HO905 HO911) | ((with_reducible refine gd 13 ?_); refine bL 13 #[.string (⟨#[]⟩ : ByteArray), .int .i64 0, .string (⟨#[]⟩ : ByteArray), .slice none 0 0] 60 ?_; intro gb912 w76 _ _ _) | ((with_reducible refine gd 14 ?_); refine bL 14 #[.string (⟨#[]⟩ : ByteArray), .int .i64 0, .string (⟨#[]⟩ : ByteArray), .slice none 0 0] 60 ?_; intro gb913 w77 _ _ _))
   refine sB [] laws_FnBlocks.tab8 laws_FnBlocks.bits8 ?_; intro w78 _ HT_ HW_
   refine tB 0 (some 50) (bz 27 1) HT_ HW_ ?_
   refine tB 1 (some 51) (bz 27 3) HT_ HW_ ?_
   refine tB 3 (some 53) (bz 27 11) HT_ HW_ ?_
   refine tB 4 (some 54) (bz 27 27) HT_ HW_ ?_
   refine o1 2 (some 52) (bz 27 31) HT_ rfl (kC Tryz.func79 (impl_BlockOk.calls (hr1_3 := rC HO868) (hc1_3 := rL HO868) (w := _) (h := A10.out)) ?_); intro w79 _
   refine nA (some 52) ?_
   refine o1 5 (some 55) (bz 27 63) HT_ rfl (kC Tryz.func80 (spec_BlockOk.calls (hr1_3 := rC HO868) (hc1_3 := rL HO868) (w := _) (h := A11.out)) ?_); intro w80 _
   refine nA (some 55) ?_
   refine pA 6 (some 56) (bz 27 127) HT_ ?_
   refine pA 7 (some 57) (bz 27 255) HT_ ?_
   refine pA 8 (some 58) (bz 27 511) HT_ ?_
   refine pA 9 (some 59) (bz 27 1023) HT_ ?_
   refine pA 10 (some 60) (bz 27 2047) HT_ ?_
   refine pA 11 (some 61) (bz 27 4095) HT_ ?_
   refine pA 12 (some 62) (bz 27 0x1fff) HT_ ?_
   refine tB 13 (some 63) (bz 27 0x3fff) HT_ HW_ ?_
   refine tB 14 (some 64) (bz 27 0x7fff) HT_ HW_ ?_
   refine o1 15 (some 65) (bz 27 0xffff) HT_ rfl (kC Tryz.func81 (impl_BlockSame.calls (hr0_3 := rC HO889) (hc0_3 := rL HO889) (hr1_3 := rC HO897) (hc1_3 := rL HO897) (w := _) (h := A14.out)) ?_); intro w81 _
   refine nA (some 65) ?_
   refine pA 16 (some 66) (bz 27 0x1ffff) HT_ ?_
   refine pA 17 (some 67) (bz 27 0x3ffff) HT_ ?_
   refine pA 18 (some 68) (bz 27 0x7ffff) HT_ ?_
   refine tB 19 (some 69) (bz 27 0xfffff) HT_ HW_ ?_
   refine tB 20 (some 70) (bz 27 0x1fffff) HT_ HW_ ?_
   refine tB 22 (some 72) (bz 27 0x5fffff) HT_ HW_ ?_
   refine tB 23 (some 73) (bz 27 0xdfffff) HT_ HW_ ?_
   refine o1 21 (some 71) (bz 27 0xffffff) HT_ rfl (kC Tryz.func81 (impl_BlockSame.calls (hr0_3 := rC HO905) (hc0_3 := rL HO905) (hr1_3 := rC HO911) (hc1_3 := rL HO911) (w := _) (h := A16.out)) ?_); intro w82 _
   refine nA (some 71) ?_
   refine o1 24 (some 74) (bz 27 0x1ffffff) HT_ rfl (kC Tryz.func82 (spec_BlockSame.calls (hr0_3 := rC HO905) (hc0_3 := rL HO905) (hr1_3 := rC HO911) (hc1_3 := rL HO911) (w := _) (h := A17.out)) ?_); intro w83 _
   refine nA (some 74) ?_
   refine pA 25 (some 75) (bz 27 0x3ffffff) HT_ ?_
   refine pA 26 (some 76) (bz 27 0x7ffffff) HT_ ?_
   refine done_ (done_of HT_.out (by kernel_rfl)) ?_
   try go_wp2
   refine sB [] laws_FnBlocks.tab10 laws_FnBlocks.bits10 ?_; intro w84 _ HT_ HW_
   refine tB 0 (some 77) (bz 32 1) HT_ HW_ ?_
   refine tB 1 (some 78) (bz 32 3) HT_ HW_ ?_
   refine o1 2 (some 79) (bz 32 7) HT_ rfl (kC Tryz.func79 (impl_BlockOk.calls (hr1_3 := rC HO868) (hc1_3 := rL HO868) (w := _) (h := A19.out)) ?_); intro w85 _
   refine nA (some 79) ?_
   refine pA 3 (some 80) (bz 32 15) HT_ ?_
   refine pA 4 (some 81) (bz 32 31) HT_ ?_
   refine tB 5 (some 82) (bz 32 63) HT_ HW_ ?_
   refine pA 7 (some 84) (bz 32 191) HT_ ?_
   refine pA 8 (some 85) (bz 32 447) HT_ ?_
   refine tB 9 (some 86) (bz 32 959) HT_ HW_ ?_
   refine o1 6 (some 83) (bz 32 1023) HT_ rfl (kC Tryz.func83 (impl_ViewOf.calls (w := _) (h := A21.out)) ?_); intro w86 _
   refine nA (some 83) ?_
   refine pA 10 (some 87) (bz 32 2047) HT_ ?_
   refine pA 11 (some 88) (bz 32 4095) HT_ ?_
   refine pA 12 (some 89) (bz 32 0x1fff) HT_ ?_
   refine tB 13 (some 90) (bz 32 0x3fff) HT_ HW_ ?_
   refine pA 14 (some 91) (bz 32 0x7fff) HT_ ?_
   refine pA 15 (some 92) (bz 32 0xffff) HT_ ?_
   refine tB 16 (some 93) (bz 32 0x1ffff) HT_ HW_ ?_
   refine o1 17 (some 94) (bz 32 0x3ffff) HT_ rfl (kC Tryz.func47 (impl_Extends.calls (w := _) (h := A23.out)) ?_); intro w87 _
   refine nA (some 94) ?_
   refine pA 18 (some 95) (bz 32 0x7ffff) HT_ ?_
   refine pA 19 (some 96) (bz 32 0xfffff) HT_ ?_
   refine pA 20 (some 97) (bz 32 0x1fffff) HT_ ?_
   refine pA 21 (some 98) (bz 32 0x3fffff) HT_ ?_
   refine tB 22 (some 99) (bz 32 0x7fffff) HT_ HW_ ?_
   refine pA 24 (some 101) (bz 32 0x17fffff) HT_ ?_
   refine pA 25 (some 102) (bz 32 0x37fffff) HT_ ?_
   refine tB 26 (some 103) (bz 32 0x77fffff) HT_ HW_ ?_
   refine o1 23 (some 100) (bz 32 0x7ffffff) HT_ rfl (kC Tryz.func48 (impl_Height.calls (w := _) (h := A25.out)) ?_); intro w88 _
   refine nA (some 100) ?_
   refine o1 27 (some 104) (bz 32 0xfffffff) HT_ rfl (kC Tryz.func48 (impl_Height.calls (w := _) (h := A26.out)) ?_); intro w89 _
   refine nA (some 104) ?_
   refine pA 28 (some 105) (bz 32 0x1fffffff) HT_ ?_
   refine pA 29 (some 106) (bz 32 0x3fffffff) HT_ ?_
   refine pA 30 (some 107) (bz 32 0x7fffffff) HT_ ?_
   refine pA 31 (some 108) (bz 32 0xffffffff) HT_ ?_
   refine done_ (done_of HT_.out (by kernel_rfl)) ?_
   try go_wp2
   refine sB [] laws_FnBlocks.tab12 laws_FnBlocks.bits12 ?_; intro w90 _ HT_ HW_
   refine pA 0 (some 109) (bz 23 1) HT_ ?_
   refine pA 1 (some 110) (bz 23 3) HT_ ?_
   refine pA 2 (some 111) (bz 23 7) HT_ ?_
   refine pU 3 (some 112) (bz 23 15) HT_ ?_
   refine pU 4 (some 113) (bz 23 31) HT_ ?_
   refine pU 5 (some 114) (bz 23 63) HT_ ?_
   refine pU 6 (some 115) (bz 23 127) HT_ ?_
   refine pU 7 (some 116) (bz 23 255) HT_ ?_
   refine pU 8 (some 117) (bz 23 511) HT_ ?_
   refine pU 9 (some 118) (bz 23 1023) HT_ ?_
   refine pU 10 (some 119) (bz 23 2047) HT_ ?_
   refine pU 11 (some 120) (bz 23 4095) HT_ ?_
   refine pU 12 (some 121) (bz 23 0x1fff) HT_ ?_
   refine pU 13 (some 122) (bz 23 0x3fff) HT_ ?_
   refine pU 14 (some 123) (bz 23 0x7fff) HT_ ?_
   refine pU 15 (some 124) (bz 23 0xffff) HT_ ?_
   refine pU 16 (some 125) (bz 23 0x1ffff) HT_ ?_
   refine pU 17 (some 126) (bz 23 0x3ffff) HT_ ?_
   refine pU 18 (some 127) (bz 23 0x7ffff) HT_ ?_
   refine pU 19 (some 128) (bz 23 0xfffff) HT_ ?_
   refine pU 20 (some 129) (bz 23 0x1fffff) HT_ ?_
   refine pA 21 (some 130) (bz 23 0x3fffff) HT_ ?_
   refine pA 22 (some 2) (bz 23 0x7fffff) HT_ ?_
   refine done_ (done_of HT_.out (by kernel_rfl)) ?_
   try go_wp2
   go_ret
   exact ⟨y0_18, UpW.out⟩
  replace c20 := Bool.eq_false_iff.mpr c20; subst c20
  rw [if_neg (show ¬ (false = true) by decide)] at H
  by_cases c91 : t890 = true
  ·
   subst c91
   rw [if_pos rfl] at H
   obtain ⟨t927, A920, H⟩ := Option.bind_eq_some_iff.mp H
   try dsimp only at H
   have A92 := Aside0.mk A920; clear A920
   by_cases c93 : t927 = true
   rotate_left
   ·
    replace c93 := Bool.eq_false_iff.mpr c93; subst c93
    rw [if_neg (show ¬ (false = true) by decide)] at H
    exact absurd (hrt.out.symm.trans (Option.some.inj H).symm) (by decide)
   subst c93
   rw [if_pos rfl] at H
   obtain ⟨t928, A940, H⟩ := Option.bind_eq_some_iff.mp H
   try dsimp only at H
   have A94 := Aside0.mk A940; clear A940
   by_cases c95 : t928 = t878
   rotate_left
   ·
    rw [if_neg c95] at H
    have c95b0 : (t928 == t878) = false := beq_eq_false_iff_ne.mpr c95; have c95b1 : (t928 != t878) = true := bne_iff_ne.mpr c95
    exact absurd (hrt.out.symm.trans (Option.some.inj H).symm) (by decide)
   rw [if_pos c95] at H
   have c95b0 : (t928 == t878) = true := beq_iff_eq.mpr c95; have c95b1 : (t928 != t878) = false := bne_eq_false_iff_eq.mpr c95; clear c95; obtain ⟨t929, A960, H⟩ := Option.bind_eq_some_iff.mp H
   try dsimp only at H
   have A96 := Aside0.mk A960; clear A960; obtain rfl := Option.some.inj H
   go_enter Tryz.func7, Tryz.ntmps7
   try go_wp2_with (first | ((with_reducible refine gate_callee (f := 29) rfl ?_); refine gD (some 16) Tryz.func29 (laws_big.calls (hr0 := pC HR0) (hc0 := HC0.out) (w := _) (h := A2.out)) ?_; intro w97 _) | ((with_reducible refine gate_callee (f := 74) rfl ?_); refine gC1 (some 19) Tryz.func74 (spec_DrawBlockOk.calls (hr0 := pC HR0) (hc0 := HC0.out) (w := _) (h := A5.out)) ?_; intro Ao867 co867 w98 _ HO868) | ((with_reducible refine gd 3 ?_); refine bL 3 #[.int .i64 0, .int .i64 0] 32 ?_; intro gb869 w99 _ _ _) | ((with_reducible refine gd 4 ?_); refine bL 4 #[.string (⟨#[]⟩ : ByteArray), .int .i64 0, .string (⟨#[]⟩ : ByteArray), .slice none 0 0] 60 ?_; intro gb870 w100 _ _ _) | ((with_reducible refine gate_callee (f := 75) rfl ?_); refine gC2 (some 24) Tryz.func75 (spec_DrawBlockNew.calls (hr0 := pC HR0) (hc0 := HC0.out) (w := _) (h := A6.out)) ?_; intro Ao876 co876 Ao880 co880 w101 _ HO877 HO881) | ((with_reducible refine gd 5 ?_); refine bL 5 #[.int .i64 0, .int .i64 0] 32 ?_; intro gb882 w102 _ _ _) | ((with_reducible refine gd 6 ?_); refine bL 6 #[.int .i64 0, .string (⟨#[]⟩ : ByteArray), .slice none 0 0] 27 ?_; intro gb883 w103 _ _ _) | ((with_reducible refine gate_callee (f := 76) rfl ?_); refine gC1 (some 34) Tryz.func76 (impl_BlockNew.calls (hr1_2 := rC HO877) (hc1_2 := rL HO877) (hr3 := rC HO881) (hc3 := rL HO881) (w := _) (h := A7.out)) ?_; intro Ao888 co888 w104 _ HO889) | ((with_reducible refine gd 9 ?_); refine bL 9 #[.string (⟨#[]⟩ : ByteArray), .int .i64 0, .string (⟨#[]⟩ : ByteArray), .slice none 0 0] 60 ?_; intro gb891 w105 _ _ _) | ((with_reducible refine gate_callee (f := 77) rfl ?_); refine gC1 (some 42) Tryz.func77 (spec_BlockNew.calls (hr1_2 := rC HO877) (hc1_2 := rL HO877) (hr3 := rC HO881) (hc3 := rL HO881) (w := _) (h := A8.out)) ?_; intro Ao896 co896 w106 _ HO897) | ((with_reducible refine gd 11 ?_); refine bL 11 #[.string (⟨#[]⟩ : ByteArray), .int .i64 0, .string (⟨#[]⟩ : ByteArray), .slice none 0 0] 60 ?_; intro gb899 w107 _ _ _) | ((with_reducible refine gate_callee (f := 78) rfl ?_); refine gC2 (some 47) Tryz.func78 (spec_DrawBlockSame.calls (hr0 := pC HR0) (hc0 := HC0.out) (w := _) (h := A9.out)) ?_; intro Ao904 co904 Ao910 co910 w108 _ HO905 HO911) | ((with_reducible refine gd 13 ?_); refine bL 13 #[.string (⟨#[]⟩ : ByteArray), .int .i64 0, .string (⟨#[]⟩ : ByteArray), .slice none 0 0] 60 ?_; intro gb912 w109 _ _ _) | ((with_reducible refine gd 14 ?_); refine bL 14 #[.string (⟨#[]⟩ : ByteArray), .int .i64 0, .string (⟨#[]⟩ : ByteArray), .slice none 0 0] 60 ?_; intro gb913 w110 _ _ _))
   refine sB [] laws_FnBlocks.tab8 laws_FnBlocks.bits8 ?_; intro w111 _ HT_ HW_
   refine tB 0 (some 50) (bz 27 1) HT_ HW_ ?_
   refine tB 1 (some 51) (bz 27 3) HT_ HW_ ?_
   refine tB 3 (some 53) (bz 27 11) HT_ HW_ ?_
   refine tB 4 (some 54) (bz 27 27) HT_ HW_ ?_
   refine o1 2 (some 52) (bz 27 31) HT_ rfl (kC Tryz.func79 (impl_BlockOk.calls (hr1_3 := rC HO868) (hc1_3 := rL HO868) (w := _) (h := A10.out)) ?_); intro w112 _
   refine nA (some 52) ?_
   refine o1 5 (some 55) (bz 27 63) HT_ rfl (kC Tryz.func80 (spec_BlockOk.calls (hr1_3 := rC HO868) (hc1_3 := rL HO868) (w := _) (h := A11.out)) ?_); intro w113 _
   refine nA (some 55) ?_
   refine pA 6 (some 56) (bz 27 127) HT_ ?_
   refine pA 7 (some 57) (bz 27 255) HT_ ?_
   refine pA 8 (some 58) (bz 27 511) HT_ ?_
   refine pA 9 (some 59) (bz 27 1023) HT_ ?_
   refine pA 10 (some 60) (bz 27 2047) HT_ ?_
   refine pA 11 (some 61) (bz 27 4095) HT_ ?_
   refine pA 12 (some 62) (bz 27 0x1fff) HT_ ?_
   refine tB 13 (some 63) (bz 27 0x3fff) HT_ HW_ ?_
   refine tB 14 (some 64) (bz 27 0x7fff) HT_ HW_ ?_
   refine o1 15 (some 65) (bz 27 0xffff) HT_ rfl (kC Tryz.func81 (impl_BlockSame.calls (hr0_3 := rC HO889) (hc0_3 := rL HO889) (hr1_3 := rC HO897) (hc1_3 := rL HO897) (w := _) (h := A14.out)) ?_); intro w114 _
   refine nA (some 65) ?_
   refine pA 16 (some 66) (bz 27 0x1ffff) HT_ ?_
   refine pA 17 (some 67) (bz 27 0x3ffff) HT_ ?_
   refine pA 18 (some 68) (bz 27 0x7ffff) HT_ ?_
   refine tB 19 (some 69) (bz 27 0xfffff) HT_ HW_ ?_
   refine tB 20 (some 70) (bz 27 0x1fffff) HT_ HW_ ?_
   refine tB 22 (some 72) (bz 27 0x5fffff) HT_ HW_ ?_
   refine tB 23 (some 73) (bz 27 0xdfffff) HT_ HW_ ?_
   refine o1 21 (some 71) (bz 27 0xffffff) HT_ rfl (kC Tryz.func81 (impl_BlockSame.calls (hr0_3 := rC HO905) (hc0_3 := rL HO905) (hr1_3 := rC HO911) (hc1_3 := rL HO911) (w := _) (h := A16.out)) ?_); intro w115 _
   refine nA (some 71) ?_
   refine o1 24 (some 74) (bz 27 0x1ffffff) HT_ rfl (kC Tryz.func82 (spec_BlockSame.calls (hr0_3 := rC HO905) (hc0_3 := rL HO905) (hr1_3 := rC HO911) (hc1_3 := rL HO911) (w := _) (h := A17.out)) ?_); intro w116 _
   refine nA (some 74) ?_
   refine pA 25 (some 75) (bz 27 0x3ffffff) HT_ ?_
   refine pA 26 (some 76) (bz 27 0x7ffffff) HT_ ?_
   refine done_ (done_of HT_.out (by kernel_rfl)) ?_
   try go_wp2
   refine sB [] laws_FnBlocks.tab10 laws_FnBlocks.bits10 ?_; intro w117 _ HT_ HW_
   refine tB 0 (some 77) (bz 32 1) HT_ HW_ ?_
   refine tB 1 (some 78) (bz 32 3) HT_ HW_ ?_
   refine o1 2 (some 79) (bz 32 7) HT_ rfl (kC Tryz.func79 (impl_BlockOk.calls (hr1_3 := rC HO868) (hc1_3 := rL HO868) (w := _) (h := A19.out)) ?_); intro w118 _
   refine nA (some 79) ?_
   refine pA 3 (some 80) (bz 32 15) HT_ ?_
   refine pU 4 (some 81) (bz 32 31) HT_ ?_
   refine pU 5 (some 82) (bz 32 63) HT_ ?_
   refine pU 6 (some 83) (bz 32 127) HT_ ?_
   refine pU 7 (some 84) (bz 32 255) HT_ ?_
   refine pU 8 (some 85) (bz 32 511) HT_ ?_
   refine pU 9 (some 86) (bz 32 1023) HT_ ?_
   refine pU 10 (some 87) (bz 32 2047) HT_ ?_
   refine pU 11 (some 88) (bz 32 4095) HT_ ?_
   refine pU 12 (some 89) (bz 32 0x1fff) HT_ ?_
   refine pU 13 (some 90) (bz 32 0x3fff) HT_ ?_
   refine pU 14 (some 91) (bz 32 0x7fff) HT_ ?_
   refine pU 15 (some 92) (bz 32 0xffff) HT_ ?_
   refine pU 16 (some 93) (bz 32 0x1ffff) HT_ ?_
   refine pU 17 (some 94) (bz 32 0x3ffff) HT_ ?_
   refine pU 18 (some 95) (bz 32 0x7ffff) HT_ ?_
   refine pU 19 (some 96) (bz 32 0xfffff) HT_ ?_
   refine pU 20 (some 97) (bz 32 0x1fffff) HT_ ?_
   refine pU 21 (some 98) (bz 32 0x3fffff) HT_ ?_
   refine pU 22 (some 99) (bz 32 0x7fffff) HT_ ?_
   refine pU 23 (some 100) (bz 32 0xffffff) HT_ ?_
   refine pU 24 (some 101) (bz 32 0x1ffffff) HT_ ?_
   refine pU 25 (some 102) (bz 32 0x3ffffff) HT_ ?_
   refine pU 26 (some 103) (bz 32 0x7ffffff) HT_ ?_
   refine pU 27 (some 104) (bz 32 0xfffffff) HT_ ?_
   refine pU 28 (some 105) (bz 32 0x1fffffff) HT_ ?_
   refine pU 29 (some 106) (bz 32 0x3fffffff) HT_ ?_
   refine pU 30 (some 107) (bz 32 0x7fffffff) HT_ ?_
   refine pA 31 (some 108) (bz 32 0xffffffff) HT_ ?_
   refine done_ (done_of HT_.out (by kernel_rfl)) ?_
   try go_wp2
   refine sB [] laws_FnBlocks.tab12 laws_FnBlocks.bits12 ?_; intro w119 _ HT_ HW_
   refine pA 0 (some 109) (bz 23 1) HT_ ?_
   refine pA 1 (some 110) (bz 23 3) HT_ ?_
   refine pA 2 (some 111) (bz 23 7) HT_ ?_
   refine tB 3 (some 112) (bz 23 15) HT_ HW_ ?_
   refine tB 4 (some 113) (bz 23 31) HT_ HW_ ?_
   refine o1 5 (some 114) (bz 23 63) HT_ rfl (kC Tryz.func79 (impl_BlockOk.calls (hr1_3 := rC HO889) (hc1_3 := rL HO889) (w := _) (h := A92.out)) ?_); intro w120 _
   refine nA (some 114) ?_
   refine pA 6 (some 115) (bz 23 127) HT_ ?_
   refine pA 7 (some 116) (bz 23 255) HT_ ?_
   refine tB 8 (some 117) (bz 23 511) HT_ HW_ ?_
   refine pA 10 (some 119) (bz 23 1535) HT_ ?_
   refine o1 9 (some 118) (bz 23 2047) HT_ rfl (kC Tryz.func83 (impl_ViewOf.calls (w := _) (h := A94.out)) ?_); intro w121 _
   refine nA (some 118) ?_
   refine pA 11 (some 120) (bz 23 4095) HT_ ?_
   refine pA 12 (some 121) (bz 23 0x1fff) HT_ ?_
   refine pA 13 (some 122) (bz 23 0x3fff) HT_ ?_
   refine pA 14 (some 123) (bz 23 0x7fff) HT_ ?_
   refine tB 15 (some 124) (bz 23 0xffff) HT_ HW_ ?_
   refine pA 17 (some 126) (bz 23 0x2ffff) HT_ ?_
   refine tB 18 (some 127) (bz 23 0x6ffff) HT_ HW_ ?_
   refine o1 16 (some 125) (bz 23 0x7ffff) HT_ rfl (kC Tryz.func84 (impl_UpOf.calls (w := _) (h := A96.out)) ?_); intro w122 _
   refine nA (some 125) ?_
   refine pA 19 (some 128) (bz 23 0xfffff) HT_ ?_
   refine pA 20 (some 129) (bz 23 0x1fffff) HT_ ?_
   refine pA 21 (some 130) (bz 23 0x3fffff) HT_ ?_
   refine pA 22 (some 2) (bz 23 0x7fffff) HT_ ?_
   refine done_ (done_of HT_.out (by kernel_rfl)) ?_
   try go_wp2
   go_ret
   exact ⟨y0_18, UpW.out⟩
  replace c91 := Bool.eq_false_iff.mpr c91; subst c91
  rw [if_neg (show ¬ (false = true) by decide)] at H
  obtain rfl := Option.some.inj H
  go_enter Tryz.func7, Tryz.ntmps7
  try go_wp2_with (first | ((with_reducible refine gate_callee (f := 29) rfl ?_); refine gD (some 16) Tryz.func29 (laws_big.calls (hr0 := pC HR0) (hc0 := HC0.out) (w := _) (h := A2.out)) ?_; intro w123 _) | ((with_reducible refine gate_callee (f := 74) rfl ?_); refine gC1 (some 19) Tryz.func74 (spec_DrawBlockOk.calls (hr0 := pC HR0) (hc0 := HC0.out) (w := _) (h := A5.out)) ?_; intro Ao867 co867 w124 _ HO868) | ((with_reducible refine gd 3 ?_); refine bL 3 #[.int .i64 0, .int .i64 0] 32 ?_; intro gb869 w125 _ _ _) | ((with_reducible refine gd 4 ?_); refine bL 4 #[.string (⟨#[]⟩ : ByteArray), .int .i64 0, .string (⟨#[]⟩ : ByteArray), .slice none 0 0] 60 ?_; intro gb870 w126 _ _ _) | ((with_reducible refine gate_callee (f := 75) rfl ?_); refine gC2 (some 24) Tryz.func75 (spec_DrawBlockNew.calls (hr0 := pC HR0) (hc0 := HC0.out) (w := _) (h := A6.out)) ?_; intro Ao876 co876 Ao880 co880 w127 _ HO877 HO881) | ((with_reducible refine gd 5 ?_); refine bL 5 #[.int .i64 0, .int .i64 0] 32 ?_; intro gb882 w128 _ _ _) | ((with_reducible refine gd 6 ?_); refine bL 6 #[.int .i64 0, .string (⟨#[]⟩ : ByteArray), .slice none 0 0] 27 ?_; intro gb883 w129 _ _ _) | ((with_reducible refine gate_callee (f := 76) rfl ?_); refine gC1 (some 34) Tryz.func76 (impl_BlockNew.calls (hr1_2 := rC HO877) (hc1_2 := rL HO877) (hr3 := rC HO881) (hc3 := rL HO881) (w := _) (h := A7.out)) ?_; intro Ao888 co888 w130 _ HO889) | ((with_reducible refine gd 9 ?_); refine bL 9 #[.string (⟨#[]⟩ : ByteArray), .int .i64 0, .string (⟨#[]⟩ : ByteArray), .slice none 0 0] 60 ?_; intro gb891 w131 _ _ _) | ((with_reducible refine gate_callee (f := 77) rfl ?_); refine gC1 (some 42) Tryz.func77 (spec_BlockNew.calls (hr1_2 := rC HO877) (hc1_2 := rL HO877) (hr3 := rC HO881) (hc3 := rL HO881) (w := _) (h := A8.out)) ?_; intro Ao896 co896 w132 _ HO897) | ((with_reducible refine gd 11 ?_); refine bL 11 #[.string (⟨#[]⟩ : ByteArray), .int .i64 0, .string (⟨#[]⟩ : ByteArray), .slice none 0 0] 60 ?_; intro gb899 w133 _ _ _) | ((with_reducible refine gate_callee (f := 78) rfl ?_); refine gC2 (some 47) Tryz.func78 (spec_DrawBlockSame.calls (hr0 := pC HR0) (hc0 := HC0.out) (w := _) (h := A9.out)) ?_; intro Ao904 co904 Ao910 co910 w134 _ HO905 HO911) | ((with_reducible refine gd 13 ?_); refine bL 13 #[.string (⟨#[]⟩ : ByteArray), .int .i64 0, .string (⟨#[]⟩ : ByteArray), .slice none 0 0] 60 ?_; intro gb912 w135 _ _ _) | ((with_reducible refine gd 14 ?_); refine bL 14 #[.string (⟨#[]⟩ : ByteArray), .int .i64 0, .string (⟨#[]⟩ : ByteArray), .slice none 0 0] 60 ?_; intro gb913 w136 _ _ _))
  refine sB [] laws_FnBlocks.tab8 laws_FnBlocks.bits8 ?_; intro w137 _ HT_ HW_
  refine tB 0 (some 50) (bz 27 1) HT_ HW_ ?_
  refine tB 1 (some 51) (bz 27 3) HT_ HW_ ?_
  refine tB 3 (some 53) (bz 27 11) HT_ HW_ ?_
  refine tB 4 (some 54) (bz 27 27) HT_ HW_ ?_
  refine o1 2 (some 52) (bz 27 31) HT_ rfl (kC Tryz.func79 (impl_BlockOk.calls (hr1_3 := rC HO868) (hc1_3 := rL HO868) (w := _) (h := A10.out)) ?_); intro w138 _
  refine nA (some 52) ?_
  refine o1 5 (some 55) (bz 27 63) HT_ rfl (kC Tryz.func80 (spec_BlockOk.calls (hr1_3 := rC HO868) (hc1_3 := rL HO868) (w := _) (h := A11.out)) ?_); intro w139 _
  refine nA (some 55) ?_
  refine pA 6 (some 56) (bz 27 127) HT_ ?_
  refine pA 7 (some 57) (bz 27 255) HT_ ?_
  refine pA 8 (some 58) (bz 27 511) HT_ ?_
  refine pA 9 (some 59) (bz 27 1023) HT_ ?_
  refine pA 10 (some 60) (bz 27 2047) HT_ ?_
  refine pA 11 (some 61) (bz 27 4095) HT_ ?_
  refine pA 12 (some 62) (bz 27 0x1fff) HT_ ?_
  refine tB 13 (some 63) (bz 27 0x3fff) HT_ HW_ ?_
  refine tB 14 (some 64) (bz 27 0x7fff) HT_ HW_ ?_
  refine o1 15 (some 65) (bz 27 0xffff) HT_ rfl (kC Tryz.func81 (impl_BlockSame.calls (hr0_3 := rC HO889) (hc0_3 := rL HO889) (hr1_3 := rC HO897) (hc1_3 := rL HO897) (w := _) (h := A14.out)) ?_); intro w140 _
  refine nA (some 65) ?_
  refine pA 16 (some 66) (bz 27 0x1ffff) HT_ ?_
  refine pA 17 (some 67) (bz 27 0x3ffff) HT_ ?_
  refine pA 18 (some 68) (bz 27 0x7ffff) HT_ ?_
  refine tB 19 (some 69) (bz 27 0xfffff) HT_ HW_ ?_
  refine tB 20 (some 70) (bz 27 0x1fffff) HT_ HW_ ?_
  refine tB 22 (some 72) (bz 27 0x5fffff) HT_ HW_ ?_
  refine tB 23 (some 73) (bz 27 0xdfffff) HT_ HW_ ?_
  refine o1 21 (some 71) (bz 27 0xffffff) HT_ rfl (kC Tryz.func81 (impl_BlockSame.calls (hr0_3 := rC HO905) (hc0_3 := rL HO905) (hr1_3 := rC HO911) (hc1_3 := rL HO911) (w := _) (h := A16.out)) ?_); intro w141 _
  refine nA (some 71) ?_
  refine o1 24 (some 74) (bz 27 0x1ffffff) HT_ rfl (kC Tryz.func82 (spec_BlockSame.calls (hr0_3 := rC HO905) (hc0_3 := rL HO905) (hr1_3 := rC HO911) (hc1_3 := rL HO911) (w := _) (h := A17.out)) ?_); intro w142 _
  refine nA (some 74) ?_
  refine pA 25 (some 75) (bz 27 0x3ffffff) HT_ ?_
  refine pA 26 (some 76) (bz 27 0x7ffffff) HT_ ?_
  refine done_ (done_of HT_.out (by kernel_rfl)) ?_
  try go_wp2
  refine sB [] laws_FnBlocks.tab10 laws_FnBlocks.bits10 ?_; intro w143 _ HT_ HW_
  refine tB 0 (some 77) (bz 32 1) HT_ HW_ ?_
  refine tB 1 (some 78) (bz 32 3) HT_ HW_ ?_
  refine o1 2 (some 79) (bz 32 7) HT_ rfl (kC Tryz.func79 (impl_BlockOk.calls (hr1_3 := rC HO868) (hc1_3 := rL HO868) (w := _) (h := A19.out)) ?_); intro w144 _
  refine nA (some 79) ?_
  refine pA 3 (some 80) (bz 32 15) HT_ ?_
  refine pU 4 (some 81) (bz 32 31) HT_ ?_
  refine pU 5 (some 82) (bz 32 63) HT_ ?_
  refine pU 6 (some 83) (bz 32 127) HT_ ?_
  refine pU 7 (some 84) (bz 32 255) HT_ ?_
  refine pU 8 (some 85) (bz 32 511) HT_ ?_
  refine pU 9 (some 86) (bz 32 1023) HT_ ?_
  refine pU 10 (some 87) (bz 32 2047) HT_ ?_
  refine pU 11 (some 88) (bz 32 4095) HT_ ?_
  refine pU 12 (some 89) (bz 32 0x1fff) HT_ ?_
  refine pU 13 (some 90) (bz 32 0x3fff) HT_ ?_
  refine pU 14 (some 91) (bz 32 0x7fff) HT_ ?_
  refine pU 15 (some 92) (bz 32 0xffff) HT_ ?_
  refine pU 16 (some 93) (bz 32 0x1ffff) HT_ ?_
  refine pU 17 (some 94) (bz 32 0x3ffff) HT_ ?_
  refine pU 18 (some 95) (bz 32 0x7ffff) HT_ ?_
  refine pU 19 (some 96) (bz 32 0xfffff) HT_ ?_
  refine pU 20 (some 97) (bz 32 0x1fffff) HT_ ?_
  refine pU 21 (some 98) (bz 32 0x3fffff) HT_ ?_
  refine pU 22 (some 99) (bz 32 0x7fffff) HT_ ?_
  refine pU 23 (some 100) (bz 32 0xffffff) HT_ ?_
  refine pU 24 (some 101) (bz 32 0x1ffffff) HT_ ?_
  refine pU 25 (some 102) (bz 32 0x3ffffff) HT_ ?_
  refine pU 26 (some 103) (bz 32 0x7ffffff) HT_ ?_
  refine pU 27 (some 104) (bz 32 0xfffffff) HT_ ?_
  refine pU 28 (some 105) (bz 32 0x1fffffff) HT_ ?_
  refine pU 29 (some 106) (bz 32 0x3fffffff) HT_ ?_
  refine pU 30 (some 107) (bz 32 0x7fffffff) HT_ ?_
  refine pA 31 (some 108) (bz 32 0xffffffff) HT_ ?_
  refine done_ (done_of HT_.out (by kernel_rfl)) ?_
  try go_wp2
  refine sB [] laws_FnBlocks.tab12 laws_FnBlocks.bits12 ?_; intro w145 _ HT_ HW_
  refine pA 0 (some 109) (bz 23 1) HT_ ?_
  refine pA 1 (some 110) (bz 23 3) HT_ ?_
  refine pA 2 (some 111) (bz 23 7) HT_ ?_
  refine pU 3 (some 112) (bz 23 15) HT_ ?_
  refine pU 4 (some 113) (bz 23 31) HT_ ?_
  refine pU 5 (some 114) (bz 23 63) HT_ ?_
  refine pU 6 (some 115) (bz 23 127) HT_ ?_
  refine pU 7 (some 116) (bz 23 255) HT_ ?_
  refine pU 8 (some 117) (bz 23 511) HT_ ?_
  refine pU 9 (some 118) (bz 23 1023) HT_ ?_
  refine pU 10 (some 119) (bz 23 2047) HT_ ?_
  refine pU 11 (some 120) (bz 23 4095) HT_ ?_
  refine pU 12 (some 121) (bz 23 0x1fff) HT_ ?_
  refine pU 13 (some 122) (bz 23 0x3fff) HT_ ?_
  refine pU 14 (some 123) (bz 23 0x7fff) HT_ ?_
  refine pU 15 (some 124) (bz 23 0xffff) HT_ ?_
  refine pU 16 (some 125) (bz 23 0x1ffff) HT_ ?_
  refine pU 17 (some 126) (bz 23 0x3ffff) HT_ ?_
  refine pU 18 (some 127) (bz 23 0x7ffff) HT_ ?_
  refine pU 19 (some 128) (bz 23 0xfffff) HT_ ?_
  refine pU 20 (some 129) (bz 23 0x1fffff) HT_ ?_
  refine pA 21 (some 130) (bz 23 0x3fffff) HT_ ?_
  refine pA 22 (some 2) (bz 23 0x7fffff) HT_ ?_
  refine done_ (done_of HT_.out (by kernel_rfl)) ?_
  try go_wp2
  go_ret
  exact ⟨y0_18, UpW.out⟩
 replace c15 := Bool.eq_false_iff.mpr c15; subst c15
 rw [if_neg (show ¬ (false = true) by decide)] at H
 exact absurd (hrt.out.symm.trans (Option.some.inj H).symm) (by decide)


end Go.Proofs.YtnpbopadajbopaaGreatDoor.PFnBlocks
