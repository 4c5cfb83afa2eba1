-- By a program of this session, out of the translation (the print of the kit, with turns of its own). Lean checks it.
import Derived.Test.YtnpbopadajbopaaGreatDoorPFnSafex0
import Derived.Test.YtnpbopadajbopaaGreatDoorPFnSafex1
import Derived.Test.YtnpbopadajbopaaGreatDoorPFnSafex4
import Derived.Test.YtnpbopadajbopaaGreatDoorPFnSafex6
import Derived.Test.YtnpbopadajbopaaGreatDoorPFnSafex9
import Derived.Test.YtnpbopadajbopaaGreatDoorPFnSafex10
import Derived.Test.YtnpbopadajbopaaGreatDoorPFnSafex11
import Derived.Test.YtnpbopadajbopaaGreatDoorPFnSafex12
import Derived.Test.YtnpbopadajbopaaGreatDoorPFnSafex13
namespace Go.Proofs.YtnpbopadajbopaaGreatDoor.PFnSafe
open Go.RowKit Go.Proofs.YtnpbopadajbopaaGreatDoorW.PrintWords Go.Proofs.YtnpbopadajbopaaGreatDoorW.PrintLast Go.Proofs.YtnpbopadajbopaaGreatDoorW.PrintMore
attribute [local go_sem] max2_int min2_int max_two min_two max_three min_three max_four min_four   -- for this text's walks alone
attribute [local go_sem] cell_in frozen_in
set_option synthInstance.maxSize 1000000
set_option synthInstance.maxHeartbeats 2000000
set_option linter.unusedVariables false
set_option linter.unusedSimpArgs false

/-! ### impl_QcLater: function 123 -/
def impl_QcLater.f (a0_0 : Int) (a0_1 : ByteArray) (l0_2 : List Int) (a1_0 : Int) (a1_1 : ByteArray) (l1_2 : List Int) : Option (Int × ByteArray × List Int) := if a0_0 > a1_0 then ((impl_copyQc.f a0_0 a0_1 l0_2).bind fun bt838 => (some (bt838.1, bt838.2.1, bt838.2.2))) else ((impl_copyQc.f a1_0 a1_1 l1_2).bind fun bt843 => (some (bt843.1, bt843.2.1, bt843.2.2)))
set_option maxHeartbeats 8000000 in
set_option maxRecDepth 100000 in
theorem impl_QcLater.calls (a0_0 : Int) (a0_1 : ByteArray) (A0_2 : Option Addr) (c0_2 : Nat) (l0_2 : List Int) (a1_0 : Int) (a1_1 : ByteArray) (A1_2 : Option Addr) (c1_2 : Nat) (l1_2 : List Int) (r1 : Int) (r2 : ByteArray) (r3 : List Int) (w : World) (hr0_2 : Kd.C (Kd.int .i64) w A0_2 l0_2.length l0_2) (hc0_2 : l0_2.length ≤ c0_2) (hr1_2 : Kd.C (Kd.int .i64) w A1_2 l1_2.length l1_2) (hc1_2 : l1_2.length ≤ c1_2) (h : impl_QcLater.f a0_0 a0_1 l0_2 a1_0 a1_1 l1_2 = some (r1, r2, r3)) :
  Calls Tryz.prog 123 #[.agg #[.int .i64 a0_0, .string a0_1, .slice A0_2 l0_2.length c0_2], .agg #[.int .i64 a1_0, .string a1_1, .slice A1_2 l1_2.length c1_2]] w fun e w' => ∃ v2_ : Value, e = .returned (.agg #[.int .i64 r1, .string r2, v2_]) ∧ Kd.R (Kd.int .i64) 3 w' w.heap.size (fun _ => True) v2_ r3 ∧ Below w.heap.size w w' := by
 have hu27 := Tryz.underlying27; have HR0_2 := Aside0.mk hr0_2; have HC0_2 := Aside0.mk hc0_2; clear hr0_2 hc0_2; have HR1_2 := Aside0.mk hr1_2; have HC1_2 := Aside0.mk hc1_2; clear hr1_2 hc1_2; have HB := Aside0.mk (Below.refl w.heap.size w)
 have H := h; unfold impl_QcLater.f at H
 clear h
 go_enter Tryz.func123, Tryz.ntmps123
 have H' := Aside0.mk H; clear H
 go_upto_if 9 with (first | ((with_reducible refine gd 2 ?_); refine bL 2 #[.int .i64 a0_0, .string a0_1, .slice A0_2 l0_2.length c0_2] 27 ?_; intro gb835 w3 _ _ _) | ((with_reducible refine gd 3 ?_); refine bL 3 #[.int .i64 a1_0, .string a1_1, .slice A1_2 l1_2.length c1_2] 27 ?_; intro gb836 w4 _ _ _) | ((with_reducible refine gd 4 ?_); refine bL 4 #[.int .i64 0, .string (⟨#[]⟩ : ByteArray), .slice none 0 0] 27 ?_; intro gb837 w5 _ _ _))
 have H := H'.out; clear H'
 by_cases c6 : a0_0 > a1_0
 ·
  rw [if_pos c6] at H
  have c6b0 : decide (a1_0 < a0_0) = true := decide_eq_true c6; clear c6
  (first | rw [c6b0] | (simp only [i64_w, i32_w]; rw [c6b0]) | skip)
  obtain ⟨⟨t838, t839, t840⟩, A7, H⟩ := oB H; (try dsimp only at H)
  simp only [Option.some.injEq, Prod.mk.injEq] at H
  obtain ⟨rfl, rfl, rfl⟩ := H
  go_wp2_with (first | ((with_reducible refine gate_callee (f := 151) rfl ?_); refine gC1 (some 11) Tryz.func151 (impl_copyQc.calls (hr0_2 := pC HR0_2) (hc0_2 := HC0_2.out) (w := _) (h := A7.out)) ?_; intro Ao841 co841 w8 _ HO842))
  refine bodyPost_ret (results_cell_row rfl _ _ gb837 27 #[.int .i64 t838, .string t839, .slice Ao841 t840.length co841] (0, 0) _ rfl xB Tryz.underlying27 rfl (by kernel_rfl)) rfl ?_
  exact ⟨_, y0_16, rR HO842, UpW.out⟩
 rw [if_neg c6] at H
 have c6b0 : decide (a1_0 < a0_0) = false := decide_eq_false c6; clear c6
 (first | rw [c6b0] | (simp only [i64_w, i32_w]; rw [c6b0]) | skip)
 obtain ⟨⟨t843, t844, t845⟩, A9, H⟩ := oB H; (try dsimp only at H)
 simp only [Option.some.injEq, Prod.mk.injEq] at H
 obtain ⟨rfl, rfl, rfl⟩ := H
 go_wp2_with (first | ((with_reducible refine gate_callee (f := 151) rfl ?_); refine gC1 (some 13) Tryz.func151 (impl_copyQc.calls (hr0_2 := pC HR1_2) (hc0_2 := HC1_2.out) (w := _) (h := A9.out)) ?_; intro Ao846 co846 w10 _ HO847))
 refine bodyPost_ret (results_cell_row rfl _ _ gb837 27 #[.int .i64 t843, .string t844, .slice Ao846 t845.length co846] (0, 0) _ rfl xB Tryz.underlying27 rfl (by kernel_rfl)) rfl ?_
 exact ⟨_, y0_16, rR HO847, UpW.out⟩

/-! ### impl_See: function 31 -/
def impl_See.f (k : Nat) (a0_0 : Int) (a0_1 : Int) (a1_0 : Int) (a1_1 : Int) (a1_2 : Int) (a1_3 : ByteArray) (l1_4 : List Int) (a1_5 : ByteArray) (a2_0 : Int) (a2_1 : ByteArray) (l2_2 : List Int) : Option (Int × Int × Int × ByteArray × List Int × ByteArray) := (impl_copySafe.f a1_0 a1_1 a1_2 a1_3 l1_4 a1_5).bind fun bt852 => ((impl_SafeOk.f k a0_0 a0_1 a1_0 a1_1 a1_2 a1_3 l1_4 a1_5).bind fun t861 => (if t861 = true then ((impl_QcOk.f k a0_0 a0_1 a2_0 a2_1 l2_2).bind fun t862 => (if t862 = true then ((impl_QcLater.f a2_0 a2_1 l2_2 a1_2 a1_3 l1_4).bind fun bt863 => ((impl_UpOf.f k a2_1).bind fun t868 => ((impl_ViewOf.f k t868).bind fun t869 => ((impl_Settles.f k a2_1).bind fun bt870 => (if bt870.2 = true then ((impl_Extends.f k bt870.1 a1_5).bind fun t872 => (if t872 = true then (some (bt852.1, mx a1_1 t869, bt863.1, bt863.2.1, bt863.2.2, bt870.1)) else (some (bt852.1, mx a1_1 t869, bt863.1, bt863.2.1, bt863.2.2, bt852.2.2.2.2.2)))) else (some (bt852.1, mx a1_1 t869, bt863.1, bt863.2.1, bt863.2.2, bt852.2.2.2.2.2))))))) else (some (bt852.1, bt852.2.1, bt852.2.2.1, bt852.2.2.2.1, bt852.2.2.2.2.1, bt852.2.2.2.2.2)))) else (some (bt852.1, bt852.2.1, bt852.2.2.1, bt852.2.2.2.1, bt852.2.2.2.2.1, bt852.2.2.2.2.2))))
theorem impl_See.mono : ∀ a0 a1 a2 a3 a4 a5 a6 a7 a8 a9 a10 k, LeO (impl_See.f k a0 a1 a2 a3 a4 a5 a6 a7 a8 a9 a10) (impl_See.f (k + 1) a0 a1 a2 a3 a4 a5 a6 a7 a8 a9 a10) := by
 intro a0 a1 a2 a3 a4 a5 a6 a7 a8 a9 a10 k
 unfold impl_See.f
 repeat' first | (with_reducible exact impl_Extends.mono _ _ _) | (with_reducible exact impl_QcOk.mono _ _ _ _ _ _) | (with_reducible exact impl_SafeOk.mono _ _ _ _ _ _ _ _ _) | (with_reducible exact impl_Settles.mono _ _) | (with_reducible exact impl_UpOf.mono _ _) | (with_reducible exact impl_ViewOf.mono _ _) | (with_reducible exact LeO.refl _) | (with_reducible exact LeO.none _) | (with_reducible refine LeO.ite ?_ ?_) | (with_reducible refine LeO.bind ?_ (fun _ => ?_))
def impl_See.T5 : Bool × List (List Nat × List Nat) := (true, [([], []), ([0], [0]), ([], []), ([2], [2]), ([3], [3]), ([4, 4], [4]), ([1, 5], [1, 5]), ([0, 1, 2, 3, 4, 5, 6], []), ([7, 6, 5, 0, 1, 2, 3, 4, 5, 6], [6, 7])])
def impl_See.B5 : List Nat := [0, 1, 0, 4, 12, 28, 63, 127, 255]
theorem impl_See.tab5 : rtab .any (opsOf Tryz.f31 5) = impl_See.T5 := by kernel_rfl
theorem impl_See.bits5 : waitsOk impl_See.T5.2 impl_See.B5 = true := by kernel_rfl
set_option maxHeartbeats 8000000 in
set_option maxRecDepth 100000 in
theorem impl_See.calls (k : Nat) (a0_0 : Int) (a0_1 : Int) (a1_0 : Int) (a1_1 : Int) (a1_2 : Int) (a1_3 : ByteArray) (A1_4 : Option Addr) (c1_4 : Nat) (l1_4 : List Int) (a1_5 : ByteArray) (a2_0 : Int) (a2_1 : ByteArray) (A2_2 : Option Addr) (c2_2 : Nat) (l2_2 : List Int) (r1 : Int) (r2 : Int) (r3 : Int) (r4 : ByteArray) (r5 : List Int) (r6 : ByteArray) (w : World) (hr1_4 : Kd.C (Kd.int .i64) w A1_4 l1_4.length l1_4) (hc1_4 : l1_4.length ≤ c1_4) (hr2_2 : Kd.C (Kd.int .i64) w A2_2 l2_2.length l2_2) (hc2_2 : l2_2.length ≤ c2_2) (h : impl_See.f k a0_0 a0_1 a1_0 a1_1 a1_2 a1_3 l1_4 a1_5 a2_0 a2_1 l2_2 = some (r1, r2, r3, r4, r5, r6)) (hG : Glob w := by exact gG HG HB) :
  Calls Tryz.prog 31 #[.agg #[.int .i64 a0_0, .int .i64 a0_1], .agg #[.int .i64 a1_0, .int .i64 a1_1, .int .i64 a1_2, .string a1_3, .slice A1_4 l1_4.length c1_4, .string a1_5], .agg #[.int .i64 a2_0, .string a2_1, .slice A2_2 l2_2.length c2_2]] w fun e w' => ∃ v4_ : Value, e = .returned (.agg #[.int .i64 r1, .int .i64 r2, .int .i64 r3, .string r4, v4_, .string r6]) ∧ Kd.R (Kd.int .i64) 3 w' w.heap.size (fun _ => True) v4_ r5 ∧ Below w.heap.size w w' := by
 have HG := Aside0.mk hG; clear hG; have hu32 := Tryz.underlying32; have hu29 := Tryz.underlying29; have hu27 := Tryz.underlying27; have HR1_4 := Aside0.mk hr1_4; have HC1_4 := Aside0.mk hc1_4; clear hr1_4 hc1_4; have HR2_2 := Aside0.mk hr2_2; have HC2_2 := Aside0.mk hc2_2; clear hr2_2 hc2_2; have HB := Aside0.mk (Below.refl w.heap.size w)
 have H := h; unfold impl_See.f at H
 clear h; obtain ⟨⟨t852, t853, t854, t855, t856, t859⟩, A4, H⟩ := oB H; (try dsimp only at H)
 go_enter Tryz.func31, Tryz.ntmps31
 have H' := Aside0.mk H; clear H
 go_upto_region 2 with (first | ((with_reducible refine gd 3 ?_); refine bL 3 #[.int .i64 a0_0, .int .i64 a0_1] 32 ?_; intro gb848 w5 _ _ _) | ((with_reducible refine gd 4 ?_); refine bL 4 #[.int .i64 a1_0, .int .i64 a1_1, .int .i64 a1_2, .string a1_3, .slice A1_4 l1_4.length c1_4, .string a1_5] 29 ?_; intro gb849 w6 _ _ _) | ((with_reducible refine gd 5 ?_); refine bL 5 #[.int .i64 a2_0, .string a2_1, .slice A2_2 l2_2.length c2_2] 27 ?_; intro gb850 w7 _ _ _) | ((with_reducible refine gd 6 ?_); refine bL 6 #[.int .i64 0, .int .i64 0, .int .i64 0, .string (⟨#[]⟩ : ByteArray), .slice none 0 0, .string (⟨#[]⟩ : ByteArray)] 29 ?_; intro gb851 w8 _ _ _) | ((with_reducible refine gate_callee (f := 122) rfl ?_); refine gC1 (some 11) Tryz.func122 (impl_copySafe.calls (hr0_4 := pC HR1_4) (hc0_4 := HC1_4.out) (w := _) (h := A4.out)) ?_; intro Ao857 co857 w9 _ HO858) | ((with_reducible refine gd 7 ?_); refine bL 7 #[.int .i64 0, .int .i64 0, .int .i64 0, .string (⟨#[]⟩ : ByteArray), .slice none 0 0, .string (⟨#[]⟩ : ByteArray)] 29 ?_; intro gb860 w10 _ _ _))
 have H := H'.out; clear H'; obtain ⟨t861, A11, H⟩ := oB H; (try dsimp only at H)
 by_cases c12 : t861 = true
 ·
  subst c12
  rw [if_pos rfl] at H
  obtain ⟨t862, A13, H⟩ := oB H; (try dsimp only at H); have H' := Aside0.mk H; clear H
  go_upto_if 21 with (first | ((with_reducible refine gate_callee (f := 42) rfl ?_); refine gC (some 14) Tryz.func42 (impl_SafeOk.calls (hr1_4 := pC HR1_4) (hc1_4 := HC1_4.out) (w := _) (h := A11.out)) ?_; intro w14 _) | (go_at_call 49; refine aC (impl_QcOk.calls (hr1_2 := pC HR2_2) (hc1_2 := HC2_2.out) (w := _) (h := A13.out)) ?_; intro w15 _))
  have H := H'.out; clear H'
  by_cases c16 : t862 = true
  ·
   subst c16
   rw [if_pos rfl] at H
   obtain ⟨⟨t863, t864, t865⟩, A17, H⟩ := oB H; (try dsimp only at H); obtain ⟨t868, A18, H⟩ := oB H; (try dsimp only at H); obtain ⟨t869, A19, H⟩ := oB H; (try dsimp only at H); obtain ⟨ji20, hji20⟩ : ∃ j_ : Int, (mx a1_1 t869) = j_ := ⟨_, rfl⟩
   replace H : ((impl_Settles.f k a2_1).bind fun bt870 => (if bt870.2 = true then ((impl_Extends.f k bt870.1 a1_5).bind fun t872 => (if t872 = true then (some (t852, ji20, t863, t864, t865, bt870.1)) else (some (t852, ji20, t863, t864, t865, t859)))) else (some (t852, ji20, t863, t864, t865, t859)))) = some (r1, r2, r3, r4, r5, r6) := by first | (rw [hji20] at H; exact H) | (simp only [hji20] at H ⊢; exact H)
   (try rw [hji20] at A17)
   (try rw [hji20] at A18)
   (try rw [hji20] at A19)
   have hji20_ : (if a1_1 < t869 then t869 else a1_1) = ji20 := hji20; obtain ⟨⟨t870, t871⟩, A21, H⟩ := oB H; (try dsimp only at H); have H' := Aside0.mk H; clear H
   try go_wp2_with (first | ((with_reducible refine gate_callee (f := 123) rfl ?_); refine gC1 (some 26) Tryz.func123 (impl_QcLater.calls (hr0_2 := pC HR2_2) (hc0_2 := HC2_2.out) (hr1_2 := pC HR1_4) (hc1_2 := HC1_4.out) (w := _) (h := A17.out)) ?_; intro Ao866 co866 w22 _ HO867))
   refine sB [gb860] impl_See.tab5 impl_See.bits5 ?_; intro w23 _ HT_ HW_
   refine pA 0 (some 28) (bz 9 1) HT_ ?_
   refine tB 1 (some 29) (bz 9 3) HT_ HW_ ?_
   refine pA 2 (some 30) (bz 9 7) HT_ ?_
   refine tB 3 (some 31) (bz 9 15) HT_ HW_ ?_
   refine o1 4 (some 32) (bz 9 31) HT_ rfl (kC Tryz.func84 (impl_UpOf.calls (w := _) (h := A18.out)) ?_); intro w24 _
   refine nA (some 32) ?_
   refine o1 5 (some 33) (bz 9 63) HT_ rfl (kC Tryz.func83 (impl_ViewOf.calls (w := _) (h := A19.out)) ?_); intro w25 _
   refine nA (some 33) ?_
   refine pA 6 (some 34) (bz 9 127) HT_ ?_
   refine pA 7 (some 35) (bz 9 255) HT_ ?_
   refine o1 8 none (bz 9 511) HT_ rfl (kS ?_)
   refine done_ (done_of HT_.out (by kernel_rfl)) ?_
   go_upto_region 7 with (first | ((with_reducible refine gate_callee (f := 37) rfl ?_); refine gC (some 39) Tryz.func37 (impl_Settles.calls (w := _) (h := A21.out)) ?_; intro w26 _))
   have H := H'.out; clear H'
   by_cases c27 : t871 = true
   ·
    subst c27
    rw [if_pos rfl] at H
    obtain ⟨t872, A28, H⟩ := oB H; (try dsimp only at H); have H' := Aside0.mk H; clear H
    go_upto_if 48 with (first | (go_at_call 47; refine aC (impl_Extends.calls (w := _) (h := A28.out)) ?_; intro w29 _))
    have H := H'.out; clear H'
    by_cases c30 : t872 = true
    ·
     subst c30
     rw [if_pos rfl] at H
     simp only [Option.some.injEq, Prod.mk.injEq] at H
     obtain ⟨rfl, rfl, rfl, rfl, rfl, rfl⟩ := H
     go_wp2
     refine bodyPost_ret (results_cell_row rfl _ _ gb851 29 #[.int .i64 t852, .int .i64 ji20, .int .i64 t863, .string t864, .slice Ao866 t865.length co866, .string t870] (0, 0) _ rfl xB Tryz.underlying29 rfl (by kernel_rfl)) rfl ?_
     exact ⟨_, y0_12, rR HO867, UpW.out⟩
    replace c30 := Bool.eq_false_iff.mpr c30; subst c30
    rw [if_neg (show ¬ (false = true) by decide)] at H
    simp only [Option.some.injEq, Prod.mk.injEq] at H
    obtain ⟨rfl, rfl, rfl, rfl, rfl, rfl⟩ := H
    go_wp2
    refine bodyPost_ret (results_cell_row rfl _ _ gb851 29 #[.int .i64 t852, .int .i64 ji20, .int .i64 t863, .string t864, .slice Ao866 t865.length co866, .string t859] (0, 0) _ rfl xB Tryz.underlying29 rfl (by kernel_rfl)) rfl ?_
    exact ⟨_, y0_12, rR HO867, UpW.out⟩
   replace c27 := Bool.eq_false_iff.mpr c27; subst c27
   rw [if_neg (show ¬ (false = true) by decide)] at H
   simp only [Option.some.injEq, Prod.mk.injEq] at H
   obtain ⟨rfl, rfl, rfl, rfl, rfl, rfl⟩ := H
   go_wp2
   refine bodyPost_ret (results_cell_row rfl _ _ gb851 29 #[.int .i64 t852, .int .i64 ji20, .int .i64 t863, .string t864, .slice Ao866 t865.length co866, .string t859] (0, 0) _ rfl xB Tryz.underlying29 rfl (by kernel_rfl)) rfl ?_
   exact ⟨_, y0_12, rR HO867, UpW.out⟩
  replace c16 := Bool.eq_false_iff.mpr c16; subst c16
  rw [if_neg (show ¬ (false = true) by decide)] at H
  simp only [Option.some.injEq, Prod.mk.injEq] at H
  obtain ⟨rfl, rfl, rfl, rfl, rfl, rfl⟩ := H
  go_wp2
  refine bodyPost_ret (results_cell_row rfl _ _ gb851 29 #[.int .i64 t852, .int .i64 t853, .int .i64 t854, .string t855, .slice Ao857 t856.length co857, .string t859] (0, 0) _ rfl xB Tryz.underlying29 rfl (by kernel_rfl)) rfl ?_
  exact ⟨_, y0_16, rR HO858, UpW.out⟩
 replace c12 := Bool.eq_false_iff.mpr c12; subst c12
 rw [if_neg (show ¬ (false = true) by decide)] at H
 have H' := Aside0.mk H; clear H
 go_upto_if 21 with (first | ((with_reducible refine gate_callee (f := 42) rfl ?_); refine gC (some 14) Tryz.func42 (impl_SafeOk.calls (hr1_4 := pC HR1_4) (hc1_4 := HC1_4.out) (w := _) (h := A11.out)) ?_; intro w31 _))
 have H := H'.out; clear H'
 simp only [Option.some.injEq, Prod.mk.injEq] at H
 obtain ⟨rfl, rfl, rfl, rfl, rfl, rfl⟩ := H
 go_wp2
 refine bodyPost_ret (results_cell_row rfl _ _ gb851 29 #[.int .i64 t852, .int .i64 t853, .int .i64 t854, .string t855, .slice Ao857 t856.length co857, .string t859] (0, 0) _ rfl xB Tryz.underlying29 rfl (by kernel_rfl)) rfl ?_
 exact ⟨_, y0_16, rR HO858, UpW.out⟩

/-! ### spec_l8Draw: function 159 -/
def spec_l8Draw.f (k : Nat) (s0_0 : List Int) (s0_1 : Int) (s0_2 : Int) (a1_0 : Int) (a1_1 : Int) : Option (ByteArray × Int × ByteArray × List Int × Int × Int) := (spec_l8DrawRight.f k s0_0 s0_1 s0_2 a1_0 a1_1).bind fun bt875 => ((spec_l1Below.f s0_0 bt875.2.2.2.2.1 bt875.2.2.2.2.2 10).bind fun bt884 => (if bt884.1 = 0 then ((spec_l5Draw.f k s0_0 bt884.2.1 bt884.2.2).bind fun bt887 => (some (bt887.1, bt875.2.1, bt875.2.2.1, bt875.2.2.2.1, bt887.2.1, bt887.2.2))) else (if bt884.1 = 1 then ((spec_l7Draw.f k s0_0 bt884.2.1 bt884.2.2 a1_0 a1_1).bind fun bt890 => (some (bt875.1, bt890.1, bt890.2.1, bt890.2.2.1, bt890.2.2.2.1, bt890.2.2.2.2))) else (some (bt875.1, bt875.2.1, bt875.2.2.1, bt875.2.2.2.1, bt884.2.1, bt884.2.2)))))
theorem spec_l8Draw.mono : ∀ a0 a1 a2 a3 a4 k, LeO (spec_l8Draw.f k a0 a1 a2 a3 a4) (spec_l8Draw.f (k + 1) a0 a1 a2 a3 a4) := by
 intro a0 a1 a2 a3 a4 k
 unfold spec_l8Draw.f
 repeat' first | (with_reducible exact spec_l5Draw.mono _ _ _ _) | (with_reducible exact spec_l7Draw.mono _ _ _ _ _ _) | (with_reducible exact spec_l8DrawRight.mono _ _ _ _ _ _) | (with_reducible exact LeO.refl _) | (with_reducible exact LeO.none _) | (with_reducible refine LeO.ite ?_ ?_) | (with_reducible refine LeO.bind ?_ (fun _ => ?_))
set_option maxHeartbeats 8000000 in
set_option maxRecDepth 100000 in
theorem spec_l8Draw.calls (k : Nat) (g : Nat) (s0_0 : List Int) (s0_1 : Int) (s0_2 : Int) (a1_0 : Int) (a1_1 : Int) (r1 : ByteArray) (r2 : Int) (r3 : ByteArray) (r4 : List Int) (r5 : Int) (r6 : Int) (w0 w : World) (hI : IsS188 w0 w g s0_0 s0_1 s0_2) (hB : Below w0.heap.size w0 w) (h : spec_l8Draw.f k s0_0 s0_1 s0_2 a1_0 a1_1 = some (r1, r2, r3, r4, r5, r6)) :
  Calls Tryz.prog 159 #[.pointer (some ⟨g, 0, none⟩), .agg #[.int .i64 a1_0, .int .i64 a1_1]] w fun e w' => ∃ v3_ : Value, e = .returned (.agg #[.string r1, .int .i64 r2, .string r3, v3_]) ∧ Kd.R (Kd.int .i64) 3 w' w.heap.size (fun _ => True) v3_ r4 ∧ IsS188 w0 w' g s0_0 r5 r6 ∧ Below w0.heap.size w0 w' ∧ KeepBut w w' g none := by
 have hu32 := Tryz.underlying32; have hu60 := Tryz.underlying60; have hu27 := Tryz.underlying27; have HI0 := Aside0.mk hI; have HK := Aside0.mk (KeepBut.refl w g none); have HL := Aside0.mk hB.size; clear hI; have HW0 := Aside0.mk hB.size; have HB := Aside0.mk hB; clear hB
 have H := h; unfold spec_l8Draw.f at H
 clear h; obtain ⟨⟨t875, t876, t877, t878, t881, t882⟩, A3, H⟩ := oB H; (try dsimp only at H); obtain ⟨⟨t884, t885, t886⟩, A4, H⟩ := oB H; (try dsimp only at H); have i0_ := iB188 HI0; have i1_ : LB w0 w := ⟨HB.out⟩
 go_enter Tryz.func159, Tryz.ntmps159
 have H' := Aside0.mk H; clear H
 go_upto_if 11 with (first | ((with_reducible refine gd 3 ?_); refine bL 3 #[.int .i64 a1_0, .int .i64 a1_1] 32 ?_; intro gb873 w5 _ _ _) | ((with_reducible refine gd 4 ?_); refine bL 4 #[.string (⟨#[]⟩ : ByteArray), .int .i64 0, .string (⟨#[]⟩ : ByteArray), .slice none 0 0] 60 ?_; intro gb874 w6 _ _ _) | ((with_reducible refine gate_callee (f := 211) rfl ?_); refine gK1 (some 8) Tryz.func211 (spec_l8DrawRight.calls (hI := iS188 HI0) (hB := UpW.out) (w := _) (h := A3.out)) ?_; intro Ao879 co879 w7 _ _ _ HI8 HO880) | ((with_reducible refine gd 5 ?_); refine bL 5 #[.string (⟨#[]⟩ : ByteArray), .int .i64 0, .string (⟨#[]⟩ : ByteArray), .slice none 0 0] 60 ?_; intro gb883 w9 _ _ _) | ((with_reducible refine gate_callee (f := 150) rfl ?_); refine gK (some 10) Tryz.func150 (spec_l1Below.calls (hI := iS188 HI8) (hB := UpW.out) (w := _) (h := A4.out)) ?_; intro w10 _ _ _ HI11))
 have H := H'.out; clear H'
 by_cases c12 : t884 = 0
 ·
  rw [if_pos c12] at H
  have c12b0 : (t884 == 0) = true := beq_iff_eq.mpr c12; have c12b1 : (t884 != 0) = false := bne_eq_false_iff_eq.mpr c12; clear c12
  (first | rw [c12b0] | (simp only [i64_w, i32_w]; rw [c12b0]) | skip)
  obtain ⟨⟨t887, t888, t889⟩, A13, H⟩ := oB H; (try dsimp only at H)
  simp only [Option.some.injEq, Prod.mk.injEq] at H
  obtain ⟨rfl, rfl, rfl, rfl, rfl, rfl⟩ := H
  go_wp2_with (first | ((with_reducible refine gate_callee (f := 129) rfl ?_); refine gK (some 14) Tryz.func129 (spec_l5Draw.calls (hI := iS188 HI11) (hB := UpW.out) (w := _) (h := A13.out)) ?_; intro w14 _ _ _ HI15))
  refine bodyPost_ret (results_cell_row rfl _ _ gb874 60 #[.string t887, .int .i64 t876, .string t877, .slice Ao879 t878.length co879] (0, 0) _ rfl xB Tryz.underlying60 rfl (by kernel_rfl)) rfl ?_
  exact ⟨_, y0_16, rR HO880, iS188 HI15, UpW.out, UpB.out⟩
 rw [if_neg c12] at H
 have c12b0 : (t884 == 0) = false := beq_eq_false_iff_ne.mpr c12; have c12b1 : (t884 != 0) = true := bne_iff_ne.mpr c12
 (first | rw [c12b0] | (simp only [i64_w, i32_w]; rw [c12b0]) | skip)
 by_cases c16 : t884 = 1
 ·
  rw [if_pos c16] at H
  have c16b0 : (t884 == 1) = true := beq_iff_eq.mpr c16; have c16b1 : (t884 != 1) = false := bne_eq_false_iff_eq.mpr c16; clear c16; obtain ⟨⟨t890, t891, t892, t895, t896⟩, A17, H⟩ := oB H; (try dsimp only at H)
  simp only [Option.some.injEq, Prod.mk.injEq] at H
  obtain ⟨rfl, rfl, rfl, rfl, rfl, rfl⟩ := H
  go_wp2_with (first | ((with_reducible refine gate_callee (f := 121) rfl ?_); refine gK1 (some 20) Tryz.func121 (spec_l7Draw.calls (hI := iS188 HI11) (hB := UpW.out) (w := _) (h := A17.out)) ?_; intro Ao893 co893 w18 _ _ _ HI19 HO894))
  refine bodyPost_ret (results_cell_row rfl _ _ gb874 60 #[.string t875, .int .i64 t890, .string t891, .slice Ao893 t892.length co893] (0, 0) _ rfl xB Tryz.underlying60 rfl (by kernel_rfl)) rfl ?_
  exact ⟨_, y0_16, rR HO894, iS188 HI19, UpW.out, UpB.out⟩
 rw [if_neg c16] at H
 have c16b0 : (t884 == 1) = false := beq_eq_false_iff_ne.mpr c16; have c16b1 : (t884 != 1) = true := bne_iff_ne.mpr c16
 simp only [Option.some.injEq, Prod.mk.injEq] at H
 obtain ⟨rfl, rfl, rfl, rfl, rfl, rfl⟩ := H
 go_wp2
 refine bodyPost_ret (results_cell_row rfl _ _ gb874 60 #[.string t875, .int .i64 t876, .string t877, .slice Ao879 t878.length co879] (0, 0) _ rfl xB Tryz.underlying60 rfl (by kernel_rfl)) rfl ?_
 exact ⟨_, y0_16, rR HO880, iS188 HI11, UpW.out, UpB.out⟩

/-! ### spec_DrawMayVote: function 124 -/
def spec_DrawMayVote.f (k : Nat) (l0 : List Int) : Option (Int × Int × Int × Int × Int × ByteArray × List Int × ByteArray × ByteArray × Int × ByteArray × List Int) := (spec_l1New.f k l0).bind fun bt900 => ((spec_l7DrawConf.f bt900.1 bt900.2.1 bt900.2.2).bind fun bt904 => ((spec_l11Draw.f k bt900.1 bt904.2.2.1 bt904.2.2.2 bt904.1 bt904.2.1).bind fun bt909 => ((spec_l8Draw.f k bt900.1 bt909.2.2.2.2.2.2.1 bt909.2.2.2.2.2.2.2 bt904.1 bt904.2.1).bind fun bt920 => (some (bt904.1, bt904.2.1, bt909.1, bt909.2.1, bt909.2.2.1, bt909.2.2.2.1, bt909.2.2.2.2.1, bt909.2.2.2.2.2.1, bt920.1, bt920.2.1, bt920.2.2.1, bt920.2.2.2.1)))))
theorem spec_DrawMayVote.mono : ∀ a0 k, LeO (spec_DrawMayVote.f k a0) (spec_DrawMayVote.f (k + 1) a0) := by
 intro a0 k
 unfold spec_DrawMayVote.f
 repeat' first | (with_reducible exact spec_l11Draw.mono _ _ _ _ _ _) | (with_reducible exact spec_l1New.mono _ _) | (with_reducible exact spec_l8Draw.mono _ _ _ _ _ _) | (with_reducible exact LeO.refl _) | (with_reducible exact LeO.none _) | (with_reducible refine LeO.ite ?_ ?_) | (with_reducible refine LeO.bind ?_ (fun _ => ?_))
def spec_DrawMayVote.T4 : Bool × List (List Nat × List Nat) := (true, [([], []), ([], []), ([], []), ([], []), ([2, 3], [2, 3]), ([0, 4, 0], [0]), ([1, 5, 0, 1, 5], [1]), ([4, 6, 0, 1, 2, 3, 4, 5, 6], [4])])
def spec_DrawMayVote.B4 : List Nat := [0, 0, 0, 0, 12, 29, 63, 127]
theorem spec_DrawMayVote.tab4 : rtab .any (opsOf Tryz.f124 4) = spec_DrawMayVote.T4 := by kernel_rfl
theorem spec_DrawMayVote.bits4 : waitsOk spec_DrawMayVote.T4.2 spec_DrawMayVote.B4 = true := by kernel_rfl
set_option maxHeartbeats 8000000 in
set_option maxRecDepth 100000 in
theorem spec_DrawMayVote.calls (k : Nat) (A0 : Option Addr) (c0 : Nat) (l0 : List Int) (r1 : Int) (r2 : Int) (r3 : Int) (r4 : Int) (r5 : Int) (r6 : ByteArray) (r7 : List Int) (r8 : ByteArray) (r9 : ByteArray) (r10 : Int) (r11 : ByteArray) (r12 : List Int) (w : World) (hr0 : Kd.C (Kd.int .u8) w A0 l0.length l0) (hc0 : l0.length ≤ c0) (h : spec_DrawMayVote.f k l0 = some (r1, r2, r3, r4, r5, r6, r7, r8, r9, r10, r11, r12)) :
  Calls Tryz.prog 124 #[.slice A0 l0.length c0] w fun e w' => ∃ v6_ v11_ : Value, e = .returned (.tuple #[.agg #[.int .i64 r1, .int .i64 r2], .agg #[.int .i64 r3, .int .i64 r4, .int .i64 r5, .string r6, v6_, .string r8], .agg #[.string r9, .int .i64 r10, .string r11, v11_]]) ∧ Kd.R (Kd.int .i64) 3 w' w.heap.size (fun k_ => some k_ ≠ (v11_ : Value).ownBlock) v6_ r7 ∧ Kd.R (Kd.int .i64) 3 w' w.heap.size (fun k_ => some k_ ≠ (v6_ : Value).ownBlock) v11_ r12 ∧ Below w.heap.size w w' := by
 have hu32 := Tryz.underlying32; have hu29 := Tryz.underlying29; have hu60 := Tryz.underlying60; have HR0 := Aside0.mk hr0; have HC0 := Aside0.mk hc0; clear hr0 hc0; have HB := Aside0.mk (Below.refl w.heap.size w)
 have H := h; unfold spec_DrawMayVote.f at H
 clear h; obtain ⟨⟨t900, t901, t902⟩, A2, H⟩ := oB H; (try dsimp only at H); obtain ⟨⟨t904, t905, t906, t907⟩, A3, H⟩ := oB H; (try dsimp only at H); obtain ⟨⟨t909, t910, t911, t912, t913, t916, t917, t918⟩, A4, H⟩ := oB H; (try dsimp only at H); obtain ⟨⟨t920, t921, t922, t923, t926, t927⟩, A5, H⟩ := oB H; (try dsimp only at H)
 simp only [Option.some.injEq, Prod.mk.injEq] at H
 obtain ⟨rfl, rfl, rfl, rfl, rfl, rfl, rfl, rfl, rfl, rfl, rfl, rfl⟩ := H
 go_enter Tryz.func124, Tryz.ntmps124
 try go_wp2_with (first | ((with_reducible refine gd 2 ?_); refine bL 2 #[.int .i64 0, .int .i64 0] 32 ?_; intro gb897 w6 _ _ _) | ((with_reducible refine gd 3 ?_); refine bL 3 #[.int .i64 0, .int .i64 0, .int .i64 0, .string (⟨#[]⟩ : ByteArray), .slice none 0 0, .string (⟨#[]⟩ : ByteArray)] 29 ?_; intro gb898 w7 _ _ _) | ((with_reducible refine gd 4 ?_); refine bL 4 #[.string (⟨#[]⟩ : ByteArray), .int .i64 0, .string (⟨#[]⟩ : ByteArray), .slice none 0 0] 60 ?_; intro gb899 w8 _ _ _) | ((with_reducible refine gate_callee (f := 118) rfl ?_); refine wL ?_; intro w9 _; refine gN (some 9) Tryz.func118 (spec_l1New.calls (hB := Below.refl _ _) (hr0 := pC HR0) (hc0 := HC0.out) (w := _) (h := A2.out)) ?_; intro g903 w10 _ _ _ HI11) | ((with_reducible refine gate_callee (f := 119) rfl ?_); refine gK (some 11) Tryz.func119 (spec_l7DrawConf.calls (hI := iS188 HI11) (hB := UpW.out) (w := _) (h := A3.out)) ?_; intro w12 _ _ _ HI13) | ((with_reducible refine gd 6 ?_); refine bL 6 #[.int .i64 0, .int .i64 0] 32 ?_; intro gb908 w14 _ _ _) | ((with_reducible refine gate_callee (f := 120) rfl ?_); refine gK1 (some 14) Tryz.func120 (spec_l11Draw.calls (hI := iS188 HI13) (hB := UpW.out) (w := _) (h := A4.out)) ?_; intro Ao914 co914 w15 _ _ _ HI16 HO915) | ((with_reducible refine gd 7 ?_); refine bL 7 #[.int .i64 0, .int .i64 0, .int .i64 0, .string (⟨#[]⟩ : ByteArray), .slice none 0 0, .string (⟨#[]⟩ : ByteArray)] 29 ?_; intro gb919 w17 _ _ _))
 refine sB [g903, gb897, gb898, gb899] spec_DrawMayVote.tab4 spec_DrawMayVote.bits4 ?_; intro w18 _ HT_ HW_
 refine tB 0 (some 15) (bz 8 1) HT_ HW_ ?_
 refine tB 1 (some 16) (bz 8 3) HT_ HW_ ?_
 refine pA 2 (some 17) (bz 8 7) HT_ ?_
 refine tB 3 (some 18) (bz 8 15) HT_ HW_ ?_
 refine o1 4 (some 19) (bz 8 31) HT_ rfl (kK1 Tryz.func159 (spec_l8Draw.calls (hI := iS188 HI16) (hB := UpW.out) (w := _) (h := A5.out)) ?_); intro Ao924 co924 w19 _ _ _ HI20 HO925
 refine nA (some 19) ?_
 refine o1 5 none (bz 8 63) HT_ rfl (kS ?_)
 refine o1 6 none (bz 8 127) HT_ rfl (kS ?_)
 refine o1 7 none (bz 8 255) HT_ rfl (kS ?_)
 refine done_ (done_of HT_.out (by kernel_rfl)) ?_
 try go_wp2
 refine bodyPost_ret (results_list (rs := [.cell 2 32, .cell 3 29, .cell 4 60]) rfl (by simp) (.cell gb897 32 #[.int .i64 t904, .int .i64 t905] (0, 0) _ rfl xB Tryz.underlying32 rfl (by kernel_rfl) (.cell gb898 29 #[.int .i64 t909, .int .i64 t910, .int .i64 t911, .string t912, .slice Ao914 t913.length co914, .string t916] (0, 0) _ rfl xB Tryz.underlying29 rfl (by kernel_rfl) (.cell gb899 60 #[.string t920, .int .i64 t921, .string t922, .slice Ao924 t923.length co924] (0, 0) _ rfl xB Tryz.underlying60 rfl (by kernel_rfl) .nil)))) rfl ?_
 exact ⟨_, _, y0_16, rE HO915 HO925, rY HO925 HO915, UpW.out⟩

/-! ### spec_DrawVote: function 32 -/
def spec_DrawVote.f (k : Nat) (l0 : List Int) : Option (Int × Int × Int × Int × Int × ByteArray × List Int × ByteArray × ByteArray × Int × ByteArray × List Int) := (spec_DrawMayVote.f k l0).bind fun bt931 => (some (bt931.1, bt931.2.1, bt931.2.2.1, bt931.2.2.2.1, bt931.2.2.2.2.1, bt931.2.2.2.2.2.1, bt931.2.2.2.2.2.2.1, bt931.2.2.2.2.2.2.2.1, bt931.2.2.2.2.2.2.2.2.1, bt931.2.2.2.2.2.2.2.2.2.1, bt931.2.2.2.2.2.2.2.2.2.2.1, bt931.2.2.2.2.2.2.2.2.2.2.2))
theorem spec_DrawVote.mono : ∀ a0 k, LeO (spec_DrawVote.f k a0) (spec_DrawVote.f (k + 1) a0) := by
 intro a0 k
 unfold spec_DrawVote.f
 repeat' first | (with_reducible exact spec_DrawMayVote.mono _ _) | (with_reducible exact LeO.refl _) | (with_reducible exact LeO.none _) | (with_reducible refine LeO.ite ?_ ?_) | (with_reducible refine LeO.bind ?_ (fun _ => ?_))
def spec_DrawVote.T2 : Bool × List (List Nat × List Nat) := (true, [([], []), ([], []), ([], []), ([0, 0], [0]), ([1, 3, 0, 1, 3], [1]), ([2, 4, 0, 1, 2, 3, 4], [2])])
def spec_DrawVote.B2 : List Nat := [0, 0, 0, 1, 11, 31]
theorem spec_DrawVote.tab2 : rtab .any (opsOf Tryz.f32 2) = spec_DrawVote.T2 := by kernel_rfl
theorem spec_DrawVote.bits2 : waitsOk spec_DrawVote.T2.2 spec_DrawVote.B2 = true := by kernel_rfl
set_option maxHeartbeats 8000000 in
set_option maxRecDepth 100000 in
theorem spec_DrawVote.calls (k : Nat) (A0 : Option Addr) (c0 : Nat) (l0 : List Int) (r1 : Int) (r2 : Int) (r3 : Int) (r4 : Int) (r5 : Int) (r6 : ByteArray) (r7 : List Int) (r8 : ByteArray) (r9 : ByteArray) (r10 : Int) (r11 : ByteArray) (r12 : List Int) (w : World) (hr0 : Kd.C (Kd.int .u8) w A0 l0.length l0) (hc0 : l0.length ≤ c0) (h : spec_DrawVote.f k l0 = some (r1, r2, r3, r4, r5, r6, r7, r8, r9, r10, r11, r12)) :
  Calls Tryz.prog 32 #[.slice A0 l0.length c0] w fun e w' => ∃ v6_ v11_ : Value, e = .returned (.tuple #[.agg #[.int .i64 r1, .int .i64 r2], .agg #[.int .i64 r3, .int .i64 r4, .int .i64 r5, .string r6, v6_, .string r8], .agg #[.string r9, .int .i64 r10, .string r11, v11_]]) ∧ Kd.R (Kd.int .i64) 3 w' w.heap.size (fun k_ => some k_ ≠ (v11_ : Value).ownBlock) v6_ r7 ∧ Kd.R (Kd.int .i64) 3 w' w.heap.size (fun k_ => some k_ ≠ (v6_ : Value).ownBlock) v11_ r12 ∧ Below w.heap.size w w' := by
 have hu32 := Tryz.underlying32; have hu29 := Tryz.underlying29; have hu60 := Tryz.underlying60; have HR0 := Aside0.mk hr0; have HC0 := Aside0.mk hc0; clear hr0 hc0; have HB := Aside0.mk (Below.refl w.heap.size w)
 have H := h; unfold spec_DrawVote.f at H
 clear h; obtain ⟨⟨t931, t932, t933, t934, t935, t936, t937, t940, t941, t942, t943, t944⟩, A2, H⟩ := oB H; (try dsimp only at H)
 simp only [Option.some.injEq, Prod.mk.injEq] at H
 obtain ⟨rfl, rfl, rfl, rfl, rfl, rfl, rfl, rfl, rfl, rfl, rfl, rfl⟩ := H
 go_enter Tryz.func32, Tryz.ntmps32
 try go_wp2_with (first | ((with_reducible refine gd 2 ?_); refine bL 2 #[.int .i64 0, .int .i64 0] 32 ?_; intro gb928 w3 _ _ _) | ((with_reducible refine gd 3 ?_); refine bL 3 #[.int .i64 0, .int .i64 0, .int .i64 0, .string (⟨#[]⟩ : ByteArray), .slice none 0 0, .string (⟨#[]⟩ : ByteArray)] 29 ?_; intro gb929 w4 _ _ _) | ((with_reducible refine gd 4 ?_); refine bL 4 #[.string (⟨#[]⟩ : ByteArray), .int .i64 0, .string (⟨#[]⟩ : ByteArray), .slice none 0 0] 60 ?_; intro gb930 w5 _ _ _) | ((with_reducible refine gate_callee (f := 124) rfl ?_); refine gC2 (some 10) Tryz.func124 (spec_DrawMayVote.calls (hr0 := pC HR0) (hc0 := HC0.out) (w := _) (h := A2.out)) ?_; intro Ao938 co938 Ao945 co945 w6 _ HO939 HO946) | ((with_reducible refine gd 5 ?_); refine bL 5 #[.int .i64 0, .int .i64 0] 32 ?_; intro gb947 w7 _ _ _) | ((with_reducible refine gd 6 ?_); refine bL 6 #[.int .i64 0, .int .i64 0, .int .i64 0, .string (⟨#[]⟩ : ByteArray), .slice none 0 0, .string (⟨#[]⟩ : ByteArray)] 29 ?_; intro gb948 w8 _ _ _) | ((with_reducible refine gd 7 ?_); refine bL 7 #[.string (⟨#[]⟩ : ByteArray), .int .i64 0, .string (⟨#[]⟩ : ByteArray), .slice none 0 0] 60 ?_; intro gb949 w9 _ _ _))
 refine sB [gb928, gb929, gb930] spec_DrawVote.tab2 spec_DrawVote.bits2 ?_; intro w10 _ HT_ HW_
 refine tB 0 (some 14) (bz 6 1) HT_ HW_ ?_
 refine tB 1 (some 15) (bz 6 3) HT_ HW_ ?_
 refine tB 2 (some 16) (bz 6 7) HT_ HW_ ?_
 refine o1 3 none (bz 6 15) HT_ rfl (kS ?_)
 refine o1 4 none (bz 6 31) HT_ rfl (kS ?_)
 refine o1 5 none (bz 6 63) HT_ rfl (kS ?_)
 refine done_ (done_of HT_.out (by kernel_rfl)) ?_
 try go_wp2
 refine bodyPost_ret (results_list (rs := [.cell 2 32, .cell 3 29, .cell 4 60]) rfl (by simp) (.cell gb928 32 #[.int .i64 t931, .int .i64 t932] (0, 0) _ rfl xB Tryz.underlying32 rfl (by kernel_rfl) (.cell gb929 29 #[.int .i64 t933, .int .i64 t934, .int .i64 t935, .string t936, .slice Ao938 t937.length co938, .string t940] (0, 0) _ rfl xB Tryz.underlying29 rfl (by kernel_rfl) (.cell gb930 60 #[.string t941, .int .i64 t942, .string t943, .slice Ao945 t944.length co945] (0, 0) _ rfl xB Tryz.underlying60 rfl (by kernel_rfl) .nil)))) rfl ?_
 exact ⟨_, _, y0_16, rK HO939, rK HO946, UpW.out⟩

/-! ### impl_BlockOk: function 79 -/
def impl_BlockOk.f (k : Nat) (a0_0 : Int) (a0_1 : Int) (a1_0 : ByteArray) (a1_1 : Int) (a1_2 : ByteArray) (l1_3 : List Int) : Option (Bool) := (impl_QcOk.f k a0_0 a0_1 a1_1 a1_2 l1_3).bind fun t952 => (if t952 = true then (if a1_0.toList = ([] : List UInt8) then (some false) else ((impl_NameOk.f k a1_0).bind fun t953 => (if t953 = true then ((impl_UpOf.f k a1_0).bind fun t954 => (some (t954.toList == a1_2.toList))) else (some false)))) else (some false))
theorem impl_BlockOk.mono : ∀ a0 a1 a2 a3 a4 a5 k, LeO (impl_BlockOk.f k a0 a1 a2 a3 a4 a5) (impl_BlockOk.f (k + 1) a0 a1 a2 a3 a4 a5) := by
 intro a0 a1 a2 a3 a4 a5 k
 unfold impl_BlockOk.f
 repeat' first | (with_reducible exact impl_NameOk.mono _ _) | (with_reducible exact impl_QcOk.mono _ _ _ _ _ _) | (with_reducible exact impl_UpOf.mono _ _) | (with_reducible exact LeO.refl _) | (with_reducible exact LeO.none _) | (with_reducible refine LeO.ite ?_ ?_) | (with_reducible refine LeO.bind ?_ (fun _ => ?_))
def impl_BlockOk.T1 : Bool × List (List Nat × List Nat) := (true, [([], []), ([], []), ([1], [1]), ([0, 2], [0, 2]), ([3, 3], [3]), ([4], [4]), ([5, 4], [4, 5]), ([6, 4], [4, 6]), ([4, 7], [4, 7]), ([8, 4], [8]), ([9], [9]), ([10, 9], [9, 10]), ([11, 9, 9], [9, 11]), ([9, 12], [9, 12]), ([13, 12], [13]), ([14], [14]), ([15, 14], [14, 15]), ([16, 14, 14], [14, 16]), ([14], [14]), ([18, 14], [14, 18]), ([19, 14], [14, 19]), ([17, 20, 14], [14, 17, 20]), ([14, 21], [14, 21]), ([22, 17, 0, 1, 2, 3, 4, 5, 6, 7, 8, 9, 10, 11, 12, 13, 14, 15, 16, 17, 18, 19, 20, 21, 22], [22])])
def impl_BlockOk.B1 : List Nat := [0, 0, 2, 7, 15, 31, 63, 127, 255, 511, 1023, 2047, 4095, 8191, 16383, 32767, 65535, 131071, 32767, 294911, 819199, 2097151, 4194303, 8388607]
theorem impl_BlockOk.tab1 : rtab .any (opsOf Tryz.f79 1) = impl_BlockOk.T1 := by kernel_rfl
theorem impl_BlockOk.bits1 : waitsOk impl_BlockOk.T1.2 impl_BlockOk.B1 = true := by kernel_rfl
set_option maxHeartbeats 8000000 in
set_option maxRecDepth 100000 in
theorem impl_BlockOk.calls (k : Nat) (a0_0 : Int) (a0_1 : Int) (a1_0 : ByteArray) (a1_1 : Int) (a1_2 : ByteArray) (A1_3 : Option Addr) (c1_3 : Nat) (l1_3 : List Int) (r : Bool) (w : World) (hr1_3 : Kd.C (Kd.int .i64) w A1_3 l1_3.length l1_3) (hc1_3 : l1_3.length ≤ c1_3) (h : impl_BlockOk.f k a0_0 a0_1 a1_0 a1_1 a1_2 l1_3 = some r) (hG : Glob w := by exact gG HG HB) :
  Calls Tryz.prog 79 #[.agg #[.int .i64 a0_0, .int .i64 a0_1], .agg #[.string a1_0, .int .i64 a1_1, .string a1_2, .slice A1_3 l1_3.length c1_3]] w fun e w' => e = .returned (.bool r) ∧ Below w.heap.size w w' := by
 have HG := Aside0.mk hG; clear hG; have hu32 := Tryz.underlying32; have hu60 := Tryz.underlying60; have hu27 := Tryz.underlying27; have HR1_3 := Aside0.mk hr1_3; have HC1_3 := Aside0.mk hc1_3; clear hr1_3 hc1_3; have HB := Aside0.mk (Below.refl w.heap.size w)
 have H := h; unfold impl_BlockOk.f at H
 clear h
 go_enter Tryz.func79, Tryz.ntmps79
 have H' := Aside0.mk H; clear H
 go_upto_region 1 with (first | ((with_reducible refine gd 2 ?_); refine bL 2 #[.int .i64 a0_0, .int .i64 a0_1] 32 ?_; intro gb950 w3 _ _ _) | ((with_reducible refine gd 3 ?_); refine bL 3 #[.string a1_0, .int .i64 a1_1, .string a1_2, .slice A1_3 l1_3.length c1_3] 60 ?_; intro gb951 w4 _ _ _))
 have H := H'.out; clear H'; obtain ⟨t952, A5, H⟩ := oB H; (try dsimp only at H)
 by_cases c6 : t952 = true
 ·
  subst c6
  rw [if_pos rfl] at H
  by_cases c7 : a1_0.toList = ([] : List UInt8)
  ·
   rw [if_pos c7] at H
   have c7b0 : (a1_0.toList == ([] : List UInt8)) = true := beq_iff_eq.mpr c7; have c7b1 : (a1_0.toList != ([] : List UInt8)) = false := bne_eq_false_iff_eq.mpr c7; clear c7
   (first | rw [c7b0] | (simp only [i64_w, i32_w]; rw [c7b0]) | rw [show List.isEmpty (a1_0.toList) = true from by simpa using c7b0] | skip)
   obtain rfl := Option.some.inj H
   try go_wp2
   refine sB [] impl_BlockOk.tab1 impl_BlockOk.bits1 ?_; intro w8 _ HT_ HW_
   refine tB 0 (some 5) (bz 24 1) HT_ HW_ ?_
   refine pA 1 (some 6) (bz 24 3) HT_ ?_
   refine tB 2 (some 7) (bz 24 7) HT_ HW_ ?_
   refine o1 3 (some 8) (bz 24 15) HT_ rfl (kC Tryz.func49 (impl_QcOk.calls (hr1_2 := pC HR1_3) (hc1_2 := HC1_3.out) (w := _) (h := A5.out)) ?_); intro w9 _
   refine nA (some 8) ?_
   refine pA 4 (some 9) (bz 24 31) HT_ ?_
   refine pA 5 (some 10) (bz 24 63) HT_ ?_
   refine tB 6 (some 11) (bz 24 127) HT_ HW_ ?_
   refine pA 7 (some 12) (bz 24 255) HT_ ?_
   refine pA 8 (some 13) (bz 24 511) HT_ ?_
   refine pA 9 (some 14) (bz 24 1023) HT_ ?_
   refine pU 10 (some 15) (bz 24 2047) HT_ ?_
   refine pU 11 (some 16) (bz 24 4095) HT_ ?_
   refine pU 12 (some 17) (bz 24 0x1fff) HT_ ?_
   refine pA 13 (some 18) (bz 24 0x3fff) HT_ ?_
   refine pA 14 (some 19) (bz 24 0x7fff) HT_ ?_
   refine pU 15 (some 20) (bz 24 0xffff) HT_ ?_
   refine pU 16 (some 21) (bz 24 0x1ffff) HT_ ?_
   refine pU 17 (some 22) (bz 24 0x3ffff) HT_ ?_
   refine pU 18 (some 23) (bz 24 0x7ffff) HT_ ?_
   refine pU 19 (some 24) (bz 24 0xfffff) HT_ ?_
   refine pU 20 (some 25) (bz 24 0x1fffff) HT_ ?_
   refine pU 21 (some 26) (bz 24 0x3fffff) HT_ ?_
   refine pA 22 (some 27) (bz 24 0x7fffff) HT_ ?_
   refine pA 23 (some 4) (bz 24 0xffffff) HT_ ?_
   refine done_ (done_of HT_.out (by kernel_rfl)) ?_
   try go_wp2
   go_ret
   exact ⟨y0_16, UpW.out⟩
  rw [if_neg c7] at H
  have c7b0 : (a1_0.toList == ([] : List UInt8)) = false := beq_eq_false_iff_ne.mpr c7; have c7b1 : (a1_0.toList != ([] : List UInt8)) = true := bne_iff_ne.mpr c7
  (first | rw [c7b0] | (simp only [i64_w, i32_w]; rw [c7b0]) | rw [show List.isEmpty (a1_0.toList) = false from by simpa using c7b0] | skip)
  obtain ⟨t953, A10, H⟩ := oB H; (try dsimp only at H)
  by_cases c11 : t953 = true
  ·
   subst c11
   rw [if_pos rfl] at H
   obtain ⟨t954, A12, H⟩ := oB H; (try dsimp only at H); obtain rfl := Option.some.inj H
   try go_wp2
   refine sB [] impl_BlockOk.tab1 impl_BlockOk.bits1 ?_; intro w13 _ HT_ HW_
   refine tB 0 (some 5) (bz 24 1) HT_ HW_ ?_
   refine pA 1 (some 6) (bz 24 3) HT_ ?_
   refine tB 2 (some 7) (bz 24 7) HT_ HW_ ?_
   refine o1 3 (some 8) (bz 24 15) HT_ rfl (kC Tryz.func49 (impl_QcOk.calls (hr1_2 := pC HR1_3) (hc1_2 := HC1_3.out) (w := _) (h := A5.out)) ?_); intro w14 _
   refine nA (some 8) ?_
   refine pA 4 (some 9) (bz 24 31) HT_ ?_
   refine pA 5 (some 10) (bz 24 63) HT_ ?_
   refine tB 6 (some 11) (bz 24 127) HT_ HW_ ?_
   refine pA 7 (some 12) (bz 24 255) HT_ ?_
   refine pA 8 (some 13) (bz 24 511) HT_ ?_
   refine pA 9 (some 14) (bz 24 1023) HT_ ?_
   refine pA 10 (some 15) (bz 24 2047) HT_ ?_
   refine tB 11 (some 16) (bz 24 4095) HT_ HW_ ?_
   refine o1 12 (some 17) (bz 24 0x1fff) HT_ rfl (kC Tryz.func139 (impl_NameOk.calls (w := _) (h := A10.out)) ?_); intro w15 _
   refine nA (some 17) ?_
   refine pA 13 (some 18) (bz 24 0x3fff) HT_ ?_
   refine pA 14 (some 19) (bz 24 0x7fff) HT_ ?_
   refine pA 15 (some 20) (bz 24 0xffff) HT_ ?_
   refine tB 16 (some 21) (bz 24 0x1ffff) HT_ HW_ ?_
   refine pA 18 (some 23) (bz 24 0x5ffff) HT_ ?_
   refine pA 19 (some 24) (bz 24 0xdffff) HT_ ?_
   refine tB 20 (some 25) (bz 24 0x1dffff) HT_ HW_ ?_
   refine o1 17 (some 22) (bz 24 0x1fffff) HT_ rfl (kC Tryz.func84 (impl_UpOf.calls (w := _) (h := A12.out)) ?_); intro w16 _
   refine nA (some 22) ?_
   refine pA 21 (some 26) (bz 24 0x3fffff) HT_ ?_
   refine pA 22 (some 27) (bz 24 0x7fffff) HT_ ?_
   refine pA 23 (some 4) (bz 24 0xffffff) HT_ ?_
   refine done_ (done_of HT_.out (by kernel_rfl)) ?_
   try go_wp2
   go_ret
   exact ⟨y0_16, UpW.out⟩
  replace c11 := Bool.eq_false_iff.mpr c11; subst c11
  rw [if_neg (show ¬ (false = true) by decide)] at H
  obtain rfl := Option.some.inj H
  try go_wp2
  refine sB [] impl_BlockOk.tab1 impl_BlockOk.bits1 ?_; intro w17 _ HT_ HW_
  refine tB 0 (some 5) (bz 24 1) HT_ HW_ ?_
  refine pA 1 (some 6) (bz 24 3) HT_ ?_
  refine tB 2 (some 7) (bz 24 7) HT_ HW_ ?_
  refine o1 3 (some 8) (bz 24 15) HT_ rfl (kC Tryz.func49 (impl_QcOk.calls (hr1_2 := pC HR1_3) (hc1_2 := HC1_3.out) (w := _) (h := A5.out)) ?_); intro w18 _
  refine nA (some 8) ?_
  refine pA 4 (some 9) (bz 24 31) HT_ ?_
  refine pA 5 (some 10) (bz 24 63) HT_ ?_
  refine tB 6 (some 11) (bz 24 127) HT_ HW_ ?_
  refine pA 7 (some 12) (bz 24 255) HT_ ?_
  refine pA 8 (some 13) (bz 24 511) HT_ ?_
  refine pA 9 (some 14) (bz 24 1023) HT_ ?_
  refine pA 10 (some 15) (bz 24 2047) HT_ ?_
  refine tB 11 (some 16) (bz 24 4095) HT_ HW_ ?_
  refine o1 12 (some 17) (bz 24 0x1fff) HT_ rfl (kC Tryz.func139 (impl_NameOk.calls (w := _) (h := A10.out)) ?_); intro w19 _
  refine nA (some 17) ?_
  refine pA 13 (some 18) (bz 24 0x3fff) HT_ ?_
  refine pA 14 (some 19) (bz 24 0x7fff) HT_ ?_
  refine pU 15 (some 20) (bz 24 0xffff) HT_ ?_
  refine pU 16 (some 21) (bz 24 0x1ffff) HT_ ?_
  refine pU 17 (some 22) (bz 24 0x3ffff) HT_ ?_
  refine pU 18 (some 23) (bz 24 0x7ffff) HT_ ?_
  refine pU 19 (some 24) (bz 24 0xfffff) HT_ ?_
  refine pU 20 (some 25) (bz 24 0x1fffff) HT_ ?_
  refine pU 21 (some 26) (bz 24 0x3fffff) HT_ ?_
  refine pA 22 (some 27) (bz 24 0x7fffff) HT_ ?_
  refine pA 23 (some 4) (bz 24 0xffffff) HT_ ?_
  refine done_ (done_of HT_.out (by kernel_rfl)) ?_
  try go_wp2
  go_ret
  exact ⟨y0_16, UpW.out⟩
 replace c6 := Bool.eq_false_iff.mpr c6; subst c6
 rw [if_neg (show ¬ (false = true) by decide)] at H
 obtain rfl := Option.some.inj H
 try go_wp2
 refine sB [] impl_BlockOk.tab1 impl_BlockOk.bits1 ?_; intro w20 _ HT_ HW_
 refine tB 0 (some 5) (bz 24 1) HT_ HW_ ?_
 refine pA 1 (some 6) (bz 24 3) HT_ ?_
 refine tB 2 (some 7) (bz 24 7) HT_ HW_ ?_
 refine o1 3 (some 8) (bz 24 15) HT_ rfl (kC Tryz.func49 (impl_QcOk.calls (hr1_2 := pC HR1_3) (hc1_2 := HC1_3.out) (w := _) (h := A5.out)) ?_); intro w21 _
 refine nA (some 8) ?_
 refine pA 4 (some 9) (bz 24 31) HT_ ?_
 refine pU 5 (some 10) (bz 24 63) HT_ ?_
 refine pU 6 (some 11) (bz 24 127) HT_ ?_
 refine pU 7 (some 12) (bz 24 255) HT_ ?_
 refine pA 8 (some 13) (bz 24 511) HT_ ?_
 refine pA 9 (some 14) (bz 24 1023) HT_ ?_
 refine pU 10 (some 15) (bz 24 2047) HT_ ?_
 refine pU 11 (some 16) (bz 24 4095) HT_ ?_
 refine pU 12 (some 17) (bz 24 0x1fff) HT_ ?_
 refine pA 13 (some 18) (bz 24 0x3fff) HT_ ?_
 refine pA 14 (some 19) (bz 24 0x7fff) HT_ ?_
 refine pU 15 (some 20) (bz 24 0xffff) HT_ ?_
 refine pU 16 (some 21) (bz 24 0x1ffff) HT_ ?_
 refine pU 17 (some 22) (bz 24 0x3ffff) HT_ ?_
 refine pU 18 (some 23) (bz 24 0x7ffff) HT_ ?_
 refine pU 19 (some 24) (bz 24 0xfffff) HT_ ?_
 refine pU 20 (some 25) (bz 24 0x1fffff) HT_ ?_
 refine pU 21 (some 26) (bz 24 0x3fffff) HT_ ?_
 refine pA 22 (some 27) (bz 24 0x7fffff) HT_ ?_
 refine pA 23 (some 4) (bz 24 0xffffff) HT_ ?_
 refine done_ (done_of HT_.out (by kernel_rfl)) ?_
 try go_wp2
 go_ret
 exact ⟨y0_16, UpW.out⟩

end Go.Proofs.YtnpbopadajbopaaGreatDoor.PFnSafe
