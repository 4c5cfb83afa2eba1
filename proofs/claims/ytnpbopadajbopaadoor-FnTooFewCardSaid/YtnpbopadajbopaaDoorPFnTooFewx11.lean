-- By a program of this session, out of the translation (the print of the kit, with turns of its own). Lean checks it.
import Derived.Test.YtnpbopadajbopaaDoorPFnTooFewx0
import Derived.Test.YtnpbopadajbopaaDoorPFnTooFewx1
import Derived.Test.YtnpbopadajbopaaDoorPFnTooFewx8
import Derived.Test.YtnpbopadajbopaaDoorPFnTooFewx10
namespace Go.Proofs.YtnpbopadajbopaaDoor.PFnTooFew
open Go.RowKit Go.Proofs.YtnpbopadajbopaaDoorW.PrintWords Go.Proofs.YtnpbopadajbopaaDoorW.PrintLast Go.Proofs.YtnpbopadajbopaaDoorW.PrintMore
attribute [local go_sem] max2_int min2_int max_two min_two max_three min_three max_four min_four   -- for this text's walks alone
attribute [local go_sem] cell_in frozen_in
set_option synthInstance.maxSize 1000000
set_option synthInstance.maxHeartbeats 2000000
set_option linter.unusedVariables false
set_option linter.unusedSimpArgs false

/-! ### impl_QcOk: function 34 -/
def impl_QcOk.f (k : Nat) (a0_0 : Int) (a0_1 : Int) (a1_0 : Int) (a1_1 : ByteArray) (l1_2 : List Int) : Option (Bool) := (impl_ConfOk.f a0_0 a0_1).bind fun t598 => (if t598 = true then ((impl_QcFirst.f).bind fun bt599 => ((impl_QcSame.f k a1_0 a1_1 l1_2 bt599.1 bt599.2.1 bt599.2.2).bind fun t604 => (if t604 = true then (some true) else (if a1_0 ≥ 1 then ((impl_NameOk.f k a1_1).bind fun t605 => (if t605 = true then ((impl_ViewOf.f k a1_1).bind fun t606 => (if a1_0 = t606 then ((impl_SetOk.f k a0_0 l1_2).bind fun t607 => (if t607 = true then ((impl_Quorum.f a0_0 a0_1).bind fun t608 => (some (decide ((l1_2.length : Int) ≥ t608)))) else (some false))) else (some false))) else (some false))) else (some false))))) else (some false))
theorem impl_QcOk.mono : ∀ a0 a1 a2 a3 a4 k, LeO (impl_QcOk.f k a0 a1 a2 a3 a4) (impl_QcOk.f (k + 1) a0 a1 a2 a3 a4) := by
 intro a0 a1 a2 a3 a4 k
 unfold impl_QcOk.f
 repeat' first | (with_reducible exact impl_NameOk.mono _ _) | (with_reducible exact impl_QcSame.mono _ _ _ _ _ _ _) | (with_reducible exact impl_SetOk.mono _ _ _) | (with_reducible exact impl_ViewOf.mono _ _) | (with_reducible exact LeO.refl _) | (with_reducible exact LeO.none _) | (with_reducible refine LeO.ite ?_ ?_) | (with_reducible refine LeO.bind ?_ (fun _ => ?_))
def impl_QcOk.T3 : Bool × List (List Nat × List Nat) := (true, [([], []), ([], []), ([0, 1, 1], [0, 1]), ([2, 2], [2]), ([3], [3]), ([4, 3], [3, 4]), ([5, 3], [3, 5]), ([6, 3, 3], [3, 6]), ([7], [7]), ([8, 7], [7, 8]), ([9, 7, 7], [7, 9]), ([7, 10, 3], [3, 7, 10]), ([11, 10, 3], [3, 11]), ([12], [12]), ([13, 12], [12, 13]), ([12], [12]), ([15, 12], [12, 15]), ([16, 12, 12], [12, 16]), ([14, 17, 12], [12, 14, 17]), ([12, 18, 3], [3, 12, 18]), ([19, 17, 3], [3, 19]), ([20], [20]), ([21, 20], [20, 21]), ([20], [20]), ([23, 20], [20, 23]), ([22, 24, 20, 20], [20, 22, 24]), ([20, 25, 3], [3, 20, 25]), ([26, 25, 3], [3, 26]), ([27], [27]), ([28, 27], [27, 28]), ([29, 27], [27, 29]), ([27], [27]), ([31, 27, 27], [27, 31]), ([30, 32, 27], [27, 30, 32]), ([27, 33, 3], [3, 27, 33]), ([3, 34], [3, 34]), ([35, 32, 0, 1, 2, 3, 4, 5, 6, 7, 8, 9, 10, 11, 12, 13, 14, 15, 16, 17, 18, 19, 20, 21, 22, 23, 24, 25, 26, 27, 28, 29, 30, 31, 32, 33, 34, 35], [35])])
def impl_QcOk.B3 : List Nat := [0, 0, 3, 7, 15, 31, 63, 127, 255, 511, 1023, 2047, 4095, 8191, 16383, 8191, 40959, 106495, 262143, 524287, 1048575, 2097151, 4194303, 2097151, 10485759, 33554431, 67108863, 134217727, 268435455, 536870911, 1073741823, 268435455, 2415919103, 8589934591, 17179869183, 34359738367, 68719476735]
theorem impl_QcOk.tab3 : rtab .any (opsOf Tryd.f34 3) = impl_QcOk.T3 := by kernel_rfl
theorem impl_QcOk.bits3 : waitsOk impl_QcOk.T3.2 impl_QcOk.B3 = true := by kernel_rfl
set_option maxHeartbeats 8000000 in
set_option maxRecDepth 100000 in
theorem impl_QcOk.calls (k : Nat) (a0_0 : Int) (a0_1 : Int) (a1_0 : Int) (a1_1 : ByteArray) (A1_2 : Option Addr) (c1_2 : Nat) (l1_2 : List Int) (r : Bool) (w : World) (hr1_2 : Kd.C (Kd.int .i64) w A1_2 l1_2.length l1_2) (hc1_2 : l1_2.length ≤ c1_2) (h : impl_QcOk.f k a0_0 a0_1 a1_0 a1_1 l1_2 = some r) (hG : Glob w := by exact gG HG HB) :
  Calls Tryd.prog 34 #[.agg #[.int .i64 a0_0, .int .i64 a0_1], .agg #[.int .i64 a1_0, .string a1_1, .slice A1_2 l1_2.length c1_2]] w fun e w' => e = .returned (.bool r) ∧ Below w.heap.size w w' := by
 have HG := Aside0.mk hG; clear hG; have hu25 := Tryd.underlying25; have hu32 := Tryd.underlying32; have HR1_2 := Aside0.mk hr1_2; have HC1_2 := Aside0.mk hc1_2; clear hr1_2 hc1_2; have HB := Aside0.mk (Below.refl w.heap.size w)
 have H := h; unfold impl_QcOk.f at H
 clear h; obtain ⟨t598, A3, H⟩ := oB H; (try dsimp only at H)
 go_enter Tryd.func34, Tryd.ntmps34
 have H' := Aside0.mk H; clear H
 go_upto_if 7 with (first | ((with_reducible refine gd 2 ?_); refine bL 2 #[.int .i64 a0_0, .int .i64 a0_1] 25 ?_; intro gb596 w4 _ _ _) | ((with_reducible refine gd 3 ?_); refine bL 3 #[.int .i64 a1_0, .string a1_1, .slice A1_2 l1_2.length c1_2] 32 ?_; intro gb597 w5 _ _ _) | ((with_reducible refine gate_callee (f := 30) rfl ?_); refine gC (some 6) Tryd.func30 (impl_ConfOk.calls (w := _) (h := A3.out)) ?_; intro w6 _))
 have H := H'.out; clear H'
 by_cases c7 : t598 = true
 ·
  subst c7
  rw [if_pos rfl] at H
  obtain ⟨⟨t599, t600, t601⟩, A8, H⟩ := oB H; (try dsimp only at H); obtain ⟨t604, A9, H⟩ := oB H; (try dsimp only at H)
  by_cases c10 : t604 = true
  ·
   subst c10
   rw [if_pos rfl] at H
   obtain rfl := Option.some.inj H
   try go_wp2
   refine sB [] impl_QcOk.tab3 impl_QcOk.bits3 ?_; intro w11 _ HT_ HW_
   refine tB 0 (some 8) (bz 37 1) HT_ HW_ ?_
   refine o1 1 (some 9) (bz 37 3) HT_ rfl (kC1 Tryd.func58 (impl_QcFirst.calls (w := _) (h := A8.out)) ?_); intro Ao602 co602 w12 _ HO603
   refine nA (some 9) ?_
   refine o1 2 (some 10) (bz 37 7) HT_ rfl (kC Tryd.func57 (impl_QcSame.calls (hr0_2 := pC HR1_2) (hc0_2 := HC1_2.out) (hr1_2 := rC HO603) (hc1_2 := rL HO603) (w := _) (h := A9.out)) ?_); intro w13 _
   refine nA (some 10) ?_
   refine pA 3 (some 11) (bz 37 15) HT_ ?_
   refine pU 4 (some 12) (bz 37 31) HT_ ?_
   refine pU 5 (some 13) (bz 37 63) HT_ ?_
   refine pU 6 (some 14) (bz 37 127) HT_ ?_
   refine pU 7 (some 15) (bz 37 255) HT_ ?_
   refine pU 8 (some 16) (bz 37 511) HT_ ?_
   refine pU 9 (some 17) (bz 37 1023) HT_ ?_
   refine pU 10 (some 18) (bz 37 2047) HT_ ?_
   refine pU 11 (some 19) (bz 37 4095) HT_ ?_
   refine pU 12 (some 20) (bz 37 0x1fff) HT_ ?_
   refine pU 13 (some 21) (bz 37 0x3fff) HT_ ?_
   refine pU 14 (some 22) (bz 37 0x7fff) HT_ ?_
   refine pU 15 (some 23) (bz 37 0xffff) HT_ ?_
   refine pU 16 (some 24) (bz 37 0x1ffff) HT_ ?_
   refine pU 17 (some 25) (bz 37 0x3ffff) HT_ ?_
   refine pU 18 (some 26) (bz 37 0x7ffff) HT_ ?_
   refine pU 19 (some 27) (bz 37 0xfffff) HT_ ?_
   refine pU 20 (some 28) (bz 37 0x1fffff) HT_ ?_
   refine pU 21 (some 29) (bz 37 0x3fffff) HT_ ?_
   refine pU 22 (some 30) (bz 37 0x7fffff) HT_ ?_
   refine pU 23 (some 31) (bz 37 0xffffff) HT_ ?_
   refine pU 24 (some 32) (bz 37 0x1ffffff) HT_ ?_
   refine pU 25 (some 33) (bz 37 0x3ffffff) HT_ ?_
   refine pU 26 (some 34) (bz 37 0x7ffffff) HT_ ?_
   refine pU 27 (some 35) (bz 37 0xfffffff) HT_ ?_
   refine pU 28 (some 36) (bz 37 0x1fffffff) HT_ ?_
   refine pU 29 (some 37) (bz 37 0x3fffffff) HT_ ?_
   refine pU 30 (some 38) (bz 37 0x7fffffff) HT_ ?_
   refine pU 31 (some 39) (bz 37 0xffffffff) HT_ ?_
   refine pU 32 (some 40) (bz 37 0x1ffffffff) HT_ ?_
   refine pU 33 (some 41) (bz 37 0x3ffffffff) HT_ ?_
   refine pU 34 (some 42) (bz 37 0x7ffffffff) HT_ ?_
   refine pA 35 (some 43) (bz 37 0xfffffffff) HT_ ?_
   refine pA 36 (some 4) (bz 37 0x1fffffffff) HT_ ?_
   refine done_ (done_of HT_.out (by kernel_rfl)) ?_
   try go_wp2
   go_ret
   exact ⟨y0_17, UpW.out⟩
  replace c10 := Bool.eq_false_iff.mpr c10; subst c10
  rw [if_neg (show ¬ (false = true) by decide)] at H
  by_cases c14 : a1_0 ≥ 1
  ·
   rw [if_pos c14] at H
   have c14b0 : decide (1 ≤ a1_0) = true := decide_eq_true c14; clear c14
   (first | rw [c14b0] | (simp only [i64_w, i32_w]; rw [c14b0]) | skip)
   obtain ⟨t605, A15, H⟩ := oB H; (try dsimp only at H)
   by_cases c16 : t605 = true
   ·
    subst c16
    rw [if_pos rfl] at H
    obtain ⟨t606, A17, H⟩ := oB H; (try dsimp only at H)
    by_cases c18 : a1_0 = t606
    ·
     rw [if_pos c18] at H
     have c18b0 : (a1_0 == t606) = true := beq_iff_eq.mpr c18; have c18b1 : (a1_0 != t606) = false := bne_eq_false_iff_eq.mpr c18; clear c18; obtain ⟨t607, A19, H⟩ := oB H; (try dsimp only at H)
     by_cases c20 : t607 = true
     ·
      subst c20
      rw [if_pos rfl] at H
      obtain ⟨t608, A21, H⟩ := oB H; (try dsimp only at H); obtain rfl := Option.some.inj H
      try go_wp2
      refine sB [] impl_QcOk.tab3 impl_QcOk.bits3 ?_; intro w22 _ HT_ HW_
      refine tB 0 (some 8) (bz 37 1) HT_ HW_ ?_
      refine o1 1 (some 9) (bz 37 3) HT_ rfl (kC1 Tryd.func58 (impl_QcFirst.calls (w := _) (h := A8.out)) ?_); intro Ao602 co602 w23 _ HO603
      refine nA (some 9) ?_
      refine o1 2 (some 10) (bz 37 7) HT_ rfl (kC Tryd.func57 (impl_QcSame.calls (hr0_2 := pC HR1_2) (hc0_2 := HC1_2.out) (hr1_2 := rC HO603) (hc1_2 := rL HO603) (w := _) (h := A9.out)) ?_); intro w24 _
      refine nA (some 10) ?_
      refine pA 3 (some 11) (bz 37 15) HT_ ?_
      refine pA 4 (some 12) (bz 37 31) HT_ ?_
      refine tB 5 (some 13) (bz 37 63) HT_ HW_ ?_
      refine pA 6 (some 14) (bz 37 127) HT_ ?_
      refine pA 7 (some 15) (bz 37 255) HT_ ?_
      refine pA 8 (some 16) (bz 37 511) HT_ ?_
      refine tB 9 (some 17) (bz 37 1023) HT_ HW_ ?_
      refine o1 10 (some 18) (bz 37 2047) HT_ rfl (kC Tryd.func59 (impl_NameOk.calls (w := _) (h := A15.out)) ?_); intro w25 _
      refine nA (some 18) ?_
      refine pA 11 (some 19) (bz 37 4095) HT_ ?_
      refine pA 12 (some 20) (bz 37 0x1fff) HT_ ?_
      refine pA 13 (some 21) (bz 37 0x3fff) HT_ ?_
      refine tB 14 (some 22) (bz 37 0x7fff) HT_ HW_ ?_
      refine pA 15 (some 23) (bz 37 0xffff) HT_ ?_
      refine tB 16 (some 24) (bz 37 0x1ffff) HT_ HW_ ?_
      refine o1 17 (some 25) (bz 37 0x3ffff) HT_ rfl (kC Tryd.func60 (impl_ViewOf.calls (w := _) (h := A17.out)) ?_); intro w26 _
      refine nA (some 25) ?_
      refine pA 18 (some 26) (bz 37 0x7ffff) HT_ ?_
      refine pA 19 (some 27) (bz 37 0xfffff) HT_ ?_
      refine pA 20 (some 28) (bz 37 0x1fffff) HT_ ?_
      refine pA 21 (some 29) (bz 37 0x3fffff) HT_ ?_
      refine tB 22 (some 30) (bz 37 0x7fffff) HT_ HW_ ?_
      refine pA 23 (some 31) (bz 37 0xffffff) HT_ ?_
      refine tB 24 (some 32) (bz 37 0x1ffffff) HT_ HW_ ?_
      refine o1 25 (some 33) (bz 37 0x3ffffff) HT_ rfl (kD Tryd.func61 (impl_SetOk.calls (hr1 := pC HR1_2) (hc1 := HC1_2.out) (w := _) (h := A19.out)) ?_); intro w27 _
      refine nA (some 33) ?_
      refine pA 26 (some 34) (bz 37 0x7ffffff) HT_ ?_
      refine pA 27 (some 35) (bz 37 0xfffffff) HT_ ?_
      refine pA 28 (some 36) (bz 37 0x1fffffff) HT_ ?_
      refine tB 29 (some 37) (bz 37 0x3fffffff) HT_ HW_ ?_
      refine pA 30 (some 38) (bz 37 0x7fffffff) HT_ ?_
      refine tB 31 (some 39) (bz 37 0xffffffff) HT_ HW_ ?_
      refine o1 32 (some 40) (bz 37 0x1ffffffff) HT_ rfl (kC Tryd.func8 (impl_Quorum.calls (w := _) (h := A21.out)) ?_); intro w28 _
      refine nA (some 40) ?_
      refine pA 33 (some 41) (bz 37 0x3ffffffff) HT_ ?_
      refine pA 34 (some 42) (bz 37 0x7ffffffff) HT_ ?_
      refine pA 35 (some 43) (bz 37 0xfffffffff) HT_ ?_
      refine pA 36 (some 4) (bz 37 0x1fffffffff) HT_ ?_
      refine done_ (done_of HT_.out (by kernel_rfl)) ?_
      try go_wp2
      go_ret
      exact ⟨y0_17, UpW.out⟩
     replace c20 := Bool.eq_false_iff.mpr c20; subst c20
     rw [if_neg (show ¬ (false = true) by decide)] at H
     obtain rfl := Option.some.inj H
     try go_wp2
     refine sB [] impl_QcOk.tab3 impl_QcOk.bits3 ?_; intro w29 _ HT_ HW_
     refine tB 0 (some 8) (bz 37 1) HT_ HW_ ?_
     refine o1 1 (some 9) (bz 37 3) HT_ rfl (kC1 Tryd.func58 (impl_QcFirst.calls (w := _) (h := A8.out)) ?_); intro Ao602 co602 w30 _ HO603
     refine nA (some 9) ?_
     refine o1 2 (some 10) (bz 37 7) HT_ rfl (kC Tryd.func57 (impl_QcSame.calls (hr0_2 := pC HR1_2) (hc0_2 := HC1_2.out) (hr1_2 := rC HO603) (hc1_2 := rL HO603) (w := _) (h := A9.out)) ?_); intro w31 _
     refine nA (some 10) ?_
     refine pA 3 (some 11) (bz 37 15) HT_ ?_
     refine pA 4 (some 12) (bz 37 31) HT_ ?_
     refine tB 5 (some 13) (bz 37 63) HT_ HW_ ?_
     refine pA 6 (some 14) (bz 37 127) HT_ ?_
     refine pA 7 (some 15) (bz 37 255) HT_ ?_
     refine pA 8 (some 16) (bz 37 511) HT_ ?_
     refine tB 9 (some 17) (bz 37 1023) HT_ HW_ ?_
     refine o1 10 (some 18) (bz 37 2047) HT_ rfl (kC Tryd.func59 (impl_NameOk.calls (w := _) (h := A15.out)) ?_); intro w32 _
     refine nA (some 18) ?_
     refine pA 11 (some 19) (bz 37 4095) HT_ ?_
     refine pA 12 (some 20) (bz 37 0x1fff) HT_ ?_
     refine pA 13 (some 21) (bz 37 0x3fff) HT_ ?_
     refine tB 14 (some 22) (bz 37 0x7fff) HT_ HW_ ?_
     refine pA 15 (some 23) (bz 37 0xffff) HT_ ?_
     refine tB 16 (some 24) (bz 37 0x1ffff) HT_ HW_ ?_
     refine o1 17 (some 25) (bz 37 0x3ffff) HT_ rfl (kC Tryd.func60 (impl_ViewOf.calls (w := _) (h := A17.out)) ?_); intro w33 _
     refine nA (some 25) ?_
     refine pA 18 (some 26) (bz 37 0x7ffff) HT_ ?_
     refine pA 19 (some 27) (bz 37 0xfffff) HT_ ?_
     refine pA 20 (some 28) (bz 37 0x1fffff) HT_ ?_
     refine pA 21 (some 29) (bz 37 0x3fffff) HT_ ?_
     refine tB 22 (some 30) (bz 37 0x7fffff) HT_ HW_ ?_
     refine pA 23 (some 31) (bz 37 0xffffff) HT_ ?_
     refine tB 24 (some 32) (bz 37 0x1ffffff) HT_ HW_ ?_
     refine o1 25 (some 33) (bz 37 0x3ffffff) HT_ rfl (kD Tryd.func61 (impl_SetOk.calls (hr1 := pC HR1_2) (hc1 := HC1_2.out) (w := _) (h := A19.out)) ?_); intro w34 _
     refine nA (some 33) ?_
     refine pA 26 (some 34) (bz 37 0x7ffffff) HT_ ?_
     refine pA 27 (some 35) (bz 37 0xfffffff) HT_ ?_
     refine pU 28 (some 36) (bz 37 0x1fffffff) HT_ ?_
     refine pU 29 (some 37) (bz 37 0x3fffffff) HT_ ?_
     refine pU 30 (some 38) (bz 37 0x7fffffff) HT_ ?_
     refine pU 31 (some 39) (bz 37 0xffffffff) HT_ ?_
     refine pU 32 (some 40) (bz 37 0x1ffffffff) HT_ ?_
     refine pU 33 (some 41) (bz 37 0x3ffffffff) HT_ ?_
     refine pA 34 (some 42) (bz 37 0x7ffffffff) HT_ ?_
     refine pA 35 (some 43) (bz 37 0xfffffffff) HT_ ?_
     refine pA 36 (some 4) (bz 37 0x1fffffffff) HT_ ?_
     refine done_ (done_of HT_.out (by kernel_rfl)) ?_
     try go_wp2
     go_ret
     exact ⟨y0_17, UpW.out⟩
    rw [if_neg c18] at H
    have c18b0 : (a1_0 == t606) = false := beq_eq_false_iff_ne.mpr c18; have c18b1 : (a1_0 != t606) = true := bne_iff_ne.mpr c18; obtain rfl := Option.some.inj H
    try go_wp2
    refine sB [] impl_QcOk.tab3 impl_QcOk.bits3 ?_; intro w35 _ HT_ HW_
    refine tB 0 (some 8) (bz 37 1) HT_ HW_ ?_
    refine o1 1 (some 9) (bz 37 3) HT_ rfl (kC1 Tryd.func58 (impl_QcFirst.calls (w := _) (h := A8.out)) ?_); intro Ao602 co602 w36 _ HO603
    refine nA (some 9) ?_
    refine o1 2 (some 10) (bz 37 7) HT_ rfl (kC Tryd.func57 (impl_QcSame.calls (hr0_2 := pC HR1_2) (hc0_2 := HC1_2.out) (hr1_2 := rC HO603) (hc1_2 := rL HO603) (w := _) (h := A9.out)) ?_); intro w37 _
    refine nA (some 10) ?_
    refine pA 3 (some 11) (bz 37 15) HT_ ?_
    refine pA 4 (some 12) (bz 37 31) HT_ ?_
    refine tB 5 (some 13) (bz 37 63) HT_ HW_ ?_
    refine pA 6 (some 14) (bz 37 127) HT_ ?_
    refine pA 7 (some 15) (bz 37 255) HT_ ?_
    refine pA 8 (some 16) (bz 37 511) HT_ ?_
    refine tB 9 (some 17) (bz 37 1023) HT_ HW_ ?_
    refine o1 10 (some 18) (bz 37 2047) HT_ rfl (kC Tryd.func59 (impl_NameOk.calls (w := _) (h := A15.out)) ?_); intro w38 _
    refine nA (some 18) ?_
    refine pA 11 (some 19) (bz 37 4095) HT_ ?_
    refine pA 12 (some 20) (bz 37 0x1fff) HT_ ?_
    refine pA 13 (some 21) (bz 37 0x3fff) HT_ ?_
    refine tB 14 (some 22) (bz 37 0x7fff) HT_ HW_ ?_
    refine pA 15 (some 23) (bz 37 0xffff) HT_ ?_
    refine tB 16 (some 24) (bz 37 0x1ffff) HT_ HW_ ?_
    refine o1 17 (some 25) (bz 37 0x3ffff) HT_ rfl (kC Tryd.func60 (impl_ViewOf.calls (w := _) (h := A17.out)) ?_); intro w39 _
    refine nA (some 25) ?_
    refine pA 18 (some 26) (bz 37 0x7ffff) HT_ ?_
    refine pA 19 (some 27) (bz 37 0xfffff) HT_ ?_
    refine pA 20 (some 28) (bz 37 0x1fffff) HT_ ?_
    refine pU 21 (some 29) (bz 37 0x3fffff) HT_ ?_
    refine pU 22 (some 30) (bz 37 0x7fffff) HT_ ?_
    refine pU 23 (some 31) (bz 37 0xffffff) HT_ ?_
    refine pU 24 (some 32) (bz 37 0x1ffffff) HT_ ?_
    refine pU 25 (some 33) (bz 37 0x3ffffff) HT_ ?_
    refine pA 26 (some 34) (bz 37 0x7ffffff) HT_ ?_
    refine pA 27 (some 35) (bz 37 0xfffffff) HT_ ?_
    refine pU 28 (some 36) (bz 37 0x1fffffff) HT_ ?_
    refine pU 29 (some 37) (bz 37 0x3fffffff) HT_ ?_
    refine pU 30 (some 38) (bz 37 0x7fffffff) HT_ ?_
    refine pU 31 (some 39) (bz 37 0xffffffff) HT_ ?_
    refine pU 32 (some 40) (bz 37 0x1ffffffff) HT_ ?_
    refine pU 33 (some 41) (bz 37 0x3ffffffff) HT_ ?_
    refine pA 34 (some 42) (bz 37 0x7ffffffff) HT_ ?_
    refine pA 35 (some 43) (bz 37 0xfffffffff) HT_ ?_
    refine pA 36 (some 4) (bz 37 0x1fffffffff) HT_ ?_
    refine done_ (done_of HT_.out (by kernel_rfl)) ?_
    try go_wp2
    go_ret
    exact ⟨y0_17, UpW.out⟩
   replace c16 := Bool.eq_false_iff.mpr c16; subst c16
   rw [if_neg (show ¬ (false = true) by decide)] at H
   obtain rfl := Option.some.inj H
   try go_wp2
   refine sB [] impl_QcOk.tab3 impl_QcOk.bits3 ?_; intro w40 _ HT_ HW_
   refine tB 0 (some 8) (bz 37 1) HT_ HW_ ?_
   refine o1 1 (some 9) (bz 37 3) HT_ rfl (kC1 Tryd.func58 (impl_QcFirst.calls (w := _) (h := A8.out)) ?_); intro Ao602 co602 w41 _ HO603
   refine nA (some 9) ?_
   refine o1 2 (some 10) (bz 37 7) HT_ rfl (kC Tryd.func57 (impl_QcSame.calls (hr0_2 := pC HR1_2) (hc0_2 := HC1_2.out) (hr1_2 := rC HO603) (hc1_2 := rL HO603) (w := _) (h := A9.out)) ?_); intro w42 _
   refine nA (some 10) ?_
   refine pA 3 (some 11) (bz 37 15) HT_ ?_
   refine pA 4 (some 12) (bz 37 31) HT_ ?_
   refine tB 5 (some 13) (bz 37 63) HT_ HW_ ?_
   refine pA 6 (some 14) (bz 37 127) HT_ ?_
   refine pA 7 (some 15) (bz 37 255) HT_ ?_
   refine pA 8 (some 16) (bz 37 511) HT_ ?_
   refine tB 9 (some 17) (bz 37 1023) HT_ HW_ ?_
   refine o1 10 (some 18) (bz 37 2047) HT_ rfl (kC Tryd.func59 (impl_NameOk.calls (w := _) (h := A15.out)) ?_); intro w43 _
   refine nA (some 18) ?_
   refine pA 11 (some 19) (bz 37 4095) HT_ ?_
   refine pA 12 (some 20) (bz 37 0x1fff) HT_ ?_
   refine pU 13 (some 21) (bz 37 0x3fff) HT_ ?_
   refine pU 14 (some 22) (bz 37 0x7fff) HT_ ?_
   refine pU 15 (some 23) (bz 37 0xffff) HT_ ?_
   refine pU 16 (some 24) (bz 37 0x1ffff) HT_ ?_
   refine pU 17 (some 25) (bz 37 0x3ffff) HT_ ?_
   refine pU 18 (some 26) (bz 37 0x7ffff) HT_ ?_
   refine pA 19 (some 27) (bz 37 0xfffff) HT_ ?_
   refine pA 20 (some 28) (bz 37 0x1fffff) HT_ ?_
   refine pU 21 (some 29) (bz 37 0x3fffff) HT_ ?_
   refine pU 22 (some 30) (bz 37 0x7fffff) HT_ ?_
   refine pU 23 (some 31) (bz 37 0xffffff) HT_ ?_
   refine pU 24 (some 32) (bz 37 0x1ffffff) HT_ ?_
   refine pU 25 (some 33) (bz 37 0x3ffffff) HT_ ?_
   refine pA 26 (some 34) (bz 37 0x7ffffff) HT_ ?_
   refine pA 27 (some 35) (bz 37 0xfffffff) HT_ ?_
   refine pU 28 (some 36) (bz 37 0x1fffffff) HT_ ?_
   refine pU 29 (some 37) (bz 37 0x3fffffff) HT_ ?_
   refine pU 30 (some 38) (bz 37 0x7fffffff) HT_ ?_
   refine pU 31 (some 39) (bz 37 0xffffffff) HT_ ?_
   refine pU 32 (some 40) (bz 37 0x1ffffffff) HT_ ?_
   refine pU 33 (some 41) (bz 37 0x3ffffffff) HT_ ?_
   refine pA 34 (some 42) (bz 37 0x7ffffffff) HT_ ?_
   refine pA 35 (some 43) (bz 37 0xfffffffff) HT_ ?_
   refine pA 36 (some 4) (bz 37 0x1fffffffff) HT_ ?_
   refine done_ (done_of HT_.out (by kernel_rfl)) ?_
   try go_wp2
   go_ret
   exact ⟨y0_17, UpW.out⟩
  rw [if_neg c14] at H
  have c14b0 : decide (1 ≤ a1_0) = false := decide_eq_false c14; clear c14
  (first | rw [c14b0] | (simp only [i64_w, i32_w]; rw [c14b0]) | skip)
  obtain rfl := Option.some.inj H
  try go_wp2
  refine sB [] impl_QcOk.tab3 impl_QcOk.bits3 ?_; intro w44 _ HT_ HW_
  refine tB 0 (some 8) (bz 37 1) HT_ HW_ ?_
  refine o1 1 (some 9) (bz 37 3) HT_ rfl (kC1 Tryd.func58 (impl_QcFirst.calls (w := _) (h := A8.out)) ?_); intro Ao602 co602 w45 _ HO603
  refine nA (some 9) ?_
  refine o1 2 (some 10) (bz 37 7) HT_ rfl (kC Tryd.func57 (impl_QcSame.calls (hr0_2 := pC HR1_2) (hc0_2 := HC1_2.out) (hr1_2 := rC HO603) (hc1_2 := rL HO603) (w := _) (h := A9.out)) ?_); intro w46 _
  refine nA (some 10) ?_
  refine pA 3 (some 11) (bz 37 15) HT_ ?_
  refine pA 4 (some 12) (bz 37 31) HT_ ?_
  refine tB 5 (some 13) (bz 37 63) HT_ HW_ ?_
  refine pA 6 (some 14) (bz 37 127) HT_ ?_
  refine pA 7 (some 15) (bz 37 255) HT_ ?_
  refine pU 8 (some 16) (bz 37 511) HT_ ?_
  refine pU 9 (some 17) (bz 37 1023) HT_ ?_
  refine pU 10 (some 18) (bz 37 2047) HT_ ?_
  refine pA 11 (some 19) (bz 37 4095) HT_ ?_
  refine pA 12 (some 20) (bz 37 0x1fff) HT_ ?_
  refine pU 13 (some 21) (bz 37 0x3fff) HT_ ?_
  refine pU 14 (some 22) (bz 37 0x7fff) HT_ ?_
  refine pU 15 (some 23) (bz 37 0xffff) HT_ ?_
  refine pU 16 (some 24) (bz 37 0x1ffff) HT_ ?_
  refine pU 17 (some 25) (bz 37 0x3ffff) HT_ ?_
  refine pU 18 (some 26) (bz 37 0x7ffff) HT_ ?_
  refine pA 19 (some 27) (bz 37 0xfffff) HT_ ?_
  refine pA 20 (some 28) (bz 37 0x1fffff) HT_ ?_
  refine pU 21 (some 29) (bz 37 0x3fffff) HT_ ?_
  refine pU 22 (some 30) (bz 37 0x7fffff) HT_ ?_
  refine pU 23 (some 31) (bz 37 0xffffff) HT_ ?_
  refine pU 24 (some 32) (bz 37 0x1ffffff) HT_ ?_
  refine pU 25 (some 33) (bz 37 0x3ffffff) HT_ ?_
  refine pA 26 (some 34) (bz 37 0x7ffffff) HT_ ?_
  refine pA 27 (some 35) (bz 37 0xfffffff) HT_ ?_
  refine pU 28 (some 36) (bz 37 0x1fffffff) HT_ ?_
  refine pU 29 (some 37) (bz 37 0x3fffffff) HT_ ?_
  refine pU 30 (some 38) (bz 37 0x7fffffff) HT_ ?_
  refine pU 31 (some 39) (bz 37 0xffffffff) HT_ ?_
  refine pU 32 (some 40) (bz 37 0x1ffffffff) HT_ ?_
  refine pU 33 (some 41) (bz 37 0x3ffffffff) HT_ ?_
  refine pA 34 (some 42) (bz 37 0x7ffffffff) HT_ ?_
  refine pA 35 (some 43) (bz 37 0xfffffffff) HT_ ?_
  refine pA 36 (some 4) (bz 37 0x1fffffffff) HT_ ?_
  refine done_ (done_of HT_.out (by kernel_rfl)) ?_
  try go_wp2
  go_ret
  exact ⟨y0_17, UpW.out⟩
 replace c7 := Bool.eq_false_iff.mpr c7; subst c7
 rw [if_neg (show ¬ (false = true) by decide)] at H
 obtain rfl := Option.some.inj H
 go_wp2
 go_ret
 exact ⟨y0_17, UpW.out⟩

/-! ### impl_PartQc: function 10 -/
def impl_PartQc.f (k : Nat) (a0_0 : Int) (a0_1 : Int) (a1_0 : Int) (a1_1 : ByteArray) (l1_2 : List Int) : Option (Int × ByteArray × List Int × Bool) := (impl_copyQc.f a1_0 a1_1 l1_2).bind fun bt612 => ((impl_QcOk.f k a0_0 a0_1 bt612.1 bt612.2.1 bt612.2.2).bind fun t618 => (if t618 = true then (if bt612.1 = 0 then (some (0, (⟨#[]⟩ : ByteArray), ([] : List Int), false)) else (some (bt612.1, bt612.2.1, bt612.2.2, true))) else (some (0, (⟨#[]⟩ : ByteArray), ([] : List Int), false))))
theorem impl_PartQc.mono : ∀ a0 a1 a2 a3 a4 k, LeO (impl_PartQc.f k a0 a1 a2 a3 a4) (impl_PartQc.f (k + 1) a0 a1 a2 a3 a4) := by
 intro a0 a1 a2 a3 a4 k
 unfold impl_PartQc.f
 repeat' first | (with_reducible exact impl_QcOk.mono _ _ _ _ _ _) | (with_reducible exact LeO.refl _) | (with_reducible exact LeO.none _) | (with_reducible refine LeO.ite ?_ ?_) | (with_reducible refine LeO.bind ?_ (fun _ => ?_))
set_option maxHeartbeats 8000000 in
set_option maxRecDepth 100000 in
theorem impl_PartQc.calls (k : Nat) (a0_0 : Int) (a0_1 : Int) (a1_0 : Int) (a1_1 : ByteArray) (A1_2 : Option Addr) (c1_2 : Nat) (l1_2 : List Int) (r1 : Int) (r2 : ByteArray) (r3 : List Int) (r4 : Bool) (w : World) (hr1_2 : Kd.C (Kd.int .i64) w A1_2 l1_2.length l1_2) (hc1_2 : l1_2.length ≤ c1_2) (h : impl_PartQc.f k a0_0 a0_1 a1_0 a1_1 l1_2 = some (r1, r2, r3, r4)) (hG : Glob w := by exact gG HG HB) :
  Calls Tryd.prog 10 #[.agg #[.int .i64 a0_0, .int .i64 a0_1], .agg #[.int .i64 a1_0, .string a1_1, .slice A1_2 l1_2.length c1_2]] w fun e w' => ∃ v2_ : Value, e = .returned (.tuple #[.agg #[.int .i64 r1, .string r2, v2_], .bool r4]) ∧ Kd.R (Kd.int .i64) 3 w' w.heap.size (fun _ => True) v2_ r3 ∧ Below w.heap.size w w' := by
 have HG := Aside0.mk hG; clear hG; have hu25 := Tryd.underlying25; have hu28 := Tryd.underlying28; have hu32 := Tryd.underlying32; have HR1_2 := Aside0.mk hr1_2; have HC1_2 := Aside0.mk hc1_2; clear hr1_2 hc1_2; have HB := Aside0.mk (Below.refl w.heap.size w)
 have H := h; unfold impl_PartQc.f at H
 clear h; obtain ⟨⟨t612, t613, t614⟩, A3, H⟩ := oB H; (try dsimp only at H)
 go_enter Tryd.func10, Tryd.ntmps10
 have H' := Aside0.mk H; clear H
 go_upto_region 2 with (first | ((with_reducible refine gd 2 ?_); refine bL 2 #[.int .i64 a0_0, .int .i64 a0_1] 25 ?_; intro gb609 w4 _ _ _) | ((with_reducible refine gd 3 ?_); refine bL 3 #[.int .i64 a1_0, .string a1_1, .slice A1_2 l1_2.length c1_2] 28 ?_; intro gb610 w5 _ _ _) | ((with_reducible refine gd 4 ?_); refine bL 4 #[.int .i64 0, .string (⟨#[]⟩ : ByteArray), .slice none 0 0] 32 ?_; intro gb611 w6 _ _ _) | ((with_reducible refine gate_callee (f := 33) rfl ?_); refine gC1 (some 14) Tryd.func33 (impl_copyQc.calls (hr0_2 := pC HR1_2) (hc0_2 := HC1_2.out) (w := _) (h := A3.out)) ?_; intro Ao615 co615 w7 _ HO616) | ((with_reducible refine gd 6 ?_); refine bL 6 #[.int .i64 0, .string (⟨#[]⟩ : ByteArray), .slice none 0 0] 32 ?_; intro gb617 w8 _ _ _))
 have H := H'.out; clear H'; obtain ⟨t618, A9, H⟩ := oB H; (try dsimp only at H)
 by_cases c10 : t618 = true
 ·
  subst c10
  rw [if_pos rfl] at H
  have H' := Aside0.mk H; clear H
  go_upto_if 23 with (first | ((with_reducible refine gate_callee (f := 34) rfl ?_); refine gC (some 17) Tryd.func34 (impl_QcOk.calls (hr1_2 := rC HO616) (hc1_2 := rL HO616) (w := _) (h := A9.out)) ?_; intro w11 _))
  have H := H'.out; clear H'
  by_cases c12 : t612 = 0
  ·
   rw [if_pos c12] at H
   have c12b0 : (t612 == 0) = true := beq_iff_eq.mpr c12; have c12b1 : (t612 != 0) = false := bne_eq_false_iff_eq.mpr c12; clear c12
   (first | rw [c12b0] | (simp only [i64_w, i32_w]; rw [c12b0]) | skip)
   simp only [Option.some.injEq, Prod.mk.injEq] at H
   obtain ⟨rfl, rfl, rfl, rfl⟩ := H
   go_wp2
   refine bodyPost_ret (results_ct rfl _ _ gb611 32 #[.int .i64 0, .string (⟨#[]⟩ : ByteArray), .slice none 0 0] (0, 0) _ rfl xB Tryd.underlying32 rfl (by kernel_rfl)) rfl ?_
   exact ⟨_, y0_17, Kd.R_nil _ _ _ _ _, UpW.out⟩
  rw [if_neg c12] at H
  have c12b0 : (t612 == 0) = false := beq_eq_false_iff_ne.mpr c12; have c12b1 : (t612 != 0) = true := bne_iff_ne.mpr c12
  (first | rw [c12b0] | (simp only [i64_w, i32_w]; rw [c12b0]) | skip)
  simp only [Option.some.injEq, Prod.mk.injEq] at H
  obtain ⟨rfl, rfl, rfl, rfl⟩ := H
  go_wp2
  refine bodyPost_ret (results_ct rfl _ _ gb611 32 #[.int .i64 t612, .string t613, .slice Ao615 t614.length co615] (0, 0) _ rfl xB Tryd.underlying32 rfl (by kernel_rfl)) rfl ?_
  exact ⟨_, y0_17, rR HO616, UpW.out⟩
 replace c10 := Bool.eq_false_iff.mpr c10; subst c10
 rw [if_neg (show ¬ (false = true) by decide)] at H
 have H' := Aside0.mk H; clear H
 go_upto_if 23 with (first | ((with_reducible refine gate_callee (f := 34) rfl ?_); refine gC (some 17) Tryd.func34 (impl_QcOk.calls (hr1_2 := rC HO616) (hc1_2 := rL HO616) (w := _) (h := A9.out)) ?_; intro w13 _))
 have H := H'.out; clear H'
 simp only [Option.some.injEq, Prod.mk.injEq] at H
 obtain ⟨rfl, rfl, rfl, rfl⟩ := H
 go_wp2
 refine bodyPost_ret (results_ct rfl _ _ gb611 32 #[.int .i64 0, .string (⟨#[]⟩ : ByteArray), .slice none 0 0] (0, 0) _ rfl xB Tryd.underlying32 rfl (by kernel_rfl)) rfl ?_
 exact ⟨_, y0_17, Kd.R_nil _ _ _ _ _, UpW.out⟩

/-! ### laws_FnTooFew: function 3 -/
def laws_FnTooFew.f (k : Nat) (l0 : List Int) : Option (Bool) := (laws_big.f l0).bind fun t619 => (if t619 = true then (some true) else ((spec_DrawPartQc.f k l0).bind fun bt620 => ((impl_Quorum.f bt620.1 bt620.2.1).bind fun t629 => ((spec_Quorum.f bt620.1 bt620.2.1).bind fun t630 => (if t629 = t630 then (if (bt620.2.2.2.2.length : Int) < t629 then ((impl_PartQc.f k bt620.1 bt620.2.1 bt620.2.2.1 bt620.2.2.2.1 bt620.2.2.2.2).bind fun bt631 => ((spec_Quorum.f bt620.1 bt620.2.1).bind fun t638 => (if t629 = t638 then (some (!bt631.2.2.2)) else (some false)))) else ((some (([] : List Int) : List Int)).bind fun y640 => (if 0 ≤ (wrap64 (t629 - 1)) then (if (wrap64 (t629 - 1)) ≤ (bt620.2.2.2.2.length : Int) then ((some (bt620.2.2.2.2.take ((wrap64 (t629 - 1)) : Int).toNat : List Int)).bind fun y643 => (if y640.length + y643.length < 17592186044416 then ((impl_PartQc.f k bt620.1 bt620.2.1 bt620.2.2.1 bt620.2.2.2.1 (y640 ++ y643)).bind fun bt650 => (if bt650.2.2.2 = true then (some (decide (t629 ≤ 0))) else (some true))) else (none))) else (none)) else (none)))) else ((impl_PartQc.f k bt620.1 bt620.2.1 bt620.2.2.1 bt620.2.2.2.1 bt620.2.2.2.2).bind fun bt657 => ((spec_Quorum.f bt620.1 bt620.2.1).bind fun t664 => (if t629 = t664 then (some (!bt657.2.2.2)) else (some false)))))))))
theorem laws_FnTooFew.mono : ∀ a0 k, LeO (laws_FnTooFew.f k a0) (laws_FnTooFew.f (k + 1) a0) := by
 intro a0 k
 unfold laws_FnTooFew.f
 repeat' first | (with_reducible exact impl_PartQc.mono _ _ _ _ _ _) | (with_reducible exact spec_DrawPartQc.mono _ _) | (with_reducible exact LeO.refl _) | (with_reducible exact LeO.none _) | (with_reducible refine LeO.ite ?_ ?_) | (with_reducible refine LeO.bind ?_ (fun _ => ?_))
set_option maxHeartbeats 8000000 in
set_option maxRecDepth 100000 in
theorem laws_FnTooFew.calls (k : Nat) (A0 : Option Addr) (c0 : Nat) (l0 : List Int) (r : Bool) (hrt : Aside0 (r = true)) (w : World) (hr0 : Kd.C (Kd.int .u8) w A0 l0.length l0) (hc0 : l0.length ≤ c0) (h : laws_FnTooFew.f k l0 = some r) (hG : Glob w := by exact gG HG HB) :
  Calls Tryd.prog 3 #[.slice A0 l0.length c0] w fun e w' => e = .returned (.bool r) ∧ Below w.heap.size w w' := by
 have HG := Aside0.mk hG; clear hG; have hu25 := Tryd.underlying25; have hu28 := Tryd.underlying28; have hu32 := Tryd.underlying32; have HR0 := Aside0.mk hr0; have HC0 := Aside0.mk hc0; clear hr0 hc0; have HB := Aside0.mk (Below.refl w.heap.size w)
 have H := h; unfold laws_FnTooFew.f at H
 clear h; obtain ⟨t619, A2, H⟩ := oB H; (try dsimp only at H)
 go_enter Tryd.func3, Tryd.ntmps3
 have H' := Aside0.mk H; clear H
 go_upto_if 12 with (first | ((with_reducible refine gate_callee (f := 6) rfl ?_); refine gD (some 12) Tryd.func6 (laws_big.calls (hr0 := pC HR0) (hc0 := HC0.out) (w := _) (h := A2.out)) ?_; intro w3 _))
 have H := H'.out; clear H'
 by_cases c4 : t619 = true
 ·
  subst c4
  rw [if_pos rfl] at H
  obtain rfl := Option.some.inj H
  go_wp2
  go_ret
  exact ⟨y0_17, UpW.out⟩
 replace c4 := Bool.eq_false_iff.mpr c4; subst c4
 rw [if_neg (show ¬ (false = true) by decide)] at H
 obtain ⟨⟨t620, t621, t622, t623, t624⟩, A5, H⟩ := oB H; (try dsimp only at H); obtain ⟨t629, A6, H⟩ := oB H; (try dsimp only at H); have H' := Aside0.mk H; clear H
 go_upto_region 5 with (first | ((with_reducible refine gate_callee (f := 7) rfl ?_); refine gC1 (some 15) Tryd.func7 (spec_DrawPartQc.calls (hr0 := pC HR0) (hc0 := HC0.out) (w := _) (h := A5.out)) ?_; intro Ao625 co625 w7 _ HO626) | ((with_reducible refine gd 3 ?_); refine bL 3 #[.int .i64 0, .int .i64 0] 25 ?_; intro gb627 w8 _ _ _) | ((with_reducible refine gd 4 ?_); refine bL 4 #[.int .i64 0, .string (⟨#[]⟩ : ByteArray), .slice none 0 0] 28 ?_; intro gb628 w9 _ _ _) | ((with_reducible refine gate_callee (f := 8) rfl ?_); refine gC (some 19) Tryd.func8 (impl_Quorum.calls (w := _) (h := A6.out)) ?_; intro w10 _))
 have H := H'.out; clear H'; obtain ⟨t630, A11, H⟩ := oB H; (try dsimp only at H)
 by_cases c12 : t629 = t630
 ·
  rw [if_pos c12] at H
  have c12b0 : (t629 == t630) = true := beq_iff_eq.mpr c12; have c12b1 : (t629 != t630) = false := bne_eq_false_iff_eq.mpr c12; clear c12
  (first | rw [c12b0] | (simp only [i64_w, i32_w]; rw [c12b0]) | skip)
  have H' := Aside0.mk H; clear H
  go_upto_if 30 with (first | ((with_reducible refine gate_callee (f := 9) rfl ?_); refine gC (some 22) Tryd.func9 (spec_Quorum.calls (w := _) (h := A11.out)) ?_; intro w13 _))
  have H := H'.out; clear H'
  by_cases c14 : (t624.length : Int) < t629
  ·
   rw [if_pos c14] at H
   have c14b0 : decide ((t624.length : Int) < t629) = true := decide_eq_true c14; clear c14
   (first | rw [c14b0] | (simp only [i64_w, i32_w]; rw [c14b0]) | skip)
   obtain ⟨⟨t631, t632, t633, t636⟩, A15, H⟩ := oB H; (try dsimp only at H); have H' := Aside0.mk H; clear H
   go_upto_region 7 with (first | ((with_reducible refine gate_callee (f := 10) rfl ?_); refine gC1 (some 34) Tryd.func10 (impl_PartQc.calls (hr1_2 := rC HO626) (hc1_2 := rL HO626) (w := _) (h := A15.out)) ?_; intro Ao634 co634 w16 _ HO635) | ((with_reducible refine gd 6 ?_); refine bL 6 #[.int .i64 0, .string (⟨#[]⟩ : ByteArray), .slice none 0 0] 32 ?_; intro gb637 w17 _ _ _))
   have H := H'.out; clear H'; obtain ⟨t638, A18, H⟩ := oB H; (try dsimp only at H)
   by_cases c19 : t629 = t638
   rotate_left
   ·
    rw [if_neg c19] at H
    have c19b0 : (t629 == t638) = false := beq_eq_false_iff_ne.mpr c19; have c19b1 : (t629 != t638) = true := bne_iff_ne.mpr c19
    (first | rw [c19b0] | (simp only [i64_w, i32_w]; rw [c19b0]) | skip)
    exact absurd (hrt.out.symm.trans (Option.some.inj H).symm) (by decide)
   rw [if_pos c19] at H
   have c19b0 : (t629 == t638) = true := beq_iff_eq.mpr c19; have c19b1 : (t629 != t638) = false := bne_eq_false_iff_eq.mpr c19; clear c19
   (first | rw [c19b0] | (simp only [i64_w, i32_w]; rw [c19b0]) | skip)
   obtain rfl := Option.some.inj H
   go_wp2_with (first | ((with_reducible refine gate_callee (f := 9) rfl ?_); refine gC (some 39) Tryd.func9 (spec_Quorum.calls (w := _) (h := A18.out)) ?_; intro w20 _))
   go_ret
   exact ⟨y0_17, UpW.out⟩
  rw [if_neg c14] at H
  have c14b0 : decide ((t624.length : Int) < t629) = false := decide_eq_false c14; clear c14
  (first | rw [c14b0] | (simp only [i64_w, i32_w]; rw [c14b0]) | skip)
  obtain ⟨y640, hy640⟩ : ∃ y_ : List Int, y_ = (([] : List Int)) := ⟨_, rfl⟩
  replace H : (if 0 ≤ (wrap64 (t629 - 1)) then (if (wrap64 (t629 - 1)) ≤ (t624.length : Int) then ((some (t624.take ((wrap64 (t629 - 1)) : Int).toNat : List Int)).bind fun y643 => (if y640.length + y643.length < 17592186044416 then ((impl_PartQc.f k t620 t621 t622 t623 (y640 ++ y643)).bind fun bt650 => (if bt650.2.2.2 = true then (some (decide (t629 ≤ 0))) else (some true))) else (none))) else (none)) else (none)) = some r := by first | (rw [hy640]; with_reducible exact H) | (have H2_ := (Option.bind_some _ _).symm.trans H; rw [hy640]; with_reducible exact H2_) | (have H2_ := (Option.bind_some _ _).symm.trans H; with_reducible exact H2_) | with_reducible exact H | (rw [hy640]; exact H) | exact H
  have Ny640 := Aside0.mk hy640; clear hy640; obtain ⟨ji21, hji21⟩ : ∃ j_ : Int, (wrap64 (t629 - 1)) = j_ := ⟨_, rfl⟩
  replace H : (if 0 ≤ (ji21) then (if (ji21) ≤ (t624.length : Int) then ((some (t624.take ((ji21) : Int).toNat : List Int)).bind fun y643 => (if y640.length + y643.length < 17592186044416 then ((impl_PartQc.f k t620 t621 t622 t623 (y640 ++ y643)).bind fun bt650 => (if bt650.2.2.2 = true then (some (decide (t629 ≤ 0))) else (some true))) else (none))) else (none)) else (none)) = some r := by first | (rw [hji21] at H; exact H) | (simp only [hji21] at H ⊢; exact H)
  have hji21w : (IntKind.i64.wrap (t629 - 1)) = ji21 := (i64_w _).trans hji21
  by_cases c22 : 0 ≤ (ji21)
  rotate_left
  ·
   rw [if_neg c22] at H
   exact absurd H (by simp)
  rw [if_pos c22] at H
  have c22b0 := eq_true c22; have c22b1 : decide (0 ≤ (ji21)) = true := decide_eq_true c22; clear c22
  by_cases c23 : (ji21) ≤ (t624.length : Int)
  rotate_left
  ·
   rw [if_neg c23] at H
   exact absurd H (by simp)
  rw [if_pos c23] at H
  have c23b0 := eq_true c23; have c23b1 : decide ((ji21) ≤ (t624.length : Int)) = true := decide_eq_true c23; clear c23; obtain ⟨y643, hy643⟩ : ∃ y_ : List Int, y_ = (t624.take ((ji21) : Int).toNat) := ⟨_, rfl⟩
  replace H : (if y640.length + y643.length < 17592186044416 then ((impl_PartQc.f k t620 t621 t622 t623 (y640 ++ y643)).bind fun bt650 => (if bt650.2.2.2 = true then (some (decide (t629 ≤ 0))) else (some true))) else (none)) = some r := by first | (rw [hy643]; with_reducible exact H) | (have H2_ := (Option.bind_some _ _).symm.trans H; rw [hy643]; with_reducible exact H2_) | (have H2_ := (Option.bind_some _ _).symm.trans H; with_reducible exact H2_) | with_reducible exact H | (rw [hy643]; exact H) | exact H
  have Ny643 := Aside0.mk hy643; clear hy643
  by_cases c24 : y640.length + y643.length < 17592186044416
  rotate_left
  ·
   rw [if_neg c24] at H
   exact absurd H (by simp)
  rw [if_pos c24] at H
  have LMc24 := Aside0.mk c24; clear c24; obtain ⟨y647, hy647⟩ : ∃ y_ : List Int, y_ = (y640 ++ y643) := ⟨_, rfl⟩
  replace H : ((impl_PartQc.f k t620 t621 t622 t623 y647).bind fun bt650 => (if bt650.2.2.2 = true then (some (decide (t629 ≤ 0))) else (some true))) = some r := by first | (rw [hy647]; with_reducible exact H) | (have H2_ := (Option.bind_some _ _).symm.trans H; rw [hy647]; with_reducible exact H2_) | (have H2_ := (Option.bind_some _ _).symm.trans H; with_reducible exact H2_) | with_reducible exact H | (rw [hy647]; exact H) | exact H
  have Ny647 := Aside0.mk hy647; clear hy647; obtain ⟨⟨t650, t651, t652, t655⟩, A25, H⟩ := oB H; (try dsimp only at H); have H' := Aside0.mk H; clear H
  go_upto_region 11 with (first | ((with_reducible refine gd 8 ?_); refine bL 8 #[.int .i64 0, .string (⟨#[]⟩ : ByteArray), .slice none 0 0] 28 ?_; intro gb639 w26 _ _ _) | ((with_reducible refine gate_dst (N := 46) rfl ?_); refine lL 46 3 (Kd.int .i64) rfl Ny640 ?_; intro Ao641 co641 w27 _ HO642; have q28 : ((ji21) : Int) ≤ (t624.length : Int) := of_decide_eq_true y0_16; obtain ⟨i028, hi028, _, hsz28, _⟩ := info_parts info3; have hcut28 := cut_to (P := Tryd.prog) 26 3 .i64 Tryd.underlying26 hi028 Ao625 t624.length co625 (ji21) (of_decide_eq_true y0_16) q28 (rL HO626); have hr28 := Kd.R_take (m := ((ji21) : Int).toNat) HO626.out (by omega); have hy28 : y643.length = ((ji21) : Int).toNat := (by rw [Ny643.out, List.length_take]; omega); rw [← Ny643.out] at hr28; rw [← hy28] at hr28 hcut28; have HR646 := Aside0.mk hr28; clear hy28 hi028 hsz28 hr28; replace q28 := eq_true q28; have hcut28_ := hcut28; (try rw [← hji21] at hcut28_)) | ((with_reducible refine gate_builtin (b := .append) (xs := #[.tmp 46, .tmp 51]) rfl ?_); at_builtin; refine gR (Kd.int .i64) (.tmp 46) (.tmp 51) 26 3 (.int .i64 0) 8 w26 Ny647 HO642 (rC HR646) (by have := LMc24.out; omega) ?_ (ht := Tryd.underlying26) (hinfo := info3); intro Ao648 co648 w29 _ _ HO649) | ((with_reducible refine gate_callee (f := 10) rfl ?_); refine gC1 (some 57) Tryd.func10 (impl_PartQc.calls (hr1_2 := rC HO649) (hc1_2 := rL HO649) (w := _) (h := A25.out)) ?_; intro Ao653 co653 w30 _ HO654) | ((with_reducible refine gd 9 ?_); refine bL 9 #[.int .i64 0, .string (⟨#[]⟩ : ByteArray), .slice none 0 0] 32 ?_; intro gb656 w31 _ _ _))
  have H := H'.out; clear H'
  by_cases c32 : t655 = true
  ·
   subst c32
   rw [if_pos rfl] at H
   obtain rfl := Option.some.inj H
   go_wp2
   go_ret
   exact ⟨by first | rfl | (simp; done) | (simp only [← hji21] <;> (first | rfl | simp)) | (simp [*]; done), UpW.out⟩
  replace c32 := Bool.eq_false_iff.mpr c32; subst c32
  rw [if_neg (show ¬ (false = true) by decide)] at H
  obtain rfl := Option.some.inj H
  go_wp2
  go_ret
  exact ⟨by first | rfl | (simp; done) | (simp only [← hji21] <;> (first | rfl | simp)) | (simp [*]; done), UpW.out⟩
 rw [if_neg c12] at H
 have c12b0 : (t629 == t630) = false := beq_eq_false_iff_ne.mpr c12; have c12b1 : (t629 != t630) = true := bne_iff_ne.mpr c12
 (first | rw [c12b0] | (simp only [i64_w, i32_w]; rw [c12b0]) | skip)
 have H' := Aside0.mk H; clear H
 go_upto_if 30 with (first | ((with_reducible refine gate_callee (f := 9) rfl ?_); refine gC (some 22) Tryd.func9 (spec_Quorum.calls (w := _) (h := A11.out)) ?_; intro w33 _))
 have H := H'.out; clear H'; obtain ⟨⟨t657, t658, t659, t662⟩, A34, H⟩ := oB H; (try dsimp only at H); have H' := Aside0.mk H; clear H
 go_upto_region 7 with (first | ((with_reducible refine gate_callee (f := 10) rfl ?_); refine gC1 (some 34) Tryd.func10 (impl_PartQc.calls (hr1_2 := rC HO626) (hc1_2 := rL HO626) (w := _) (h := A34.out)) ?_; intro Ao660 co660 w35 _ HO661) | ((with_reducible refine gd 6 ?_); refine bL 6 #[.int .i64 0, .string (⟨#[]⟩ : ByteArray), .slice none 0 0] 32 ?_; intro gb663 w36 _ _ _))
 have H := H'.out; clear H'; obtain ⟨t664, A37, H⟩ := oB H; (try dsimp only at H)
 by_cases c38 : t629 = t664
 ·
  rw [if_pos c38] at H
  have c38b0 : (t629 == t664) = true := beq_iff_eq.mpr c38; have c38b1 : (t629 != t664) = false := bne_eq_false_iff_eq.mpr c38; clear c38
  (first | rw [c38b0] | (simp only [i64_w, i32_w]; rw [c38b0]) | skip)
  obtain rfl := Option.some.inj H
  go_wp2_with (first | ((with_reducible refine gate_callee (f := 9) rfl ?_); refine gC (some 39) Tryd.func9 (spec_Quorum.calls (w := _) (h := A37.out)) ?_; intro w39 _))
  go_ret
  exact ⟨y0_17, UpW.out⟩
 rw [if_neg c38] at H
 have c38b0 : (t629 == t664) = false := beq_eq_false_iff_ne.mpr c38; have c38b1 : (t629 != t664) = true := bne_iff_ne.mpr c38
 (first | rw [c38b0] | (simp only [i64_w, i32_w]; rw [c38b0]) | skip)
 exact absurd (hrt.out.symm.trans (Option.some.inj H).symm) (by decide)


end Go.Proofs.YtnpbopadajbopaaDoor.PFnTooFew
