-- By a program of this session, out of the translation (the print of the kit, with turns of its own). Lean checks it.
import Derived.Test.YtemjmefacifdeaaGreatDoorPFnEitherOrderx0
import Derived.Test.YtemjmefacifdeaaGreatDoorPFnEitherOrderx1
import Derived.Test.YtemjmefacifdeaaGreatDoorPFnEitherOrderx2
import Derived.Test.YtemjmefacifdeaaGreatDoorPFnEitherOrderx6
import Derived.Test.YtemjmefacifdeaaGreatDoorPFnEitherOrderx7
import Derived.Test.YtemjmefacifdeaaGreatDoorPFnEitherOrderx8
namespace Go.Proofs.YtemjmefacifdeaaGreatDoor.PFnEitherOrder
open Go.RowKit Go.Proofs.YtemjmefacifdeaaGreatDoorW.PrintWords Go.Proofs.YtemjmefacifdeaaGreatDoorW.PrintLast Go.Proofs.YtemjmefacifdeaaGreatDoorW.PrintMore
attribute [local go_sem] max2_int min2_int max_two min_two max_three min_three max_four min_four   -- for this text's walks alone
attribute [local go_sem] cell_in frozen_in
set_option synthInstance.maxSize 1000000
set_option synthInstance.maxHeartbeats 2000000
set_option linter.unusedVariables false
set_option linter.unusedSimpArgs false

/-! ### impl_See: function 26 -/
def impl_See.f (k : Nat) (a0_0 : Int) (a0_1 : Int) (a1_0 : Int) (a1_1 : Int) (a1_2 : Int) (a1_3 : ByteArray) (l1_4 : List Int) (a1_5 : ByteArray) (a2_0 : Int) (a2_1 : ByteArray) (l2_2 : List Int) : Option (Int × Int × Int × ByteArray × List Int × ByteArray) := (impl_copySafe.f a1_0 a1_1 a1_2 a1_3 l1_4 a1_5).bind fun bt437 => ((impl_SafeOk.f k a0_0 a0_1 a1_0 a1_1 a1_2 a1_3 l1_4 a1_5).bind fun t446 => (if t446 = true then ((impl_QcOk.f k a0_0 a0_1 a2_0 a2_1 l2_2).bind fun t447 => (if t447 = true then ((impl_QcLater.f a2_0 a2_1 l2_2 a1_2 a1_3 l1_4).bind fun bt448 => ((impl_UpOf.f k a2_1).bind fun t453 => ((impl_ViewOf.f k t453).bind fun t454 => ((impl_Settles.f k a2_1).bind fun bt455 => (if bt455.2 = true then ((impl_Extends.f k bt455.1 a1_5).bind fun t457 => (if t457 = true then (some (bt437.1, mx a1_1 t454, bt448.1, bt448.2.1, bt448.2.2, bt455.1)) else (some (bt437.1, mx a1_1 t454, bt448.1, bt448.2.1, bt448.2.2, bt437.2.2.2.2.2)))) else (some (bt437.1, mx a1_1 t454, bt448.1, bt448.2.1, bt448.2.2, bt437.2.2.2.2.2))))))) else (some (bt437.1, bt437.2.1, bt437.2.2.1, bt437.2.2.2.1, bt437.2.2.2.2.1, bt437.2.2.2.2.2)))) else (some (bt437.1, bt437.2.1, bt437.2.2.1, bt437.2.2.2.1, bt437.2.2.2.2.1, bt437.2.2.2.2.2))))
theorem impl_See.mono : ∀ a0 a1 a2 a3 a4 a5 a6 a7 a8 a9 a10 k, LeO (impl_See.f k a0 a1 a2 a3 a4 a5 a6 a7 a8 a9 a10) (impl_See.f (k + 1) a0 a1 a2 a3 a4 a5 a6 a7 a8 a9 a10) := by
 intro a0 a1 a2 a3 a4 a5 a6 a7 a8 a9 a10 k
 unfold impl_See.f
 repeat' first | (with_reducible exact impl_Extends.mono _ _ _) | (with_reducible exact impl_QcOk.mono _ _ _ _ _ _) | (with_reducible exact impl_SafeOk.mono _ _ _ _ _ _ _ _ _) | (with_reducible exact impl_Settles.mono _ _) | (with_reducible exact impl_UpOf.mono _ _) | (with_reducible exact impl_ViewOf.mono _ _) | (with_reducible exact LeO.refl _) | (with_reducible exact LeO.none _) | (with_reducible refine LeO.ite ?_ ?_) | (with_reducible refine LeO.bind ?_ (fun _ => ?_))
def impl_See.T5 : Bool × List (List Nat × List Nat) := (true, [([], []), ([0], [0]), ([], []), ([2], [2]), ([3], [3]), ([4, 4], [4]), ([1, 5], [1, 5]), ([0, 1, 2, 3, 4, 5, 6], []), ([7, 6, 5, 0, 1, 2, 3, 4, 5, 6], [6, 7])])
def impl_See.B5 : List Nat := [0, 1, 0, 4, 12, 28, 63, 127, 255]
theorem impl_See.tab5 : rtab .any (opsOf Tryz.f26 5) = impl_See.T5 := by kernel_rfl
theorem impl_See.bits5 : waitsOk impl_See.T5.2 impl_See.B5 = true := by kernel_rfl
set_option maxHeartbeats 8000000 in
set_option maxRecDepth 100000 in
theorem impl_See.calls (k : Nat) (a0_0 : Int) (a0_1 : Int) (a1_0 : Int) (a1_1 : Int) (a1_2 : Int) (a1_3 : ByteArray) (A1_4 : Option Addr) (c1_4 : Nat) (l1_4 : List Int) (a1_5 : ByteArray) (a2_0 : Int) (a2_1 : ByteArray) (A2_2 : Option Addr) (c2_2 : Nat) (l2_2 : List Int) (r1 : Int) (r2 : Int) (r3 : Int) (r4 : ByteArray) (r5 : List Int) (r6 : ByteArray) (w : World) (hr1_4 : Kd.C (Kd.int .i64) w A1_4 l1_4.length l1_4) (hc1_4 : l1_4.length ≤ c1_4) (hr2_2 : Kd.C (Kd.int .i64) w A2_2 l2_2.length l2_2) (hc2_2 : l2_2.length ≤ c2_2) (h : impl_See.f k a0_0 a0_1 a1_0 a1_1 a1_2 a1_3 l1_4 a1_5 a2_0 a2_1 l2_2 = some (r1, r2, r3, r4, r5, r6)) (hG : Glob w := by exact gG HG HB) :
  Calls Tryz.prog 26 #[.agg #[.int .i64 a0_0, .int .i64 a0_1], .agg #[.int .i64 a1_0, .int .i64 a1_1, .int .i64 a1_2, .string a1_3, .slice A1_4 l1_4.length c1_4, .string a1_5], .agg #[.int .i64 a2_0, .string a2_1, .slice A2_2 l2_2.length c2_2]] w fun e w' => ∃ v4_ : Value, e = .returned (.agg #[.int .i64 r1, .int .i64 r2, .int .i64 r3, .string r4, v4_, .string r6]) ∧ Kd.R (Kd.int .i64) 3 w' w.heap.size (fun _ => True) v4_ r5 ∧ Below w.heap.size w w' := by
 have HG := Aside0.mk hG; clear hG; have hu38 := Tryz.underlying38; have hu35 := Tryz.underlying35; have hu33 := Tryz.underlying33; have HR1_4 := Aside0.mk hr1_4; have HC1_4 := Aside0.mk hc1_4; clear hr1_4 hc1_4; have HR2_2 := Aside0.mk hr2_2; have HC2_2 := Aside0.mk hc2_2; clear hr2_2 hc2_2; have HB := Aside0.mk (Below.refl w.heap.size w)
 have H : ((impl_copySafe.f a1_0 a1_1 a1_2 a1_3 l1_4 a1_5).bind fun bt437 => ((impl_SafeOk.f k a0_0 a0_1 a1_0 a1_1 a1_2 a1_3 l1_4 a1_5).bind fun t446 => (if t446 = true then ((impl_QcOk.f k a0_0 a0_1 a2_0 a2_1 l2_2).bind fun t447 => (if t447 = true then ((impl_QcLater.f a2_0 a2_1 l2_2 a1_2 a1_3 l1_4).bind fun bt448 => ((impl_UpOf.f k a2_1).bind fun t453 => ((impl_ViewOf.f k t453).bind fun t454 => ((impl_Settles.f k a2_1).bind fun bt455 => (if bt455.2 = true then ((impl_Extends.f k bt455.1 a1_5).bind fun t457 => (if t457 = true then (some (bt437.1, mx a1_1 t454, bt448.1, bt448.2.1, bt448.2.2, bt455.1)) else (some (bt437.1, mx a1_1 t454, bt448.1, bt448.2.1, bt448.2.2, bt437.2.2.2.2.2)))) else (some (bt437.1, mx a1_1 t454, bt448.1, bt448.2.1, bt448.2.2, bt437.2.2.2.2.2))))))) else (some (bt437.1, bt437.2.1, bt437.2.2.1, bt437.2.2.2.1, bt437.2.2.2.2.1, bt437.2.2.2.2.2)))) else (some (bt437.1, bt437.2.1, bt437.2.2.1, bt437.2.2.2.1, bt437.2.2.2.2.1, bt437.2.2.2.2.2))))) = some (r1, r2, r3, r4, r5, r6) := h
 clear h; obtain ⟨⟨t437, t438, t439, t440, t441, t444⟩, A40, H⟩ := Option.bind_eq_some_iff.mp H
 try dsimp only at H
 have A4 := Aside0.mk A40; clear A40; obtain ⟨t446, A50, H⟩ := Option.bind_eq_some_iff.mp H
 try dsimp only at H
 have A5 := Aside0.mk A50; clear A50
 by_cases c6 : t446 = true
 ·
  subst c6
  rw [if_pos rfl] at H
  obtain ⟨t447, A70, H⟩ := Option.bind_eq_some_iff.mp H
  try dsimp only at H
  have A7 := Aside0.mk A70; clear A70
  by_cases c8 : t447 = true
  ·
   subst c8
   rw [if_pos rfl] at H
   obtain ⟨⟨t448, t449, t450⟩, A90, H⟩ := Option.bind_eq_some_iff.mp H
   try dsimp only at H
   have A9 := Aside0.mk A90; clear A90; obtain ⟨t453, A100, H⟩ := Option.bind_eq_some_iff.mp H
   try dsimp only at H
   have A10 := Aside0.mk A100; clear A100; obtain ⟨t454, A110, H⟩ := Option.bind_eq_some_iff.mp H
   try dsimp only at H
   have A11 := Aside0.mk A110; clear A110; obtain ⟨ji12, hji12⟩ : ∃ j_ : Int, (mx a1_1 t454) = j_ := ⟨_, rfl⟩
   replace H : ((impl_Settles.f k a2_1).bind fun bt455 => (if bt455.2 = true then ((impl_Extends.f k bt455.1 a1_5).bind fun t457 => (if t457 = true then (some (t437, ji12, t448, t449, t450, bt455.1)) else (some (t437, ji12, t448, t449, t450, t444)))) else (some (t437, ji12, t448, t449, t450, t444)))) = some (r1, r2, r3, r4, r5, r6) := by first | (rw [hji12] at H; exact H) | (simp only [hji12] at H ⊢; exact H)
   (try rw [hji12] at A4)
   (try rw [hji12] at A5)
   (try rw [hji12] at A7)
   (try rw [hji12] at A9)
   (try rw [hji12] at A10)
   (try rw [hji12] at A11)
   have hji12_ : (if a1_1 < t454 then t454 else a1_1) = ji12 := hji12; obtain ⟨⟨t455, t456⟩, A130, H⟩ := Option.bind_eq_some_iff.mp H
   try dsimp only at H
   have A13 := Aside0.mk A130; clear A130
   by_cases c14 : t456 = true
   ·
    subst c14
    rw [if_pos rfl] at H
    obtain ⟨t457, A150, H⟩ := Option.bind_eq_some_iff.mp H
    try dsimp only at H
    have A15 := Aside0.mk A150; clear A150
    by_cases c16 : t457 = true
    ·
     subst c16
     rw [if_pos rfl] at H
     simp only [Option.some.injEq, Prod.mk.injEq] at H
     obtain ⟨rfl, rfl, rfl, rfl, rfl, rfl⟩ := H
     go_enter Tryz.func26, Tryz.ntmps26
     try go_wp2_with (first | ((with_reducible refine gd 3 ?_); refine bL 3 #[.int .i64 a0_0, .int .i64 a0_1] 38 ?_; intro gb433 w17 _ _ _) | ((with_reducible refine gd 4 ?_); refine bL 4 #[.int .i64 a1_0, .int .i64 a1_1, .int .i64 a1_2, .string a1_3, .slice A1_4 l1_4.length c1_4, .string a1_5] 35 ?_; intro gb434 w18 _ _ _) | ((with_reducible refine gd 5 ?_); refine bL 5 #[.int .i64 a2_0, .string a2_1, .slice A2_2 l2_2.length c2_2] 33 ?_; intro gb435 w19 _ _ _) | ((with_reducible refine gd 6 ?_); refine bL 6 #[.int .i64 0, .int .i64 0, .int .i64 0, .string (⟨#[]⟩ : ByteArray), .slice none 0 0, .string (⟨#[]⟩ : ByteArray)] 35 ?_; intro gb436 w20 _ _ _) | ((with_reducible refine gate_callee (f := 63) rfl ?_); refine gC1 (some 11) Tryz.func63 (impl_copySafe.calls (hr0_4 := pC HR1_4) (hc0_4 := HC1_4.out) (w := _) (h := A4.out)) ?_; intro Ao442 co442 w21 _ HO443) | ((with_reducible refine gd 7 ?_); refine bL 7 #[.int .i64 0, .int .i64 0, .int .i64 0, .string (⟨#[]⟩ : ByteArray), .slice none 0 0, .string (⟨#[]⟩ : ByteArray)] 35 ?_; intro gb445 w22 _ _ _) | ((with_reducible refine gate_callee (f := 72) rfl ?_); refine gC (some 14) Tryz.func72 (impl_SafeOk.calls (hr1_4 := pC HR1_4) (hc1_4 := HC1_4.out) (w := _) (h := A5.out)) ?_; intro w23 _) | (go_at_call 48; refine aC (impl_QcOk.calls (hr1_2 := pC HR2_2) (hc1_2 := HC2_2.out) (w := _) (h := A7.out)) ?_; intro w24 _) | ((with_reducible refine gate_callee (f := 56) rfl ?_); refine gC1 (some 26) Tryz.func56 (impl_QcLater.calls (hr0_2 := pC HR2_2) (hc0_2 := HC2_2.out) (hr1_2 := pC HR1_4) (hc1_2 := HC1_4.out) (w := _) (h := A9.out)) ?_; intro Ao451 co451 w25 _ HO452))
     refine sB [gb445] impl_See.tab5 impl_See.bits5 ?_; intro w26 _ HT_ HW_
     refine pA 0 (some 28) (bz 9 1) HT_ ?_
     refine tB 1 (some 29) (bz 9 3) HT_ HW_ ?_
     refine pA 2 (some 30) (bz 9 7) HT_ ?_
     refine tB 3 (some 31) (bz 9 15) HT_ HW_ ?_
     refine o1 4 (some 32) (bz 9 31) HT_ rfl (kC Tryz.func73 (impl_UpOf.calls (w := _) (h := A10.out)) ?_); intro w27 _
     refine nA (some 32) ?_
     refine o1 5 (some 33) (bz 9 63) HT_ rfl (kC Tryz.func44 (impl_ViewOf.calls (w := _) (h := A11.out)) ?_); intro w28 _
     refine nA (some 33) ?_
     refine pA 6 (some 34) (bz 9 127) HT_ ?_
     refine pA 7 (some 35) (bz 9 255) HT_ ?_
     refine o1 8 none (bz 9 511) HT_ rfl (kS ?_)
     refine done_ (done_of HT_.out (by kernel_rfl)) ?_
     try go_wp2_with (first | ((with_reducible refine gate_callee (f := 74) rfl ?_); refine gC (some 39) Tryz.func74 (impl_Settles.calls (w := _) (h := A13.out)) ?_; intro w29 _) | (go_at_call 75; refine aC (impl_Extends.calls (w := _) (h := A15.out)) ?_; intro w30 _))
     refine bodyPost_ret (results_cell_row rfl _ _ gb436 35 #[.int .i64 t437, .int .i64 ji12, .int .i64 t448, .string t449, .slice Ao451 t450.length co451, .string t455] (0, 0) _ rfl xB Tryz.underlying35 rfl (by kernel_rfl)) rfl ?_
     exact ⟨_, y0_15, rR HO452, UpW.out⟩
    replace c16 := Bool.eq_false_iff.mpr c16; subst c16
    rw [if_neg (show ¬ (false = true) by decide)] at H
    simp only [Option.some.injEq, Prod.mk.injEq] at H
    obtain ⟨rfl, rfl, rfl, rfl, rfl, rfl⟩ := H
    go_enter Tryz.func26, Tryz.ntmps26
    try go_wp2_with (first | ((with_reducible refine gd 3 ?_); refine bL 3 #[.int .i64 a0_0, .int .i64 a0_1] 38 ?_; intro gb433 w31 _ _ _) | ((with_reducible refine gd 4 ?_); refine bL 4 #[.int .i64 a1_0, .int .i64 a1_1, .int .i64 a1_2, .string a1_3, .slice A1_4 l1_4.length c1_4, .string a1_5] 35 ?_; intro gb434 w32 _ _ _) | ((with_reducible refine gd 5 ?_); refine bL 5 #[.int .i64 a2_0, .string a2_1, .slice A2_2 l2_2.length c2_2] 33 ?_; intro gb435 w33 _ _ _) | ((with_reducible refine gd 6 ?_); refine bL 6 #[.int .i64 0, .int .i64 0, .int .i64 0, .string (⟨#[]⟩ : ByteArray), .slice none 0 0, .string (⟨#[]⟩ : ByteArray)] 35 ?_; intro gb436 w34 _ _ _) | ((with_reducible refine gate_callee (f := 63) rfl ?_); refine gC1 (some 11) Tryz.func63 (impl_copySafe.calls (hr0_4 := pC HR1_4) (hc0_4 := HC1_4.out) (w := _) (h := A4.out)) ?_; intro Ao442 co442 w35 _ HO443) | ((with_reducible refine gd 7 ?_); refine bL 7 #[.int .i64 0, .int .i64 0, .int .i64 0, .string (⟨#[]⟩ : ByteArray), .slice none 0 0, .string (⟨#[]⟩ : ByteArray)] 35 ?_; intro gb445 w36 _ _ _) | ((with_reducible refine gate_callee (f := 72) rfl ?_); refine gC (some 14) Tryz.func72 (impl_SafeOk.calls (hr1_4 := pC HR1_4) (hc1_4 := HC1_4.out) (w := _) (h := A5.out)) ?_; intro w37 _) | (go_at_call 48; refine aC (impl_QcOk.calls (hr1_2 := pC HR2_2) (hc1_2 := HC2_2.out) (w := _) (h := A7.out)) ?_; intro w38 _) | ((with_reducible refine gate_callee (f := 56) rfl ?_); refine gC1 (some 26) Tryz.func56 (impl_QcLater.calls (hr0_2 := pC HR2_2) (hc0_2 := HC2_2.out) (hr1_2 := pC HR1_4) (hc1_2 := HC1_4.out) (w := _) (h := A9.out)) ?_; intro Ao451 co451 w39 _ HO452))
    refine sB [gb445] impl_See.tab5 impl_See.bits5 ?_; intro w40 _ HT_ HW_
    refine pA 0 (some 28) (bz 9 1) HT_ ?_
    refine tB 1 (some 29) (bz 9 3) HT_ HW_ ?_
    refine pA 2 (some 30) (bz 9 7) HT_ ?_
    refine tB 3 (some 31) (bz 9 15) HT_ HW_ ?_
    refine o1 4 (some 32) (bz 9 31) HT_ rfl (kC Tryz.func73 (impl_UpOf.calls (w := _) (h := A10.out)) ?_); intro w41 _
    refine nA (some 32) ?_
    refine o1 5 (some 33) (bz 9 63) HT_ rfl (kC Tryz.func44 (impl_ViewOf.calls (w := _) (h := A11.out)) ?_); intro w42 _
    refine nA (some 33) ?_
    refine pA 6 (some 34) (bz 9 127) HT_ ?_
    refine pA 7 (some 35) (bz 9 255) HT_ ?_
    refine o1 8 none (bz 9 511) HT_ rfl (kS ?_)
    refine done_ (done_of HT_.out (by kernel_rfl)) ?_
    try go_wp2_with (first | ((with_reducible refine gate_callee (f := 74) rfl ?_); refine gC (some 39) Tryz.func74 (impl_Settles.calls (w := _) (h := A13.out)) ?_; intro w43 _) | (go_at_call 75; refine aC (impl_Extends.calls (w := _) (h := A15.out)) ?_; intro w44 _))
    refine bodyPost_ret (results_cell_row rfl _ _ gb436 35 #[.int .i64 t437, .int .i64 ji12, .int .i64 t448, .string t449, .slice Ao451 t450.length co451, .string t444] (0, 0) _ rfl xB Tryz.underlying35 rfl (by kernel_rfl)) rfl ?_
    exact ⟨_, y0_15, rR HO452, UpW.out⟩
   replace c14 := Bool.eq_false_iff.mpr c14; subst c14
   rw [if_neg (show ¬ (false = true) by decide)] at H
   simp only [Option.some.injEq, Prod.mk.injEq] at H
   obtain ⟨rfl, rfl, rfl, rfl, rfl, rfl⟩ := H
   go_enter Tryz.func26, Tryz.ntmps26
   try go_wp2_with (first | ((with_reducible refine gd 3 ?_); refine bL 3 #[.int .i64 a0_0, .int .i64 a0_1] 38 ?_; intro gb433 w45 _ _ _) | ((with_reducible refine gd 4 ?_); refine bL 4 #[.int .i64 a1_0, .int .i64 a1_1, .int .i64 a1_2, .string a1_3, .slice A1_4 l1_4.length c1_4, .string a1_5] 35 ?_; intro gb434 w46 _ _ _) | ((with_reducible refine gd 5 ?_); refine bL 5 #[.int .i64 a2_0, .string a2_1, .slice A2_2 l2_2.length c2_2] 33 ?_; intro gb435 w47 _ _ _) | ((with_reducible refine gd 6 ?_); refine bL 6 #[.int .i64 0, .int .i64 0, .int .i64 0, .string (⟨#[]⟩ : ByteArray), .slice none 0 0, .string (⟨#[]⟩ : ByteArray)] 35 ?_; intro gb436 w48 _ _ _) | ((with_reducible refine gate_callee (f := 63) rfl ?_); refine gC1 (some 11) Tryz.func63 (impl_copySafe.calls (hr0_4 := pC HR1_4) (hc0_4 := HC1_4.out) (w := _) (h := A4.out)) ?_; intro Ao442 co442 w49 _ HO443) | ((with_reducible refine gd 7 ?_); refine bL 7 #[.int .i64 0, .int .i64 0, .int .i64 0, .string (⟨#[]⟩ : ByteArray), .slice none 0 0, .string (⟨#[]⟩ : ByteArray)] 35 ?_; intro gb445 w50 _ _ _) | ((with_reducible refine gate_callee (f := 72) rfl ?_); refine gC (some 14) Tryz.func72 (impl_SafeOk.calls (hr1_4 := pC HR1_4) (hc1_4 := HC1_4.out) (w := _) (h := A5.out)) ?_; intro w51 _) | (go_at_call 48; refine aC (impl_QcOk.calls (hr1_2 := pC HR2_2) (hc1_2 := HC2_2.out) (w := _) (h := A7.out)) ?_; intro w52 _) | ((with_reducible refine gate_callee (f := 56) rfl ?_); refine gC1 (some 26) Tryz.func56 (impl_QcLater.calls (hr0_2 := pC HR2_2) (hc0_2 := HC2_2.out) (hr1_2 := pC HR1_4) (hc1_2 := HC1_4.out) (w := _) (h := A9.out)) ?_; intro Ao451 co451 w53 _ HO452))
   refine sB [gb445] impl_See.tab5 impl_See.bits5 ?_; intro w54 _ HT_ HW_
   refine pA 0 (some 28) (bz 9 1) HT_ ?_
   refine tB 1 (some 29) (bz 9 3) HT_ HW_ ?_
   refine pA 2 (some 30) (bz 9 7) HT_ ?_
   refine tB 3 (some 31) (bz 9 15) HT_ HW_ ?_
   refine o1 4 (some 32) (bz 9 31) HT_ rfl (kC Tryz.func73 (impl_UpOf.calls (w := _) (h := A10.out)) ?_); intro w55 _
   refine nA (some 32) ?_
   refine o1 5 (some 33) (bz 9 63) HT_ rfl (kC Tryz.func44 (impl_ViewOf.calls (w := _) (h := A11.out)) ?_); intro w56 _
   refine nA (some 33) ?_
   refine pA 6 (some 34) (bz 9 127) HT_ ?_
   refine pA 7 (some 35) (bz 9 255) HT_ ?_
   refine o1 8 none (bz 9 511) HT_ rfl (kS ?_)
   refine done_ (done_of HT_.out (by kernel_rfl)) ?_
   try go_wp2_with (first | ((with_reducible refine gate_callee (f := 74) rfl ?_); refine gC (some 39) Tryz.func74 (impl_Settles.calls (w := _) (h := A13.out)) ?_; intro w57 _))
   refine bodyPost_ret (results_cell_row rfl _ _ gb436 35 #[.int .i64 t437, .int .i64 ji12, .int .i64 t448, .string t449, .slice Ao451 t450.length co451, .string t444] (0, 0) _ rfl xB Tryz.underlying35 rfl (by kernel_rfl)) rfl ?_
   exact ⟨_, y0_15, rR HO452, UpW.out⟩
  replace c8 := Bool.eq_false_iff.mpr c8; subst c8
  rw [if_neg (show ¬ (false = true) by decide)] at H
  simp only [Option.some.injEq, Prod.mk.injEq] at H
  obtain ⟨rfl, rfl, rfl, rfl, rfl, rfl⟩ := H
  go_enter Tryz.func26, Tryz.ntmps26
  go_wp2_with (first | ((with_reducible refine gd 3 ?_); refine bL 3 #[.int .i64 a0_0, .int .i64 a0_1] 38 ?_; intro gb433 w58 _ _ _) | ((with_reducible refine gd 4 ?_); refine bL 4 #[.int .i64 a1_0, .int .i64 a1_1, .int .i64 a1_2, .string a1_3, .slice A1_4 l1_4.length c1_4, .string a1_5] 35 ?_; intro gb434 w59 _ _ _) | ((with_reducible refine gd 5 ?_); refine bL 5 #[.int .i64 a2_0, .string a2_1, .slice A2_2 l2_2.length c2_2] 33 ?_; intro gb435 w60 _ _ _) | ((with_reducible refine gd 6 ?_); refine bL 6 #[.int .i64 0, .int .i64 0, .int .i64 0, .string (⟨#[]⟩ : ByteArray), .slice none 0 0, .string (⟨#[]⟩ : ByteArray)] 35 ?_; intro gb436 w61 _ _ _) | ((with_reducible refine gate_callee (f := 63) rfl ?_); refine gC1 (some 11) Tryz.func63 (impl_copySafe.calls (hr0_4 := pC HR1_4) (hc0_4 := HC1_4.out) (w := _) (h := A4.out)) ?_; intro Ao442 co442 w62 _ HO443) | ((with_reducible refine gd 7 ?_); refine bL 7 #[.int .i64 0, .int .i64 0, .int .i64 0, .string (⟨#[]⟩ : ByteArray), .slice none 0 0, .string (⟨#[]⟩ : ByteArray)] 35 ?_; intro gb445 w63 _ _ _) | ((with_reducible refine gate_callee (f := 72) rfl ?_); refine gC (some 14) Tryz.func72 (impl_SafeOk.calls (hr1_4 := pC HR1_4) (hc1_4 := HC1_4.out) (w := _) (h := A5.out)) ?_; intro w64 _) | (go_at_call 48; refine aC (impl_QcOk.calls (hr1_2 := pC HR2_2) (hc1_2 := HC2_2.out) (w := _) (h := A7.out)) ?_; intro w65 _))
  refine bodyPost_ret (results_cell_row rfl _ _ gb436 35 #[.int .i64 t437, .int .i64 t438, .int .i64 t439, .string t440, .slice Ao442 t441.length co442, .string t444] (0, 0) _ rfl xB Tryz.underlying35 rfl (by kernel_rfl)) rfl ?_
  exact ⟨_, y0_19, rR HO443, UpW.out⟩
 replace c6 := Bool.eq_false_iff.mpr c6; subst c6
 rw [if_neg (show ¬ (false = true) by decide)] at H
 simp only [Option.some.injEq, Prod.mk.injEq] at H
 obtain ⟨rfl, rfl, rfl, rfl, rfl, rfl⟩ := H
 go_enter Tryz.func26, Tryz.ntmps26
 go_wp2_with (first | ((with_reducible refine gd 3 ?_); refine bL 3 #[.int .i64 a0_0, .int .i64 a0_1] 38 ?_; intro gb433 w66 _ _ _) | ((with_reducible refine gd 4 ?_); refine bL 4 #[.int .i64 a1_0, .int .i64 a1_1, .int .i64 a1_2, .string a1_3, .slice A1_4 l1_4.length c1_4, .string a1_5] 35 ?_; intro gb434 w67 _ _ _) | ((with_reducible refine gd 5 ?_); refine bL 5 #[.int .i64 a2_0, .string a2_1, .slice A2_2 l2_2.length c2_2] 33 ?_; intro gb435 w68 _ _ _) | ((with_reducible refine gd 6 ?_); refine bL 6 #[.int .i64 0, .int .i64 0, .int .i64 0, .string (⟨#[]⟩ : ByteArray), .slice none 0 0, .string (⟨#[]⟩ : ByteArray)] 35 ?_; intro gb436 w69 _ _ _) | ((with_reducible refine gate_callee (f := 63) rfl ?_); refine gC1 (some 11) Tryz.func63 (impl_copySafe.calls (hr0_4 := pC HR1_4) (hc0_4 := HC1_4.out) (w := _) (h := A4.out)) ?_; intro Ao442 co442 w70 _ HO443) | ((with_reducible refine gd 7 ?_); refine bL 7 #[.int .i64 0, .int .i64 0, .int .i64 0, .string (⟨#[]⟩ : ByteArray), .slice none 0 0, .string (⟨#[]⟩ : ByteArray)] 35 ?_; intro gb445 w71 _ _ _) | ((with_reducible refine gate_callee (f := 72) rfl ?_); refine gC (some 14) Tryz.func72 (impl_SafeOk.calls (hr1_4 := pC HR1_4) (hc1_4 := HC1_4.out) (w := _) (h := A5.out)) ?_; intro w72 _))
 refine bodyPost_ret (results_cell_row rfl _ _ gb436 35 #[.int .i64 t437, .int .i64 t438, .int .i64 t439, .string t440, .slice Ao442 t441.length co442, .string t444] (0, 0) _ rfl xB Tryz.underlying35 rfl (by kernel_rfl)) rfl ?_
 exact ⟨_, y0_19, rR HO443, UpW.out⟩

/-! ### laws_big: function 36 -/
def laws_big.f (l0 : List Int) : Option (Bool) := some (decide ((l0.length : Int) > 1048576))
set_option maxHeartbeats 8000000 in
set_option maxRecDepth 100000 in
theorem laws_big.calls (A0 : Option Addr) (c0 : Nat) (l0 : List Int) (r : Bool) (w : World) (hr0 : Kd.C (Kd.int .u8) w A0 l0.length l0) (hc0 : l0.length ≤ c0) (h : laws_big.f l0 = some r) :
  Calls Tryz.prog 36 #[.slice A0 l0.length c0] w fun e w' => e = .returned (.bool r) ∧ Drawn0 w w' := by
 have HR0 := Aside0.mk hr0; have HC0 := Aside0.mk hc0; clear hr0 hc0; have H : (some (decide ((l0.length : Int) > 1048576))) = some r := h; clear h; obtain rfl := Option.some.inj H
 go_enter Tryz.func36, Tryz.ntmps36
 go_wp2
 go_ret
 exact ⟨y0_19, y0_17⟩

/-! ### impl_SafeSame: function 40 -/
def impl_SafeSame.f (k : Nat) (a0_0 : Int) (a0_1 : Int) (a0_2 : Int) (a0_3 : ByteArray) (l0_4 : List Int) (a0_5 : ByteArray) (a1_0 : Int) (a1_1 : Int) (a1_2 : Int) (a1_3 : ByteArray) (l1_4 : List Int) (a1_5 : ByteArray) : Option (Bool) := if a0_0 = a1_0 then (if a0_1 = a1_1 then ((impl_QcSame.f k a0_2 a0_3 l0_4 a1_2 a1_3 l1_4).bind fun t460 => (if t460 = true then (some (a0_5.toList == a1_5.toList)) else (some false))) else (some false)) else (some false)
theorem impl_SafeSame.mono : ∀ a0 a1 a2 a3 a4 a5 a6 a7 a8 a9 a10 a11 k, LeO (impl_SafeSame.f k a0 a1 a2 a3 a4 a5 a6 a7 a8 a9 a10 a11) (impl_SafeSame.f (k + 1) a0 a1 a2 a3 a4 a5 a6 a7 a8 a9 a10 a11) := by
 intro a0 a1 a2 a3 a4 a5 a6 a7 a8 a9 a10 a11 k
 unfold impl_SafeSame.f
 repeat' first | (with_reducible exact impl_QcSame.mono _ _ _ _ _ _ _) | (with_reducible exact LeO.refl _) | (with_reducible exact LeO.none _) | (with_reducible refine LeO.ite ?_ ?_) | (with_reducible refine LeO.bind ?_ (fun _ => ?_))
set_option maxHeartbeats 8000000 in
set_option maxRecDepth 100000 in
theorem impl_SafeSame.calls (k : Nat) (a0_0 : Int) (a0_1 : Int) (a0_2 : Int) (a0_3 : ByteArray) (A0_4 : Option Addr) (c0_4 : Nat) (l0_4 : List Int) (a0_5 : ByteArray) (a1_0 : Int) (a1_1 : Int) (a1_2 : Int) (a1_3 : ByteArray) (A1_4 : Option Addr) (c1_4 : Nat) (l1_4 : List Int) (a1_5 : ByteArray) (r : Bool) (w : World) (hr0_4 : Kd.C (Kd.int .i64) w A0_4 l0_4.length l0_4) (hc0_4 : l0_4.length ≤ c0_4) (hr1_4 : Kd.C (Kd.int .i64) w A1_4 l1_4.length l1_4) (hc1_4 : l1_4.length ≤ c1_4) (h : impl_SafeSame.f k a0_0 a0_1 a0_2 a0_3 l0_4 a0_5 a1_0 a1_1 a1_2 a1_3 l1_4 a1_5 = some r) :
  Calls Tryz.prog 40 #[.agg #[.int .i64 a0_0, .int .i64 a0_1, .int .i64 a0_2, .string a0_3, .slice A0_4 l0_4.length c0_4, .string a0_5], .agg #[.int .i64 a1_0, .int .i64 a1_1, .int .i64 a1_2, .string a1_3, .slice A1_4 l1_4.length c1_4, .string a1_5]] w fun e w' => e = .returned (.bool r) ∧ Below w.heap.size w w' := by
 have hu35 := Tryz.underlying35; have hu33 := Tryz.underlying33; have HR0_4 := Aside0.mk hr0_4; have HC0_4 := Aside0.mk hc0_4; clear hr0_4 hc0_4; have HR1_4 := Aside0.mk hr1_4; have HC1_4 := Aside0.mk hc1_4; clear hr1_4 hc1_4; have HB := Aside0.mk (Below.refl w.heap.size w)
 have H : (if a0_0 = a1_0 then (if a0_1 = a1_1 then ((impl_QcSame.f k a0_2 a0_3 l0_4 a1_2 a1_3 l1_4).bind fun t460 => (if t460 = true then (some (a0_5.toList == a1_5.toList)) else (some false))) else (some false)) else (some false)) = some r := h
 clear h
 by_cases c3 : a0_0 = a1_0
 ·
  rw [if_pos c3] at H
  have c3b0 : (a0_0 == a1_0) = true := beq_iff_eq.mpr c3; have c3b1 : (a0_0 != a1_0) = false := bne_eq_false_iff_eq.mpr c3; clear c3
  by_cases c4 : a0_1 = a1_1
  ·
   rw [if_pos c4] at H
   have c4b0 : (a0_1 == a1_1) = true := beq_iff_eq.mpr c4; have c4b1 : (a0_1 != a1_1) = false := bne_eq_false_iff_eq.mpr c4; clear c4; obtain ⟨t460, A50, H⟩ := Option.bind_eq_some_iff.mp H
   try dsimp only at H
   have A5 := Aside0.mk A50; clear A50
   by_cases c6 : t460 = true
   ·
    subst c6
    rw [if_pos rfl] at H
    obtain rfl := Option.some.inj H
    go_enter Tryz.func40, Tryz.ntmps40
    go_wp2_with (first | ((with_reducible refine gd 2 ?_); refine bL 2 #[.int .i64 a0_0, .int .i64 a0_1, .int .i64 a0_2, .string a0_3, .slice A0_4 l0_4.length c0_4, .string a0_5] 35 ?_; intro gb458 w7 _ _ _) | ((with_reducible refine gd 3 ?_); refine bL 3 #[.int .i64 a1_0, .int .i64 a1_1, .int .i64 a1_2, .string a1_3, .slice A1_4 l1_4.length c1_4, .string a1_5] 35 ?_; intro gb459 w8 _ _ _) | (go_at_call 57; refine aC (impl_QcSame.calls (hr0_2 := pC HR0_4) (hc0_2 := HC0_4.out) (hr1_2 := pC HR1_4) (hc1_2 := HC1_4.out) (w := _) (h := A5.out)) ?_; intro w9 _))
    go_ret
    exact ⟨y0_19, UpW.out⟩
   replace c6 := Bool.eq_false_iff.mpr c6; subst c6
   rw [if_neg (show ¬ (false = true) by decide)] at H
   obtain rfl := Option.some.inj H
   go_enter Tryz.func40, Tryz.ntmps40
   go_wp2_with (first | ((with_reducible refine gd 2 ?_); refine bL 2 #[.int .i64 a0_0, .int .i64 a0_1, .int .i64 a0_2, .string a0_3, .slice A0_4 l0_4.length c0_4, .string a0_5] 35 ?_; intro gb458 w10 _ _ _) | ((with_reducible refine gd 3 ?_); refine bL 3 #[.int .i64 a1_0, .int .i64 a1_1, .int .i64 a1_2, .string a1_3, .slice A1_4 l1_4.length c1_4, .string a1_5] 35 ?_; intro gb459 w11 _ _ _) | (go_at_call 57; refine aC (impl_QcSame.calls (hr0_2 := pC HR0_4) (hc0_2 := HC0_4.out) (hr1_2 := pC HR1_4) (hc1_2 := HC1_4.out) (w := _) (h := A5.out)) ?_; intro w12 _))
   go_ret
   exact ⟨y0_19, UpW.out⟩
  rw [if_neg c4] at H
  have c4b0 : (a0_1 == a1_1) = false := beq_eq_false_iff_ne.mpr c4; have c4b1 : (a0_1 != a1_1) = true := bne_iff_ne.mpr c4; obtain rfl := Option.some.inj H
  go_enter Tryz.func40, Tryz.ntmps40
  go_wp2_with (first | ((with_reducible refine gd 2 ?_); refine bL 2 #[.int .i64 a0_0, .int .i64 a0_1, .int .i64 a0_2, .string a0_3, .slice A0_4 l0_4.length c0_4, .string a0_5] 35 ?_; intro gb458 w13 _ _ _) | ((with_reducible refine gd 3 ?_); refine bL 3 #[.int .i64 a1_0, .int .i64 a1_1, .int .i64 a1_2, .string a1_3, .slice A1_4 l1_4.length c1_4, .string a1_5] 35 ?_; intro gb459 w14 _ _ _))
  go_ret
  exact ⟨y0_19, UpW.out⟩
 rw [if_neg c3] at H
 have c3b0 : (a0_0 == a1_0) = false := beq_eq_false_iff_ne.mpr c3; have c3b1 : (a0_0 != a1_0) = true := bne_iff_ne.mpr c3; obtain rfl := Option.some.inj H
 go_enter Tryz.func40, Tryz.ntmps40
 go_wp2_with (first | ((with_reducible refine gd 2 ?_); refine bL 2 #[.int .i64 a0_0, .int .i64 a0_1, .int .i64 a0_2, .string a0_3, .slice A0_4 l0_4.length c0_4, .string a0_5] 35 ?_; intro gb458 w15 _ _ _) | ((with_reducible refine gd 3 ?_); refine bL 3 #[.int .i64 a1_0, .int .i64 a1_1, .int .i64 a1_2, .string a1_3, .slice A1_4 l1_4.length c1_4, .string a1_5] 35 ?_; intro gb459 w16 _ _ _))
 go_ret
 exact ⟨y0_19, UpW.out⟩

/-- A state of type 124 at block g of W; what its slices lead to came in by w0. -/
def IsS124 (w0 W : World) (g : Nat) (f0 : List Int) (f1 : Int) (f2 : Int) : Prop := ∃ A0 c0, W.heap[g]? = some (.cells #[.slice A0 f0.length c0, .int .i64 f1, .int .i64 f2] 124 (0, 0)) ∧ w0.heap.size ≤ g ∧ Kd.C (Kd.int .u8) w0 A0 f0.length f0
theorem IsS124.grown {w0 W : World} {g : Nat} {f0 : List Int} {f1 : Int} {f2 : Int} {W1 : World} {row : Option Nat} (h : IsS124 w0 W g f0 f1 f2) (hw : W.grownBy W1 row) (hne : some g ≠ row) : IsS124 w0 W1 g f0 f1 f2 := by
 obtain ⟨A0, c0, hb, hg, hr0⟩ := h
 exact ⟨A0, c0, blk_grown hb hw hne, hg, hr0⟩
theorem IsS124.own_neN {w0 W : World} {g : Nat} {f0 : List Int} {f1 : Int} {f2 : Int} {α : Type} {d : Kd α} {e : Nat} {base : Nat} {ok : Nat → Prop} {v : Value} {xs : List α} (h : IsS124 w0 W g f0 f1 f2) (ho : Kd.N d e W base ok v xs) (ht : e ≠ 124) : some g ≠ v.ownBlock := by
 obtain ⟨A0, c0, hb, hg, hr0⟩ := h
 exact Kd.N_ne ho hb ht
theorem IsS124.fresh {w0 W : World} {g : Nat} {f0 : List Int} {f1 : Int} {f2 : Int} (h : IsS124 w0 W g f0 f1 f2) : ∀ k, W.heap.size ≤ k → k ≠ g := by
 obtain ⟨A0, c0, hb, hg, hr0⟩ := h
 exact Kd.freshB hb
theorem IsS124.kept {w0 W : World} {g : Nat} {f0 : List Int} {f1 : Int} {f2 : Int} {W1 : World} {S : Nat → Prop} (h : IsS124 w0 W g f0 f1 f2) (hk : Kept W W1 S) (hne : ¬ S g) : IsS124 w0 W1 g f0 f1 f2 := by
 obtain ⟨A0, c0, hb, hg, hr0⟩ := h
 exact ⟨A0, c0, blk_kept hb hk hne, hg, hr0⟩
theorem IsS124.below {w0 W : World} {g : Nat} {f0 : List Int} {f1 : Int} {f2 : Int} {W1 : World} (h : IsS124 w0 W g f0 f1 f2) (hw : Below W.heap.size W W1) : IsS124 w0 W1 g f0 f1 f2 := h.grown (grown_of_below hw none) (by simp)
theorem IsS124.alloc {w0 W : World} {g : Nat} {f0 : List Int} {f1 : Int} {f2 : Int} (h : IsS124 w0 W g f0 f1 f2) (o : Obj) : IsS124 w0 (W.alloc o) g f0 f1 f2 := h.below (below_alloc (Below.refl _ _) o)
theorem IsS124.drewN {w0 W : World} {g : Nat} {f0 : List Int} {f1 : Int} {f2 : Int} (h : IsS124 w0 W g f0 f1 f2) (m : Nat) : IsS124 w0 (W.drewN m) g f0 f1 f2 := h
theorem IsS124.drew {w0 W : World} {g : Nat} {f0 : List Int} {f1 : Int} {f2 : Int} (h : IsS124 w0 W g f0 f1 f2) : IsS124 w0 W.drew g f0 f1 f2 := h
theorem IsS124.at_ {w0 W : World} {g : Nat} {f0 : List Int} {f1 : Int} {f2 : Int} {w' : World} {m : Nat} (hq : W.drewN m = w') (h : IsS124 w0 W g f0 f1 f2) : IsS124 w0 w' g f0 f1 f2 := by subst hq; exact IsS124.drewN h m
theorem IsS124.apart {w0 W : World} {g : Nat} {f0 : List Int} {f1 : Int} {f2 : Int} {α : Type} {d : Kd α} {e : Nat} {base : Nat} {ok : Nat → Prop} {v : Value} {xs : List α} (h : IsS124 w0 W g f0 f1 f2) (ho : d.R e W base ok v xs) (ht : ∀ q, q ∈ e :: d.E → q ≠ 124) : d.R e W base (fun k => ok k ∧ k ≠ g) v xs := by
 obtain ⟨A0, c0, hb, hg, hr0⟩ := h
 exact Kd.R_types ho hb ht
theorem IsS124.own_ne {w0 W : World} {g : Nat} {f0 : List Int} {f1 : Int} {f2 : Int} {α : Type} {d : Kd α} {e : Nat} {base : Nat} {ok : Nat → Prop} {v : Value} {xs : List α} (h : IsS124 w0 W g f0 f1 f2) (ho : d.R e W base ok v xs) (ht : e ≠ 124) : some g ≠ v.ownBlock := by
 obtain ⟨A0, c0, hb, hg, hr0⟩ := h
 exact Kd.R_ne ho hb ht
theorem IsS124.apartQ {w0 W : World} {g : Nat} {f0 : List Int} {f1 : Int} {f2 : Int} {α : Type} {d : Kd α} {e : Nat} {base : Nat} {ok : Nat → Prop} {v : Value} {xs : List α} (h : IsS124 w0 W g f0 f1 f2) (ho : d.Q e W base ok v xs) (ht : ∀ q, q ∈ e :: d.E → q ≠ 124) : d.Q e W base (fun k => ok k ∧ k ≠ g) v xs := by
 obtain ⟨A0, c0, hb, hg, hr0⟩ := h
 exact Kd.Q_types ho hb ht
theorem IsS124.own_neQ {w0 W : World} {g : Nat} {f0 : List Int} {f1 : Int} {f2 : Int} {α : Type} {d : Kd α} {e : Nat} {base : Nat} {ok : Nat → Prop} {v : Value} {xs : List α} (h : IsS124 w0 W g f0 f1 f2) (ho : d.Q e W base ok v xs) (ht : e ≠ 124) : some g ≠ v.ownBlock := by
 obtain ⟨A0, c0, hb, hg, hr0⟩ := h
 exact Kd.Q_ne ho hb ht
theorem IsS124.apartS {w0 W : World} {g : Nat} {f0 : List Int} {f1 : Int} {f2 : Int} {α : Type} {d : Kd α} {e : Nat} {base : Nat} {ok : Nat → Prop} {v : Value} {xs : List α} (h : IsS124 w0 W g f0 f1 f2) (ho : d.S e W base ok v xs) (ht : ∀ q, q ∈ e :: d.E → q ≠ 124) : d.S e W base (fun k => ok k ∧ k ≠ g) v xs := by
 obtain ⟨A0, c0, hb, hg, hr0⟩ := h
 exact Kd.S_types ho hb ht
theorem IsS124.own_neS {w0 W : World} {g : Nat} {f0 : List Int} {f1 : Int} {f2 : Int} {α : Type} {d : Kd α} {e : Nat} {base : Nat} {ok : Nat → Prop} {v : Value} {xs : List α} (h : IsS124 w0 W g f0 f1 f2) (ho : d.S e W base ok v xs) (ht : e ≠ 124) : some g ≠ v.ownBlock := by
 obtain ⟨A0, c0, hb, hg, hr0⟩ := h
 exact Kd.S_ne ho hb ht
theorem IsS124.lt {w0 W : World} {g : Nat} {f0 : List Int} {f1 : Int} {f2 : Int} (h : IsS124 w0 W g f0 f1 f2) : g < W.heap.size := by
 obtain ⟨A0, c0, hb, hg, hr0⟩ := h
 exact blk_lt hb
theorem IsS124.ge {w0 W : World} {g : Nat} {f0 : List Int} {f1 : Int} {f2 : Int} (h : IsS124 w0 W g f0 f1 f2) : w0.heap.size ≤ g := by
 obtain ⟨A0, c0, hb, hg, hr0⟩ := h
 exact hg
theorem IsS124.ne_blk {w0 W : World} {g : Nat} {f0 : List Int} {f1 : Int} {f2 : Int} {a : Nat} {cs : Array Value} {t : TypeId} {fr : Nat × Nat} (h : IsS124 w0 W g f0 f1 f2) (hb2 : W.heap[a]? = some (.cells cs t fr)) (ht : t ≠ 124) : g ≠ a := by
 obtain ⟨A0, c0, hb, hg, hr0⟩ := h
 rintro rfl
 rw [hb] at hb2
 injection hb2 with hb2
 injection hb2 with _ ht2
 exact ht ht2.symm
theorem IsS124.far {w0 W : World} {g : Nat} {f0 : List Int} {f1 : Int} {f2 : Int} {p : Addr} (h : IsS124 w0 W g f0 f1 f2) (hne : g ≠ p.block) (u : Value) : IsS124 w0 (W.setCell p u) g f0 f1 f2 := by
 obtain ⟨A0, c0, hb, hg, hr0⟩ := h
 exact ⟨A0, c0, blk_far hb hne u, hg, hr0⟩
theorem cellS124_0 {W : World} {g : Nat} {A0 : Option Addr} {c0 : Nat} {f0 : List Int} {f1 : Int} {f2 : Int} (h : W.heap[g]? = some (.cells #[.slice A0 f0.length c0, .int .i64 f1, .int .i64 f2] 124 (0, 0))) : W.cell? ⟨g, 0, none⟩ = some (.slice A0 f0.length c0) := (blk_cell h 0).trans rfl
theorem cellS124_1 {W : World} {g : Nat} {A0 : Option Addr} {c0 : Nat} {f0 : List Int} {f1 : Int} {f2 : Int} (h : W.heap[g]? = some (.cells #[.slice A0 f0.length c0, .int .i64 f1, .int .i64 f2] 124 (0, 0))) : W.cell? ⟨g, 1, none⟩ = some (.int .i64 f1) := (blk_cell h 1).trans rfl
theorem IsS124.set_1 {w0 W : World} {g : Nat} {f0 : List Int} {f1 : Int} {f2 : Int} (h : IsS124 w0 W g f0 f1 f2) (x : Int) : IsS124 w0 (W.setCell ⟨g, 1, none⟩ (.int .i64 x)) g f0 x f2 := by
 obtain ⟨A0, c0, hb, hg, hr0⟩ := h
 exact ⟨A0, c0, by simpa using blk_set hb 1 (.int .i64 x), hg, hr0⟩
theorem cellS124_2 {W : World} {g : Nat} {A0 : Option Addr} {c0 : Nat} {f0 : List Int} {f1 : Int} {f2 : Int} (h : W.heap[g]? = some (.cells #[.slice A0 f0.length c0, .int .i64 f1, .int .i64 f2] 124 (0, 0))) : W.cell? ⟨g, 2, none⟩ = some (.int .i64 f2) := (blk_cell h 2).trans rfl
theorem IsS124.set_2 {w0 W : World} {g : Nat} {f0 : List Int} {f1 : Int} {f2 : Int} (h : IsS124 w0 W g f0 f1 f2) (x : Int) : IsS124 w0 (W.setCell ⟨g, 2, none⟩ (.int .i64 x)) g f0 f1 x := by
 obtain ⟨A0, c0, hb, hg, hr0⟩ := h
 exact ⟨A0, c0, by simpa using blk_set hb 2 (.int .i64 x), hg, hr0⟩
theorem IsS124.new (w0 W : World) (A0 : Option Addr) (c0 : Nat) (f0 : List Int) (f1 : Int) (f2 : Int) (hB : Below w0.heap.size w0 W) (hr0 : Kd.C (Kd.int .u8) w0 A0 f0.length f0) : IsS124 w0 (W.alloc (.cells #[.slice A0 f0.length c0, .int .i64 f1, .int .i64 f2] 124)) W.heap.size f0 f1 f2 := ⟨A0, c0, by simpa using heap_alloc_new W _, hB.size, hr0⟩
theorem iS124 {w0 w W : World} {g : Nat} {f0 : List Int} {f1 : Int} {f2 : Int} (h : Aside0 (IsS124 w0 w g f0 f1 f2)) [u : UpG g w W] : IsS124 w0 W g f0 f1 f2 := by obtain ⟨_, _, hb, r⟩ := h.out; exact ⟨_, _, u.out _ _ hb, r⟩
theorem iB124 {w0 w : World} {g : Nat} {f0 : List Int} {f1 : Int} {f2 : Int} (h : Aside0 (IsS124 w0 w g f0 f1 f2)) : StB g w 124 := ⟨by obtain ⟨_, _, hb, r⟩ := h.out; exact ⟨_, hb⟩⟩
instance (w0 : World) (g : Nat) (f0 : List Int) (f1 : Int) (f2 : Int) : StP (fun w => IsS124 w0 w g f0 f1 f2) g 124 := ⟨fun w h => (iB124 ⟨h⟩).out⟩
instance (w0 : World) (f0 : List Int) (f1 : Int) (f2 : Int) : StN (fun g w => IsS124 w0 w g f0 f1 f2) w0 124 := ⟨fun g w h => (iB124 ⟨h⟩).out, fun g w h => IsS124.ge h⟩

/-! ### spec_l1New: function 86 -/
def spec_l1New.l0 : Nat → List Int → Int → Int → Option (List Int × Int × Int)
 | 0, _, _, _ => none
 | k + 1, x0, x3, x4 => if x4 < (x0.length : Int) then (if x4 < 4000 then (if 0 ≤ x4 then (spec_l1New.l0 k x0 (Go.bits .and .i64 (wrap64 ((wrap64 ((wrap64 (x3 * 131)) + (wrap64 (rd x0 x4)))) + 7)) 1073741823) (wrap64 (x4 + 1))) else (none)) else (some (x0, 0, x3))) else (some (x0, 0, x3))
def spec_l1New.f (k : Nat) (l0 : List Int) : Option (List Int × Int × Int) := spec_l1New.l0 k l0 (wrap64 (26583 + (l0.length : Int))) 0
theorem spec_l1New.mono_l : ∀ k, (∀ y0 y1 y2, LeO (spec_l1New.l0 k y0 y1 y2) (spec_l1New.l0 (k + 1) y0 y1 y2))
 | 0 => fun _ _ _ r h => by simp [spec_l1New.l0] at h
 | k + 1 => by
  have ih0 := spec_l1New.mono_l k
  intro y0 y1 y2
  unfold spec_l1New.l0
  repeat' first | (with_reducible exact ih0 _ _ _) | (with_reducible exact LeO.refl _) | (with_reducible exact LeO.none _) | (with_reducible refine LeO.ite ?_ ?_) | (with_reducible refine LeO.bind ?_ (fun _ => ?_))
theorem spec_l1New.mono : ∀ a0 k, LeO (spec_l1New.f k a0) (spec_l1New.f (k + 1) a0) := by
 intro a0 k
 have ih0 := spec_l1New.mono_l k
 unfold spec_l1New.f
 repeat' first | (with_reducible exact ih0 _ _ _) | (with_reducible exact LeO.refl _) | (with_reducible exact LeO.none _) | (with_reducible refine LeO.ite ?_ ?_) | (with_reducible refine LeO.bind ?_ (fun _ => ?_))
set_option maxHeartbeats 8000000 in
set_option maxRecDepth 100000 in
theorem spec_l1New.calls (k : Nat) (A0 : Option Addr) (c0 : Nat) (l0 : List Int) (r1 : List Int) (r2 : Int) (r3 : Int) (w0 w : World) (hB : Below w0.heap.size w0 w) (hr0 : Kd.C (Kd.int .u8) w0 A0 l0.length l0) (hc0 : l0.length ≤ c0) (h : spec_l1New.f k l0 = some (r1, r2, r3)) :
  Calls Tryz.prog 86 #[.slice A0 l0.length c0] w fun e w' => ∃ g_ : Nat, e = .returned (.pointer (some ⟨g_, 0, none⟩)) ∧ IsS124 w0 w' g_ r1 r2 r3 ∧ Below w0.heap.size w0 w' ∧ Below w.heap.size w w' := by
 have hu124 := Tryz.underlying124; have HR0 := Aside0.mk hr0; have HC0 := Aside0.mk hc0; clear hr0 hc0; have HBW := Aside0.mk (Below.refl w.heap.size w); have HW0 := Aside0.mk hB.size; have HB := Aside0.mk hB; clear hB; have H : (spec_l1New.l0 k l0 (wrap64 (26583 + (l0.length : Int))) 0) = some (r1, r2, r3) := h; clear h; have H' := Aside0.mk H; clear H
 go_enter Tryz.func86, Tryz.ntmps86
 go_wp2
 go_loopg [3, 4] k (fun kq v3 v4 w' => ∃ (x3_1 : Int) (x4_1 : Int), v3 = .int .i64 x3_1 ∧ v4 = .int .i64 x4_1 ∧ Aside0 (spec_l1New.l0 kq l0 x3_1 x4_1 = some (r1, r2, r3)) ∧ Aside0 (kq ≤ k) ∧ Aside0 (Below w0.heap.size w0 w') ∧ Aside0 (Below w.heap.size w w'))
 case atStart => exact ⟨(wrap64 (26583 + (l0.length : Int))), (0), y0_19, y0_19, H', ⟨Nat.le_refl _⟩, ⟨bI HB.out⟩, ⟨bI HBW.out⟩⟩
 case round =>
  clear H'; obtain ⟨x3_1, x4_1, rfl, rfl, HA, HK1, HB, HBW⟩ := hrel; cases gk with
  | zero => exact absurd HA.out (by simp [spec_l1New.l0])
  | succ k1 =>
   have H := HA.out; clear HA
   simp only [spec_l1New.l0] at H
   by_cases c2 : x4_1 < (l0.length : Int)
   ·
    rw [if_pos c2] at H
    have c2b0 : decide (x4_1 < (l0.length : Int)) = true := decide_eq_true c2; clear c2
    by_cases c3 : x4_1 < 4000
    ·
     rw [if_pos c3] at H
     have c3b0 : decide (x4_1 < 4000) = true := decide_eq_true c3; clear c3
     by_cases c4 : 0 ≤ x4_1
     rotate_left
     ·
      rw [if_neg c4] at H
      exact absurd H (by simp)
     rw [if_pos c4] at H
     have c4b0 : decide (0 ≤ x4_1) = true := decide_eq_true c4; clear c4; have H' := Aside0.mk H; clear H; have p461 : 0 ≤ (x4_1 : Int) := of_decide_eq_true y0_18; have q461 : x4_1 < (l0.length : Int) := of_decide_eq_true y0_18; obtain ⟨ad461, e461, hx461_0⟩ := Kd.at_int HR0.out x4_1 p461 q461; cases e461; replace hx461_0 := pw_cell_below HB.out hx461_0; replace p461 := eq_true p461; replace q461 := eq_true q461
     go_wp2
     go_roundg k1
     case measure => have := HK1.out; omega
     case rel => exact ⟨(Go.bits .and .i64 (wrap64 ((wrap64 ((wrap64 (x3_1 * 131)) + (wrap64 (rd l0 x4_1)))) + 7)) 1073741823), (wrap64 (x4_1 + 1)), y0_19, y0_19, H', ⟨y0_21⟩, ⟨bI HB.out⟩, ⟨bI HBW.out⟩⟩
    rw [if_neg c3] at H
    have c3b0 : decide (x4_1 < 4000) = false := decide_eq_false c3; clear c3
    simp only [Option.some.injEq, Prod.mk.injEq] at H
    obtain ⟨rfl, rfl, rfl⟩ := H
    go_wp2_with (first | ((with_reducible refine gd 31 ?_); refine bA 31 #[.slice A0 l0.length c0, .int .i64 0, .int .i64 x3_1] 124 ?_; intro gb462 hg w5 hbox hb; replace HB := bs HB hb; have BK462 := Aside0.mk (hbox); have GW462 := bg hg HBW; have GJ462 := gi GW462; have GE462 := Aside0.mk ((Nat.le_trans HW0.out (by rw [hg]; exact (below_size (bI HBW.out)) : w.heap.size ≤ gb462) : w0.heap.size ≤ gb462)); have GI462 := gi GE462; replace HBW := Aside0.mk (below_step HBW.out hb); clear hb hbox hg))
    go_ret
    exact ⟨_, rfl, (show IsS124 w0 _ gb462 l0 0 x3_1 from ⟨_, _, pI BK462, GE462.out, HR0.out⟩), bI HB.out, bI HBW.out⟩
   rw [if_neg c2] at H
   have c2b0 : decide (x4_1 < (l0.length : Int)) = false := decide_eq_false c2; clear c2
   simp only [Option.some.injEq, Prod.mk.injEq] at H
   obtain ⟨rfl, rfl, rfl⟩ := H
   go_wp2_with (first | ((with_reducible refine gd 31 ?_); refine bA 31 #[.slice A0 l0.length c0, .int .i64 0, .int .i64 x3_1] 124 ?_; intro gb463 hg w6 hbox hb; replace HB := bs HB hb; have BK463 := Aside0.mk (hbox); have GW463 := bg hg HBW; have GJ463 := gi GW463; have GE463 := Aside0.mk ((Nat.le_trans HW0.out (by rw [hg]; exact (below_size (bI HBW.out)) : w.heap.size ≤ gb463) : w0.heap.size ≤ gb463)); have GI463 := gi GE463; replace HBW := Aside0.mk (below_step HBW.out hb); clear hb hbox hg))
   go_ret
   exact ⟨_, rfl, (show IsS124 w0 _ gb463 l0 0 x3_1 from ⟨_, _, pI BK463, GE463.out, HR0.out⟩), bI HB.out, bI HBW.out⟩

/-! ### spec_l1Byte: function 137 -/
def spec_l1Byte.f (s0_0 : List Int) (s0_1 : Int) (s0_2 : Int) : Option (Int × Int × Int) := if s0_1 < (s0_0.length : Int) then (if 0 ≤ s0_1 then (some (Go.bits .and .i64 (wrap64 ((Go.bits .and .i64 (Go.bits .xor .i64 ((wrap64 ((wrap64 (s0_2 * 6364136223846793005)) + 1442695040888963407)) / 8589934592) ((wrap64 ((wrap64 (s0_2 * 6364136223846793005)) + 1442695040888963407)) / 35184372088832)) 255) + (wrap64 (rd s0_0 s0_1)))) 255, wrap64 (s0_1 + 1), wrap64 ((wrap64 (s0_2 * 6364136223846793005)) + 1442695040888963407))) else (none)) else (some (Go.bits .and .i64 (Go.bits .xor .i64 ((wrap64 ((wrap64 (s0_2 * 6364136223846793005)) + 1442695040888963407)) / 8589934592) ((wrap64 ((wrap64 (s0_2 * 6364136223846793005)) + 1442695040888963407)) / 35184372088832)) 255, s0_1, wrap64 ((wrap64 (s0_2 * 6364136223846793005)) + 1442695040888963407)))
set_option maxHeartbeats 8000000 in
set_option maxRecDepth 100000 in
theorem spec_l1Byte.calls (g : Nat) (s0_0 : List Int) (s0_1 : Int) (s0_2 : Int) (r1 : Int) (r2 : Int) (r3 : Int) (w0 w : World) (hI : IsS124 w0 w g s0_0 s0_1 s0_2) (hB : Below w0.heap.size w0 w) (h : spec_l1Byte.f s0_0 s0_1 s0_2 = some (r1, r2, r3)) :
  Calls Tryz.prog 137 #[.pointer (some ⟨g, 0, none⟩)] w fun e w' => e = .returned (.int .i64 r1) ∧ IsS124 w0 w' g s0_0 r2 r3 ∧ Below w0.heap.size w0 w' ∧ KeepBut w w' g none := by
 have HI0 := Aside0.mk hI; have HK := Aside0.mk (KeepBut.refl w g none); have HL := Aside0.mk hB.size; clear hI; have HW0 := Aside0.mk hB.size; have HB := Aside0.mk hB; clear hB; have H : (if s0_1 < (s0_0.length : Int) then (if 0 ≤ s0_1 then (some (Go.bits .and .i64 (wrap64 ((Go.bits .and .i64 (Go.bits .xor .i64 ((wrap64 ((wrap64 (s0_2 * 6364136223846793005)) + 1442695040888963407)) / 8589934592) ((wrap64 ((wrap64 (s0_2 * 6364136223846793005)) + 1442695040888963407)) / 35184372088832)) 255) + (wrap64 (rd s0_0 s0_1)))) 255, wrap64 (s0_1 + 1), wrap64 ((wrap64 (s0_2 * 6364136223846793005)) + 1442695040888963407))) else (none)) else (some (Go.bits .and .i64 (Go.bits .xor .i64 ((wrap64 ((wrap64 (s0_2 * 6364136223846793005)) + 1442695040888963407)) / 8589934592) ((wrap64 ((wrap64 (s0_2 * 6364136223846793005)) + 1442695040888963407)) / 35184372088832)) 255, s0_1, wrap64 ((wrap64 (s0_2 * 6364136223846793005)) + 1442695040888963407)))) = some (r1, r2, r3) := h; clear h
 by_cases c2 : s0_1 < (s0_0.length : Int)
 ·
  rw [if_pos c2] at H
  have c2b0 : decide (s0_1 < (s0_0.length : Int)) = true := decide_eq_true c2; clear c2
  by_cases c3 : 0 ≤ s0_1
  rotate_left
  ·
   rw [if_neg c3] at H
   exact absurd H (by simp)
  rw [if_pos c3] at H
  have c3b0 : decide (0 ≤ s0_1) = true := decide_eq_true c3; clear c3
  simp only [Option.some.injEq, Prod.mk.injEq] at H
  obtain ⟨rfl, rfl, rfl⟩ := H; obtain ⟨ASz4_0, cSz4_0, HGz4, hgz4, HSz4_0⟩ := HI0.out; have hcz4_0 := cellS124_0 HGz4; have hcz4_1 := cellS124_1 HGz4; have hcz4_2 := cellS124_2 HGz4; have hfz4_1 := blk_frozen HGz4 1; have hfz4_2 := blk_frozen HGz4 2; clear HGz4 hgz4; have p464 : 0 ≤ (s0_1 : Int) := of_decide_eq_true y0_18; have q464 : s0_1 < (s0_0.length : Int) := of_decide_eq_true y0_18; obtain ⟨ad464, e464, hx464_0⟩ := Kd.at_int HSz4_0 s0_1 p464 q464; cases e464
  have hn464_0 : ad464.block ≠ g := Nat.ne_of_lt (Nat.lt_of_lt_of_le (by have := World.block_lt_of_cell? _ _ hx464_0; first | rwa [add_block] at this | exact this) (IsS124.ge HI0.out))
  replace hx464_0 := pw_cell_below HB.out hx464_0
  replace hx464_0 := (cell_far (p := ⟨g, 2, none⟩) (by first | (rw [add_block]; exact hn464_0) | (show (Addr.add _ _).block ≠ _; rw [add_block]; exact hn464_0) | exact hn464_0) (.int .i64 (wrap64 ((wrap64 (s0_2 * 6364136223846793005)) + 1442695040888963407)))).trans hx464_0
  (try have hy464_0 := fun (n_ : Nat) => (show (((w.drewN n_).setCell ⟨g, 2, none⟩ (.int .i64 (wrap64 ((wrap64 (s0_2 * 6364136223846793005)) + 1442695040888963407))))).cell? _ = some _ from hx464_0))
  clear hn464_0; replace p464 := eq_true p464; replace q464 := eq_true q464
  go_enter Tryz.func137, Tryz.ntmps137
  go_wp2
  repeat (go_quiet (fail); try go_wp2)
  go_ret
  exact ⟨y0_14, y0_6, y0_7, hI HK.out⟩
 rw [if_neg c2] at H
 have c2b0 : decide (s0_1 < (s0_0.length : Int)) = false := decide_eq_false c2; clear c2
 simp only [Option.some.injEq, Prod.mk.injEq] at H
 obtain ⟨rfl, rfl, rfl⟩ := H; obtain ⟨ASz5_0, cSz5_0, HGz5, hgz5, HSz5_0⟩ := HI0.out; have hcz5_0 := cellS124_0 HGz5; have hcz5_1 := cellS124_1 HGz5; have hcz5_2 := cellS124_2 HGz5; have hfz5_1 := blk_frozen HGz5 1; have hfz5_2 := blk_frozen HGz5 2; clear HGz5 hgz5
 go_enter Tryz.func137, Tryz.ntmps137
 go_wp2
 repeat (go_quiet (fail); try go_wp2)
 go_ret
 exact ⟨y0_14, y0_6, y0_7, hI HK.out⟩

/-! ### spec_l1Below: function 114 -/
def spec_l1Below.f (s0_0 : List Int) (s0_1 : Int) (s0_2 : Int) (a1 : Int) : Option (Int × Int × Int) := if a1 ≤ 0 then (some (0, s0_1, s0_2)) else (if a1 ≤ 256 then ((spec_l1Byte.f s0_0 s0_1 s0_2).bind fun bt465 => (if a1 = 0 then (none) else (some (Int.tmod bt465.1 a1, bt465.2.1, bt465.2.2)))) else ((spec_l1Byte.f s0_0 s0_1 s0_2).bind fun bt468 => ((spec_l1Byte.f s0_0 bt468.2.1 bt468.2.2).bind fun bt471 => ((spec_l1Byte.f s0_0 bt471.2.1 bt471.2.2).bind fun bt474 => ((spec_l1Byte.f s0_0 bt474.2.1 bt474.2.2).bind fun bt477 => (if a1 = 0 then (none) else (some (Int.tmod (wrap64 ((wrap64 ((wrap64 ((wrap64 (bt468.1 * 16777216)) + (wrap64 (bt471.1 * 65536)))) + (wrap64 (bt474.1 * 256)))) + bt477.1)) a1, bt477.2.1, bt477.2.2))))))))
set_option maxHeartbeats 8000000 in
set_option maxRecDepth 100000 in
theorem spec_l1Below.calls (g : Nat) (s0_0 : List Int) (s0_1 : Int) (s0_2 : Int) (a1 : Int) (r1 : Int) (r2 : Int) (r3 : Int) (w0 w : World) (hI : IsS124 w0 w g s0_0 s0_1 s0_2) (hB : Below w0.heap.size w0 w) (h : spec_l1Below.f s0_0 s0_1 s0_2 a1 = some (r1, r2, r3)) :
  Calls Tryz.prog 114 #[.pointer (some ⟨g, 0, none⟩), .int .i64 a1] w fun e w' => e = .returned (.int .i64 r1) ∧ IsS124 w0 w' g s0_0 r2 r3 ∧ Below w0.heap.size w0 w' ∧ KeepBut w w' g none := by
 have HI0 := Aside0.mk hI; have HK := Aside0.mk (KeepBut.refl w g none); have HL := Aside0.mk hB.size; clear hI; have HW0 := Aside0.mk hB.size; have HB := Aside0.mk hB; clear hB
 have H : (if a1 ≤ 0 then (some (0, s0_1, s0_2)) else (if a1 ≤ 256 then ((spec_l1Byte.f s0_0 s0_1 s0_2).bind fun bt465 => (if a1 = 0 then (none) else (some (Int.tmod bt465.1 a1, bt465.2.1, bt465.2.2)))) else ((spec_l1Byte.f s0_0 s0_1 s0_2).bind fun bt468 => ((spec_l1Byte.f s0_0 bt468.2.1 bt468.2.2).bind fun bt471 => ((spec_l1Byte.f s0_0 bt471.2.1 bt471.2.2).bind fun bt474 => ((spec_l1Byte.f s0_0 bt474.2.1 bt474.2.2).bind fun bt477 => (if a1 = 0 then (none) else (some (Int.tmod (wrap64 ((wrap64 ((wrap64 ((wrap64 (bt468.1 * 16777216)) + (wrap64 (bt471.1 * 65536)))) + (wrap64 (bt474.1 * 256)))) + bt477.1)) a1, bt477.2.1, bt477.2.2))))))))) = some (r1, r2, r3) := h
 clear h
 by_cases c3 : a1 ≤ 0
 ·
  rw [if_pos c3] at H
  have c3b0 : decide (a1 ≤ 0) = true := decide_eq_true c3; clear c3
  simp only [Option.some.injEq, Prod.mk.injEq] at H
  obtain ⟨rfl, rfl, rfl⟩ := H; have i0_ := iB124 HI0; have i1_ : LB w0 w := ⟨HB.out⟩
  go_enter Tryz.func114, Tryz.ntmps114
  go_wp2
  go_ret
  exact ⟨y0_19, iS124 HI0, UpW.out, UpB.out⟩
 rw [if_neg c3] at H
 have c3b0 : decide (a1 ≤ 0) = false := decide_eq_false c3; clear c3
 by_cases c4 : a1 ≤ 256
 ·
  rw [if_pos c4] at H
  have c4b0 : decide (a1 ≤ 256) = true := decide_eq_true c4; clear c4; obtain ⟨⟨t465, t466, t467⟩, A50, H⟩ := Option.bind_eq_some_iff.mp H
  try dsimp only at H
  have A5 := Aside0.mk A50; clear A50
  by_cases c6 : a1 = 0
  ·
   rw [if_pos c6] at H
   exact absurd H (by simp)
  rw [if_neg c6] at H
  have c6b0 : (a1 == 0) = false := beq_eq_false_iff_ne.mpr c6; have c6b1 : (a1 != 0) = true := bne_iff_ne.mpr c6
  simp only [Option.some.injEq, Prod.mk.injEq] at H
  obtain ⟨rfl, rfl, rfl⟩ := H; have i0_ := iB124 HI0; have i1_ : LB w0 w := ⟨HB.out⟩
  go_enter Tryz.func114, Tryz.ntmps114
  go_wp2_with (first | ((with_reducible refine gate_callee (f := 137) rfl ?_); refine gK (some 14) Tryz.func137 (spec_l1Byte.calls (hI := iS124 HI0) (hB := UpW.out) (w := _) (h := A5.out)) ?_; intro w7 _ _ _ HI8))
  go_ret
  exact ⟨y0_19, iS124 HI8, UpW.out, UpB.out⟩
 rw [if_neg c4] at H
 have c4b0 : decide (a1 ≤ 256) = false := decide_eq_false c4; clear c4; obtain ⟨⟨t468, t469, t470⟩, A90, H⟩ := Option.bind_eq_some_iff.mp H
 try dsimp only at H
 have A9 := Aside0.mk A90; clear A90; obtain ⟨⟨t471, t472, t473⟩, A100, H⟩ := Option.bind_eq_some_iff.mp H
 try dsimp only at H
 have A10 := Aside0.mk A100; clear A100; obtain ⟨⟨t474, t475, t476⟩, A110, H⟩ := Option.bind_eq_some_iff.mp H
 try dsimp only at H
 have A11 := Aside0.mk A110; clear A110; obtain ⟨⟨t477, t478, t479⟩, A120, H⟩ := Option.bind_eq_some_iff.mp H
 try dsimp only at H
 have A12 := Aside0.mk A120; clear A120
 by_cases c13 : a1 = 0
 ·
  rw [if_pos c13] at H
  exact absurd H (by simp)
 rw [if_neg c13] at H
 have c13b0 : (a1 == 0) = false := beq_eq_false_iff_ne.mpr c13; have c13b1 : (a1 != 0) = true := bne_iff_ne.mpr c13
 simp only [Option.some.injEq, Prod.mk.injEq] at H
 obtain ⟨rfl, rfl, rfl⟩ := H; have i0_ := iB124 HI0; have i1_ : LB w0 w := ⟨HB.out⟩
 go_enter Tryz.func114, Tryz.ntmps114
 go_wp2_with (first | ((with_reducible refine gate_callee (f := 137) rfl ?_); refine gK (some 18) Tryz.func137 (spec_l1Byte.calls (hI := iS124 HI0) (hB := UpW.out) (w := _) (h := A9.out)) ?_; intro w14 _ _ _ HI15) | ((with_reducible refine gate_callee (f := 137) rfl ?_); refine gK (some 20) Tryz.func137 (spec_l1Byte.calls (hI := iS124 HI15) (hB := UpW.out) (w := _) (h := A10.out)) ?_; intro w16 _ _ _ HI17) | ((with_reducible refine gate_callee (f := 137) rfl ?_); refine gK (some 22) Tryz.func137 (spec_l1Byte.calls (hI := iS124 HI17) (hB := UpW.out) (w := _) (h := A11.out)) ?_; intro w18 _ _ _ HI19) | ((with_reducible refine gate_callee (f := 137) rfl ?_); refine gK (some 24) Tryz.func137 (spec_l1Byte.calls (hI := iS124 HI19) (hB := UpW.out) (w := _) (h := A12.out)) ?_; intro w20 _ _ _ HI21))
 go_ret
 exact ⟨y0_19, iS124 HI21, UpW.out, UpB.out⟩

/-! ### spec_l7DrawConf: function 87 -/
def spec_l7DrawConf.f (s0_0 : List Int) (s0_1 : Int) (s0_2 : Int) : Option (Int × Int × Int × Int) := (spec_l1Below.f s0_0 s0_1 s0_2 4).bind fun bt481 => ((spec_l1Below.f s0_0 bt481.2.1 bt481.2.2 3).bind fun bt484 => (some (wrap64 (4 + bt481.1), wrap64 (1 + bt484.1), bt484.2.1, bt484.2.2)))
set_option maxHeartbeats 8000000 in
set_option maxRecDepth 100000 in
theorem spec_l7DrawConf.calls (g : Nat) (s0_0 : List Int) (s0_1 : Int) (s0_2 : Int) (r1 : Int) (r2 : Int) (r3 : Int) (r4 : Int) (w0 w : World) (hI : IsS124 w0 w g s0_0 s0_1 s0_2) (hB : Below w0.heap.size w0 w) (h : spec_l7DrawConf.f s0_0 s0_1 s0_2 = some (r1, r2, r3, r4)) :
  Calls Tryz.prog 87 #[.pointer (some ⟨g, 0, none⟩)] w fun e w' => e = .returned (.agg #[.int .i64 r1, .int .i64 r2]) ∧ IsS124 w0 w' g s0_0 r3 r4 ∧ Below w0.heap.size w0 w' ∧ KeepBut w w' g none := by
 have hu38 := Tryz.underlying38; have HI0 := Aside0.mk hI; have HK := Aside0.mk (KeepBut.refl w g none); have HL := Aside0.mk hB.size; clear hI; have HW0 := Aside0.mk hB.size; have HB := Aside0.mk hB; clear hB
 have H : ((spec_l1Below.f s0_0 s0_1 s0_2 4).bind fun bt481 => ((spec_l1Below.f s0_0 bt481.2.1 bt481.2.2 3).bind fun bt484 => (some (wrap64 (4 + bt481.1), wrap64 (1 + bt484.1), bt484.2.1, bt484.2.2)))) = some (r1, r2, r3, r4) := h
 clear h; obtain ⟨⟨t481, t482, t483⟩, A20, H⟩ := Option.bind_eq_some_iff.mp H
 try dsimp only at H
 have A2 := Aside0.mk A20; clear A20; obtain ⟨⟨t484, t485, t486⟩, A30, H⟩ := Option.bind_eq_some_iff.mp H
 try dsimp only at H
 have A3 := Aside0.mk A30; clear A30
 simp only [Option.some.injEq, Prod.mk.injEq] at H
 obtain ⟨rfl, rfl, rfl, rfl⟩ := H; have i0_ := iB124 HI0; have i1_ : LB w0 w := ⟨HB.out⟩
 go_enter Tryz.func87, Tryz.ntmps87
 go_wp2_with (first | ((with_reducible refine gd 2 ?_); refine bL 2 #[.int .i64 0, .int .i64 0] 38 ?_; intro gb480 w4 _ _ _) | ((with_reducible refine gate_callee (f := 114) rfl ?_); refine gK (some 4) Tryz.func114 (spec_l1Below.calls (hI := iS124 HI0) (hB := UpW.out) (w := _) (h := A2.out)) ?_; intro w5 _ _ _ HI6) | ((with_reducible refine gate_callee (f := 114) rfl ?_); refine gK (some 7) Tryz.func114 (spec_l1Below.calls (hI := iS124 HI6) (hB := UpW.out) (w := _) (h := A3.out)) ?_; intro w7 _ _ _ HI8))
 refine bodyPost_ret (results_cell_row rfl _ _ gb480 38 #[.int .i64 (wrap64 (4 + t481)), .int .i64 (wrap64 (1 + t484))] (0, 0) _ rfl xB Tryz.underlying38 rfl (by kernel_rfl)) rfl ?_
 exact ⟨y0_19, iS124 HI8, UpW.out, UpB.out⟩

/-! ### spec_l1Once: function 93 -/
def spec_l1Once.f (s0_0 : List Int) (s0_1 : Int) (s0_2 : Int) (a1 : Int) : Option (Bool × Int × Int) := (spec_l1Below.f s0_0 s0_1 s0_2 a1).bind fun bt487 => (some ((bt487.1 == 0), bt487.2.1, bt487.2.2))
set_option maxHeartbeats 8000000 in
set_option maxRecDepth 100000 in
theorem spec_l1Once.calls (g : Nat) (s0_0 : List Int) (s0_1 : Int) (s0_2 : Int) (a1 : Int) (r1 : Bool) (r2 : Int) (r3 : Int) (w0 w : World) (hI : IsS124 w0 w g s0_0 s0_1 s0_2) (hB : Below w0.heap.size w0 w) (h : spec_l1Once.f s0_0 s0_1 s0_2 a1 = some (r1, r2, r3)) :
  Calls Tryz.prog 93 #[.pointer (some ⟨g, 0, none⟩), .int .i64 a1] w fun e w' => e = .returned (.bool r1) ∧ IsS124 w0 w' g s0_0 r2 r3 ∧ Below w0.heap.size w0 w' ∧ KeepBut w w' g none := by
 have HI0 := Aside0.mk hI; have HK := Aside0.mk (KeepBut.refl w g none); have HL := Aside0.mk hB.size; clear hI; have HW0 := Aside0.mk hB.size; have HB := Aside0.mk hB; clear hB
 have H : ((spec_l1Below.f s0_0 s0_1 s0_2 a1).bind fun bt487 => (some ((bt487.1 == 0), bt487.2.1, bt487.2.2))) = some (r1, r2, r3) := h
 clear h; obtain ⟨⟨t487, t488, t489⟩, A30, H⟩ := Option.bind_eq_some_iff.mp H
 try dsimp only at H
 have A3 := Aside0.mk A30; clear A30
 simp only [Option.some.injEq, Prod.mk.injEq] at H
 obtain ⟨rfl, rfl, rfl⟩ := H; have i0_ := iB124 HI0; have i1_ : LB w0 w := ⟨HB.out⟩
 go_enter Tryz.func93, Tryz.ntmps93
 go_wp2_with (first | ((with_reducible refine gate_callee (f := 114) rfl ?_); refine gK (some 7) Tryz.func114 (spec_l1Below.calls (hI := iS124 HI0) (hB := UpW.out) (w := _) (h := A3.out)) ?_; intro w4 _ _ _ HI5))
 go_ret
 exact ⟨y0_19, iS124 HI5, UpW.out, UpB.out⟩

/-! ### spec_TxsText: function 109 -/
def spec_TxsText.l0 : Nat → List (S99) → ByteArray → Int → Option (ByteArray)
 | 0, _, _, _ => none
 | k + 1, x0, x3, x4 => if x4 < (x0.length : Int) then (if 0 ≤ x4 then ((spec_TxOk.f ((rd_T99 x0 x4).f0) ((rd_T99 x0 x4).f1) ((rd_T99 x0 x4).f2) ((rd_T99 x0 x4).f3)).bind fun t491 => (if t491 = true then (if x4 > 0 then (if x3.size + 1 ≤ 9223372036854775807 then ((spec_TxText.f k ((rd_T99 x0 x4).f0) ((rd_T99 x0 x4).f1) ((rd_T99 x0 x4).f2) ((rd_T99 x0 x4).f3)).bind fun t493 => (if (x3 ++ (⟨#[44]⟩ : ByteArray)).size + t493.size ≤ 9223372036854775807 then (spec_TxsText.l0 k x0 ((x3 ++ (⟨#[44]⟩ : ByteArray)) ++ t493) (wrap64 (x4 + 1))) else (none))) else (none)) else ((spec_TxText.f k ((rd_T99 x0 x4).f0) ((rd_T99 x0 x4).f1) ((rd_T99 x0 x4).f2) ((rd_T99 x0 x4).f3)).bind fun t495 => (if x3.size + t495.size ≤ 9223372036854775807 then (spec_TxsText.l0 k x0 (x3 ++ t495) (wrap64 (x4 + 1))) else (none)))) else (some (⟨#[]⟩ : ByteArray)))) else (none)) else (some x3)
def spec_TxsText.f (k : Nat) (l0 : List (S99)) : Option (ByteArray) := spec_TxsText.l0 k l0 (⟨#[]⟩ : ByteArray) 0
theorem spec_TxsText.mono_l : ∀ k, (∀ y0 y1 y2, LeO (spec_TxsText.l0 k y0 y1 y2) (spec_TxsText.l0 (k + 1) y0 y1 y2))
 | 0 => fun _ _ _ r h => by simp [spec_TxsText.l0] at h
 | k + 1 => by
  have ih0 := spec_TxsText.mono_l k
  intro y0 y1 y2
  unfold spec_TxsText.l0
  repeat' first | (with_reducible exact ih0 _ _ _) | (with_reducible exact spec_TxText.mono _ _ _ _ _) | (with_reducible exact LeO.refl _) | (with_reducible exact LeO.none _) | (with_reducible refine LeO.ite ?_ ?_) | (with_reducible refine LeO.bind ?_ (fun _ => ?_))
theorem spec_TxsText.mono : ∀ a0 k, LeO (spec_TxsText.f k a0) (spec_TxsText.f (k + 1) a0) := by
 intro a0 k
 have ih0 := spec_TxsText.mono_l k
 unfold spec_TxsText.f
 repeat' first | (with_reducible exact ih0 _ _ _) | (with_reducible exact spec_TxText.mono _ _ _ _ _) | (with_reducible exact LeO.refl _) | (with_reducible exact LeO.none _) | (with_reducible refine LeO.ite ?_ ?_) | (with_reducible refine LeO.bind ?_ (fun _ => ?_))
set_option maxHeartbeats 8000000 in
set_option maxRecDepth 100000 in
theorem spec_TxsText.calls (k : Nat) (A0 : Option Addr) (c0 : Nat) (l0 : List (S99)) (r : ByteArray) (w : World) (hr0 : Kd.C k99 w A0 l0.length l0) (hc0 : l0.length ≤ c0) (h : spec_TxsText.f k l0 = some r) :
  Calls Tryz.prog 109 #[.slice A0 l0.length c0] w fun e w' => e = .returned (.string r) ∧ Below w.heap.size w w' := by
 have hu99 := Tryz.underlying99; have HR0 := Aside0.mk hr0; have HC0 := Aside0.mk hc0; clear hr0 hc0; have HB := Aside0.mk (Below.refl w.heap.size w); have H : (spec_TxsText.l0 k l0 (⟨#[]⟩ : ByteArray) 0) = some r := h; clear h; have H' := Aside0.mk H; clear H
 go_enter Tryz.func109, Tryz.ntmps109
 go_wp2
 go_loopg [3, 4] k (fun kq v3 v4 w' => ∃ (x3_1 : ByteArray) (x4_1 : Int), v3 = .string x3_1 ∧ v4 = .int .i64 x4_1 ∧ Aside0 (spec_TxsText.l0 kq l0 x3_1 x4_1 = some r) ∧ Aside0 (kq ≤ k) ∧ Aside0 (Below w.heap.size w w'))
 case atStart => exact ⟨((⟨#[]⟩ : ByteArray)), (0), y0_19, y0_19, H', ⟨Nat.le_refl _⟩, ⟨bI HB.out⟩⟩
 case round =>
  clear H'
  try clear c1
  obtain ⟨x3_1, x4_1, rfl, rfl, HA, HK1, HB⟩ := hrel; cases gk with
  | zero => exact absurd HA.out (by simp [spec_TxsText.l0])
  | succ k1 =>
   have H := HA.out; clear HA
   simp only [spec_TxsText.l0] at H
   by_cases c2 : x4_1 < (l0.length : Int)
   ·
    rw [if_pos c2] at H
    have c2b0 : decide (x4_1 < (l0.length : Int)) = true := decide_eq_true c2; clear c2
    by_cases c3 : 0 ≤ x4_1
    rotate_left
    ·
     rw [if_neg c3] at H
     exact absurd H (by simp)
    rw [if_pos c3] at H
    have c3b0 : decide (0 ≤ x4_1) = true := decide_eq_true c3; clear c3; obtain ⟨t491, A40, H⟩ := Option.bind_eq_some_iff.mp H
    try dsimp only at H
    have A4 := Aside0.mk A40; clear A40
    by_cases c5 : t491 = true
    ·
     subst c5
     rw [if_pos rfl] at H
     by_cases c6 : x4_1 > 0
     ·
      rw [if_pos c6] at H
      have c6b0 : decide (0 < x4_1) = true := decide_eq_true c6; clear c6
      by_cases c7 : x3_1.size + 1 ≤ 9223372036854775807
      rotate_left
      ·
       rw [if_neg c7] at H
       exact absurd H (by simp)
      rw [if_pos c7] at H
      have c7b0 := eq_true c7; have c7b1 : decide (x3_1.size + 1 ≤ 9223372036854775807) = true := decide_eq_true c7
      try have c7b2 : (9223372036854775807 < x3_1.size + 1) = False := eq_false (Nat.not_lt.2 c7)
      obtain ⟨t493, A80, H⟩ := Option.bind_eq_some_iff.mp H
      try dsimp only at H
      have A8 := Aside0.mk A80; clear A80
      by_cases c9 : (x3_1 ++ (⟨#[44]⟩ : ByteArray)).size + t493.size ≤ 9223372036854775807
      rotate_left
      ·
       rw [if_neg c9] at H
       exact absurd H (by simp)
      rw [if_pos c9] at H
      have c9b0 := eq_true c9; have c9b1 : decide ((x3_1 ++ (⟨#[44]⟩ : ByteArray)).size + t493.size ≤ 9223372036854775807) = true := decide_eq_true c9
      try have c9b2 : (9223372036854775807 < (x3_1 ++ (⟨#[44]⟩ : ByteArray)).size + t493.size) = False := eq_false (Nat.not_lt.2 c9)
      (try have c9b3 : (9223372036854775807 < x3_1.size + 1 + t493.size) = False := eq_false (by have h_ := c9; simp only [ByteArray.size_append, ByteArray.size_extract, show (⟨#[44]⟩ : ByteArray).size = 1 from rfl] at h_; omega))
      have H' := Aside0.mk H; clear H; have p490 : 0 ≤ (x4_1 : Int) := of_decide_eq_true y0_18; have q490 : x4_1 < (l0.length : Int) := of_decide_eq_true y0_18; obtain ⟨ad490, e490, hx490_0, hx490_1, hx490_2, hx490_3⟩ := at_T99 HR0.out x4_1 p490 q490; cases e490; replace hx490_0 := bx HB hx490_0; replace hx490_1 := bx HB hx490_1; replace hx490_2 := bx HB hx490_2; replace hx490_3 := bx HB hx490_3; replace p490 := eq_true p490; replace q490 := eq_true q490
      go_wp2_with (first | ((with_reducible refine gate_callee (f := 107) rfl ?_); refine gB (some 15) Tryz.func107 #[.agg #[.int .i64 ((rd_T99 l0 x4_1).f0), .int .i64 ((rd_T99 l0 x4_1).f1), .int .i64 ((rd_T99 l0 x4_1).f2), .int .i64 ((rd_T99 l0 x4_1).f3)]] ?_; (with_reducible refine (spec_TxOk.calls ((rd_T99 l0 x4_1).f0) ((rd_T99 l0 x4_1).f1) ((rd_T99 l0 x4_1).f2) ((rd_T99 l0 x4_1).f3) true _ A4.out).mono ?_); rintro e w10 ⟨rfl, hb⟩; refine ⟨_, rfl, ?_⟩; replace HB := bs HB hb; (try clear hb); (try clear hb2); (try clear hk); (try clear hi); have p492 : 0 ≤ (x4_1 : Int) := of_decide_eq_true y0_18; have q492 : x4_1 < (l0.length : Int) := of_decide_eq_true y0_18; obtain ⟨ad492, e492, hx492_0, hx492_1, hx492_2, hx492_3⟩ := at_T99 HR0.out x4_1 p492 q492; obtain rfl : ad490 = ad492 := (by injection e492); replace hx492_0 := bx HB hx492_0; replace hx492_1 := bx HB hx492_1; replace hx492_2 := bx HB hx492_2; replace hx492_3 := bx HB hx492_3; replace p492 := eq_true p492; replace q492 := eq_true q492) | ((with_reducible refine gate_callee (f := 133) rfl ?_); refine gB (some 26) Tryz.func133 #[.agg #[.int .i64 ((rd_T99 l0 x4_1).f0), .int .i64 ((rd_T99 l0 x4_1).f1), .int .i64 ((rd_T99 l0 x4_1).f2), .int .i64 ((rd_T99 l0 x4_1).f3)]] ?_; (with_reducible refine (spec_TxText.calls k1 ((rd_T99 l0 x4_1).f0) ((rd_T99 l0 x4_1).f1) ((rd_T99 l0 x4_1).f2) ((rd_T99 l0 x4_1).f3) t493 _ A8.out).mono ?_); rintro e w11 ⟨rfl, hb⟩; refine ⟨_, rfl, ?_⟩; replace HB := bs HB hb; (try clear hb); (try clear hb2); (try clear hk); (try clear hi)))
      go_roundg k1
      case measure => have := HK1.out; omega
      case rel => exact ⟨((x3_1 ++ (⟨#[44]⟩ : ByteArray)) ++ t493), (wrap64 (x4_1 + 1)), y0_19, y0_19, H', ⟨y0_21⟩, ⟨bI HB.out⟩⟩
     rw [if_neg c6] at H
     have c6b0 : decide (0 < x4_1) = false := decide_eq_false c6; clear c6; obtain ⟨t495, A120, H⟩ := Option.bind_eq_some_iff.mp H
     try dsimp only at H
     have A12 := Aside0.mk A120; clear A120
     by_cases c13 : x3_1.size + t495.size ≤ 9223372036854775807
     rotate_left
     ·
      rw [if_neg c13] at H
      exact absurd H (by simp)
     rw [if_pos c13] at H
     have c13b0 := eq_true c13; have c13b1 : decide (x3_1.size + t495.size ≤ 9223372036854775807) = true := decide_eq_true c13
     try have c13b2 : (9223372036854775807 < x3_1.size + t495.size) = False := eq_false (Nat.not_lt.2 c13)
     have H' := Aside0.mk H; clear H; have p490 : 0 ≤ (x4_1 : Int) := of_decide_eq_true y0_18; have q490 : x4_1 < (l0.length : Int) := of_decide_eq_true y0_18; obtain ⟨ad490, e490, hx490_0, hx490_1, hx490_2, hx490_3⟩ := at_T99 HR0.out x4_1 p490 q490; cases e490; replace hx490_0 := bx HB hx490_0; replace hx490_1 := bx HB hx490_1; replace hx490_2 := bx HB hx490_2; replace hx490_3 := bx HB hx490_3; replace p490 := eq_true p490; replace q490 := eq_true q490
     go_wp2_with (first | ((with_reducible refine gate_callee (f := 107) rfl ?_); refine gB (some 15) Tryz.func107 #[.agg #[.int .i64 ((rd_T99 l0 x4_1).f0), .int .i64 ((rd_T99 l0 x4_1).f1), .int .i64 ((rd_T99 l0 x4_1).f2), .int .i64 ((rd_T99 l0 x4_1).f3)]] ?_; (with_reducible refine (spec_TxOk.calls ((rd_T99 l0 x4_1).f0) ((rd_T99 l0 x4_1).f1) ((rd_T99 l0 x4_1).f2) ((rd_T99 l0 x4_1).f3) true _ A4.out).mono ?_); rintro e w14 ⟨rfl, hb⟩; refine ⟨_, rfl, ?_⟩; replace HB := bs HB hb; (try clear hb); (try clear hb2); (try clear hk); (try clear hi); have p494 : 0 ≤ (x4_1 : Int) := of_decide_eq_true y0_18; have q494 : x4_1 < (l0.length : Int) := of_decide_eq_true y0_18; obtain ⟨ad494, e494, hx494_0, hx494_1, hx494_2, hx494_3⟩ := at_T99 HR0.out x4_1 p494 q494; obtain rfl : ad490 = ad494 := (by injection e494); replace hx494_0 := bx HB hx494_0; replace hx494_1 := bx HB hx494_1; replace hx494_2 := bx HB hx494_2; replace hx494_3 := bx HB hx494_3; replace p494 := eq_true p494; replace q494 := eq_true q494) | ((with_reducible refine gate_callee (f := 133) rfl ?_); refine gB (some 26) Tryz.func133 #[.agg #[.int .i64 ((rd_T99 l0 x4_1).f0), .int .i64 ((rd_T99 l0 x4_1).f1), .int .i64 ((rd_T99 l0 x4_1).f2), .int .i64 ((rd_T99 l0 x4_1).f3)]] ?_; (with_reducible refine (spec_TxText.calls k1 ((rd_T99 l0 x4_1).f0) ((rd_T99 l0 x4_1).f1) ((rd_T99 l0 x4_1).f2) ((rd_T99 l0 x4_1).f3) t495 _ A12.out).mono ?_); rintro e w15 ⟨rfl, hb⟩; refine ⟨_, rfl, ?_⟩; replace HB := bs HB hb; (try clear hb); (try clear hb2); (try clear hk); (try clear hi)))
     go_roundg k1
     case measure => have := HK1.out; omega
     case rel => exact ⟨(x3_1 ++ t495), (wrap64 (x4_1 + 1)), y0_19, y0_19, H', ⟨y0_21⟩, ⟨bI HB.out⟩⟩
    replace c5 := Bool.eq_false_iff.mpr c5; subst c5
    rw [if_neg (show ¬ (false = true) by decide)] at H
    obtain rfl := Option.some.inj H; have p490 : 0 ≤ (x4_1 : Int) := of_decide_eq_true y0_18; have q490 : x4_1 < (l0.length : Int) := of_decide_eq_true y0_18; obtain ⟨ad490, e490, hx490_0, hx490_1, hx490_2, hx490_3⟩ := at_T99 HR0.out x4_1 p490 q490; cases e490; replace hx490_0 := bx HB hx490_0; replace hx490_1 := bx HB hx490_1; replace hx490_2 := bx HB hx490_2; replace hx490_3 := bx HB hx490_3; replace p490 := eq_true p490; replace q490 := eq_true q490
    go_wp2_with (first | ((with_reducible refine gate_callee (f := 107) rfl ?_); refine gB (some 15) Tryz.func107 #[.agg #[.int .i64 ((rd_T99 l0 x4_1).f0), .int .i64 ((rd_T99 l0 x4_1).f1), .int .i64 ((rd_T99 l0 x4_1).f2), .int .i64 ((rd_T99 l0 x4_1).f3)]] ?_; (with_reducible refine (spec_TxOk.calls ((rd_T99 l0 x4_1).f0) ((rd_T99 l0 x4_1).f1) ((rd_T99 l0 x4_1).f2) ((rd_T99 l0 x4_1).f3) false _ A4.out).mono ?_); rintro e w16 ⟨rfl, hb⟩; refine ⟨_, rfl, ?_⟩; replace HB := bs HB hb; (try clear hb); (try clear hb2); (try clear hk); (try clear hi)))
    go_ret
    exact ⟨y0_14, bI HB.out⟩
   rw [if_neg c2] at H
   have c2b0 : decide (x4_1 < (l0.length : Int)) = false := decide_eq_false c2; clear c2; obtain rfl := Option.some.inj H
   go_wp2
   go_ret
   exact ⟨y0_14, bI HB.out⟩

end Go.Proofs.YtemjmefacifdeaaGreatDoor.PFnEitherOrder
