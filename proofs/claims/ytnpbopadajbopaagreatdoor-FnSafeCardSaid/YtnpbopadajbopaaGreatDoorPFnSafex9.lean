-- By a program of this session, out of the translation (the print of the kit, with turns of its own). Lean checks it.
import Derived.Test.YtnpbopadajbopaaGreatDoorPFnSafex0
import Derived.Test.YtnpbopadajbopaaGreatDoorPFnSafex1
import Derived.Test.YtnpbopadajbopaaGreatDoorPFnSafex3
import Derived.Test.YtnpbopadajbopaaGreatDoorPFnSafex4
import Derived.Test.YtnpbopadajbopaaGreatDoorPFnSafex5
import Derived.Test.YtnpbopadajbopaaGreatDoorPFnSafex6
import Derived.Test.YtnpbopadajbopaaGreatDoorPFnSafex7
import Derived.Test.YtnpbopadajbopaaGreatDoorPFnSafex8
namespace Go.Proofs.YtnpbopadajbopaaGreatDoor.PFnSafe
open Go.RowKit Go.Proofs.YtnpbopadajbopaaGreatDoorW.PrintWords Go.Proofs.YtnpbopadajbopaaGreatDoorW.PrintLast Go.Proofs.YtnpbopadajbopaaGreatDoorW.PrintMore
attribute [local go_sem] max2_int min2_int max_two min_two max_three min_three max_four min_four   -- for this text's walks alone
attribute [local go_sem] cell_in frozen_in
set_option synthInstance.maxSize 1000000
set_option synthInstance.maxHeartbeats 2000000
set_option linter.unusedVariables false
set_option linter.unusedSimpArgs false

/-! ### spec_See: function 40 -/
def spec_See.f (k : Nat) (a0_0 : Int) (a0_1 : Int) (a1_0 : Int) (a1_1 : Int) (a1_2 : Int) (a1_3 : ByteArray) (l1_4 : List Int) (a1_5 : ByteArray) (a2_0 : Int) (a2_1 : ByteArray) (l2_2 : List Int) : Option (Int × Int × Int × ByteArray × List Int × ByteArray) := (spec_l11Copy.f a1_0 a1_1 a1_2 a1_3 l1_4 a1_5).bind fun bt520 => ((spec_SafeOk.f k a0_0 a0_1 a1_0 a1_1 a1_2 a1_3 l1_4 a1_5).bind fun t529 => (if t529 = true then ((spec_QcOk.f k a0_0 a0_1 a2_0 a2_1 l2_2).bind fun t530 => (if t530 = true then ((spec_QcLater.f a2_0 a2_1 l2_2 a1_2 a1_3 l1_4).bind fun bt531 => ((spec_UpOf.f k a2_1).bind fun t536 => ((spec_ViewOf.f k t536).bind fun t537 => ((spec_l1Max.f a1_1 t537).bind fun t538 => ((spec_Settles.f k a2_1).bind fun bt539 => (if bt539.2 = true then ((spec_Extends.f k bt539.1 a1_5).bind fun t541 => (if t541 = true then (some (bt520.1, t538, bt531.1, bt531.2.1, bt531.2.2, bt539.1)) else (some (bt520.1, t538, bt531.1, bt531.2.1, bt531.2.2, bt520.2.2.2.2.2)))) else (some (bt520.1, t538, bt531.1, bt531.2.1, bt531.2.2, bt520.2.2.2.2.2)))))))) else (some (bt520.1, bt520.2.1, bt520.2.2.1, bt520.2.2.2.1, bt520.2.2.2.2.1, bt520.2.2.2.2.2)))) else (some (bt520.1, bt520.2.1, bt520.2.2.1, bt520.2.2.2.1, bt520.2.2.2.2.1, bt520.2.2.2.2.2))))
theorem spec_See.mono : ∀ a0 a1 a2 a3 a4 a5 a6 a7 a8 a9 a10 k, LeO (spec_See.f k a0 a1 a2 a3 a4 a5 a6 a7 a8 a9 a10) (spec_See.f (k + 1) a0 a1 a2 a3 a4 a5 a6 a7 a8 a9 a10) := by
 intro a0 a1 a2 a3 a4 a5 a6 a7 a8 a9 a10 k
 unfold spec_See.f
 repeat' first | (with_reducible exact spec_Extends.mono _ _ _) | (with_reducible exact spec_QcOk.mono _ _ _ _ _ _) | (with_reducible exact spec_SafeOk.mono _ _ _ _ _ _ _ _ _) | (with_reducible exact spec_Settles.mono _ _) | (with_reducible exact spec_UpOf.mono _ _) | (with_reducible exact spec_ViewOf.mono _ _) | (with_reducible exact LeO.refl _) | (with_reducible exact LeO.none _) | (with_reducible refine LeO.ite ?_ ?_) | (with_reducible refine LeO.bind ?_ (fun _ => ?_))
def spec_See.T5 : Bool × List (List Nat × List Nat) := (true, [([], []), ([0], [0]), ([], []), ([2], [2]), ([3], [3]), ([4, 4], [4]), ([1, 5, 5], [1, 5]), ([0, 1, 2, 3, 4, 5, 6], []), ([7, 6, 6, 0, 1, 2, 3, 4, 5, 6], [6, 7])])
def spec_See.B5 : List Nat := [0, 1, 0, 4, 12, 28, 63, 127, 255]
theorem spec_See.tab5 : rtab .any (opsOf Tryz.f40 5) = spec_See.T5 := by kernel_rfl
theorem spec_See.bits5 : waitsOk spec_See.T5.2 spec_See.B5 = true := by kernel_rfl
set_option maxHeartbeats 8000000 in
set_option maxRecDepth 100000 in
theorem spec_See.calls (k : Nat) (a0_0 : Int) (a0_1 : Int) (a1_0 : Int) (a1_1 : Int) (a1_2 : Int) (a1_3 : ByteArray) (A1_4 : Option Addr) (c1_4 : Nat) (l1_4 : List Int) (a1_5 : ByteArray) (a2_0 : Int) (a2_1 : ByteArray) (A2_2 : Option Addr) (c2_2 : Nat) (l2_2 : List Int) (r1 : Int) (r2 : Int) (r3 : Int) (r4 : ByteArray) (r5 : List Int) (r6 : ByteArray) (w : World) (hr1_4 : Kd.C (Kd.int .i64) w A1_4 l1_4.length l1_4) (hc1_4 : l1_4.length ≤ c1_4) (hr2_2 : Kd.C (Kd.int .i64) w A2_2 l2_2.length l2_2) (hc2_2 : l2_2.length ≤ c2_2) (h : spec_See.f k a0_0 a0_1 a1_0 a1_1 a1_2 a1_3 l1_4 a1_5 a2_0 a2_1 l2_2 = some (r1, r2, r3, r4, r5, r6)) :
  Calls Tryz.prog 40 #[.agg #[.int .i64 a0_0, .int .i64 a0_1], .agg #[.int .i64 a1_0, .int .i64 a1_1, .int .i64 a1_2, .string a1_3, .slice A1_4 l1_4.length c1_4, .string a1_5], .agg #[.int .i64 a2_0, .string a2_1, .slice A2_2 l2_2.length c2_2]] w fun e w' => ∃ v4_ : Value, e = .returned (.agg #[.int .i64 r1, .int .i64 r2, .int .i64 r3, .string r4, v4_, .string r6]) ∧ Kd.R (Kd.int .i64) 3 w' w.heap.size (fun _ => True) v4_ r5 ∧ Below w.heap.size w w' := by
 have hu32 := Tryz.underlying32; have hu29 := Tryz.underlying29; have hu27 := Tryz.underlying27; have HR1_4 := Aside0.mk hr1_4; have HC1_4 := Aside0.mk hc1_4; clear hr1_4 hc1_4; have HR2_2 := Aside0.mk hr2_2; have HC2_2 := Aside0.mk hc2_2; clear hr2_2 hc2_2; have HB := Aside0.mk (Below.refl w.heap.size w)
 have H := h; unfold spec_See.f at H
 clear h; obtain ⟨⟨t520, t521, t522, t523, t524, t527⟩, A4, H⟩ := oB H; (try dsimp only at H)
 go_enter Tryz.func40, Tryz.ntmps40
 have H' := Aside0.mk H; clear H
 go_upto_region 2 with (first | ((with_reducible refine gd 3 ?_); refine bL 3 #[.int .i64 a0_0, .int .i64 a0_1] 32 ?_; intro gb516 w5 _ _ _) | ((with_reducible refine gd 4 ?_); refine bL 4 #[.int .i64 a1_0, .int .i64 a1_1, .int .i64 a1_2, .string a1_3, .slice A1_4 l1_4.length c1_4, .string a1_5] 29 ?_; intro gb517 w6 _ _ _) | ((with_reducible refine gd 5 ?_); refine bL 5 #[.int .i64 a2_0, .string a2_1, .slice A2_2 l2_2.length c2_2] 27 ?_; intro gb518 w7 _ _ _) | ((with_reducible refine gd 6 ?_); refine bL 6 #[.int .i64 0, .int .i64 0, .int .i64 0, .string (⟨#[]⟩ : ByteArray), .slice none 0 0, .string (⟨#[]⟩ : ByteArray)] 29 ?_; intro gb519 w8 _ _ _) | ((with_reducible refine gate_callee (f := 125) rfl ?_); refine gC1 (some 11) Tryz.func125 (spec_l11Copy.calls (hr0_4 := pC HR1_4) (hc0_4 := HC1_4.out) (w := _) (h := A4.out)) ?_; intro Ao525 co525 w9 _ HO526) | ((with_reducible refine gd 7 ?_); refine bL 7 #[.int .i64 0, .int .i64 0, .int .i64 0, .string (⟨#[]⟩ : ByteArray), .slice none 0 0, .string (⟨#[]⟩ : ByteArray)] 29 ?_; intro gb528 w10 _ _ _))
 have H := H'.out; clear H'; obtain ⟨t529, A11, H⟩ := oB H; (try dsimp only at H)
 by_cases c12 : t529 = true
 ·
  subst c12
  rw [if_pos rfl] at H
  obtain ⟨t530, A13, H⟩ := oB H; (try dsimp only at H); have H' := Aside0.mk H; clear H
  go_upto_if 21 with (first | ((with_reducible refine gate_callee (f := 43) rfl ?_); refine gC (some 14) Tryz.func43 (spec_SafeOk.calls (hr1_4 := pC HR1_4) (hc1_4 := HC1_4.out) (w := _) (h := A11.out)) ?_; intro w14 _) | (go_at_call 133; refine aC (spec_QcOk.calls (hr1_2 := pC HR2_2) (hc1_2 := HC2_2.out) (w := _) (h := A13.out)) ?_; intro w15 _))
  have H := H'.out; clear H'
  by_cases c16 : t530 = true
  ·
   subst c16
   rw [if_pos rfl] at H
   obtain ⟨⟨t531, t532, t533⟩, A17, H⟩ := oB H; (try dsimp only at H); obtain ⟨t536, A18, H⟩ := oB H; (try dsimp only at H); obtain ⟨t537, A19, H⟩ := oB H; (try dsimp only at H); obtain ⟨t538, A20, H⟩ := oB H; (try dsimp only at H); obtain ⟨⟨t539, t540⟩, A21, H⟩ := oB H; (try dsimp only at H); have H' := Aside0.mk H; clear H
   try go_wp2_with (first | ((with_reducible refine gate_callee (f := 134) rfl ?_); refine gC1 (some 26) Tryz.func134 (spec_QcLater.calls (hr0_2 := pC HR2_2) (hc0_2 := HC2_2.out) (hr1_2 := pC HR1_4) (hc1_2 := HC1_4.out) (w := _) (h := A17.out)) ?_; intro Ao534 co534 w22 _ HO535))
   refine sB [gb528] spec_See.tab5 spec_See.bits5 ?_; intro w23 _ HT_ HW_
   refine pA 0 (some 28) (bz 9 1) HT_ ?_
   refine tB 1 (some 29) (bz 9 3) HT_ HW_ ?_
   refine pA 2 (some 30) (bz 9 7) HT_ ?_
   refine tB 3 (some 31) (bz 9 15) HT_ HW_ ?_
   refine o1 4 (some 32) (bz 9 31) HT_ rfl (kC Tryz.func132 (spec_UpOf.calls (w := _) (h := A18.out)) ?_); intro w24 _
   refine nA (some 32) ?_
   refine o1 5 (some 33) (bz 9 63) HT_ rfl (kC Tryz.func127 (spec_ViewOf.calls (w := _) (h := A19.out)) ?_); intro w25 _
   refine nA (some 33) ?_
   refine o1 6 (some 34) (bz 9 127) HT_ rfl (kD Tryz.func135 (spec_l1Max.calls (w := _) (h := A20.out)) ?_); intro w26 _
   refine nA (some 34) ?_
   refine pA 7 (some 35) (bz 9 255) HT_ ?_
   refine o1 8 none (bz 9 511) HT_ rfl (kS ?_)
   refine done_ (done_of HT_.out (by kernel_rfl)) ?_
   go_upto_region 7 with (first | ((with_reducible refine gate_callee (f := 38) rfl ?_); refine gC (some 39) Tryz.func38 (spec_Settles.calls (w := _) (h := A21.out)) ?_; intro w27 _))
   have H := H'.out; clear H'
   by_cases c28 : t540 = true
   ·
    subst c28
    rw [if_pos rfl] at H
    obtain ⟨t541, A29, H⟩ := oB H; (try dsimp only at H); have H' := Aside0.mk H; clear H
    go_upto_if 48 with (first | (go_at_call 136; refine aC (spec_Extends.calls (w := _) (h := A29.out)) ?_; intro w30 _))
    have H := H'.out; clear H'
    by_cases c31 : t541 = true
    ·
     subst c31
     rw [if_pos rfl] at H
     simp only [Option.some.injEq, Prod.mk.injEq] at H
     obtain ⟨rfl, rfl, rfl, rfl, rfl, rfl⟩ := H
     go_wp2
     refine bodyPost_ret (results_cell_row rfl _ _ gb519 29 #[.int .i64 t520, .int .i64 t538, .int .i64 t531, .string t532, .slice Ao534 t533.length co534, .string t539] (0, 0) _ rfl xB Tryz.underlying29 rfl (by kernel_rfl)) rfl ?_
     exact ⟨_, y0_16, rR HO535, UpW.out⟩
    replace c31 := Bool.eq_false_iff.mpr c31; subst c31
    rw [if_neg (show ¬ (false = true) by decide)] at H
    simp only [Option.some.injEq, Prod.mk.injEq] at H
    obtain ⟨rfl, rfl, rfl, rfl, rfl, rfl⟩ := H
    go_wp2
    refine bodyPost_ret (results_cell_row rfl _ _ gb519 29 #[.int .i64 t520, .int .i64 t538, .int .i64 t531, .string t532, .slice Ao534 t533.length co534, .string t527] (0, 0) _ rfl xB Tryz.underlying29 rfl (by kernel_rfl)) rfl ?_
    exact ⟨_, y0_16, rR HO535, UpW.out⟩
   replace c28 := Bool.eq_false_iff.mpr c28; subst c28
   rw [if_neg (show ¬ (false = true) by decide)] at H
   simp only [Option.some.injEq, Prod.mk.injEq] at H
   obtain ⟨rfl, rfl, rfl, rfl, rfl, rfl⟩ := H
   go_wp2
   refine bodyPost_ret (results_cell_row rfl _ _ gb519 29 #[.int .i64 t520, .int .i64 t538, .int .i64 t531, .string t532, .slice Ao534 t533.length co534, .string t527] (0, 0) _ rfl xB Tryz.underlying29 rfl (by kernel_rfl)) rfl ?_
   exact ⟨_, y0_16, rR HO535, UpW.out⟩
  replace c16 := Bool.eq_false_iff.mpr c16; subst c16
  rw [if_neg (show ¬ (false = true) by decide)] at H
  simp only [Option.some.injEq, Prod.mk.injEq] at H
  obtain ⟨rfl, rfl, rfl, rfl, rfl, rfl⟩ := H
  go_wp2
  refine bodyPost_ret (results_cell_row rfl _ _ gb519 29 #[.int .i64 t520, .int .i64 t521, .int .i64 t522, .string t523, .slice Ao525 t524.length co525, .string t527] (0, 0) _ rfl xB Tryz.underlying29 rfl (by kernel_rfl)) rfl ?_
  exact ⟨_, y0_16, rR HO526, UpW.out⟩
 replace c12 := Bool.eq_false_iff.mpr c12; subst c12
 rw [if_neg (show ¬ (false = true) by decide)] at H
 have H' := Aside0.mk H; clear H
 go_upto_if 21 with (first | ((with_reducible refine gate_callee (f := 43) rfl ?_); refine gC (some 14) Tryz.func43 (spec_SafeOk.calls (hr1_4 := pC HR1_4) (hc1_4 := HC1_4.out) (w := _) (h := A11.out)) ?_; intro w32 _))
 have H := H'.out; clear H'
 simp only [Option.some.injEq, Prod.mk.injEq] at H
 obtain ⟨rfl, rfl, rfl, rfl, rfl, rfl⟩ := H
 go_wp2
 refine bodyPost_ret (results_cell_row rfl _ _ gb519 29 #[.int .i64 t520, .int .i64 t521, .int .i64 t522, .string t523, .slice Ao525 t524.length co525, .string t527] (0, 0) _ rfl xB Tryz.underlying29 rfl (by kernel_rfl)) rfl ?_
 exact ⟨_, y0_16, rR HO526, UpW.out⟩

/-! ### spec_SafeNew: function 46 -/
def spec_SafeNew.f  : Option (Int × Int × Int × ByteArray × List Int × ByteArray) := some (0, 0, 0, (⟨#[]⟩ : ByteArray), ([] : List Int), (⟨#[]⟩ : ByteArray))
set_option maxHeartbeats 8000000 in
set_option maxRecDepth 100000 in
theorem spec_SafeNew.calls  (r1 : Int) (r2 : Int) (r3 : Int) (r4 : ByteArray) (r5 : List Int) (r6 : ByteArray) (w : World) (h : spec_SafeNew.f  = some (r1, r2, r3, r4, r5, r6)) :
  Calls Tryz.prog 46 #[] w fun e w' => ∃ v4_ : Value, e = .returned (.agg #[.int .i64 r1, .int .i64 r2, .int .i64 r3, .string r4, v4_, .string r6]) ∧ Kd.R (Kd.int .i64) 3 w' w.heap.size (fun _ => True) v4_ r5 ∧ Below w.heap.size w w' := by
 have hu29 := Tryz.underlying29; have HB := Aside0.mk (Below.refl w.heap.size w); have H := h; unfold spec_SafeNew.f at H; clear h
 simp only [Option.some.injEq, Prod.mk.injEq] at H
 obtain ⟨rfl, rfl, rfl, rfl, rfl, rfl⟩ := H
 go_enter Tryz.func46, Tryz.ntmps46
 go_wp2_with (first | ((with_reducible refine gd 0 ?_); refine bL 0 #[.int .i64 0, .int .i64 0, .int .i64 0, .string (⟨#[]⟩ : ByteArray), .slice none 0 0, .string (⟨#[]⟩ : ByteArray)] 29 ?_; intro gb542 w1 _ _ _))
 refine bodyPost_ret (results_cell_row rfl _ _ gb542 29 #[.int .i64 0, .int .i64 0, .int .i64 0, .string (⟨#[]⟩ : ByteArray), .slice none 0 0, .string (⟨#[]⟩ : ByteArray)] (0, 0) _ rfl xB Tryz.underlying29 rfl (by kernel_rfl)) rfl ?_
 exact ⟨_, y0_16, Kd.R_nil _ _ _ _ _, UpW.out⟩

/-! ### spec_BlockNew: function 77 -/
def spec_BlockNew.f (k : Nat) (a0_0 : Int) (a0_1 : Int) (a1_0 : Int) (a1_1 : ByteArray) (l1_2 : List Int) (a2 : Int) (l3 : List (S204)) : Option (ByteArray × Int × ByteArray × List Int × Bool) := (spec_NameOf.f k a1_1 a2 l3).bind fun t546 => ((spec_l7Copy.f a1_0 a1_1 l1_2).bind fun bt547 => ((spec_BlockOk.f k a0_0 a0_1 t546 bt547.1 bt547.2.1 bt547.2.2).bind fun t553 => (if t553 = true then ((spec_ViewOf.f k t546).bind fun t554 => (if t554 = a2 then (some (t546, bt547.1, bt547.2.1, bt547.2.2, true)) else (some ((⟨#[]⟩ : ByteArray), 0, (⟨#[]⟩ : ByteArray), ([] : List Int), false)))) else (some ((⟨#[]⟩ : ByteArray), 0, (⟨#[]⟩ : ByteArray), ([] : List Int), false)))))
theorem spec_BlockNew.mono : ∀ a0 a1 a2 a3 a4 a5 a6 k, LeO (spec_BlockNew.f k a0 a1 a2 a3 a4 a5 a6) (spec_BlockNew.f (k + 1) a0 a1 a2 a3 a4 a5 a6) := by
 intro a0 a1 a2 a3 a4 a5 a6 k
 unfold spec_BlockNew.f
 repeat' first | (with_reducible exact spec_BlockOk.mono _ _ _ _ _ _ _) | (with_reducible exact spec_NameOf.mono _ _ _ _) | (with_reducible exact spec_ViewOf.mono _ _) | (with_reducible exact LeO.refl _) | (with_reducible exact LeO.none _) | (with_reducible refine LeO.ite ?_ ?_) | (with_reducible refine LeO.bind ?_ (fun _ => ?_))
def spec_BlockNew.T1 : Bool × List (List Nat × List Nat) := (true, [([], []), ([0], [0]), ([], []), ([], []), ([1, 2, 3], [1, 2, 3]), ([], []), ([5, 4], [5]), ([4, 6], [4, 6]), ([], []), ([8, 7, 6, 0, 1, 2, 3, 4, 5, 6, 7, 8], [7, 8])])
def spec_BlockNew.B1 : List Nat := [0, 1, 0, 0, 15, 0, 63, 127, 0, 511]
theorem spec_BlockNew.tab1 : rtab .any (opsOf Tryz.f77 1) = spec_BlockNew.T1 := by kernel_rfl
theorem spec_BlockNew.bits1 : waitsOk spec_BlockNew.T1.2 spec_BlockNew.B1 = true := by kernel_rfl
set_option maxHeartbeats 8000000 in
set_option maxRecDepth 100000 in
theorem spec_BlockNew.calls (k : Nat) (a0_0 : Int) (a0_1 : Int) (a1_0 : Int) (a1_1 : ByteArray) (A1_2 : Option Addr) (c1_2 : Nat) (l1_2 : List Int) (a2 : Int) (A3 : Option Addr) (c3 : Nat) (l3 : List (S204)) (r1 : ByteArray) (r2 : Int) (r3 : ByteArray) (r4 : List Int) (r5 : Bool) (w : World) (hr1_2 : Kd.C (Kd.int .i64) w A1_2 l1_2.length l1_2) (hc1_2 : l1_2.length ≤ c1_2) (hr3 : Kd.C k204 w A3 l3.length l3) (hc3 : l3.length ≤ c3) (h : spec_BlockNew.f k a0_0 a0_1 a1_0 a1_1 l1_2 a2 l3 = some (r1, r2, r3, r4, r5)) :
  Calls Tryz.prog 77 #[.agg #[.int .i64 a0_0, .int .i64 a0_1], .agg #[.int .i64 a1_0, .string a1_1, .slice A1_2 l1_2.length c1_2], .int .i64 a2, .slice A3 l3.length c3] w fun e w' => ∃ v3_ : Value, e = .returned (.tuple #[.agg #[.string r1, .int .i64 r2, .string r3, v3_], .bool r5]) ∧ Kd.R (Kd.int .i64) 3 w' w.heap.size (fun _ => True) v3_ r4 ∧ Below w.heap.size w w' := by
 have hu32 := Tryz.underlying32; have hu27 := Tryz.underlying27; have hu60 := Tryz.underlying60; have HR1_2 := Aside0.mk hr1_2; have HC1_2 := Aside0.mk hc1_2; clear hr1_2 hc1_2; have HR3 := Aside0.mk hr3; have HC3 := Aside0.mk hc3; clear hr3 hc3; have HB := Aside0.mk (Below.refl w.heap.size w)
 have H := h; unfold spec_BlockNew.f at H
 clear h; obtain ⟨t546, A5, H⟩ := oB H; (try dsimp only at H); obtain ⟨⟨t547, t548, t549⟩, A6, H⟩ := oB H; (try dsimp only at H)
 go_enter Tryz.func77, Tryz.ntmps77
 have H' := Aside0.mk H; clear H
 try go_wp2_with (first | ((with_reducible refine gd 4 ?_); refine bL 4 #[.int .i64 a0_0, .int .i64 a0_1] 32 ?_; intro gb543 w7 _ _ _) | ((with_reducible refine gd 5 ?_); refine bL 5 #[.int .i64 a1_0, .string a1_1, .slice A1_2 l1_2.length c1_2] 27 ?_; intro gb544 w8 _ _ _) | ((with_reducible refine gd 8 ?_); refine bL 8 #[.string (⟨#[]⟩ : ByteArray), .int .i64 0, .string (⟨#[]⟩ : ByteArray), .slice none 0 0] 60 ?_; intro gb545 w9 _ _ _))
 refine sB [] spec_BlockNew.tab1 spec_BlockNew.bits1 ?_; intro w10 _ HT_ HW_
 refine pA 0 (some 11) (bz 10 1) HT_ ?_
 refine tB 1 (some 12) (bz 10 3) HT_ HW_ ?_
 refine pA 2 (some 13) (bz 10 7) HT_ ?_
 refine pA 3 (some 14) (bz 10 15) HT_ ?_
 refine tB 5 (some 16) (bz 10 47) HT_ HW_ ?_
 refine join_ (σ := Option Addr × Nat × Nat) 1 (bz 10 511) (fun s_ => [(15, .string t546), (17, .agg #[.int .i64 t547, .string t548, .slice s_.1 t549.length s_.2.1]), (18, .agg #[.string t546, .int .i64 t547, .string t548, .slice s_.1 t549.length s_.2.1]), (10, .pointer (some ⟨s_.2.2, 0, none⟩))]) (fun s_ w' => Aside0 (Kd.R (Kd.int .i64) 3 w' w10.heap.size (iv w10 w') (.slice s_.1 t549.length s_.2.1) t549) ∧ BkI (s_.2.2) w' #[.string (⟨#[]⟩ : ByteArray), .int .i64 0, .string (⟨#[]⟩ : ByteArray), .slice none 0 0] 60 ∧ BornI (s_.2.2) w10 ∧ UB w10 w') ?_ ?_
 rotate_left
 ·
  intro hCont
  refine o2 4 8 (some 15) (some 10) (bz 10 63) (bz 10 303) HT_ rfl rfl (kC Tryz.func163 (spec_NameOf.calls (hr2 := pC HR3) (hc2 := HC3.out) (w := _) (h := A5.out)) ?_) (kB #[.string (⟨#[]⟩ : ByteArray), .int .i64 0, .string (⟨#[]⟩ : ByteArray), .slice none 0 0] 60 ?_)
  ·
   intro w11 _
   refine nA (some 15) ?_
   refine o2 6 8 (some 17) (some 10) (bz 10 127) (bz 10 319) HT_ rfl rfl (kC1 Tryz.func164 (spec_l7Copy.calls (hr0_2 := pC HR1_2) (hc0_2 := HC1_2.out) (w := _) (h := A6.out)) ?_) (kB #[.string (⟨#[]⟩ : ByteArray), .int .i64 0, .string (⟨#[]⟩ : ByteArray), .slice none 0 0] 60 ?_)
   ·
    intro Ao550 co550 w13 _ HO551
    refine nA (some 17) ?_
    refine pA 7 (some 18) (bz 10 255) HT_ ?_
    refine o1 8 (some 10) (bz 10 511) HT_ rfl (kB #[.string (⟨#[]⟩ : ByteArray), .int .i64 0, .string (⟨#[]⟩ : ByteArray), .slice none 0 0] 60 ?_); intro gb552 w15 _ _ _
    refine nA (some 10) ?_
    exact hJ (hCont (Ao550, co550, gb552) _ ⟨⟨rJ HO551⟩, ⟨xB⟩, ⟨GeI.out⟩, ⟨UpW.out⟩⟩)
   intro gb552 w14 _ _ _
   refine nA (some 10) ?_
   refine o1 6 (some 17) (bz 10 383) HT_ rfl (kC1 Tryz.func164 (spec_l7Copy.calls (hr0_2 := pC HR1_2) (hc0_2 := HC1_2.out) (w := _) (h := A6.out)) ?_); intro Ao550 co550 w16 _ HO551
   refine nA (some 17) ?_
   refine pA 7 (some 18) (bz 10 511) HT_ ?_
   exact hJ (hCont (Ao550, co550, gb552) _ ⟨⟨rJ HO551⟩, ⟨xB⟩, ⟨GeI.out⟩, ⟨UpW.out⟩⟩)
  intro gb552 w12 _ _ _
  refine nA (some 10) ?_
  refine o1 4 (some 15) (bz 10 319) HT_ rfl (kC Tryz.func163 (spec_NameOf.calls (hr2 := pC HR3) (hc2 := HC3.out) (w := _) (h := A5.out)) ?_); intro w17 _
  refine nA (some 15) ?_
  refine o1 6 (some 17) (bz 10 383) HT_ rfl (kC1 Tryz.func164 (spec_l7Copy.calls (hr0_2 := pC HR1_2) (hc0_2 := HC1_2.out) (w := _) (h := A6.out)) ?_); intro Ao550 co550 w18 _ HO551
  refine nA (some 17) ?_
  refine pA 7 (some 18) (bz 10 511) HT_ ?_
  exact hJ (hCont (Ao550, co550, gb552) _ ⟨⟨rJ HO551⟩, ⟨xB⟩, ⟨GeI.out⟩, ⟨UpW.out⟩⟩)
 rintro ⟨Ao550, co550, gb552⟩ w19 ⟨HO551, _, _, _⟩
 refine nP ?_
 refine o1 9 none (bz 10 1023) HT_ rfl (kS ?_)
 refine done_ (done_of HT_.out (by kernel_rfl)) ?_
 go_upto_region 2 with fail
 have H := H'.out; clear H'; obtain ⟨t553, A20, H⟩ := oB H; (try dsimp only at H)
 by_cases c21 : t553 = true
 ·
  subst c21
  rw [if_pos rfl] at H
  obtain ⟨t554, A22, H⟩ := oB H; (try dsimp only at H); have H' := Aside0.mk H; clear H
  go_upto_if 29 with (first | ((with_reducible refine gate_callee (f := 80) rfl ?_); refine gC (some 21) Tryz.func80 (spec_BlockOk.calls (hr1_3 := rC HO551) (hc1_3 := rL HO551) (w := _) (h := A20.out)) ?_; intro w23 _) | (go_at_call 127; refine aC (spec_ViewOf.calls (w := _) (h := A22.out)) ?_; intro w24 _))
  have H := H'.out; clear H'
  by_cases c25 : t554 = a2
  ·
   rw [if_pos c25] at H
   have c25b0 : (t554 == a2) = true := beq_iff_eq.mpr c25; have c25b1 : (t554 != a2) = false := bne_eq_false_iff_eq.mpr c25; clear c25
   (first | rw [c25b0] | (simp only [i64_w, i32_w]; rw [c25b0]) | skip)
   simp only [Option.some.injEq, Prod.mk.injEq] at H
   obtain ⟨rfl, rfl, rfl, rfl, rfl⟩ := H
   go_wp2
   refine bodyPost_ret (results_ct rfl _ _ gb545 60 #[.string t546, .int .i64 t547, .string t548, .slice Ao550 t549.length co550] (0, 0) _ rfl xB Tryz.underlying60 rfl (by kernel_rfl)) rfl ?_
   exact ⟨_, y0_16, rR HO551, UpW.out⟩
  rw [if_neg c25] at H
  have c25b0 : (t554 == a2) = false := beq_eq_false_iff_ne.mpr c25; have c25b1 : (t554 != a2) = true := bne_iff_ne.mpr c25
  (first | rw [c25b0] | (simp only [i64_w, i32_w]; rw [c25b0]) | skip)
  simp only [Option.some.injEq, Prod.mk.injEq] at H
  obtain ⟨rfl, rfl, rfl, rfl, rfl⟩ := H
  go_wp2
  refine bodyPost_ret (results_ct rfl _ _ gb545 60 #[.string (⟨#[]⟩ : ByteArray), .int .i64 0, .string (⟨#[]⟩ : ByteArray), .slice none 0 0] (0, 0) _ rfl xB Tryz.underlying60 rfl (by kernel_rfl)) rfl ?_
  exact ⟨_, y0_16, Kd.R_nil _ _ _ _ _, UpW.out⟩
 replace c21 := Bool.eq_false_iff.mpr c21; subst c21
 rw [if_neg (show ¬ (false = true) by decide)] at H
 have H' := Aside0.mk H; clear H
 go_upto_if 29 with (first | ((with_reducible refine gate_callee (f := 80) rfl ?_); refine gC (some 21) Tryz.func80 (spec_BlockOk.calls (hr1_3 := rC HO551) (hc1_3 := rL HO551) (w := _) (h := A20.out)) ?_; intro w26 _))
 have H := H'.out; clear H'
 simp only [Option.some.injEq, Prod.mk.injEq] at H
 obtain ⟨rfl, rfl, rfl, rfl, rfl⟩ := H
 go_wp2
 refine bodyPost_ret (results_ct rfl _ _ gb545 60 #[.string (⟨#[]⟩ : ByteArray), .int .i64 0, .string (⟨#[]⟩ : ByteArray), .slice none 0 0] (0, 0) _ rfl xB Tryz.underlying60 rfl (by kernel_rfl)) rfl ?_
 exact ⟨_, y0_16, Kd.R_nil _ _ _ _ _, UpW.out⟩

/-! ### spec_l8DrawRight: function 211 -/
def spec_l8DrawRight.l0 : Nat → List (S204) → Int → List Int → Int → Int → Int → Int → Int → ByteArray → List Int → Option (ByteArray × Int × ByteArray × List Int × Int × Int)
 | 0, _, _, _, _, _, _, _, _, _, _ => none
 | k + 1, x6, x7, x1000, x1001, x1002, x556000, x556001, x568000, x568001, x568002 => (spec_l1Below.f x1000 x1001 x1002 3).bind fun bt571 => (if x7 < bt571.1 then ((spec_l2DrawRight.f x1000 bt571.2.1 bt571.2.2).bind fun bt574 => (if x6.length < 4398046511104 then (spec_l8DrawRight.l0 k (x6 ++ [(⟨bt574.1, bt574.2.1, bt574.2.2.1, bt574.2.2.2.1⟩ : S204)]) (wrap64 (x7 + 1)) x1000 bt574.2.2.2.2.1 bt574.2.2.2.2.2 x556000 x556001 x568000 x568001 x568002) else (none))) else ((spec_l1Below.f x1000 bt571.2.1 bt571.2.2 4).bind fun bt583 => ((spec_BlockNew.f k x556000 x556001 x568000 x568001 x568002 (wrap64 ((wrap64 (x568000 + 1)) + (wrap64 (Int.tdiv bt583.1 3)))) x6).bind fun bt586 => (some (bt586.1, bt586.2.1, bt586.2.2.1, bt586.2.2.2.1, bt583.2.1, bt583.2.2)))))
def spec_l8DrawRight.f (k : Nat) (s0_0 : List Int) (s0_1 : Int) (s0_2 : Int) (a1_0 : Int) (a1_1 : Int) : Option (ByteArray × Int × ByteArray × List Int × Int × Int) := (spec_l5DrawRight.f k s0_0 s0_1 s0_2).bind fun bt557 => ((spec_l7DrawOf.f k s0_0 bt557.2.1 bt557.2.2 a1_0 a1_1 bt557.1).bind fun bt560 => (spec_l8DrawRight.l0 k (([] : List (S204))) 0 s0_0 bt560.2.2.2.1 bt560.2.2.2.2 a1_0 a1_1 bt560.1 bt560.2.1 bt560.2.2.1))
theorem spec_l8DrawRight.mono_l : ∀ k, (∀ y0 y1 y2 y3 y4 y5 y6 y7 y8 y9, LeO (spec_l8DrawRight.l0 k y0 y1 y2 y3 y4 y5 y6 y7 y8 y9) (spec_l8DrawRight.l0 (k + 1) y0 y1 y2 y3 y4 y5 y6 y7 y8 y9))
 | 0 => fun _ _ _ _ _ _ _ _ _ _ r h => by simp [spec_l8DrawRight.l0] at h
 | k + 1 => by
  have ih0 := spec_l8DrawRight.mono_l k
  intro y0 y1 y2 y3 y4 y5 y6 y7 y8 y9
  unfold spec_l8DrawRight.l0
  repeat' first | (with_reducible exact ih0 _ _ _ _ _ _ _ _ _ _) | (with_reducible exact spec_BlockNew.mono _ _ _ _ _ _ _ _) | (with_reducible exact spec_l5DrawRight.mono _ _ _ _) | (with_reducible exact spec_l7DrawOf.mono _ _ _ _ _ _ _) | (with_reducible exact LeO.refl _) | (with_reducible exact LeO.none _) | (with_reducible refine LeO.ite ?_ ?_) | (with_reducible refine LeO.bind ?_ (fun _ => ?_))
theorem spec_l8DrawRight.mono : ∀ a0 a1 a2 a3 a4 k, LeO (spec_l8DrawRight.f k a0 a1 a2 a3 a4) (spec_l8DrawRight.f (k + 1) a0 a1 a2 a3 a4) := by
 intro a0 a1 a2 a3 a4 k
 have ih0 := spec_l8DrawRight.mono_l k
 unfold spec_l8DrawRight.f
 repeat' first | (with_reducible exact ih0 _ _ _ _ _ _ _ _ _ _) | (with_reducible exact spec_BlockNew.mono _ _ _ _ _ _ _ _) | (with_reducible exact spec_l5DrawRight.mono _ _ _ _) | (with_reducible exact spec_l7DrawOf.mono _ _ _ _ _ _ _) | (with_reducible exact LeO.refl _) | (with_reducible exact LeO.none _) | (with_reducible refine LeO.ite ?_ ?_) | (with_reducible refine LeO.bind ?_ (fun _ => ?_))
def spec_l8DrawRight.T1 : Bool × List (List Nat × List Nat) := (true, [([], []), ([], []), ([], []), ([2], [2]), ([0, 1, 3, 3], [0, 1, 3]), ([], []), ([5, 4, 4, 0, 1, 2, 3, 4, 5], [4, 5])])
def spec_l8DrawRight.B1 : List Nat := [0, 0, 0, 4, 15, 0, 63]
theorem spec_l8DrawRight.tab1 : rtab .any (opsOf Tryz.f211 1) = spec_l8DrawRight.T1 := by kernel_rfl
theorem spec_l8DrawRight.bits1 : waitsOk spec_l8DrawRight.T1.2 spec_l8DrawRight.B1 = true := by kernel_rfl
def spec_l8DrawRight.T7 : Bool × List (List Nat × List Nat) := (true, [([], []), ([], []), ([], []), ([2], [2]), ([3], [3]), ([], []), ([5], [5]), ([6], [6]), ([4, 7], [4, 7]), ([], []), ([0, 1, 8, 9, 6], [0, 1, 8, 9]), ([10], [10]), ([11], [11]), ([11], [11]), ([], []), ([14, 12, 10, 0, 1, 2, 3, 4, 5, 6, 7, 8, 9, 10, 11, 12, 14], [12, 14]), ([13, 15, 0, 1, 2, 3, 4, 5, 6, 7, 8, 9, 10, 11, 12, 13, 14, 15], [13])])
def spec_l8DrawRight.B7 : List Nat := [0, 0, 0, 4, 12, 0, 32, 96, 252, 0, 1023, 2047, 4095, 4095, 0, 24575, 65535]
theorem spec_l8DrawRight.tab7 : rtab .any (opsOf Tryz.f211 7) = spec_l8DrawRight.T7 := by kernel_rfl
theorem spec_l8DrawRight.bits7 : waitsOk spec_l8DrawRight.T7.2 spec_l8DrawRight.B7 = true := by kernel_rfl
set_option maxHeartbeats 8000000 in
set_option maxRecDepth 100000 in
theorem spec_l8DrawRight.calls (k : Nat) (g : Nat) (s0_0 : List Int) (s0_1 : Int) (s0_2 : Int) (a1_0 : Int) (a1_1 : Int) (r1 : ByteArray) (r2 : Int) (r3 : ByteArray) (r4 : List Int) (r5 : Int) (r6 : Int) (w0 w : World) (hI : IsS188 w0 w g s0_0 s0_1 s0_2) (hB : Below w0.heap.size w0 w) (h : spec_l8DrawRight.f k s0_0 s0_1 s0_2 a1_0 a1_1 = some (r1, r2, r3, r4, r5, r6)) :
  Calls Tryz.prog 211 #[.pointer (some ⟨g, 0, none⟩), .agg #[.int .i64 a1_0, .int .i64 a1_1]] w fun e w' => ∃ v3_ : Value, e = .returned (.agg #[.string r1, .int .i64 r2, .string r3, v3_]) ∧ Kd.R (Kd.int .i64) 3 w' w.heap.size (fun _ => True) v3_ r4 ∧ IsS188 w0 w' g s0_0 r5 r6 ∧ Below w0.heap.size w0 w' ∧ KeepBut w w' g none := by
 have hu32 := Tryz.underlying32; have hu60 := Tryz.underlying60; have hu27 := Tryz.underlying27; have HI0 := Aside0.mk hI; have HK := Aside0.mk (KeepBut.refl w g none); have HL := Aside0.mk hB.size; clear hI; have HW0 := Aside0.mk hB.size; have HB := Aside0.mk hB; clear hB
 have H := h; unfold spec_l8DrawRight.f at H
 clear h; obtain ⟨⟨t557, t558, t559⟩, A3, H⟩ := oB H; (try dsimp only at H); obtain ⟨⟨t560, t561, t562, t565, t566⟩, A4, H⟩ := oB H; (try dsimp only at H); obtain ⟨y568, hy568⟩ : ∃ y_ : List (S204), y_ = (([] : List (S204))) := ⟨_, rfl⟩
 replace H : (spec_l8DrawRight.l0 k y568 0 s0_0 t565 t566 a1_0 a1_1 t560 t561 t562) = some (r1, r2, r3, r4, r5, r6) := by first | (rw [hy568]; with_reducible exact H) | (have H2_ := (Option.bind_some _ _).symm.trans H; rw [hy568]; with_reducible exact H2_) | (have H2_ := (Option.bind_some _ _).symm.trans H; with_reducible exact H2_) | with_reducible exact H | (rw [hy568]; exact H) | exact H
 have Ny568 := Aside0.mk hy568; clear hy568; have i0_ := iB188 HI0; have i1_ : LB w0 w := ⟨HB.out⟩
 go_enter Tryz.func211, Tryz.ntmps211
 have H' := Aside0.mk H; clear H
 try go_wp2_with (first | ((with_reducible refine gd 3 ?_); refine bL 3 #[.int .i64 a1_0, .int .i64 a1_1] 32 ?_; intro gb555 w5 _ _ _) | ((with_reducible refine gd 4 ?_); refine bL 4 #[.string (⟨#[]⟩ : ByteArray), .int .i64 0, .string (⟨#[]⟩ : ByteArray), .slice none 0 0] 60 ?_; intro gb556 w6 _ _ _))
 refine sB [g] spec_l8DrawRight.tab1 spec_l8DrawRight.bits1 ?_; intro w7 _ HT_ HW_
 refine pA 0 (some 10) (bz 7 1) HT_ ?_
 refine tB 1 (some 11) (bz 7 3) HT_ HW_ ?_
 refine pA 2 (some 12) (bz 7 7) HT_ ?_
 refine join_ (σ := Option Addr × Nat × Nat) 1 (bz 7 63) (fun s_ => [(13, .string t557), (14, .agg #[.int .i64 t560, .string t561, .slice s_.1 t562.length s_.2.1]), (5, .pointer (some ⟨s_.2.2, 0, none⟩))]) (fun s_ w' => Aside0 (Kd.R (Kd.int .i64) 3 w' w7.heap.size (iv w7 w') (.slice s_.1 t562.length s_.2.1) t562) ∧ BkI (s_.2.2) w' #[.int .i64 0, .string (⟨#[]⟩ : ByteArray), .slice none 0 0] 27 ∧ BornI (s_.2.2) w7 ∧ StB g w' 188 ∧ Aside0 (IsS188 w0 w' g s0_0 t565 t566) ∧ KL w7 [g] w' ∧ LB w0 w' ∧ KS w g w') ?_ ?_
 rotate_left
 ·
  intro hCont
  refine o2 3 5 (some 13) (some 5) (bz 7 15) (bz 7 39) HT_ rfl rfl (kK Tryz.func152 (spec_l5DrawRight.calls (hI := iS188 HI0) (hB := UpW.out) (w := _) (h := A3.out)) ?_) (kB #[.int .i64 0, .string (⟨#[]⟩ : ByteArray), .slice none 0 0] 27 ?_)
  ·
   intro w8 _ _ _ HI9
   refine nA (some 13) ?_
   refine o2 4 5 (some 14) (some 5) (bz 7 31) (bz 7 47) HT_ rfl rfl (kK1 Tryz.func189 (spec_l7DrawOf.calls (hI := iS188 HI9) (hB := UpW.out) (w := _) (h := A4.out)) ?_) (kB #[.int .i64 0, .string (⟨#[]⟩ : ByteArray), .slice none 0 0] 27 ?_)
   ·
    intro Ao563 co563 w11 _ _ _ HI12 HO564
    refine nA (some 14) ?_
    refine o1 5 (some 5) (bz 7 63) HT_ rfl (kB #[.int .i64 0, .string (⟨#[]⟩ : ByteArray), .slice none 0 0] 27 ?_); intro gb567 w14 _ _ _
    refine nA (some 5) ?_
    exact hJ (hCont (Ao563, co563, gb567) _ ⟨⟨rJ HO564⟩, ⟨xB⟩, ⟨GeI.out⟩, iB188 ⟨iS188 HI12⟩, ⟨iS188 HI12⟩, ⟨UpL.out⟩, ⟨UpW.out⟩, ⟨UpB.out⟩⟩)
   intro gb567 w13 _ _ _
   refine nA (some 5) ?_
   refine o1 4 (some 14) (bz 7 63) HT_ rfl (kK1 Tryz.func189 (spec_l7DrawOf.calls (hI := iS188 HI9) (hB := UpW.out) (w := _) (h := A4.out)) ?_); intro Ao563 co563 w15 _ _ _ HI16 HO564
   refine nA (some 14) ?_
   exact hJ (hCont (Ao563, co563, gb567) _ ⟨⟨rJ HO564⟩, ⟨xB⟩, ⟨GeI.out⟩, iB188 ⟨iS188 HI16⟩, ⟨iS188 HI16⟩, ⟨UpL.out⟩, ⟨UpW.out⟩, ⟨UpB.out⟩⟩)
  intro gb567 w10 _ _ _
  refine nA (some 5) ?_
  refine o1 3 (some 13) (bz 7 47) HT_ rfl (kK Tryz.func152 (spec_l5DrawRight.calls (hI := iS188 HI0) (hB := UpW.out) (w := _) (h := A3.out)) ?_); intro w17 _ _ _ HI18
  refine nA (some 13) ?_
  refine o1 4 (some 14) (bz 7 63) HT_ rfl (kK1 Tryz.func189 (spec_l7DrawOf.calls (hI := iS188 HI18) (hB := UpW.out) (w := _) (h := A4.out)) ?_); intro Ao563 co563 w19 _ _ _ HI20 HO564
  refine nA (some 14) ?_
  exact hJ (hCont (Ao563, co563, gb567) _ ⟨⟨rJ HO564⟩, ⟨xB⟩, ⟨GeI.out⟩, iB188 ⟨iS188 HI20⟩, ⟨iS188 HI20⟩, ⟨UpL.out⟩, ⟨UpW.out⟩, ⟨UpB.out⟩⟩)
 rintro ⟨Ao563, co563, gb567⟩ w21 ⟨HO564, _, _, _, HI22, _, _, _⟩
 refine nP ?_
 refine o1 6 none (bz 7 127) HT_ rfl (kS ?_)
 refine done_ (done_of HT_.out (by kernel_rfl)) ?_
 try go_wp2_with (first | ((with_reducible refine gate_dst (N := 15) rfl ?_); refine lE 15 204 k204 Ny568 ?_; intro Ao569 co569 w23 _ HO570))
 refine wC ?_; intro w24 _
 go_loopg [6, 7] k (fun kq v6 v7 w' => ∃ (x6_1 : List (S204)) (x7_1 : Int) (x1001_1 : Int) (x1002_1 : Int) (Ao6_1 : Option Addr) (co6_1 : Nat), v6 = .slice Ao6_1 x6_1.length co6_1 ∧ v7 = .int .i64 x7_1 ∧ Aside0 (spec_l8DrawRight.l0 kq x6_1 x7_1 s0_0 x1001_1 x1002_1 a1_0 a1_1 t560 t561 t562 = some (r1, r2, r3, r4, r5, r6)) ∧ Aside0 (kq ≤ k) ∧ Aside0 (Kd.R k204 204 w' w21.heap.size (iv w21 w') (.slice Ao6_1 x6_1.length co6_1) x6_1) ∧ StB g w' 188 ∧ Aside0 (IsS188 w0 w' g s0_0 x1001_1 x1002_1) ∧ KT w24 [g] w21 _ k204 204 w' ∧ LB w0 w' ∧ KS w g w')
 case atStart => exact ⟨(y568), (0), (t565), (t566), (Ao569), (co569), y0_16, y0_16, H', ⟨Nat.le_refl _⟩, ⟨rJ HO570⟩, iB188 ⟨iS188 HI22⟩, ⟨iS188 HI22⟩, ⟨UpT.out⟩, ⟨UpW.out⟩, ⟨UpB.out⟩⟩
 case round =>
  clear H'; obtain ⟨x6_1, x7_1, x1001_1, x1002_1, Ao6_1, co6_1, rfl, rfl, HA, HK1, HO_6, _, HI25, _, _, _⟩ := hrel; have HO_568002 := HO564; have HO_15 := HO570; cases gk with
  | zero => exact absurd HA.out (by simp [spec_l8DrawRight.l0])
  | succ k1 =>
   have H := HA.out; clear HA
   simp only [spec_l8DrawRight.l0] at H
   obtain ⟨⟨t571, t572, t573⟩, A26, H⟩ := oB H; (try dsimp only at H); have H' := Aside0.mk H; clear H
   go_upto_if 19 with (first | ((with_reducible refine gate_callee (f := 150) rfl ?_); refine gK (some 18) Tryz.func150 (spec_l1Below.calls (hI := iS188 HI25) (hB := UpW.out) (w := _) (h := A26.out)) ?_; intro w27 _ _ _ HI28))
   have H := H'.out; clear H'
   by_cases c29 : x7_1 < t571
   ·
    rw [if_pos c29] at H
    have c29b0 : decide (x7_1 < t571) = true := decide_eq_true c29; clear c29
    (first | rw [c29b0] | (simp only [i64_w, i32_w]; rw [c29b0]) | skip)
    obtain ⟨⟨t574, t575, t576, t577, t578, t579⟩, A30, H⟩ := oB H; (try dsimp only at H)
    by_cases c31 : x6_1.length < 4398046511104
    rotate_left
    ·
     rw [if_neg c31] at H
     exact absurd H (by simp)
    rw [if_pos c31] at H
    have LMc31 := Aside0.mk c31; clear c31; obtain ⟨y580, hy580⟩ : ∃ y_ : List (S204), y_ = (x6_1 ++ [(⟨t574, t575, t576, t577⟩ : S204)]) := ⟨_, rfl⟩
    replace H : (spec_l8DrawRight.l0 k1 y580 (wrap64 (x7_1 + 1)) s0_0 t578 t579 a1_0 a1_1 t560 t561 t562) = some (r1, r2, r3, r4, r5, r6) := by first | (rw [hy580]; with_reducible exact H) | (have H2_ := (Option.bind_some _ _).symm.trans H; rw [hy580]; with_reducible exact H2_) | (have H2_ := (Option.bind_some _ _).symm.trans H; with_reducible exact H2_) | with_reducible exact H | (rw [hy580]; exact H) | exact H
    have Ny580 := Aside0.mk hy580; clear hy580; have H' := Aside0.mk H; clear H
    go_wp2_with (first | ((with_reducible refine gate_callee (f := 209) rfl ?_); refine gK (some 24) Tryz.func209 (spec_l2DrawRight.calls (hI := iS188 HI28) (hB := UpW.out) (w := _) (h := A30.out)) ?_; intro w32 _ _ _ HI33) | ((with_reducible refine gate_builtin (b := .append) (xs := #[.tmp 22, .tmp 25]) rfl ?_); at_builtin; refine gA k204 (.tmp 22) (.tmp 25) 101 204 (.agg #[(.int .i64 0), (.int .i64 0), (.int .i64 0), (.int .i64 0)]) 32 (⟨t574, t575, t576, t577⟩ : S204) [.int .i64 t574, .int .i64 t575, .int .i64 t576, .int .i64 t577] w21 Ny580 HO_6 (k204_mkM _ _ _ (⟨t574, t575, t576, t577⟩ : S204)) (by have := LMc31.out; omega) ?_ (ht := Tryz.underlying101) (hinfo := info204); intro Ao581 co581 w34 _ _ HO582))
    go_roundg k1
    case measure => have := HK1.out; omega
    case rel => exact ⟨(y580), (wrap64 (x7_1 + 1)), (t578), (t579), (Ao581), (co581), y0_16, y0_16, H', ⟨y0_18⟩, ⟨rJ HO582⟩, iB188 ⟨iS188 HI33⟩, ⟨iS188 HI33⟩, ⟨UpT.out⟩, ⟨UpW.out⟩, ⟨UpB.out⟩⟩
   rw [if_neg c29] at H
   have c29b0 : decide (x7_1 < t571) = false := decide_eq_false c29; clear c29
   (first | rw [c29b0] | (simp only [i64_w, i32_w]; rw [c29b0]) | skip)
   obtain ⟨⟨t583, t584, t585⟩, A35, H⟩ := oB H; (try dsimp only at H); obtain ⟨⟨t586, t587, t588, t589, t592⟩, A36, H⟩ := oB H; (try dsimp only at H)
   simp only [Option.some.injEq, Prod.mk.injEq] at H
   obtain ⟨rfl, rfl, rfl, rfl, rfl, rfl⟩ := H
   try go_wp2
   refine sB [g] spec_l8DrawRight.tab7 spec_l8DrawRight.bits7 ?_; intro w37 _ HT_ HW_
   refine tB 0 (some 28) (bz 17 1) HT_ HW_ ?_
   refine tB 1 (some 29) (bz 17 3) HT_ HW_ ?_
   refine pA 2 (some 30) (bz 17 7) HT_ ?_
   refine tB 3 (some 31) (bz 17 15) HT_ HW_ ?_
   refine pA 4 (some 32) (bz 17 31) HT_ ?_
   refine pA 5 (some 33) (bz 17 63) HT_ ?_
   refine pA 9 (some 37) (bz 17 575) HT_ ?_
   refine join_ (σ := Option Addr × Nat × Nat) 2 (bz 17 0x7fff) (fun s_ => [(34, .int .i64 t583), (35, .int .i64 (wrap64 (Int.tdiv t583 3))), (36, .int .i64 (wrap64 ((wrap64 (t560 + 1)) + (wrap64 (Int.tdiv t583 3))))), (38, .tuple #[.agg #[.string t586, .int .i64 t587, .string t588, .slice s_.1 t589.length s_.2.1], .bool t592]), (27, .tuple #[.agg #[.string t586, .int .i64 t587, .string t588, .slice s_.1 t589.length s_.2.1], .bool t592]), (39, .agg #[.string t586, .int .i64 t587, .string t588, .slice s_.1 t589.length s_.2.1]), (40, .bool t592), (8, .pointer (some ⟨s_.2.2, 0, none⟩))]) (fun s_ w' => Aside0 (Kd.R (Kd.int .i64) 3 w' w37.heap.size (iv w37 w') (.slice s_.1 t589.length s_.2.1) t589) ∧ BkI (s_.2.2) w' #[.string (⟨#[]⟩ : ByteArray), .int .i64 0, .string (⟨#[]⟩ : ByteArray), .slice none 0 0] 60 ∧ BornI (s_.2.2) w37 ∧ StB g w' 188 ∧ Aside0 (IsS188 w0 w' g s0_0 t584 t585) ∧ KL w37 [g] w' ∧ LB w0 w' ∧ KS w g w') ?_ ?_
   rotate_left
   ·
    intro hCont
    refine o2 6 14 (some 34) (some 8) (bz 17 639) (bz 17 0x423f) HT_ rfl rfl (kK Tryz.func150 (spec_l1Below.calls (hI := iS188 HI28) (hB := UpW.out) (w := _) (h := A35.out)) ?_) (kB #[.string (⟨#[]⟩ : ByteArray), .int .i64 0, .string (⟨#[]⟩ : ByteArray), .slice none 0 0] 60 ?_)
    ·
     intro w38 _ _ _ HI39
     refine nA (some 34) ?_
     refine pA 7 (some 35) (bz 17 767) HT_ ?_
     refine pA 8 (some 36) (bz 17 1023) HT_ ?_
     refine o2 10 14 (some 38) (some 8) (bz 17 2047) (bz 17 0x43ff) HT_ rfl rfl (kC1 Tryz.func77 (spec_BlockNew.calls (hr1_2 := rC HO_568002) (hc1_2 := rL HO_568002) (hr3 := rC HO_6) (hc3 := rL HO_6) (w := _) (h := A36.out)) ?_) (kB #[.string (⟨#[]⟩ : ByteArray), .int .i64 0, .string (⟨#[]⟩ : ByteArray), .slice none 0 0] 60 ?_)
     ·
      intro Ao590 co590 w41 _ HO591
      refine nA (some 38) ?_
      refine pA 11 (some 27) (bz 17 4095) HT_ ?_
      refine pA 12 (some 39) (bz 17 0x1fff) HT_ ?_
      refine pA 13 (some 40) (bz 17 0x3fff) HT_ ?_
      refine o1 14 (some 8) (bz 17 0x7fff) HT_ rfl (kB #[.string (⟨#[]⟩ : ByteArray), .int .i64 0, .string (⟨#[]⟩ : ByteArray), .slice none 0 0] 60 ?_); intro gb593 w43 _ _ _
      refine nA (some 8) ?_
      exact hJ (hCont (Ao590, co590, gb593) _ ⟨⟨rJ HO591⟩, ⟨xB⟩, ⟨GeI.out⟩, iB188 ⟨iS188 HI39⟩, ⟨iS188 HI39⟩, ⟨UpL.out⟩, ⟨UpW.out⟩, ⟨UpB.out⟩⟩)
     intro gb593 w42 _ _ _
     refine nA (some 8) ?_
     refine o1 10 (some 38) (bz 17 0x47ff) HT_ rfl (kC1 Tryz.func77 (spec_BlockNew.calls (hr1_2 := rC HO_568002) (hc1_2 := rL HO_568002) (hr3 := rC HO_6) (hc3 := rL HO_6) (w := _) (h := A36.out)) ?_); intro Ao590 co590 w44 _ HO591
     refine nA (some 38) ?_
     refine pA 11 (some 27) (bz 17 0x4fff) HT_ ?_
     refine pA 12 (some 39) (bz 17 0x5fff) HT_ ?_
     refine pA 13 (some 40) (bz 17 0x7fff) HT_ ?_
     exact hJ (hCont (Ao590, co590, gb593) _ ⟨⟨rJ HO591⟩, ⟨xB⟩, ⟨GeI.out⟩, iB188 ⟨iS188 HI39⟩, ⟨iS188 HI39⟩, ⟨UpL.out⟩, ⟨UpW.out⟩, ⟨UpB.out⟩⟩)
    intro gb593 w40 _ _ _
    refine nA (some 8) ?_
    refine o1 6 (some 34) (bz 17 0x427f) HT_ rfl (kK Tryz.func150 (spec_l1Below.calls (hI := iS188 HI28) (hB := UpW.out) (w := _) (h := A35.out)) ?_); intro w45 _ _ _ HI46
    refine nA (some 34) ?_
    refine pA 7 (some 35) (bz 17 0x42ff) HT_ ?_
    refine pA 8 (some 36) (bz 17 0x43ff) HT_ ?_
    refine o1 10 (some 38) (bz 17 0x47ff) HT_ rfl (kC1 Tryz.func77 (spec_BlockNew.calls (hr1_2 := rC HO_568002) (hc1_2 := rL HO_568002) (hr3 := rC HO_6) (hc3 := rL HO_6) (w := _) (h := A36.out)) ?_); intro Ao590 co590 w47 _ HO591
    refine nA (some 38) ?_
    refine pA 11 (some 27) (bz 17 0x4fff) HT_ ?_
    refine pA 12 (some 39) (bz 17 0x5fff) HT_ ?_
    refine pA 13 (some 40) (bz 17 0x7fff) HT_ ?_
    exact hJ (hCont (Ao590, co590, gb593) _ ⟨⟨rJ HO591⟩, ⟨xB⟩, ⟨GeI.out⟩, iB188 ⟨iS188 HI46⟩, ⟨iS188 HI46⟩, ⟨UpL.out⟩, ⟨UpW.out⟩, ⟨UpB.out⟩⟩)
   rintro ⟨Ao590, co590, gb593⟩ w48 ⟨HO591, _, _, _, HI49, _, _, _⟩
   refine nP ?_
   refine o1 15 none (bz 17 0xffff) HT_ rfl (kS ?_)
   refine pA 16 (some 9) (bz 17 0x1ffff) HT_ ?_
   refine done_ (done_of HT_.out (by kernel_rfl)) ?_
   try go_wp2
   refine bodyPost_ret (results_cell_row rfl _ _ gb556 60 #[.string t586, .int .i64 t587, .string t588, .slice Ao590 t589.length co590] (0, 0) _ rfl xB Tryz.underlying60 rfl (by kernel_rfl)) rfl ?_
   exact ⟨_, y0_16, rR HO591, iS188 HI49, UpW.out, UpB.out⟩

/-! ### spec_l11DrawRight: function 172 -/
def spec_l11DrawRight.l0 : Nat → Int → List Int → Int → Int → Int → Int → Int → Int → Int → ByteArray → List Int → ByteArray → Option (Int × Int × Int × ByteArray × List Int × ByteArray × Int × Int)
 | 0, _, _, _, _, _, _, _, _, _, _, _, _ => none
 | k + 1, x6, x1000, x1001, x1002, x595000, x595001, x605000, x605001, x605002, x605003, x605004, x605005 => (spec_l1Below.f x1000 x1001 x1002 5).bind fun bt605 => (if x6 < bt605.1 then ((spec_l8DrawRight.f k x1000 bt605.2.1 bt605.2.2 x595000 x595001).bind fun bt608 => ((spec_See.f k x595000 x595001 x605000 x605001 x605002 x605003 x605004 x605005 bt608.2.1 bt608.2.2.1 bt608.2.2.2.1).bind fun bt617 => ((spec_l1Once.f x1000 bt608.2.2.2.2.1 bt608.2.2.2.2.2 3).bind fun bt625 => (if bt625.1 = true then (spec_l11DrawRight.l0 k (wrap64 (x6 + 1)) x1000 bt625.2.1 bt625.2.2 x595000 x595001 bt617.1 bt617.2.1 bt617.2.2.1 bt617.2.2.2.1 bt617.2.2.2.2.1 bt617.2.2.2.2.2) else ((spec_Vote.f k x595000 x595001 bt617.1 bt617.2.1 bt617.2.2.1 bt617.2.2.2.1 bt617.2.2.2.2.1 bt617.2.2.2.2.2 bt608.1 bt608.2.1 bt608.2.2.1 bt608.2.2.2.1).bind fun bt628 => (spec_l11DrawRight.l0 k (wrap64 (x6 + 1)) x1000 bt625.2.1 bt625.2.2 x595000 x595001 bt628.1 bt628.2.1 bt628.2.2.1 bt628.2.2.2.1 bt628.2.2.2.2.1 bt628.2.2.2.2.2.1)))))) else (some (x605000, x605001, x605002, x605003, x605004, x605005, bt605.2.1, bt605.2.2)))
def spec_l11DrawRight.f (k : Nat) (s0_0 : List Int) (s0_1 : Int) (s0_2 : Int) (a1_0 : Int) (a1_1 : Int) : Option (Int × Int × Int × ByteArray × List Int × ByteArray × Int × Int) := (spec_SafeNew.f).bind fun bt596 => (spec_l11DrawRight.l0 k 0 s0_0 s0_1 s0_2 a1_0 a1_1 bt596.1 bt596.2.1 bt596.2.2.1 bt596.2.2.2.1 bt596.2.2.2.2.1 bt596.2.2.2.2.2)
theorem spec_l11DrawRight.mono_l : ∀ k, (∀ y0 y1 y2 y3 y4 y5 y6 y7 y8 y9 y10 y11, LeO (spec_l11DrawRight.l0 k y0 y1 y2 y3 y4 y5 y6 y7 y8 y9 y10 y11) (spec_l11DrawRight.l0 (k + 1) y0 y1 y2 y3 y4 y5 y6 y7 y8 y9 y10 y11))
 | 0 => fun _ _ _ _ _ _ _ _ _ _ _ _ r h => by simp [spec_l11DrawRight.l0] at h
 | k + 1 => by
  have ih0 := spec_l11DrawRight.mono_l k
  intro y0 y1 y2 y3 y4 y5 y6 y7 y8 y9 y10 y11
  unfold spec_l11DrawRight.l0
  repeat' first | (with_reducible exact ih0 _ _ _ _ _ _ _ _ _ _ _ _) | (with_reducible exact spec_See.mono _ _ _ _ _ _ _ _ _ _ _ _) | (with_reducible exact spec_Vote.mono _ _ _ _ _ _ _ _ _ _ _ _ _) | (with_reducible exact spec_l8DrawRight.mono _ _ _ _ _ _) | (with_reducible exact LeO.refl _) | (with_reducible exact LeO.none _) | (with_reducible refine LeO.ite ?_ ?_) | (with_reducible refine LeO.bind ?_ (fun _ => ?_))
theorem spec_l11DrawRight.mono : ∀ a0 a1 a2 a3 a4 k, LeO (spec_l11DrawRight.f k a0 a1 a2 a3 a4) (spec_l11DrawRight.f (k + 1) a0 a1 a2 a3 a4) := by
 intro a0 a1 a2 a3 a4 k
 have ih0 := spec_l11DrawRight.mono_l k
 unfold spec_l11DrawRight.f
 repeat' first | (with_reducible exact ih0 _ _ _ _ _ _ _ _ _ _ _ _) | (with_reducible exact spec_See.mono _ _ _ _ _ _ _ _ _ _ _ _) | (with_reducible exact spec_Vote.mono _ _ _ _ _ _ _ _ _ _ _ _ _) | (with_reducible exact spec_l8DrawRight.mono _ _ _ _ _ _) | (with_reducible exact LeO.refl _) | (with_reducible exact LeO.none _) | (with_reducible refine LeO.ite ?_ ?_) | (with_reducible refine LeO.bind ?_ (fun _ => ?_))
set_option maxHeartbeats 8000000 in
set_option maxRecDepth 100000 in
theorem spec_l11DrawRight.calls (k : Nat) (g : Nat) (s0_0 : List Int) (s0_1 : Int) (s0_2 : Int) (a1_0 : Int) (a1_1 : Int) (r1 : Int) (r2 : Int) (r3 : Int) (r4 : ByteArray) (r5 : List Int) (r6 : ByteArray) (r7 : Int) (r8 : Int) (w0 w : World) (hI : IsS188 w0 w g s0_0 s0_1 s0_2) (hB : Below w0.heap.size w0 w) (h : spec_l11DrawRight.f k s0_0 s0_1 s0_2 a1_0 a1_1 = some (r1, r2, r3, r4, r5, r6, r7, r8)) :
  Calls Tryz.prog 172 #[.pointer (some ⟨g, 0, none⟩), .agg #[.int .i64 a1_0, .int .i64 a1_1]] w fun e w' => ∃ v4_ : Value, e = .returned (.agg #[.int .i64 r1, .int .i64 r2, .int .i64 r3, .string r4, v4_, .string r6]) ∧ Kd.R (Kd.int .i64) 3 w' w.heap.size (fun _ => True) v4_ r5 ∧ IsS188 w0 w' g s0_0 r7 r8 ∧ Below w0.heap.size w0 w' ∧ KeepBut w w' g none := by
 have hu32 := Tryz.underlying32; have hu29 := Tryz.underlying29; have hu60 := Tryz.underlying60; have hu27 := Tryz.underlying27; have HI0 := Aside0.mk hI; have HK := Aside0.mk (KeepBut.refl w g none); have HL := Aside0.mk hB.size; clear hI; have HW0 := Aside0.mk hB.size; have HB := Aside0.mk hB; clear hB
 have H := h; unfold spec_l11DrawRight.f at H
 clear h; obtain ⟨⟨t596, t597, t598, t599, t600, t603⟩, A3, H⟩ := oB H; (try dsimp only at H); have i0_ := iB188 HI0; have i1_ : LB w0 w := ⟨HB.out⟩
 go_enter Tryz.func172, Tryz.ntmps172
 have H' := Aside0.mk H; clear H
 go_wp2_with (first | ((with_reducible refine gd 3 ?_); refine bL 3 #[.int .i64 a1_0, .int .i64 a1_1] 32 ?_; intro gb594 w4 _ _ _) | ((with_reducible refine gd 4 ?_); refine bL 4 #[.int .i64 0, .int .i64 0, .int .i64 0, .string (⟨#[]⟩ : ByteArray), .slice none 0 0, .string (⟨#[]⟩ : ByteArray)] 29 ?_; intro gb595 w5 _ _ _) | ((with_reducible refine gate_callee (f := 46) rfl ?_); refine gC1 (some 8) Tryz.func46 (spec_SafeNew.calls (w := _) (h := A3.out)) ?_; intro Ao601 co601 w6 _ HO602) | ((with_reducible refine gd 5 ?_); refine bL 5 #[.int .i64 0, .int .i64 0, .int .i64 0, .string (⟨#[]⟩ : ByteArray), .slice none 0 0, .string (⟨#[]⟩ : ByteArray)] 29 ?_; intro gb604 w7 _ _ _))
 refine wC ?_; intro w8 _
 go_loopg [6] k (fun kq v6 w' => ∃ (x6_1 : Int) (x1001_1 : Int) (x1002_1 : Int) (x605000_1 : Int) (x605001_1 : Int) (x605002_1 : Int) (x605003_1 : ByteArray) (x605004_1 : List Int) (x605005_1 : ByteArray) (Ao605004_1 : Option Addr) (co605004_1 : Nat), v6 = .int .i64 x6_1 ∧ Aside0 (spec_l11DrawRight.l0 kq x6_1 s0_0 x1001_1 x1002_1 a1_0 a1_1 x605000_1 x605001_1 x605002_1 x605003_1 x605004_1 x605005_1 = some (r1, r2, r3, r4, r5, r6, r7, r8)) ∧ Aside0 (kq ≤ k) ∧ Aside0 (Kd.R (Kd.int .i64) 3 w' w.heap.size (iv w w') (.slice Ao605004_1 x605004_1.length co605004_1) x605004_1) ∧ BkI gb604 w' #[.int .i64 x605000_1, .int .i64 x605001_1, .int .i64 x605002_1, .string x605003_1, .slice Ao605004_1 x605004_1.length co605004_1, .string x605005_1] 29 ∧ StB g w' 188 ∧ Aside0 (IsS188 w0 w' g s0_0 x1001_1 x1002_1) ∧ KL w8 [g, gb604] w' ∧ LB w0 w' ∧ KS w g w')
 case atStart => exact ⟨(0), (s0_1), (s0_2), (t596), (t597), (t598), (t599), (t600), (t603), (Ao601), (co601), y0_16, H', ⟨Nat.le_refl _⟩, ⟨rJ HO602⟩, ⟨xB⟩, iB188 ⟨iS188 HI0⟩, ⟨iS188 HI0⟩, ⟨UpL.out⟩, ⟨UpW.out⟩, ⟨UpB.out⟩⟩
 case round =>
  clear H'; obtain ⟨x6_1, x1001_1, x1002_1, x605000_1, x605001_1, x605002_1, x605003_1, x605004_1, x605005_1, Ao605004_1, co605004_1, rfl, HA, HK1, HO_605004, _, _, HI9, _, _, _⟩ := hrel; cases gk with
  | zero => exact absurd HA.out (by simp [spec_l11DrawRight.l0])
  | succ k1 =>
   have H := HA.out; clear HA
   simp only [spec_l11DrawRight.l0] at H
   obtain ⟨⟨t605, t606, t607⟩, A10, H⟩ := oB H; (try dsimp only at H); have H' := Aside0.mk H; clear H
   go_upto_if 12 with (first | ((with_reducible refine gate_callee (f := 150) rfl ?_); refine gK (some 11) Tryz.func150 (spec_l1Below.calls (hI := iS188 HI9) (hB := UpW.out) (w := _) (h := A10.out)) ?_; intro w11 _ _ _ HI12))
   have H := H'.out; clear H'
   by_cases c13 : x6_1 < t605
   ·
    rw [if_pos c13] at H
    have c13b0 : decide (x6_1 < t605) = true := decide_eq_true c13; clear c13
    (first | rw [c13b0] | (simp only [i64_w, i32_w]; rw [c13b0]) | skip)
    obtain ⟨⟨t608, t609, t610, t611, t614, t615⟩, A14, H⟩ := oB H; (try dsimp only at H); obtain ⟨⟨t617, t618, t619, t620, t621, t624⟩, A15, H⟩ := oB H; (try dsimp only at H); obtain ⟨⟨t625, t626, t627⟩, A16, H⟩ := oB H; (try dsimp only at H); have H' := Aside0.mk H; clear H
    go_upto_if 25 with (first | ((with_reducible refine gate_callee (f := 211) rfl ?_); refine gK1 (some 17) Tryz.func211 (spec_l8DrawRight.calls (hI := iS188 HI12) (hB := UpW.out) (w := _) (h := A14.out)) ?_; intro Ao612 co612 w17 _ _ _ HI18 HO613) | ((with_reducible refine gd 7 ?_); refine bL 7 #[.string (⟨#[]⟩ : ByteArray), .int .i64 0, .string (⟨#[]⟩ : ByteArray), .slice none 0 0] 60 ?_; intro gb616 w19 _ _ _) | ((with_reducible refine gate_callee (f := 40) rfl ?_); refine gC1 (some 22) Tryz.func40 (spec_See.calls (hr1_4 := rC HO_605004) (hc1_4 := rL HO_605004) (hr2_2 := rC HO613) (hc2_2 := rL HO613) (w := _) (h := A15.out)) ?_; intro Ao622 co622 w20 _ HO623) | ((with_reducible refine gate_callee (f := 128) rfl ?_); refine gK (some 24) Tryz.func128 (spec_l1Once.calls (hI := iS188 HI18) (hB := UpW.out) (w := _) (h := A16.out)) ?_; intro w21 _ _ _ HI22))
    have H := H'.out; clear H'
    by_cases c23 : t625 = true
    ·
     subst c23
     rw [if_pos rfl] at H
     have H' := Aside0.mk H; clear H
     go_wp2
     go_roundg k1
     case measure => have := HK1.out; omega
     case rel => exact ⟨(wrap64 (x6_1 + 1)), (t626), (t627), (t617), (t618), (t619), (t620), (t621), (t624), (Ao622), (co622), y0_16, H', ⟨y0_18⟩, ⟨rJ HO623⟩, ⟨xB⟩, iB188 ⟨iS188 HI22⟩, ⟨iS188 HI22⟩, ⟨UpL.out⟩, ⟨UpW.out⟩, ⟨UpB.out⟩⟩
    replace c23 := Bool.eq_false_iff.mpr c23; subst c23
    rw [if_neg (show ¬ (false = true) by decide)] at H
    obtain ⟨⟨t628, t629, t630, t631, t632, t635, t636⟩, A24, H⟩ := oB H; (try dsimp only at H); have H' := Aside0.mk H; clear H
    go_wp2_with (first | ((with_reducible refine gate_callee (f := 34) rfl ?_); refine gC1 (some 30) Tryz.func34 (spec_Vote.calls (hr1_4 := rC HO623) (hc1_4 := rL HO623) (hr2_3 := rC HO613) (hc2_3 := rL HO613) (w := _) (h := A24.out)) ?_; intro Ao633 co633 w25 _ HO634))
    go_roundg k1
    case measure => have := HK1.out; omega
    case rel => exact ⟨(wrap64 (x6_1 + 1)), (t626), (t627), (t628), (t629), (t630), (t631), (t632), (t635), (Ao633), (co633), y0_16, H', ⟨y0_18⟩, ⟨rJ HO634⟩, ⟨xB⟩, iB188 ⟨iS188 HI22⟩, ⟨iS188 HI22⟩, ⟨UpL.out⟩, ⟨UpW.out⟩, ⟨UpB.out⟩⟩
   rw [if_neg c13] at H
   have c13b0 : decide (x6_1 < t605) = false := decide_eq_false c13; clear c13
   (first | rw [c13b0] | (simp only [i64_w, i32_w]; rw [c13b0]) | skip)
   simp only [Option.some.injEq, Prod.mk.injEq] at H
   obtain ⟨rfl, rfl, rfl, rfl, rfl, rfl, rfl, rfl⟩ := H
   go_wp2
   refine bodyPost_ret (results_cell_row rfl _ _ gb595 29 #[.int .i64 x605000_1, .int .i64 x605001_1, .int .i64 x605002_1, .string x605003_1, .slice Ao605004_1 x605004_1.length co605004_1, .string x605005_1] (0, 0) _ rfl xB Tryz.underlying29 rfl (by kernel_rfl)) rfl ?_
   exact ⟨_, y0_16, rR HO_605004, iS188 HI12, UpW.out, UpB.out⟩

end Go.Proofs.YtnpbopadajbopaaGreatDoor.PFnSafe
