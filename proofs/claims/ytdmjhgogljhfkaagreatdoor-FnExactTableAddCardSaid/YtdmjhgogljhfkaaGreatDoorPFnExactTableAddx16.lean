-- By a program of this session, out of the translation (the print of the kit, with turns of its own). Lean checks it.
import Derived.Test.YtdmjhgogljhfkaaGreatDoorPFnExactTableAddx0
import Derived.Test.YtdmjhgogljhfkaaGreatDoorPFnExactTableAddx1
import Derived.Test.YtdmjhgogljhfkaaGreatDoorPFnExactTableAddx6
import Derived.Test.YtdmjhgogljhfkaaGreatDoorPFnExactTableAddx7
import Derived.Test.YtdmjhgogljhfkaaGreatDoorPFnExactTableAddx13
import Derived.Test.YtdmjhgogljhfkaaGreatDoorPFnExactTableAddx14
import Derived.Test.YtdmjhgogljhfkaaGreatDoorPFnExactTableAddx15
namespace Go.Proofs.YtdmjhgogljhfkaaGreatDoor.PFnExactTableAdd
open Go.RowKit Go.Proofs.YtdmjhgogljhfkaaGreatDoorW.PrintWords Go.Proofs.YtdmjhgogljhfkaaGreatDoorW.PrintLast Go.Proofs.YtdmjhgogljhfkaaGreatDoorW.PrintMore
attribute [local go_sem] max2_int min2_int max_two min_two max_three min_three max_four min_four   -- for this text's walks alone
attribute [local go_sem] cell_in frozen_in cell_g cell_p
set_option synthInstance.maxSize 1000000
set_option synthInstance.maxHeartbeats 2000000
set_option linter.unusedVariables false
set_option linter.unusedSimpArgs false

/-! ### laws_FnExactTableAdd: function 4 -/
def laws_FnExactTableAdd.f (k : Nat) (a0_0 : Int) (a0_1 : Int) (l1 : List (S41)) (a2_0 : Int) (a2_1 : ByteArray) (l2_2 : List Int) : Option (Bool) := (laws_szPartS.f k l1 1048576).bind fun t549 => (if t549 < 0 then (some true) else ((laws_szPart.f a2_0 a2_1 l2_2 t549).bind fun t550 => (if t550 < 0 then (some true) else ((laws_toConf.f a0_0 a0_1).bind fun bt551 => ((laws_toPartS.f k l1).bind fun t553 => ((laws_toPart.f k a2_0 a2_1 l2_2).bind fun bt556 => ((spec_TableAdd.f k bt551.1 bt551.2 t553 bt556.1 bt556.2.1 bt556.2.2).bind fun bt561 => ((laws_toPartS.f k l1).bind fun t565 => ((laws_toPart.f k a2_0 a2_1 l2_2).bind fun bt568 => ((laws_toConf.f a0_0 a0_1).bind fun bt574 => ((impl_TableAdd.f k bt574.1 bt574.2 t565 bt568.1 bt568.2.1 bt568.2.2).bind fun bt576 => ((laws_eqPartS.f k bt576.1 bt561.1).bind fun t580 => (if t580 = true then (if (bt576.2 != bt561.2) = true then (some false) else ((laws_toPartS.f k l1).bind fun t581 => ((laws_eqPartS.f k t565 t581).bind fun t584 => (if t584 = true then ((laws_toPart.f k a2_0 a2_1 l2_2).bind fun bt585 => ((laws_eqPart.f k bt568.1 bt568.2.1 bt568.2.2 bt585.1 bt585.2.1 bt585.2.2).bind fun t590 => (if t590 = true then ((laws_markPartS.f k t565 1).bind fun bt591 => ((laws_markPart.f k bt568.1 bt568.2.1 bt568.2.2 bt591.1).bind fun bt593 => (if bt593.1 < 0 then (some false) else ((laws_eqPartS.f k bt576.1 bt561.1).bind fun t595 => (if t595 = true then ((laws_markPartS.f k bt576.1 1).bind fun bt596 => ((laws_heldPartS.f k bt596.2 1).bind fun t598 => (if t598 < 0 then (some false) else (if t598 = bt596.1 then ((laws_toConf.f a0_0 a0_1).bind fun bt599 => ((laws_toPartS.f k l1).bind fun t601 => ((laws_toPart.f k a2_0 a2_1 l2_2).bind fun bt604 => ((impl_TableAdd.f k bt599.1 bt599.2 t601 bt604.1 bt604.2.1 bt604.2.2).bind fun bt609 => ((laws_eqPartS.f k bt609.1 bt561.1).bind fun t613 => (if t613 = true then (if (bt609.2 != bt561.2) = true then (some false) else ((laws_heldPartS.f k bt596.2 1).bind fun t614 => (if t614 < 0 then (some false) else (if t614 = bt596.1 then (some true) else (some false))))) else (some false))))))) else (some false))))) else (some false)))))) else (some false)))) else (some false))))) else (some false))))))))))))))
theorem laws_FnExactTableAdd.mono : ∀ a0 a1 a2 a3 a4 a5 k, LeO (laws_FnExactTableAdd.f k a0 a1 a2 a3 a4 a5) (laws_FnExactTableAdd.f (k + 1) a0 a1 a2 a3 a4 a5) := by
 intro a0 a1 a2 a3 a4 a5 k
 unfold laws_FnExactTableAdd.f
 repeat' first | (with_reducible exact impl_TableAdd.mono _ _ _ _ _ _ _) | (with_reducible exact laws_eqPart.mono _ _ _ _ _ _ _) | (with_reducible exact laws_eqPartS.mono _ _ _) | (with_reducible exact laws_heldPartS.mono _ _ _) | (with_reducible exact laws_markPart.mono _ _ _ _ _) | (with_reducible exact laws_markPartS.mono _ _ _) | (with_reducible exact laws_szPartS.mono _ _ _) | (with_reducible exact laws_toPart.mono _ _ _ _) | (with_reducible exact laws_toPartS.mono _ _) | (with_reducible exact spec_TableAdd.mono _ _ _ _ _ _ _) | (with_reducible exact LeO.refl _) | (with_reducible exact LeO.none _) | (with_reducible refine LeO.ite ?_ ?_) | (with_reducible refine LeO.bind ?_ (fun _ => ?_))
def laws_FnExactTableAdd.T8 : Bool × List (List Nat × List Nat) := (true, [([], []), ([0], [0]), ([], []), ([2, 1], [2]), ([], []), ([4, 3], [4]), ([1, 3, 5, 5], [1, 3, 5]), ([6], [6]), ([7], [7]), ([7], [7]), ([8, 6, 0, 1, 2, 3, 4, 5, 6, 7, 8], [8]), ([9, 10, 0, 1, 2, 3, 4, 5, 6, 7, 8, 9, 10], [9])])
def laws_FnExactTableAdd.B8 : List Nat := [0, 1, 0, 7, 0, 31, 63, 127, 255, 255, 511, 2047]
theorem laws_FnExactTableAdd.tab8 : rtab .any (opsOf Tryz.f4 8) = laws_FnExactTableAdd.T8 := by kernel_rfl
theorem laws_FnExactTableAdd.bits8 : waitsOk laws_FnExactTableAdd.T8.2 laws_FnExactTableAdd.B8 = true := by kernel_rfl
def laws_FnExactTableAdd.T11 : Bool × List (List Nat × List Nat) := (true, [([], []), ([0], [0]), ([], []), ([], []), ([1, 2, 3, 1], [1, 2, 3]), ([4], [4]), ([5], [5]), ([5], [5]), ([6, 4, 0, 1, 2, 3, 4, 5, 6], [6]), ([7, 8, 0, 1, 2, 3, 4, 5, 6, 7, 8], [7])])
def laws_FnExactTableAdd.B11 : List Nat := [0, 1, 0, 0, 15, 31, 63, 63, 127, 511]
theorem laws_FnExactTableAdd.tab11 : rtab .any (opsOf Tryz.f4 11) = laws_FnExactTableAdd.T11 := by kernel_rfl
theorem laws_FnExactTableAdd.bits11 : waitsOk laws_FnExactTableAdd.T11.2 laws_FnExactTableAdd.B11 = true := by kernel_rfl
def laws_FnExactTableAdd.T16 : Bool × List (List Nat × List Nat) := (true, [([], []), ([], []), ([1], [1]), ([0, 2, 2], [0, 2]), ([3], [3])])
def laws_FnExactTableAdd.B16 : List Nat := [0, 0, 2, 7, 15]
theorem laws_FnExactTableAdd.tab16 : rtab .any (opsOf Tryz.f4 16) = laws_FnExactTableAdd.T16 := by kernel_rfl
theorem laws_FnExactTableAdd.bits16 : waitsOk laws_FnExactTableAdd.T16.2 laws_FnExactTableAdd.B16 = true := by kernel_rfl
def laws_FnExactTableAdd.T31 : Bool × List (List Nat × List Nat) := (true, [([], []), ([0], [0]), ([], []), ([2, 1], [2]), ([], []), ([4, 3], [4]), ([1, 3, 5, 5], [1, 3, 5]), ([6], [6]), ([7], [7]), ([7], [7]), ([8, 6, 0, 1, 2, 3, 4, 5, 6, 7, 8], [8]), ([9, 10, 0, 1, 2, 3, 4, 5, 6, 7, 8, 9, 10], [9])])
def laws_FnExactTableAdd.B31 : List Nat := [0, 1, 0, 7, 0, 31, 63, 127, 255, 255, 511, 2047]
theorem laws_FnExactTableAdd.tab31 : rtab .any (opsOf Tryz.f4 31) = laws_FnExactTableAdd.T31 := by kernel_rfl
theorem laws_FnExactTableAdd.bits31 : waitsOk laws_FnExactTableAdd.T31.2 laws_FnExactTableAdd.B31 = true := by kernel_rfl
set_option maxHeartbeats 8000000 in
set_option maxRecDepth 100000 in
theorem laws_FnExactTableAdd.calls (k : Nat) (a0_0 : Int) (a0_1 : Int) (A1 : Option Addr) (c1 : Nat) (l1 : List (S41)) (a2_0 : Int) (a2_1 : ByteArray) (A2_2 : Option Addr) (c2_2 : Nat) (l2_2 : List Int) (r : Bool) (hrt : Aside0 (r = true)) (w : World) (hr1 : Kd.C k41 w A1 l1.length l1) (hc1 : l1.length ≤ c1) (hr2_2 : Kd.C (Kd.int .i64) w A2_2 l2_2.length l2_2) (hc2_2 : l2_2.length ≤ c2_2) (h : laws_FnExactTableAdd.f k a0_0 a0_1 l1 a2_0 a2_1 l2_2 = some r) (hG : Glob w := by exact gG HG HB) :
  Calls Tryz.prog 4 #[.agg #[.int .i64 a0_0, .int .i64 a0_1], .slice A1 l1.length c1, .agg #[.int .i64 a2_0, .string a2_1, .slice A2_2 l2_2.length c2_2]] w fun e w' => e = .returned (.bool r) ∧ Below w.heap.size w w' := by
 have HG := Aside0.mk hG; clear hG; have hu23 := Tryz.underlying23; have hu41 := Tryz.underlying41; have hu48 := Tryz.underlying48; have HR1 := Aside0.mk hr1; have HC1 := Aside0.mk hc1; clear hr1 hc1; have HR2_2 := Aside0.mk hr2_2; have HC2_2 := Aside0.mk hc2_2; clear hr2_2 hc2_2; have HB := Aside0.mk (Below.refl w.heap.size w)
 have H := h; unfold laws_FnExactTableAdd.f at H
 clear h; obtain ⟨t549, A4, H⟩ := oB H; (try dsimp only at H)
 go_enter Tryz.func4, Tryz.ntmps4
 have H' := Aside0.mk H; clear H
 go_upto_if 23 with (first | ((with_reducible refine gd 3 ?_); refine bL 3 #[.int .i64 a0_0, .int .i64 a0_1] 23 ?_; intro gb547 w5 _ _ _) | ((with_reducible refine gd 5 ?_); refine bL 5 #[.int .i64 a2_0, .string a2_1, .slice A2_2 l2_2.length c2_2] 41 ?_; intro gb548 w6 _ _ _) | ((with_reducible refine gate_callee (f := 16) rfl ?_); refine gC (some 21) Tryz.func16 (laws_szPartS.calls (hr0 := pC HR1) (hc0 := HC1.out) (w := _) (h := A4.out)) ?_; intro w7 _))
 have H := H'.out; clear H'
 by_cases c8 : t549 < 0
 ·
  rw [if_pos c8] at H
  have c8b0 : decide (t549 < 0) = true := decide_eq_true c8; clear c8
  (first | rw [c8b0] | (simp only [i64_w, i32_w]; rw [c8b0]) | skip)
  obtain rfl := Option.some.inj H
  go_wp2
  go_ret
  exact ⟨y0_13, UpW.out⟩
 rw [if_neg c8] at H
 have c8b0 : decide (t549 < 0) = false := decide_eq_false c8; clear c8
 (first | rw [c8b0] | (simp only [i64_w, i32_w]; rw [c8b0]) | skip)
 obtain ⟨t550, A9, H⟩ := oB H; (try dsimp only at H); have H' := Aside0.mk H; clear H
 go_upto_if 28 with (first | ((with_reducible refine gate_callee (f := 17) rfl ?_); refine gC (some 26) Tryz.func17 (laws_szPart.calls (hr0_2 := pC HR2_2) (hc0_2 := HC2_2.out) (w := _) (h := A9.out)) ?_; intro w10 _))
 have H := H'.out; clear H'
 by_cases c11 : t550 < 0
 ·
  rw [if_pos c11] at H
  have c11b0 : decide (t550 < 0) = true := decide_eq_true c11; clear c11
  (first | rw [c11b0] | (simp only [i64_w, i32_w]; rw [c11b0]) | skip)
  obtain rfl := Option.some.inj H
  go_wp2
  go_ret
  exact ⟨y0_13, UpW.out⟩
 rw [if_neg c11] at H
 have c11b0 : decide (t550 < 0) = false := decide_eq_false c11; clear c11
 (first | rw [c11b0] | (simp only [i64_w, i32_w]; rw [c11b0]) | skip)
 obtain ⟨⟨t551, t552⟩, A12, H⟩ := oB H; (try dsimp only at H); obtain ⟨t553, A13, H⟩ := oB H; (try dsimp only at H); obtain ⟨⟨t556, t557, t558⟩, A14, H⟩ := oB H; (try dsimp only at H); obtain ⟨⟨t561, t564⟩, A15, H⟩ := oB H; (try dsimp only at H); obtain ⟨t565, A16, H⟩ := oB H; (try dsimp only at H); obtain ⟨⟨t568, t569, t570⟩, A17, H⟩ := oB H; (try dsimp only at H); obtain ⟨⟨t574, t575⟩, A18, H⟩ := oB H; (try dsimp only at H); obtain ⟨⟨t576, t579⟩, A19, H⟩ := oB H; (try dsimp only at H); have H' := Aside0.mk H; clear H
 try go_wp2
 refine sB [] laws_FnExactTableAdd.tab8 laws_FnExactTableAdd.bits8 ?_; intro w20 _ HT_ HW_
 refine tB 0 (some 30) (bz 12 1) HT_ HW_ ?_
 refine pA 2 (some 32) (bz 12 5) HT_ ?_
 refine tB 4 (some 34) (bz 12 21) HT_ HW_ ?_
 refine o1 1 (some 31) (bz 12 23) HT_ rfl (kC Tryz.func8 (laws_toConf.calls (w := _) (h := A12.out)) ?_); intro w21 _
 refine nA (some 31) ?_
 refine o1 3 (some 33) (bz 12 31) HT_ rfl (kS1 Tryz.func19 (laws_toPartS.calls (hr0 := pC HR1) (hc0 := HC1.out) (w := _) (h := A13.out)) ?_); intro Ao554 co554 w22 _ HO555
 refine nA (some 33) ?_
 refine o1 5 (some 35) (bz 12 63) HT_ rfl (kC1 Tryz.func20 (laws_toPart.calls (hr0_2 := pC HR2_2) (hc0_2 := HC2_2.out) (w := _) (h := A14.out)) ?_); intro Ao559 co559 w23 _ HO560
 refine nA (some 35) ?_
 refine o1 6 (some 36) (bz 12 127) HT_ rfl (kS1 Tryz.func18 (spec_TableAdd.calls (hr1 := sC HO555) (hc1 := sL HO555) (hr2_2 := rC HO560) (hc2_2 := rL HO560) (w := _) (h := A15.out)) ?_); intro Ao562 co562 w24 _ HO563
 refine nA (some 36) ?_
 refine pA 7 (some 29) (bz 12 255) HT_ ?_
 refine pA 8 (some 37) (bz 12 511) HT_ ?_
 refine pA 9 (some 38) (bz 12 1023) HT_ ?_
 refine pA 10 (some 8) (bz 12 2047) HT_ ?_
 refine pA 11 (some 9) (bz 12 4095) HT_ ?_
 refine done_ (done_of HT_.out (by kernel_rfl)) ?_
 try go_wp2_with (first | ((with_reducible refine gate_callee (f := 19) rfl ?_); refine gS1 (some 40) Tryz.func19 (laws_toPartS.calls (hr0 := pC HR1) (hc0 := HC1.out) (w := _) (h := A16.out)) ?_; intro Ao566 co566 w25 _ HO567) | ((with_reducible refine gate_callee (f := 20) rfl ?_); refine gC1 (some 42) Tryz.func20 (laws_toPart.calls (hr0_2 := pC HR2_2) (hc0_2 := HC2_2.out) (w := _) (h := A17.out)) ?_; intro Ao571 co571 w26 _ HO572) | ((with_reducible refine gd 11 ?_); refine bL 11 #[.int .i64 0, .string (⟨#[]⟩ : ByteArray), .slice none 0 0] 48 ?_; intro gb573 w27 _ _ _))
 refine sB [] laws_FnExactTableAdd.tab11 laws_FnExactTableAdd.bits11 ?_; intro w28 _ HT_ HW_
 refine tB 0 (some 44) (bz 10 1) HT_ HW_ ?_
 refine pA 2 (some 46) (bz 10 5) HT_ ?_
 refine tB 3 (some 47) (bz 10 13) HT_ HW_ ?_
 refine o1 1 (some 45) (bz 10 15) HT_ rfl (kC Tryz.func8 (laws_toConf.calls (w := _) (h := A18.out)) ?_); intro w29 _
 refine nA (some 45) ?_
 refine o1 4 (some 48) (bz 10 31) HT_ rfl (kS1 Tryz.func21 (impl_TableAdd.calls (hr1 := sC HO567) (hc1 := sL HO567) (hr2_2 := rC HO572) (hc2_2 := rL HO572) (w := _) (h := A19.out)) ?_); intro Ao577 co577 w30 _ HO578
 refine nA (some 48) ?_
 refine pA 5 (some 43) (bz 10 63) HT_ ?_
 refine pA 6 (some 49) (bz 10 127) HT_ ?_
 refine pA 7 (some 50) (bz 10 255) HT_ ?_
 refine pA 8 (some 12) (bz 10 511) HT_ ?_
 refine pA 9 (some 13) (bz 10 1023) HT_ ?_
 refine done_ (done_of HT_.out (by kernel_rfl)) ?_
 go_upto_region 12 with fail
 have H := H'.out; clear H'; obtain ⟨t580, A31, H⟩ := oB H; (try dsimp only at H)
 by_cases c32 : t580 = true
 ·
  subst c32
  rw [if_pos rfl] at H
  have H' := Aside0.mk H; clear H
  go_upto_if 59 with (first | ((with_reducible refine gate_callee (f := 22) rfl ?_); refine gC (some 53) Tryz.func22 (laws_eqPartS.calls (hr0 := sC HO578) (hc0 := sL HO578) (hr1 := sC HO563) (hc1 := sL HO563) (w := _) (h := A31.out)) ?_; intro w33 _))
  have H := H'.out; clear H'
  by_cases c34 : (t579 != t564) = true
  ·
   rw [if_pos c34] at H
   have c34b0 : (t579 != t564) = true := c34
   (try (have c34b1 : decide (t579 = t564) = false := by simpa using c34))
   (try (have c34b2 : (t579 == t564) = false := by simpa using c34))
   (try (have c34b3 : ¬ (t579 = t564) := by simpa using c34))
   clear c34
   (first | rw [c34b0] | (simp only [i64_w, i32_w]; rw [c34b0]) | rw [show (!(t579 == t564)) = true from c34b0] | skip)
   exact absurd (hrt.out.symm.trans (Option.some.inj H).symm) (by decide)
  rw [if_neg c34] at H
  have c34b0 : (t579 != t564) = false := by simpa using c34
  (try (have c34b1 : decide (t579 = t564) = true := by simpa using c34))
  (try (have c34b2 : (t579 == t564) = true := by simpa using c34))
  clear c34
  (first | rw [c34b0] | (simp only [i64_w, i32_w]; rw [c34b0]) | rw [show (!(t579 == t564)) = false from c34b0] | skip)
  obtain ⟨t581, A35, H⟩ := oB H; (try dsimp only at H); obtain ⟨t584, A36, H⟩ := oB H; (try dsimp only at H); have H' := Aside0.mk H; clear H
  go_upto_if 64 with (first | ((with_reducible refine gate_callee (f := 19) rfl ?_); refine gS1 (some 62) Tryz.func19 (laws_toPartS.calls (hr0 := pC HR1) (hc0 := HC1.out) (w := _) (h := A35.out)) ?_; intro Ao582 co582 w37 _ HO583) | ((with_reducible refine gate_callee (f := 22) rfl ?_); refine gC (some 63) Tryz.func22 (laws_eqPartS.calls (hr0 := sC HO567) (hc0 := sL HO567) (hr1 := sC HO583) (hc1 := sL HO583) (w := _) (h := A36.out)) ?_; intro w38 _))
  have H := H'.out; clear H'
  by_cases c39 : t584 = true
  rotate_left
  ·
   replace c39 := Bool.eq_false_iff.mpr c39; subst c39
   rw [if_neg (show ¬ (false = true) by decide)] at H
   exact absurd (hrt.out.symm.trans (Option.some.inj H).symm) (by decide)
  subst c39
  rw [if_pos rfl] at H
  obtain ⟨⟨t585, t586, t587⟩, A40, H⟩ := oB H; (try dsimp only at H); obtain ⟨t590, A41, H⟩ := oB H; (try dsimp only at H); have H' := Aside0.mk H; clear H
  try go_wp2
  refine sB [] laws_FnExactTableAdd.tab16 laws_FnExactTableAdd.bits16 ?_; intro w42 _ HT_ HW_
  refine tB 0 (some 65) (bz 5 1) HT_ HW_ ?_
  refine tB 1 (some 66) (bz 5 3) HT_ HW_ ?_
  refine o1 2 (some 67) (bz 5 7) HT_ rfl (kC1 Tryz.func20 (laws_toPart.calls (hr0_2 := pC HR2_2) (hc0_2 := HC2_2.out) (w := _) (h := A40.out)) ?_); intro Ao588 co588 w43 _ HO589
  refine nA (some 67) ?_
  refine o1 3 (some 68) (bz 5 15) HT_ rfl (kC Tryz.func23 (laws_eqPart.calls (hr0_2 := rC HO572) (hc0_2 := rL HO572) (hr1_2 := rC HO589) (hc1_2 := rL HO589) (w := _) (h := A41.out)) ?_); intro w44 _
  refine nA (some 68) ?_
  refine pA 4 (some 69) (bz 5 31) HT_ ?_
  refine done_ (done_of HT_.out (by kernel_rfl)) ?_
  go_upto_if 69 with fail
  have H := H'.out; clear H'
  by_cases c45 : t590 = true
  rotate_left
  ·
   replace c45 := Bool.eq_false_iff.mpr c45; subst c45
   rw [if_neg (show ¬ (false = true) by decide)] at H
   exact absurd (hrt.out.symm.trans (Option.some.inj H).symm) (by decide)
  subst c45
  rw [if_pos rfl] at H
  obtain ⟨⟨t591, t592⟩, A46, H⟩ := oB H; (try dsimp only at H); obtain ⟨⟨t593, t594⟩, A47, H⟩ := oB H; (try dsimp only at H); have H' := Aside0.mk H; clear H
  go_upto_region 21 with (first | ((with_reducible refine gate_callee (f := 24) rfl ?_); refine gMS (some 72) Tryz.func24 HO567 (laws_markPartS.calls (w0 := w) (hB := UpW.out) (ho0 := oS HO567) (w := _) (h := A46.out)) ?_; intro w48 _ _ HO567 LEN49; replace HO555 := mS w48 HO555; replace HO560 := mR w48 HO560; replace HO563 := mS w48 HO563; replace HO572 := mR w48 HO572; replace HO578 := mS w48 HO578; replace HO583 := mS w48 HO583; replace HO589 := mR w48 HO589) | ((with_reducible refine gate_callee (f := 25) rfl ?_); refine gM (some 75) Tryz.func25 HO572 (laws_markPart.calls (w0 := w) (hB := UpW.out) (ho0_2 := oR HO572) (w := _) (h := A47.out)) ?_; intro w50 _ _ HO572 LEN51; replace HO555 := mS w50 HO555; replace HO560 := mR w50 HO560; replace HO563 := mS w50 HO563; replace HO567 := mS w50 HO567; replace HO578 := mS w50 HO578; replace HO583 := mS w50 HO583; replace HO589 := mR w50 HO589))
  have H := H'.out; clear H'
  by_cases c52 : t593 < 0
  ·
   rw [if_pos c52] at H
   have c52b0 : decide (t593 < 0) = true := decide_eq_true c52; clear c52
   (first | rw [c52b0] | (simp only [i64_w, i32_w]; rw [c52b0]) | skip)
   exact absurd (hrt.out.symm.trans (Option.some.inj H).symm) (by decide)
  rw [if_neg c52] at H
  have c52b0 : decide (t593 < 0) = false := decide_eq_false c52; clear c52
  (first | rw [c52b0] | (simp only [i64_w, i32_w]; rw [c52b0]) | skip)
  obtain ⟨t595, A53, H⟩ := oB H; (try dsimp only at H)
  by_cases c54 : t595 = true
  rotate_left
  ·
   replace c54 := Bool.eq_false_iff.mpr c54; subst c54
   rw [if_neg (show ¬ (false = true) by decide)] at H
   exact absurd (hrt.out.symm.trans (Option.some.inj H).symm) (by decide)
  subst c54
  rw [if_pos rfl] at H
  have H' := Aside0.mk H; clear H
  go_upto_if 88 with (first | (go_at_call 22; refine aC (laws_eqPartS.calls (hr0 := sC HO578) (hc0 := sL HO578) (hr1 := sC HO563) (hc1 := sL HO563) (w := _) (h := A53.out)) ?_; intro w55 _))
  have H := H'.out; clear H'; obtain ⟨⟨t596, t597⟩, A56, H⟩ := oB H; (try dsimp only at H); obtain ⟨t598, A57, H⟩ := oB H; (try dsimp only at H); have H' := Aside0.mk H; clear H
  go_upto_if 96 with (first | ((with_reducible refine gate_callee (f := 24) rfl ?_); refine gMS (some 91) Tryz.func24 HO578 (laws_markPartS.calls (w0 := w) (hB := UpW.out) (ho0 := oS HO578) (w := _) (h := A56.out)) ?_; intro w58 _ _ HO578 LEN59; replace HO555 := mS w58 HO555; replace HO560 := mR w58 HO560; replace HO563 := mS w58 HO563; replace HO567 := mS w58 HO567; replace HO572 := mR w58 HO572; replace HO583 := mS w58 HO583; replace HO589 := mR w58 HO589) | ((with_reducible refine gate_callee (f := 26) rfl ?_); refine gC (hargs := by (simp only [List.map_toArray, List.map_cons, List.map_nil, LEN59]); rfl) (some 94) Tryz.func26 (laws_heldPartS.calls (hr0 := sC HO578) (hc0 := sL HO578) (w := _) (h := A57.out)) ?_; intro w60 _))
  have H := H'.out; clear H'
  by_cases c61 : t598 < 0
  ·
   rw [if_pos c61] at H
   have c61b0 : decide (t598 < 0) = true := decide_eq_true c61; clear c61
   (first | rw [c61b0] | (simp only [i64_w, i32_w]; rw [c61b0]) | skip)
   exact absurd (hrt.out.symm.trans (Option.some.inj H).symm) (by decide)
  rw [if_neg c61] at H
  have c61b0 : decide (t598 < 0) = false := decide_eq_false c61; clear c61
  (first | rw [c61b0] | (simp only [i64_w, i32_w]; rw [c61b0]) | skip)
  by_cases c62 : t598 = t596
  rotate_left
  ·
   rw [if_neg c62] at H
   have c62b0 : (t598 == t596) = false := beq_eq_false_iff_ne.mpr c62; have c62b1 : (t598 != t596) = true := bne_iff_ne.mpr c62
   exact absurd (hrt.out.symm.trans (Option.some.inj H).symm) (by decide)
  rw [if_pos c62] at H
  have c62b0 : (t598 == t596) = true := beq_iff_eq.mpr c62; have c62b1 : (t598 != t596) = false := bne_eq_false_iff_eq.mpr c62; clear c62; obtain ⟨⟨t599, t600⟩, A63, H⟩ := oB H; (try dsimp only at H); obtain ⟨t601, A64, H⟩ := oB H; (try dsimp only at H); obtain ⟨⟨t604, t605, t606⟩, A65, H⟩ := oB H; (try dsimp only at H); obtain ⟨⟨t609, t612⟩, A66, H⟩ := oB H; (try dsimp only at H); have H' := Aside0.mk H; clear H
  try go_wp2
  refine sB [] laws_FnExactTableAdd.tab31 laws_FnExactTableAdd.bits31 ?_; intro w67 _ HT_ HW_
  refine tB 0 (some 101) (bz 12 1) HT_ HW_ ?_
  refine pA 2 (some 103) (bz 12 5) HT_ ?_
  refine tB 4 (some 105) (bz 12 21) HT_ HW_ ?_
  refine o1 1 (some 102) (bz 12 23) HT_ rfl (kC Tryz.func8 (laws_toConf.calls (w := _) (h := A63.out)) ?_); intro w68 _
  refine nA (some 102) ?_
  refine o1 3 (some 104) (bz 12 31) HT_ rfl (kS1 Tryz.func19 (laws_toPartS.calls (hr0 := pC HR1) (hc0 := HC1.out) (w := _) (h := A64.out)) ?_); intro Ao602 co602 w69 _ HO603
  refine nA (some 104) ?_
  refine o1 5 (some 106) (bz 12 63) HT_ rfl (kC1 Tryz.func20 (laws_toPart.calls (hr0_2 := pC HR2_2) (hc0_2 := HC2_2.out) (w := _) (h := A65.out)) ?_); intro Ao607 co607 w70 _ HO608
  refine nA (some 106) ?_
  refine o1 6 (some 107) (bz 12 127) HT_ rfl (kS1 Tryz.func21 (impl_TableAdd.calls (hr1 := sC HO603) (hc1 := sL HO603) (hr2_2 := rC HO608) (hc2_2 := rL HO608) (w := _) (h := A66.out)) ?_); intro Ao610 co610 w71 _ HO611
  refine nA (some 107) ?_
  refine pA 7 (some 100) (bz 12 255) HT_ ?_
  refine pA 8 (some 108) (bz 12 511) HT_ ?_
  refine pA 9 (some 109) (bz 12 1023) HT_ ?_
  refine pA 10 (some 17) (bz 12 2047) HT_ ?_
  refine pA 11 (some 18) (bz 12 4095) HT_ ?_
  refine done_ (done_of HT_.out (by kernel_rfl)) ?_
  go_upto_region 32 with fail
  have H := H'.out; clear H'; obtain ⟨t613, A72, H⟩ := oB H; (try dsimp only at H)
  by_cases c73 : t613 = true
  rotate_left
  ·
   replace c73 := Bool.eq_false_iff.mpr c73; subst c73
   rw [if_neg (show ¬ (false = true) by decide)] at H
   exact absurd (hrt.out.symm.trans (Option.some.inj H).symm) (by decide)
  subst c73
  rw [if_pos rfl] at H
  have H' := Aside0.mk H; clear H
  go_upto_if 118 with (first | ((with_reducible refine gate_callee (f := 22) rfl ?_); refine gC (some 112) Tryz.func22 (laws_eqPartS.calls (hr0 := sC HO611) (hc0 := sL HO611) (hr1 := sC HO563) (hc1 := sL HO563) (w := _) (h := A72.out)) ?_; intro w74 _))
  have H := H'.out; clear H'
  by_cases c75 : (t612 != t564) = true
  ·
   rw [if_pos c75] at H
   have c75b0 : (t612 != t564) = true := c75
   (try (have c75b1 : decide (t612 = t564) = false := by simpa using c75))
   (try (have c75b2 : (t612 == t564) = false := by simpa using c75))
   (try (have c75b3 : ¬ (t612 = t564) := by simpa using c75))
   clear c75
   (first | rw [c75b0] | (simp only [i64_w, i32_w]; rw [c75b0]) | rw [show (!(t612 == t564)) = true from c75b0] | skip)
   exact absurd (hrt.out.symm.trans (Option.some.inj H).symm) (by decide)
  rw [if_neg c75] at H
  have c75b0 : (t612 != t564) = false := by simpa using c75
  (try (have c75b1 : decide (t612 = t564) = true := by simpa using c75))
  (try (have c75b2 : (t612 == t564) = true := by simpa using c75))
  clear c75
  (first | rw [c75b0] | (simp only [i64_w, i32_w]; rw [c75b0]) | rw [show (!(t612 == t564)) = false from c75b0] | skip)
  obtain ⟨t614, A76, H⟩ := oB H; (try dsimp only at H); have H' := Aside0.mk H; clear H
  go_upto_if 123 with (first | ((with_reducible refine gate_callee (f := 26) rfl ?_); refine gC (hargs := by (simp only [List.map_toArray, List.map_cons, List.map_nil, LEN59]); rfl) (some 121) Tryz.func26 (laws_heldPartS.calls (hr0 := sC HO578) (hc0 := sL HO578) (w := _) (h := A76.out)) ?_; intro w77 _))
  have H := H'.out; clear H'
  by_cases c78 : t614 < 0
  ·
   rw [if_pos c78] at H
   have c78b0 : decide (t614 < 0) = true := decide_eq_true c78; clear c78
   (first | rw [c78b0] | (simp only [i64_w, i32_w]; rw [c78b0]) | skip)
   exact absurd (hrt.out.symm.trans (Option.some.inj H).symm) (by decide)
  rw [if_neg c78] at H
  have c78b0 : decide (t614 < 0) = false := decide_eq_false c78; clear c78
  (first | rw [c78b0] | (simp only [i64_w, i32_w]; rw [c78b0]) | skip)
  by_cases c79 : t614 = t596
  rotate_left
  ·
   rw [if_neg c79] at H
   have c79b0 : (t614 == t596) = false := beq_eq_false_iff_ne.mpr c79; have c79b1 : (t614 != t596) = true := bne_iff_ne.mpr c79
   exact absurd (hrt.out.symm.trans (Option.some.inj H).symm) (by decide)
  rw [if_pos c79] at H
  have c79b0 : (t614 == t596) = true := beq_iff_eq.mpr c79; have c79b1 : (t614 != t596) = false := bne_eq_false_iff_eq.mpr c79; clear c79; obtain rfl := Option.some.inj H
  go_wp2
  go_ret
  exact ⟨y0_13, UpW.out⟩
 replace c32 := Bool.eq_false_iff.mpr c32; subst c32
 rw [if_neg (show ¬ (false = true) by decide)] at H
 exact absurd (hrt.out.symm.trans (Option.some.inj H).symm) (by decide)

end Go.Proofs.YtdmjhgogljhfkaaGreatDoor.PFnExactTableAdd
