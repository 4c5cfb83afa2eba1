-- By a program of this session, out of the translation (the print of the kit, with turns of its own). Lean checks it.
import Derived.Test.YtnpbopadajbopaaDoorPFnExactQcOfx0
import Derived.Test.YtnpbopadajbopaaDoorPFnExactQcOfx4
import Derived.Test.YtnpbopadajbopaaDoorPFnExactQcOfx9
import Derived.Test.YtnpbopadajbopaaDoorPFnExactQcOfx10
namespace Go.Proofs.YtnpbopadajbopaaDoor.PFnExactQcOf
open Go.RowKit Go.Proofs.YtnpbopadajbopaaDoorW.PrintWords Go.Proofs.YtnpbopadajbopaaDoorW.PrintLast Go.Proofs.YtnpbopadajbopaaDoorW.PrintMore
attribute [local go_sem] max2_int min2_int max_two min_two max_three min_three max_four min_four   -- for this text's walks alone
attribute [local go_sem] cell_in frozen_in
set_option synthInstance.maxSize 1000000
set_option synthInstance.maxHeartbeats 2000000
set_option linter.unusedVariables false
set_option linter.unusedSimpArgs false

/-! ### laws_FnExactQcOf: function 4 -/
def laws_FnExactQcOf.f (k : Nat) (a0_0 : Int) (a0_1 : Int) (l1 : List Int) (a2 : Int) : Option (Bool) := if (l1.length : Int) > 1048576 then (some true) else ((laws_toConf.f a0_0 a0_1).bind fun bt435 => ((laws_toByteS.f k l1).bind fun t437 => ((spec_QcOf.f k bt435.1 bt435.2 t437 a2).bind fun bt440 => ((laws_toByteS.f k l1).bind fun t448 => ((laws_toConf.f a0_0 a0_1).bind fun bt451 => ((impl_QcOf.f k bt451.1 bt451.2 t448 a2).bind fun bt453 => ((laws_eqQc.f k bt453.1 bt453.2.1 bt453.2.2.1 bt440.1 bt440.2.1 bt440.2.2.1).bind fun t461 => (if t461 = true then (if bt453.2.2.2.1 = bt440.2.2.2.1 then (if (bt453.2.2.2.2 != bt440.2.2.2.2) = true then (some false) else ((laws_toByteS.f k l1).bind fun t462 => ((laws_eqByteS.f k t448 t462).bind fun t465 => (if t465 = true then ((laws_markByteS.f k t448 1).bind fun bt466 => (if bt466.1 < 0 then (some false) else ((laws_eqQc.f k bt453.1 bt453.2.1 bt453.2.2.1 bt440.1 bt440.2.1 bt440.2.2.1).bind fun t468 => (if t468 = true then ((laws_markQc.f k bt453.1 bt453.2.1 bt453.2.2.1 1).bind fun bt469 => ((laws_heldQc.f k bt453.1 bt453.2.1 bt469.2 1).bind fun t471 => (if t471 < 0 then (some false) else (if t471 = bt469.1 then ((laws_toConf.f a0_0 a0_1).bind fun bt472 => ((laws_toByteS.f k l1).bind fun t474 => ((impl_QcOf.f k bt472.1 bt472.2 t474 a2).bind fun bt477 => ((laws_eqQc.f k bt477.1 bt477.2.1 bt477.2.2.1 bt440.1 bt440.2.1 bt440.2.2.1).bind fun t485 => (if t485 = true then (if bt477.2.2.2.1 = bt440.2.2.2.1 then (if (bt477.2.2.2.2 != bt440.2.2.2.2) = true then (some false) else ((laws_heldQc.f k bt453.1 bt453.2.1 bt469.2 1).bind fun t486 => (if t486 < 0 then (some false) else (if t486 = bt469.1 then (some true) else (some false))))) else (some false)) else (some false)))))) else (some false))))) else (some false))))) else (some false))))) else (some false)) else (some false)))))))))
theorem laws_FnExactQcOf.mono : ∀ a0 a1 a2 a3 k, LeO (laws_FnExactQcOf.f k a0 a1 a2 a3) (laws_FnExactQcOf.f (k + 1) a0 a1 a2 a3) := by
 intro a0 a1 a2 a3 k
 unfold laws_FnExactQcOf.f
 repeat' first | (with_reducible exact impl_QcOf.mono _ _ _ _ _) | (with_reducible exact laws_eqByteS.mono _ _ _) | (with_reducible exact laws_eqQc.mono _ _ _ _ _ _ _) | (with_reducible exact laws_heldQc.mono _ _ _ _ _) | (with_reducible exact laws_markByteS.mono _ _ _) | (with_reducible exact laws_markQc.mono _ _ _ _ _) | (with_reducible exact laws_toByteS.mono _ _) | (with_reducible exact spec_QcOf.mono _ _ _ _ _) | (with_reducible exact LeO.refl _) | (with_reducible exact LeO.none _) | (with_reducible refine LeO.ite ?_ ?_) | (with_reducible refine LeO.bind ?_ (fun _ => ?_))
set_option maxHeartbeats 8000000 in
set_option maxRecDepth 100000 in
theorem laws_FnExactQcOf.calls (k : Nat) (a0_0 : Int) (a0_1 : Int) (A1 : Option Addr) (c1 : Nat) (l1 : List Int) (a2 : Int) (r : Bool) (hrt : Aside0 (r = true)) (w : World) (hr1 : Kd.C (Kd.int .u8) w A1 l1.length l1) (hc1 : l1.length ≤ c1) (h : laws_FnExactQcOf.f k a0_0 a0_1 l1 a2 = some r) (hG : Glob w := by exact gG HG HB) :
  Calls Tryd.prog 4 #[.agg #[.int .i64 a0_0, .int .i64 a0_1], .slice A1 l1.length c1, .int .i64 a2] w fun e w' => e = .returned (.bool r) ∧ Below w.heap.size w w' := by
 have HG := Aside0.mk hG; clear hG; have hu35 := Tryd.underlying35; have hu32 := Tryd.underlying32; have HR1 := Aside0.mk hr1; have HC1 := Aside0.mk hc1; clear hr1 hc1; have HB := Aside0.mk (Below.refl w.heap.size w)
 have H := h; unfold laws_FnExactQcOf.f at H
 clear h
 go_enter Tryd.func4, Tryd.ntmps4
 have H' := Aside0.mk H; clear H
 go_upto_if 22 with (first | ((with_reducible refine gd 3 ?_); refine bL 3 #[.int .i64 a0_0, .int .i64 a0_1] 35 ?_; intro gb434 w4 _ _ _))
 have H := H'.out; clear H'
 by_cases c5 : (l1.length : Int) > 1048576
 ·
  rw [if_pos c5] at H
  have c5b0 : decide (1048576 < (l1.length : Int)) = true := decide_eq_true c5
  have c5b1 : decide (1048576 < l1.length) = true := decide_eq_true (by omega)
  clear c5
  (first | rw [c5b0] | (simp only [i64_w, i32_w]; rw [c5b0]) | skip)
  obtain rfl := Option.some.inj H
  go_wp2
  go_ret
  exact ⟨y0_11, UpW.out⟩
 rw [if_neg c5] at H
 have c5b0 : decide (1048576 < (l1.length : Int)) = false := decide_eq_false c5
 have c5b1 : decide (1048576 < l1.length) = false := decide_eq_false (by omega)
 clear c5
 (first | rw [c5b0] | (simp only [i64_w, i32_w]; rw [c5b0]) | skip)
 obtain ⟨⟨t435, t436⟩, A6, H⟩ := oB H; (try dsimp only at H); obtain ⟨t437, A7, H⟩ := oB H; (try dsimp only at H); obtain ⟨⟨t440, t441, t442, t445, t446⟩, A8, H⟩ := oB H; (try dsimp only at H); obtain ⟨t448, A9, H⟩ := oB H; (try dsimp only at H); obtain ⟨⟨t451, t452⟩, A10, H⟩ := oB H; (try dsimp only at H); obtain ⟨⟨t453, t454, t455, t458, t459⟩, A11, H⟩ := oB H; (try dsimp only at H); have H' := Aside0.mk H; clear H
 go_upto_region 6 with (first | ((with_reducible refine gate_callee (f := 12) rfl ?_); refine gC (some 25) Tryd.func12 (laws_toConf.calls (w := _) (h := A6.out)) ?_; intro w12 _) | ((with_reducible refine gate_callee (f := 13) rfl ?_); refine gC1 (some 27) Tryd.func13 (laws_toByteS.calls (hr0 := pC HR1) (hc0 := HC1.out) (w := _) (h := A7.out)) ?_; intro Ao438 co438 w13 _ HO439) | ((with_reducible refine gate_callee (f := 11) rfl ?_); refine gC1 (some 29) Tryd.func11 (spec_QcOf.calls (hr1 := rC HO439) (hc1 := rL HO439) (w := _) (h := A8.out)) ?_; intro Ao443 co443 w14 _ HO444) | ((with_reducible refine gd 7 ?_); refine bL 7 #[.int .i64 0, .string (⟨#[]⟩ : ByteArray), .slice none 0 0] 32 ?_; intro gb447 w15 _ _ _) | ((with_reducible refine gate_callee (f := 13) rfl ?_); refine gC1 (some 34) Tryd.func13 (laws_toByteS.calls (hr0 := pC HR1) (hc0 := HC1.out) (w := _) (h := A9.out)) ?_; intro Ao449 co449 w16 _ HO450) | ((with_reducible refine gate_callee (f := 12) rfl ?_); refine gC (some 37) Tryd.func12 (laws_toConf.calls (w := _) (h := A10.out)) ?_; intro w17 _) | ((with_reducible refine gate_callee (f := 14) rfl ?_); refine gC1 (some 40) Tryd.func14 (impl_QcOf.calls (hr1 := rC HO450) (hc1 := rL HO450) (w := _) (h := A11.out)) ?_; intro Ao456 co456 w18 _ HO457) | ((with_reducible refine gd 11 ?_); refine bL 11 #[.int .i64 0, .string (⟨#[]⟩ : ByteArray), .slice none 0 0] 32 ?_; intro gb460 w19 _ _ _))
 have H := H'.out; clear H'; obtain ⟨t461, A20, H⟩ := oB H; (try dsimp only at H)
 by_cases c21 : t461 = true
 ·
  subst c21
  rw [if_pos rfl] at H
  by_cases c22 : t458 = t445
  rotate_left
  ·
   rw [if_neg c22] at H
   have c22b0 : (t458 == t445) = false := beq_eq_false_iff_ne.mpr c22; have c22b1 : (t458 != t445) = true := bne_iff_ne.mpr c22
   (first | rw [c22b0] | (simp only [i64_w, i32_w]; rw [c22b0]) | skip)
   exact absurd (hrt.out.symm.trans (Option.some.inj H).symm) (by decide)
  rw [if_pos c22] at H
  have c22b0 : (t458 == t445) = true := beq_iff_eq.mpr c22; have c22b1 : (t458 != t445) = false := bne_eq_false_iff_eq.mpr c22; clear c22
  (first | rw [c22b0] | (simp only [i64_w, i32_w]; rw [c22b0]) | skip)
  have H' := Aside0.mk H; clear H
  go_upto_if 57 with (first | ((with_reducible refine gate_callee (f := 15) rfl ?_); refine gC (some 46) Tryd.func15 (laws_eqQc.calls (hr0_2 := rC HO457) (hc0_2 := rL HO457) (hr1_2 := rC HO444) (hc1_2 := rL HO444) (w := _) (h := A20.out)) ?_; intro w23 _))
  have H := H'.out; clear H'
  by_cases c24 : (t459 != t446) = true
  ·
   rw [if_pos c24] at H
   have c24b0 : (t459 != t446) = true := c24
   (try (have c24b1 : decide (t459 = t446) = false := by simpa using c24))
   (try (have c24b2 : (t459 == t446) = false := by simpa using c24))
   (try (have c24b3 : ¬ (t459 = t446) := by simpa using c24))
   clear c24
   (first | rw [c24b0] | (simp only [i64_w, i32_w]; rw [c24b0]) | rw [show (!(t459 == t446)) = true from c24b0] | skip)
   exact absurd (hrt.out.symm.trans (Option.some.inj H).symm) (by decide)
  rw [if_neg c24] at H
  have c24b0 : (t459 != t446) = false := by simpa using c24
  (try (have c24b1 : decide (t459 = t446) = true := by simpa using c24))
  (try (have c24b2 : (t459 == t446) = true := by simpa using c24))
  clear c24
  (first | rw [c24b0] | (simp only [i64_w, i32_w]; rw [c24b0]) | rw [show (!(t459 == t446)) = false from c24b0] | skip)
  obtain ⟨t462, A25, H⟩ := oB H; (try dsimp only at H); obtain ⟨t465, A26, H⟩ := oB H; (try dsimp only at H); have H' := Aside0.mk H; clear H
  go_upto_if 62 with (first | ((with_reducible refine gate_callee (f := 13) rfl ?_); refine gC1 (some 60) Tryd.func13 (laws_toByteS.calls (hr0 := pC HR1) (hc0 := HC1.out) (w := _) (h := A25.out)) ?_; intro Ao463 co463 w27 _ HO464) | ((with_reducible refine gate_callee (f := 16) rfl ?_); refine gD (some 61) Tryd.func16 (laws_eqByteS.calls (hr0 := rC HO450) (hc0 := rL HO450) (hr1 := rC HO464) (hc1 := rL HO464) (w := _) (h := A26.out)) ?_; intro w28 _))
  have H := H'.out; clear H'
  by_cases c29 : t465 = true
  rotate_left
  ·
   replace c29 := Bool.eq_false_iff.mpr c29; subst c29
   rw [if_neg (show ¬ (false = true) by decide)] at H
   exact absurd (hrt.out.symm.trans (Option.some.inj H).symm) (by decide)
  subst c29
  rw [if_pos rfl] at H
  obtain ⟨⟨t466, t467⟩, A30, H⟩ := oB H; (try dsimp only at H); have H' := Aside0.mk H; clear H
  go_upto_region 12 with (first | ((with_reducible refine gate_callee (f := 17) rfl ?_); refine gM (some 65) Tryd.func17 HO450 (laws_markByteS.calls (w0 := w) (hB := UpW.out) (ho0 := oR HO450) (w := _) (h := A30.out)) ?_; intro w31 _ _ HO450 LEN32; replace HO439 := mR w31 HO439; replace HO444 := mR w31 HO444; replace HO457 := mR w31 HO457; replace HO464 := mR w31 HO464))
  have H := H'.out; clear H'
  by_cases c33 : t466 < 0
  ·
   rw [if_pos c33] at H
   have c33b0 : decide (t466 < 0) = true := decide_eq_true c33; clear c33
   (first | rw [c33b0] | (simp only [i64_w, i32_w]; rw [c33b0]) | skip)
   exact absurd (hrt.out.symm.trans (Option.some.inj H).symm) (by decide)
  rw [if_neg c33] at H
  have c33b0 : decide (t466 < 0) = false := decide_eq_false c33; clear c33
  (first | rw [c33b0] | (simp only [i64_w, i32_w]; rw [c33b0]) | skip)
  obtain ⟨t468, A34, H⟩ := oB H; (try dsimp only at H)
  by_cases c35 : t468 = true
  rotate_left
  ·
   replace c35 := Bool.eq_false_iff.mpr c35; subst c35
   rw [if_neg (show ¬ (false = true) by decide)] at H
   exact absurd (hrt.out.symm.trans (Option.some.inj H).symm) (by decide)
  subst c35
  rw [if_pos rfl] at H
  have H' := Aside0.mk H; clear H
  go_upto_if 83 with (first | (go_at_call 15; refine aC (laws_eqQc.calls (hr0_2 := rC HO457) (hc0_2 := rL HO457) (hr1_2 := rC HO444) (hc1_2 := rL HO444) (w := _) (h := A34.out)) ?_; intro w36 _))
  have H := H'.out; clear H'; obtain ⟨⟨t469, t470⟩, A37, H⟩ := oB H; (try dsimp only at H); obtain ⟨t471, A38, H⟩ := oB H; (try dsimp only at H); have H' := Aside0.mk H; clear H
  go_upto_if 91 with (first | ((with_reducible refine gate_callee (f := 18) rfl ?_); refine gM (some 86) Tryd.func18 HO457 (laws_markQc.calls (w0 := w) (hB := UpW.out) (ho0_2 := oR HO457) (w := _) (h := A37.out)) ?_; intro w39 _ _ HO457 LEN40; replace HO439 := mR w39 HO439; replace HO444 := mR w39 HO444; replace HO450 := mR w39 HO450; replace HO464 := mR w39 HO464) | ((with_reducible refine gate_callee (f := 19) rfl ?_); refine gC (hargs := by (simp only [List.map_toArray, List.map_cons, List.map_nil, LEN40]); rfl) (some 89) Tryd.func19 (laws_heldQc.calls (hr0_2 := rC HO457) (hc0_2 := rL HO457) (w := _) (h := A38.out)) ?_; intro w41 _))
  have H := H'.out; clear H'
  by_cases c42 : t471 < 0
  ·
   rw [if_pos c42] at H
   have c42b0 : decide (t471 < 0) = true := decide_eq_true c42; clear c42
   (first | rw [c42b0] | (simp only [i64_w, i32_w]; rw [c42b0]) | skip)
   exact absurd (hrt.out.symm.trans (Option.some.inj H).symm) (by decide)
  rw [if_neg c42] at H
  have c42b0 : decide (t471 < 0) = false := decide_eq_false c42; clear c42
  (first | rw [c42b0] | (simp only [i64_w, i32_w]; rw [c42b0]) | skip)
  by_cases c43 : t471 = t469
  rotate_left
  ·
   rw [if_neg c43] at H
   have c43b0 : (t471 == t469) = false := beq_eq_false_iff_ne.mpr c43; have c43b1 : (t471 != t469) = true := bne_iff_ne.mpr c43
   exact absurd (hrt.out.symm.trans (Option.some.inj H).symm) (by decide)
  rw [if_pos c43] at H
  have c43b0 : (t471 == t469) = true := beq_iff_eq.mpr c43; have c43b1 : (t471 != t469) = false := bne_eq_false_iff_eq.mpr c43; clear c43; obtain ⟨⟨t472, t473⟩, A44, H⟩ := oB H; (try dsimp only at H); obtain ⟨t474, A45, H⟩ := oB H; (try dsimp only at H); obtain ⟨⟨t477, t478, t479, t482, t483⟩, A46, H⟩ := oB H; (try dsimp only at H); have H' := Aside0.mk H; clear H
  go_upto_region 23 with (first | ((with_reducible refine gate_callee (f := 12) rfl ?_); refine gC (some 97) Tryd.func12 (laws_toConf.calls (w := _) (h := A44.out)) ?_; intro w47 _) | ((with_reducible refine gate_callee (f := 13) rfl ?_); refine gC1 (some 99) Tryd.func13 (laws_toByteS.calls (hr0 := pC HR1) (hc0 := HC1.out) (w := _) (h := A45.out)) ?_; intro Ao475 co475 w48 _ HO476) | ((with_reducible refine gate_callee (f := 14) rfl ?_); refine gC1 (some 101) Tryd.func14 (impl_QcOf.calls (hr1 := rC HO476) (hc1 := rL HO476) (w := _) (h := A46.out)) ?_; intro Ao480 co480 w49 _ HO481) | ((with_reducible refine gd 17 ?_); refine bL 17 #[.int .i64 0, .string (⟨#[]⟩ : ByteArray), .slice none 0 0] 32 ?_; intro gb484 w50 _ _ _))
  have H := H'.out; clear H'; obtain ⟨t485, A51, H⟩ := oB H; (try dsimp only at H)
  by_cases c52 : t485 = true
  rotate_left
  ·
   replace c52 := Bool.eq_false_iff.mpr c52; subst c52
   rw [if_neg (show ¬ (false = true) by decide)] at H
   exact absurd (hrt.out.symm.trans (Option.some.inj H).symm) (by decide)
  subst c52
  rw [if_pos rfl] at H
  by_cases c53 : t482 = t445
  rotate_left
  ·
   rw [if_neg c53] at H
   have c53b0 : (t482 == t445) = false := beq_eq_false_iff_ne.mpr c53; have c53b1 : (t482 != t445) = true := bne_iff_ne.mpr c53
   (first | rw [c53b0] | (simp only [i64_w, i32_w]; rw [c53b0]) | skip)
   exact absurd (hrt.out.symm.trans (Option.some.inj H).symm) (by decide)
  rw [if_pos c53] at H
  have c53b0 : (t482 == t445) = true := beq_iff_eq.mpr c53; have c53b1 : (t482 != t445) = false := bne_eq_false_iff_eq.mpr c53; clear c53
  (first | rw [c53b0] | (simp only [i64_w, i32_w]; rw [c53b0]) | skip)
  have H' := Aside0.mk H; clear H
  go_upto_if 118 with (first | ((with_reducible refine gate_callee (f := 15) rfl ?_); refine gC (some 107) Tryd.func15 (laws_eqQc.calls (hr0_2 := rC HO481) (hc0_2 := rL HO481) (hr1_2 := rC HO444) (hc1_2 := rL HO444) (w := _) (h := A51.out)) ?_; intro w54 _))
  have H := H'.out; clear H'
  by_cases c55 : (t483 != t446) = true
  ·
   rw [if_pos c55] at H
   have c55b0 : (t483 != t446) = true := c55
   (try (have c55b1 : decide (t483 = t446) = false := by simpa using c55))
   (try (have c55b2 : (t483 == t446) = false := by simpa using c55))
   (try (have c55b3 : ¬ (t483 = t446) := by simpa using c55))
   clear c55
   (first | rw [c55b0] | (simp only [i64_w, i32_w]; rw [c55b0]) | rw [show (!(t483 == t446)) = true from c55b0] | skip)
   exact absurd (hrt.out.symm.trans (Option.some.inj H).symm) (by decide)
  rw [if_neg c55] at H
  have c55b0 : (t483 != t446) = false := by simpa using c55
  (try (have c55b1 : decide (t483 = t446) = true := by simpa using c55))
  (try (have c55b2 : (t483 == t446) = true := by simpa using c55))
  clear c55
  (first | rw [c55b0] | (simp only [i64_w, i32_w]; rw [c55b0]) | rw [show (!(t483 == t446)) = false from c55b0] | skip)
  obtain ⟨t486, A56, H⟩ := oB H; (try dsimp only at H); have H' := Aside0.mk H; clear H
  go_upto_if 123 with (first | ((with_reducible refine gate_callee (f := 19) rfl ?_); refine gC (hargs := by (simp only [List.map_toArray, List.map_cons, List.map_nil, LEN40]); rfl) (some 121) Tryd.func19 (laws_heldQc.calls (hr0_2 := rC HO457) (hc0_2 := rL HO457) (w := _) (h := A56.out)) ?_; intro w57 _))
  have H := H'.out; clear H'
  by_cases c58 : t486 < 0
  ·
   rw [if_pos c58] at H
   have c58b0 : decide (t486 < 0) = true := decide_eq_true c58; clear c58
   (first | rw [c58b0] | (simp only [i64_w, i32_w]; rw [c58b0]) | skip)
   exact absurd (hrt.out.symm.trans (Option.some.inj H).symm) (by decide)
  rw [if_neg c58] at H
  have c58b0 : decide (t486 < 0) = false := decide_eq_false c58; clear c58
  (first | rw [c58b0] | (simp only [i64_w, i32_w]; rw [c58b0]) | skip)
  by_cases c59 : t486 = t469
  rotate_left
  ·
   rw [if_neg c59] at H
   have c59b0 : (t486 == t469) = false := beq_eq_false_iff_ne.mpr c59; have c59b1 : (t486 != t469) = true := bne_iff_ne.mpr c59
   exact absurd (hrt.out.symm.trans (Option.some.inj H).symm) (by decide)
  rw [if_pos c59] at H
  have c59b0 : (t486 == t469) = true := beq_iff_eq.mpr c59; have c59b1 : (t486 != t469) = false := bne_eq_false_iff_eq.mpr c59; clear c59; obtain rfl := Option.some.inj H
  go_wp2
  go_ret
  exact ⟨y0_11, UpW.out⟩
 replace c21 := Bool.eq_false_iff.mpr c21; subst c21
 rw [if_neg (show ¬ (false = true) by decide)] at H
 exact absurd (hrt.out.symm.trans (Option.some.inj H).symm) (by decide)

end Go.Proofs.YtnpbopadajbopaaDoor.PFnExactQcOf
