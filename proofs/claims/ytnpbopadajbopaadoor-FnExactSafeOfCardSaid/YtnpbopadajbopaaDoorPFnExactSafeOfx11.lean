-- By a program of this session, out of the translation (the print of the kit, with turns of its own). Lean checks it.
import Derived.Test.YtnpbopadajbopaaDoorPFnExactSafeOfx0
import Derived.Test.YtnpbopadajbopaaDoorPFnExactSafeOfx1
import Derived.Test.YtnpbopadajbopaaDoorPFnExactSafeOfx5
import Derived.Test.YtnpbopadajbopaaDoorPFnExactSafeOfx9
import Derived.Test.YtnpbopadajbopaaDoorPFnExactSafeOfx10
namespace Go.Proofs.YtnpbopadajbopaaDoor.PFnExactSafeOf
open Go.RowKit Go.Proofs.YtnpbopadajbopaaDoorW.PrintWords Go.Proofs.YtnpbopadajbopaaDoorW.PrintLast Go.Proofs.YtnpbopadajbopaaDoorW.PrintMore
attribute [local go_sem] max2_int min2_int max_two min_two max_three min_three max_four min_four   -- for this text's walks alone
attribute [local go_sem] cell_in frozen_in
set_option synthInstance.maxSize 1000000
set_option synthInstance.maxHeartbeats 2000000
set_option linter.unusedVariables false
set_option linter.unusedSimpArgs false

/-! ### laws_FnExactSafeOf: function 5 -/
def laws_FnExactSafeOf.f (k : Nat) (a0_0 : Int) (a0_1 : Int) (l1 : List Int) : Option (Bool) := if (l1.length : Int) > 1048576 then (some true) else ((laws_toConf.f a0_0 a0_1).bind fun bt473 => ((laws_toByteS.f k l1).bind fun t475 => ((spec_SafeOf.f k bt473.1 bt473.2 t475).bind fun bt478 => ((laws_toByteS.f k l1).bind fun t488 => ((laws_toConf.f a0_0 a0_1).bind fun bt491 => ((impl_SafeOf.f k bt491.1 bt491.2 t488).bind fun bt493 => ((laws_eqSafe.f k bt493.1 bt493.2.1 bt493.2.2.1 bt493.2.2.2.1 bt493.2.2.2.2.1 bt493.2.2.2.2.2.1 bt478.1 bt478.2.1 bt478.2.2.1 bt478.2.2.2.1 bt478.2.2.2.2.1 bt478.2.2.2.2.2.1).bind fun t503 => (if t503 = true then (if (bt493.2.2.2.2.2.2 != bt478.2.2.2.2.2.2) = true then (some false) else ((laws_toByteS.f k l1).bind fun t504 => ((laws_eqByteS.f k t488 t504).bind fun t507 => (if t507 = true then ((laws_markByteS.f k t488 1).bind fun bt508 => (if bt508.1 < 0 then (some false) else ((laws_eqSafe.f k bt493.1 bt493.2.1 bt493.2.2.1 bt493.2.2.2.1 bt493.2.2.2.2.1 bt493.2.2.2.2.2.1 bt478.1 bt478.2.1 bt478.2.2.1 bt478.2.2.2.1 bt478.2.2.2.2.1 bt478.2.2.2.2.2.1).bind fun t510 => (if t510 = true then ((laws_markSafe.f k bt493.1 bt493.2.1 bt493.2.2.1 bt493.2.2.2.1 bt493.2.2.2.2.1 bt493.2.2.2.2.2.1 1).bind fun bt511 => ((laws_heldSafe.f k bt493.1 bt493.2.1 bt493.2.2.1 bt493.2.2.2.1 bt511.2 bt493.2.2.2.2.2.1 1).bind fun t513 => (if t513 < 0 then (some false) else (if t513 = bt511.1 then ((laws_toConf.f a0_0 a0_1).bind fun bt514 => ((laws_toByteS.f k l1).bind fun t516 => ((impl_SafeOf.f k bt514.1 bt514.2 t516).bind fun bt519 => ((laws_eqSafe.f k bt519.1 bt519.2.1 bt519.2.2.1 bt519.2.2.2.1 bt519.2.2.2.2.1 bt519.2.2.2.2.2.1 bt478.1 bt478.2.1 bt478.2.2.1 bt478.2.2.2.1 bt478.2.2.2.2.1 bt478.2.2.2.2.2.1).bind fun t529 => (if t529 = true then (if (bt519.2.2.2.2.2.2 != bt478.2.2.2.2.2.2) = true then (some false) else ((laws_heldSafe.f k bt493.1 bt493.2.1 bt493.2.2.1 bt493.2.2.2.1 bt511.2 bt493.2.2.2.2.2.1 1).bind fun t530 => (if t530 < 0 then (some false) else (if t530 = bt511.1 then (some true) else (some false))))) else (some false)))))) else (some false))))) else (some false))))) else (some false))))) else (some false)))))))))
theorem laws_FnExactSafeOf.mono : ∀ a0 a1 a2 k, LeO (laws_FnExactSafeOf.f k a0 a1 a2) (laws_FnExactSafeOf.f (k + 1) a0 a1 a2) := by
 intro a0 a1 a2 k
 unfold laws_FnExactSafeOf.f
 repeat' first | (with_reducible exact impl_SafeOf.mono _ _ _ _) | (with_reducible exact laws_eqByteS.mono _ _ _) | (with_reducible exact laws_eqSafe.mono _ _ _ _ _ _ _ _ _ _ _ _ _) | (with_reducible exact laws_heldSafe.mono _ _ _ _ _ _ _ _) | (with_reducible exact laws_markByteS.mono _ _ _) | (with_reducible exact laws_markSafe.mono _ _ _ _ _ _ _ _) | (with_reducible exact laws_toByteS.mono _ _) | (with_reducible exact spec_SafeOf.mono _ _ _ _) | (with_reducible exact LeO.refl _) | (with_reducible exact LeO.none _) | (with_reducible refine LeO.ite ?_ ?_) | (with_reducible refine LeO.bind ?_ (fun _ => ?_))
set_option maxHeartbeats 8000000 in
set_option maxRecDepth 100000 in
theorem laws_FnExactSafeOf.calls (k : Nat) (a0_0 : Int) (a0_1 : Int) (A1 : Option Addr) (c1 : Nat) (l1 : List Int) (r : Bool) (hrt : Aside0 (r = true)) (w : World) (hr1 : Kd.C (Kd.int .u8) w A1 l1.length l1) (hc1 : l1.length ≤ c1) (h : laws_FnExactSafeOf.f k a0_0 a0_1 l1 = some r) (hG : Glob w := by exact gG HG HB) :
  Calls Tryd.prog 5 #[.agg #[.int .i64 a0_0, .int .i64 a0_1], .slice A1 l1.length c1] w fun e w' => e = .returned (.bool r) ∧ Below w.heap.size w w' := by
 have HG := Aside0.mk hG; clear hG; have hu35 := Tryd.underlying35; have hu46 := Tryd.underlying46; have HR1 := Aside0.mk hr1; have HC1 := Aside0.mk hc1; clear hr1 hc1; have HB := Aside0.mk (Below.refl w.heap.size w)
 have H := h; unfold laws_FnExactSafeOf.f at H
 clear h
 go_enter Tryd.func5, Tryd.ntmps5
 have H' := Aside0.mk H; clear H
 go_upto_if 17 with (first | ((with_reducible refine gd 2 ?_); refine bL 2 #[.int .i64 a0_0, .int .i64 a0_1] 35 ?_; intro gb472 w3 _ _ _))
 have H := H'.out; clear H'
 by_cases c4 : (l1.length : Int) > 1048576
 ·
  rw [if_pos c4] at H
  have c4b0 : decide (1048576 < (l1.length : Int)) = true := decide_eq_true c4
  have c4b1 : decide (1048576 < l1.length) = true := decide_eq_true (by omega)
  clear c4
  (first | rw [c4b0] | (simp only [i64_w, i32_w]; rw [c4b0]) | skip)
  obtain rfl := Option.some.inj H
  go_wp2
  go_ret
  exact ⟨y0_11, UpW.out⟩
 rw [if_neg c4] at H
 have c4b0 : decide (1048576 < (l1.length : Int)) = false := decide_eq_false c4
 have c4b1 : decide (1048576 < l1.length) = false := decide_eq_false (by omega)
 clear c4
 (first | rw [c4b0] | (simp only [i64_w, i32_w]; rw [c4b0]) | skip)
 obtain ⟨⟨t473, t474⟩, A5, H⟩ := oB H; (try dsimp only at H); obtain ⟨t475, A6, H⟩ := oB H; (try dsimp only at H); obtain ⟨⟨t478, t479, t480, t481, t482, t485, t486⟩, A7, H⟩ := oB H; (try dsimp only at H); obtain ⟨t488, A8, H⟩ := oB H; (try dsimp only at H); obtain ⟨⟨t491, t492⟩, A9, H⟩ := oB H; (try dsimp only at H); obtain ⟨⟨t493, t494, t495, t496, t497, t500, t501⟩, A10, H⟩ := oB H; (try dsimp only at H); have H' := Aside0.mk H; clear H
 go_upto_region 6 with (first | ((with_reducible refine gate_callee (f := 12) rfl ?_); refine gC (some 20) Tryd.func12 (laws_toConf.calls (w := _) (h := A5.out)) ?_; intro w11 _) | ((with_reducible refine gate_callee (f := 13) rfl ?_); refine gC1 (some 22) Tryd.func13 (laws_toByteS.calls (hr0 := pC HR1) (hc0 := HC1.out) (w := _) (h := A6.out)) ?_; intro Ao476 co476 w12 _ HO477) | ((with_reducible refine gate_callee (f := 20) rfl ?_); refine gC1 (some 23) Tryd.func20 (spec_SafeOf.calls (hr1 := rC HO477) (hc1 := rL HO477) (w := _) (h := A7.out)) ?_; intro Ao483 co483 w13 _ HO484) | ((with_reducible refine gd 5 ?_); refine bL 5 #[.int .i64 0, .int .i64 0, .int .i64 0, .string (⟨#[]⟩ : ByteArray), .slice none 0 0, .string (⟨#[]⟩ : ByteArray)] 46 ?_; intro gb487 w14 _ _ _) | ((with_reducible refine gate_callee (f := 13) rfl ?_); refine gC1 (some 27) Tryd.func13 (laws_toByteS.calls (hr0 := pC HR1) (hc0 := HC1.out) (w := _) (h := A8.out)) ?_; intro Ao489 co489 w15 _ HO490) | ((with_reducible refine gate_callee (f := 12) rfl ?_); refine gC (some 30) Tryd.func12 (laws_toConf.calls (w := _) (h := A9.out)) ?_; intro w16 _) | ((with_reducible refine gate_callee (f := 21) rfl ?_); refine gC1 (some 32) Tryd.func21 (impl_SafeOf.calls (hr1 := rC HO490) (hc1 := rL HO490) (w := _) (h := A10.out)) ?_; intro Ao498 co498 w17 _ HO499) | ((with_reducible refine gd 8 ?_); refine bL 8 #[.int .i64 0, .int .i64 0, .int .i64 0, .string (⟨#[]⟩ : ByteArray), .slice none 0 0, .string (⟨#[]⟩ : ByteArray)] 46 ?_; intro gb502 w18 _ _ _))
 have H := H'.out; clear H'; obtain ⟨t503, A19, H⟩ := oB H; (try dsimp only at H)
 by_cases c20 : t503 = true
 ·
  subst c20
  rw [if_pos rfl] at H
  have H' := Aside0.mk H; clear H
  go_upto_if 43 with (first | ((with_reducible refine gate_callee (f := 22) rfl ?_); refine gC (some 37) Tryd.func22 (laws_eqSafe.calls (hr0_4 := rC HO499) (hc0_4 := rL HO499) (hr1_4 := rC HO484) (hc1_4 := rL HO484) (w := _) (h := A19.out)) ?_; intro w21 _))
  have H := H'.out; clear H'
  by_cases c22 : (t501 != t486) = true
  ·
   rw [if_pos c22] at H
   have c22b0 : (t501 != t486) = true := c22
   (try (have c22b1 : decide (t501 = t486) = false := by simpa using c22))
   (try (have c22b2 : (t501 == t486) = false := by simpa using c22))
   (try (have c22b3 : ¬ (t501 = t486) := by simpa using c22))
   clear c22
   (first | rw [c22b0] | (simp only [i64_w, i32_w]; rw [c22b0]) | rw [show (!(t501 == t486)) = true from c22b0] | skip)
   exact absurd (hrt.out.symm.trans (Option.some.inj H).symm) (by decide)
  rw [if_neg c22] at H
  have c22b0 : (t501 != t486) = false := by simpa using c22
  (try (have c22b1 : decide (t501 = t486) = true := by simpa using c22))
  (try (have c22b2 : (t501 == t486) = true := by simpa using c22))
  clear c22
  (first | rw [c22b0] | (simp only [i64_w, i32_w]; rw [c22b0]) | rw [show (!(t501 == t486)) = false from c22b0] | skip)
  obtain ⟨t504, A23, H⟩ := oB H; (try dsimp only at H); obtain ⟨t507, A24, H⟩ := oB H; (try dsimp only at H); have H' := Aside0.mk H; clear H
  go_upto_if 48 with (first | ((with_reducible refine gate_callee (f := 13) rfl ?_); refine gC1 (some 46) Tryd.func13 (laws_toByteS.calls (hr0 := pC HR1) (hc0 := HC1.out) (w := _) (h := A23.out)) ?_; intro Ao505 co505 w25 _ HO506) | ((with_reducible refine gate_callee (f := 16) rfl ?_); refine gD (some 47) Tryd.func16 (laws_eqByteS.calls (hr0 := rC HO490) (hc0 := rL HO490) (hr1 := rC HO506) (hc1 := rL HO506) (w := _) (h := A24.out)) ?_; intro w26 _))
  have H := H'.out; clear H'
  by_cases c27 : t507 = true
  rotate_left
  ·
   replace c27 := Bool.eq_false_iff.mpr c27; subst c27
   rw [if_neg (show ¬ (false = true) by decide)] at H
   exact absurd (hrt.out.symm.trans (Option.some.inj H).symm) (by decide)
  subst c27
  rw [if_pos rfl] at H
  obtain ⟨⟨t508, t509⟩, A28, H⟩ := oB H; (try dsimp only at H); have H' := Aside0.mk H; clear H
  go_upto_region 12 with (first | ((with_reducible refine gate_callee (f := 17) rfl ?_); refine gM (some 51) Tryd.func17 HO490 (laws_markByteS.calls (w0 := w) (hB := UpW.out) (ho0 := oR HO490) (w := _) (h := A28.out)) ?_; intro w29 _ _ HO490 LEN30; replace HO477 := mR w29 HO477; replace HO484 := mR w29 HO484; replace HO499 := mR w29 HO499; replace HO506 := mR w29 HO506))
  have H := H'.out; clear H'
  by_cases c31 : t508 < 0
  ·
   rw [if_pos c31] at H
   have c31b0 : decide (t508 < 0) = true := decide_eq_true c31; clear c31
   (first | rw [c31b0] | (simp only [i64_w, i32_w]; rw [c31b0]) | skip)
   exact absurd (hrt.out.symm.trans (Option.some.inj H).symm) (by decide)
  rw [if_neg c31] at H
  have c31b0 : decide (t508 < 0) = false := decide_eq_false c31; clear c31
  (first | rw [c31b0] | (simp only [i64_w, i32_w]; rw [c31b0]) | skip)
  obtain ⟨t510, A32, H⟩ := oB H; (try dsimp only at H)
  by_cases c33 : t510 = true
  rotate_left
  ·
   replace c33 := Bool.eq_false_iff.mpr c33; subst c33
   rw [if_neg (show ¬ (false = true) by decide)] at H
   exact absurd (hrt.out.symm.trans (Option.some.inj H).symm) (by decide)
  subst c33
  rw [if_pos rfl] at H
  have H' := Aside0.mk H; clear H
  go_upto_if 64 with (first | (go_at_call 22; refine aC (laws_eqSafe.calls (hr0_4 := rC HO499) (hc0_4 := rL HO499) (hr1_4 := rC HO484) (hc1_4 := rL HO484) (w := _) (h := A32.out)) ?_; intro w34 _))
  have H := H'.out; clear H'; obtain ⟨⟨t511, t512⟩, A35, H⟩ := oB H; (try dsimp only at H); obtain ⟨t513, A36, H⟩ := oB H; (try dsimp only at H); have H' := Aside0.mk H; clear H
  go_upto_if 72 with (first | ((with_reducible refine gate_callee (f := 23) rfl ?_); refine gM (some 67) Tryd.func23 HO499 (laws_markSafe.calls (w0 := w) (hB := UpW.out) (ho0_4 := oR HO499) (w := _) (h := A35.out)) ?_; intro w37 _ _ HO499 LEN38; replace HO477 := mR w37 HO477; replace HO484 := mR w37 HO484; replace HO490 := mR w37 HO490; replace HO506 := mR w37 HO506) | ((with_reducible refine gate_callee (f := 24) rfl ?_); refine gC (hargs := by (simp only [List.map_toArray, List.map_cons, List.map_nil, LEN38]); rfl) (some 70) Tryd.func24 (laws_heldSafe.calls (hr0_4 := rC HO499) (hc0_4 := rL HO499) (w := _) (h := A36.out)) ?_; intro w39 _))
  have H := H'.out; clear H'
  by_cases c40 : t513 < 0
  ·
   rw [if_pos c40] at H
   have c40b0 : decide (t513 < 0) = true := decide_eq_true c40; clear c40
   (first | rw [c40b0] | (simp only [i64_w, i32_w]; rw [c40b0]) | skip)
   exact absurd (hrt.out.symm.trans (Option.some.inj H).symm) (by decide)
  rw [if_neg c40] at H
  have c40b0 : decide (t513 < 0) = false := decide_eq_false c40; clear c40
  (first | rw [c40b0] | (simp only [i64_w, i32_w]; rw [c40b0]) | skip)
  by_cases c41 : t513 = t511
  rotate_left
  ·
   rw [if_neg c41] at H
   have c41b0 : (t513 == t511) = false := beq_eq_false_iff_ne.mpr c41; have c41b1 : (t513 != t511) = true := bne_iff_ne.mpr c41
   exact absurd (hrt.out.symm.trans (Option.some.inj H).symm) (by decide)
  rw [if_pos c41] at H
  have c41b0 : (t513 == t511) = true := beq_iff_eq.mpr c41; have c41b1 : (t513 != t511) = false := bne_eq_false_iff_eq.mpr c41; clear c41; obtain ⟨⟨t514, t515⟩, A42, H⟩ := oB H; (try dsimp only at H); obtain ⟨t516, A43, H⟩ := oB H; (try dsimp only at H); obtain ⟨⟨t519, t520, t521, t522, t523, t526, t527⟩, A44, H⟩ := oB H; (try dsimp only at H); have H' := Aside0.mk H; clear H
  go_upto_region 23 with (first | ((with_reducible refine gate_callee (f := 12) rfl ?_); refine gC (some 78) Tryd.func12 (laws_toConf.calls (w := _) (h := A42.out)) ?_; intro w45 _) | ((with_reducible refine gate_callee (f := 13) rfl ?_); refine gC1 (some 80) Tryd.func13 (laws_toByteS.calls (hr0 := pC HR1) (hc0 := HC1.out) (w := _) (h := A43.out)) ?_; intro Ao517 co517 w46 _ HO518) | ((with_reducible refine gate_callee (f := 21) rfl ?_); refine gC1 (some 81) Tryd.func21 (impl_SafeOf.calls (hr1 := rC HO518) (hc1 := rL HO518) (w := _) (h := A44.out)) ?_; intro Ao524 co524 w47 _ HO525) | ((with_reducible refine gd 13 ?_); refine bL 13 #[.int .i64 0, .int .i64 0, .int .i64 0, .string (⟨#[]⟩ : ByteArray), .slice none 0 0, .string (⟨#[]⟩ : ByteArray)] 46 ?_; intro gb528 w48 _ _ _))
  have H := H'.out; clear H'; obtain ⟨t529, A49, H⟩ := oB H; (try dsimp only at H)
  by_cases c50 : t529 = true
  rotate_left
  ·
   replace c50 := Bool.eq_false_iff.mpr c50; subst c50
   rw [if_neg (show ¬ (false = true) by decide)] at H
   exact absurd (hrt.out.symm.trans (Option.some.inj H).symm) (by decide)
  subst c50
  rw [if_pos rfl] at H
  have H' := Aside0.mk H; clear H
  go_upto_if 92 with (first | ((with_reducible refine gate_callee (f := 22) rfl ?_); refine gC (some 86) Tryd.func22 (laws_eqSafe.calls (hr0_4 := rC HO525) (hc0_4 := rL HO525) (hr1_4 := rC HO484) (hc1_4 := rL HO484) (w := _) (h := A49.out)) ?_; intro w51 _))
  have H := H'.out; clear H'
  by_cases c52 : (t527 != t486) = true
  ·
   rw [if_pos c52] at H
   have c52b0 : (t527 != t486) = true := c52
   (try (have c52b1 : decide (t527 = t486) = false := by simpa using c52))
   (try (have c52b2 : (t527 == t486) = false := by simpa using c52))
   (try (have c52b3 : ¬ (t527 = t486) := by simpa using c52))
   clear c52
   (first | rw [c52b0] | (simp only [i64_w, i32_w]; rw [c52b0]) | rw [show (!(t527 == t486)) = true from c52b0] | skip)
   exact absurd (hrt.out.symm.trans (Option.some.inj H).symm) (by decide)
  rw [if_neg c52] at H
  have c52b0 : (t527 != t486) = false := by simpa using c52
  (try (have c52b1 : decide (t527 = t486) = true := by simpa using c52))
  (try (have c52b2 : (t527 == t486) = true := by simpa using c52))
  clear c52
  (first | rw [c52b0] | (simp only [i64_w, i32_w]; rw [c52b0]) | rw [show (!(t527 == t486)) = false from c52b0] | skip)
  obtain ⟨t530, A53, H⟩ := oB H; (try dsimp only at H); have H' := Aside0.mk H; clear H
  go_upto_if 97 with (first | ((with_reducible refine gate_callee (f := 24) rfl ?_); refine gC (hargs := by (simp only [List.map_toArray, List.map_cons, List.map_nil, LEN38]); rfl) (some 95) Tryd.func24 (laws_heldSafe.calls (hr0_4 := rC HO499) (hc0_4 := rL HO499) (w := _) (h := A53.out)) ?_; intro w54 _))
  have H := H'.out; clear H'
  by_cases c55 : t530 < 0
  ·
   rw [if_pos c55] at H
   have c55b0 : decide (t530 < 0) = true := decide_eq_true c55; clear c55
   (first | rw [c55b0] | (simp only [i64_w, i32_w]; rw [c55b0]) | skip)
   exact absurd (hrt.out.symm.trans (Option.some.inj H).symm) (by decide)
  rw [if_neg c55] at H
  have c55b0 : decide (t530 < 0) = false := decide_eq_false c55; clear c55
  (first | rw [c55b0] | (simp only [i64_w, i32_w]; rw [c55b0]) | skip)
  by_cases c56 : t530 = t511
  rotate_left
  ·
   rw [if_neg c56] at H
   have c56b0 : (t530 == t511) = false := beq_eq_false_iff_ne.mpr c56; have c56b1 : (t530 != t511) = true := bne_iff_ne.mpr c56
   exact absurd (hrt.out.symm.trans (Option.some.inj H).symm) (by decide)
  rw [if_pos c56] at H
  have c56b0 : (t530 == t511) = true := beq_iff_eq.mpr c56; have c56b1 : (t530 != t511) = false := bne_eq_false_iff_eq.mpr c56; clear c56; obtain rfl := Option.some.inj H
  go_wp2
  go_ret
  exact ⟨y0_11, UpW.out⟩
 replace c20 := Bool.eq_false_iff.mpr c20; subst c20
 rw [if_neg (show ¬ (false = true) by decide)] at H
 exact absurd (hrt.out.symm.trans (Option.some.inj H).symm) (by decide)

end Go.Proofs.YtnpbopadajbopaaDoor.PFnExactSafeOf
