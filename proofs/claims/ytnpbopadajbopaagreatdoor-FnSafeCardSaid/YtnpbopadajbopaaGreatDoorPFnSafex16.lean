-- By a program of this session, out of the translation (the print of the kit, with turns of its own). Lean checks it.
import Derived.Test.YtnpbopadajbopaaGreatDoorPFnSafex0
import Derived.Test.YtnpbopadajbopaaGreatDoorPFnSafex11
import Derived.Test.YtnpbopadajbopaaGreatDoorPFnSafex15
namespace Go.Proofs.YtnpbopadajbopaaGreatDoor.PFnSafe
open Go.RowKit Go.Proofs.YtnpbopadajbopaaGreatDoorW.PrintWords Go.Proofs.YtnpbopadajbopaaGreatDoorW.PrintLast Go.Proofs.YtnpbopadajbopaaGreatDoorW.PrintMore
attribute [local go_sem] max2_int min2_int max_two min_two max_three min_three max_four min_four   -- for this text's walks alone
attribute [local go_sem] cell_in frozen_in
set_option synthInstance.maxSize 1000000
set_option synthInstance.maxHeartbeats 2000000
set_option linter.unusedVariables false
set_option linter.unusedSimpArgs false

/-! ### spec_SafeSame: function 41 -/
def spec_SafeSame.f (k : Nat) (a0_0 : Int) (a0_1 : Int) (a0_2 : Int) (a0_3 : ByteArray) (l0_4 : List Int) (a0_5 : ByteArray) (a1_0 : Int) (a1_1 : Int) (a1_2 : Int) (a1_3 : ByteArray) (l1_4 : List Int) (a1_5 : ByteArray) : Option (Bool) := if a0_0 = a1_0 then (if a0_1 = a1_1 then ((spec_QcSame.f k a0_2 a0_3 l0_4 a1_2 a1_3 l1_4).bind fun t1036 => (if t1036 = true then (some (a0_5.toList == a1_5.toList)) else (some false))) else (some false)) else (some false)
theorem spec_SafeSame.mono : ∀ a0 a1 a2 a3 a4 a5 a6 a7 a8 a9 a10 a11 k, LeO (spec_SafeSame.f k a0 a1 a2 a3 a4 a5 a6 a7 a8 a9 a10 a11) (spec_SafeSame.f (k + 1) a0 a1 a2 a3 a4 a5 a6 a7 a8 a9 a10 a11) := by
 intro a0 a1 a2 a3 a4 a5 a6 a7 a8 a9 a10 a11 k
 unfold spec_SafeSame.f
 repeat' first | (with_reducible exact spec_QcSame.mono _ _ _ _ _ _ _) | (with_reducible exact LeO.refl _) | (with_reducible exact LeO.none _) | (with_reducible refine LeO.ite ?_ ?_) | (with_reducible refine LeO.bind ?_ (fun _ => ?_))
set_option maxHeartbeats 8000000 in
set_option maxRecDepth 100000 in
theorem spec_SafeSame.calls (k : Nat) (a0_0 : Int) (a0_1 : Int) (a0_2 : Int) (a0_3 : ByteArray) (A0_4 : Option Addr) (c0_4 : Nat) (l0_4 : List Int) (a0_5 : ByteArray) (a1_0 : Int) (a1_1 : Int) (a1_2 : Int) (a1_3 : ByteArray) (A1_4 : Option Addr) (c1_4 : Nat) (l1_4 : List Int) (a1_5 : ByteArray) (r : Bool) (w : World) (hr0_4 : Kd.C (Kd.int .i64) w A0_4 l0_4.length l0_4) (hc0_4 : l0_4.length ≤ c0_4) (hr1_4 : Kd.C (Kd.int .i64) w A1_4 l1_4.length l1_4) (hc1_4 : l1_4.length ≤ c1_4) (h : spec_SafeSame.f k a0_0 a0_1 a0_2 a0_3 l0_4 a0_5 a1_0 a1_1 a1_2 a1_3 l1_4 a1_5 = some r) :
  Calls Tryz.prog 41 #[.agg #[.int .i64 a0_0, .int .i64 a0_1, .int .i64 a0_2, .string a0_3, .slice A0_4 l0_4.length c0_4, .string a0_5], .agg #[.int .i64 a1_0, .int .i64 a1_1, .int .i64 a1_2, .string a1_3, .slice A1_4 l1_4.length c1_4, .string a1_5]] w fun e w' => e = .returned (.bool r) ∧ Below w.heap.size w w' := by
 have hu29 := Tryz.underlying29; have hu27 := Tryz.underlying27; have HR0_4 := Aside0.mk hr0_4; have HC0_4 := Aside0.mk hc0_4; clear hr0_4 hc0_4; have HR1_4 := Aside0.mk hr1_4; have HC1_4 := Aside0.mk hc1_4; clear hr1_4 hc1_4; have HB := Aside0.mk (Below.refl w.heap.size w)
 have H := h; unfold spec_SafeSame.f at H
 clear h
 go_enter Tryz.func41, Tryz.ntmps41
 have H' := Aside0.mk H; clear H
 go_upto_region 1 with (first | ((with_reducible refine gd 2 ?_); refine bL 2 #[.int .i64 a0_0, .int .i64 a0_1, .int .i64 a0_2, .string a0_3, .slice A0_4 l0_4.length c0_4, .string a0_5] 29 ?_; intro gb1034 w3 _ _ _) | ((with_reducible refine gd 3 ?_); refine bL 3 #[.int .i64 a1_0, .int .i64 a1_1, .int .i64 a1_2, .string a1_3, .slice A1_4 l1_4.length c1_4, .string a1_5] 29 ?_; intro gb1035 w4 _ _ _))
 have H := H'.out; clear H'
 by_cases c5 : a0_0 = a1_0
 ·
  rw [if_pos c5] at H
  have c5b0 : (a0_0 == a1_0) = true := beq_iff_eq.mpr c5; have c5b1 : (a0_0 != a1_0) = false := bne_eq_false_iff_eq.mpr c5; clear c5
  (first | rw [c5b0] | (simp only [i64_w, i32_w]; rw [c5b0]) | skip)
  by_cases c6 : a0_1 = a1_1
  ·
   rw [if_pos c6] at H
   have c6b0 : (a0_1 == a1_1) = true := beq_iff_eq.mpr c6; have c6b1 : (a0_1 != a1_1) = false := bne_eq_false_iff_eq.mpr c6; clear c6; obtain ⟨t1036, A7, H⟩ := oB H; (try dsimp only at H)
   by_cases c8 : t1036 = true
   ·
    subst c8
    rw [if_pos rfl] at H
    obtain rfl := Option.some.inj H
    go_wp2_with (first | (go_at_call 137; refine aC (spec_QcSame.calls (hr0_2 := pC HR0_4) (hc0_2 := HC0_4.out) (hr1_2 := pC HR1_4) (hc1_2 := HC1_4.out) (w := _) (h := A7.out)) ?_; intro w9 _))
    go_ret
    exact ⟨y0_16, UpW.out⟩
   replace c8 := Bool.eq_false_iff.mpr c8; subst c8
   rw [if_neg (show ¬ (false = true) by decide)] at H
   obtain rfl := Option.some.inj H
   go_wp2_with (first | (go_at_call 137; refine aC (spec_QcSame.calls (hr0_2 := pC HR0_4) (hc0_2 := HC0_4.out) (hr1_2 := pC HR1_4) (hc1_2 := HC1_4.out) (w := _) (h := A7.out)) ?_; intro w10 _))
   go_ret
   exact ⟨y0_16, UpW.out⟩
  rw [if_neg c6] at H
  have c6b0 : (a0_1 == a1_1) = false := beq_eq_false_iff_ne.mpr c6; have c6b1 : (a0_1 != a1_1) = true := bne_iff_ne.mpr c6; obtain rfl := Option.some.inj H
  go_wp2
  go_ret
  exact ⟨y0_16, UpW.out⟩
 rw [if_neg c5] at H
 have c5b0 : (a0_0 == a1_0) = false := beq_eq_false_iff_ne.mpr c5; have c5b1 : (a0_0 != a1_0) = true := bne_iff_ne.mpr c5
 (first | rw [c5b0] | (simp only [i64_w, i32_w]; rw [c5b0]) | skip)
 obtain rfl := Option.some.inj H
 go_wp2
 go_ret
 exact ⟨y0_16, UpW.out⟩

/-! ### impl_SafeNew: function 45 -/
def impl_SafeNew.f  : Option (Int × Int × Int × ByteArray × List Int × ByteArray) := some (0, 0, 0, (⟨#[]⟩ : ByteArray), ([] : List Int), (⟨#[]⟩ : ByteArray))
set_option maxHeartbeats 8000000 in
set_option maxRecDepth 100000 in
theorem impl_SafeNew.calls  (r1 : Int) (r2 : Int) (r3 : Int) (r4 : ByteArray) (r5 : List Int) (r6 : ByteArray) (w : World) (h : impl_SafeNew.f  = some (r1, r2, r3, r4, r5, r6)) :
  Calls Tryz.prog 45 #[] w fun e w' => ∃ v4_ : Value, e = .returned (.agg #[.int .i64 r1, .int .i64 r2, .int .i64 r3, .string r4, v4_, .string r6]) ∧ Kd.R (Kd.int .i64) 3 w' w.heap.size (fun _ => True) v4_ r5 ∧ Below w.heap.size w w' := by
 have hu29 := Tryz.underlying29; have HB := Aside0.mk (Below.refl w.heap.size w); have H := h; unfold impl_SafeNew.f at H; clear h
 simp only [Option.some.injEq, Prod.mk.injEq] at H
 obtain ⟨rfl, rfl, rfl, rfl, rfl, rfl⟩ := H
 go_enter Tryz.func45, Tryz.ntmps45
 go_wp2_with (first | ((with_reducible refine gd 0 ?_); refine bL 0 #[.int .i64 0, .int .i64 0, .int .i64 0, .string (⟨#[]⟩ : ByteArray), .slice none 0 0, .string (⟨#[]⟩ : ByteArray)] 29 ?_; intro gb1037 w1 _ _ _))
 refine bodyPost_ret (results_cell_row rfl _ _ gb1037 29 #[.int .i64 0, .int .i64 0, .int .i64 0, .string (⟨#[]⟩ : ByteArray), .slice none 0 0, .string (⟨#[]⟩ : ByteArray)] (0, 0) _ rfl xB Tryz.underlying29 rfl (by kernel_rfl)) rfl ?_
 exact ⟨_, y0_16, Kd.R_nil _ _ _ _ _, UpW.out⟩

/-! ### impl_Height: function 48 -/
def impl_Height.f (k : Nat) (a0 : ByteArray) : Option (Int) := (impl_Steps.f k a0).bind fun bt1038 => (if bt1038.2 = true then (some (bt1038.1.length : Int)) else (some (-1)))
theorem impl_Height.mono : ∀ a0 k, LeO (impl_Height.f k a0) (impl_Height.f (k + 1) a0) := by
 intro a0 k
 unfold impl_Height.f
 repeat' first | (with_reducible exact impl_Steps.mono _ _) | (with_reducible exact LeO.refl _) | (with_reducible exact LeO.none _) | (with_reducible refine LeO.ite ?_ ?_) | (with_reducible refine LeO.bind ?_ (fun _ => ?_))
set_option maxHeartbeats 8000000 in
set_option maxRecDepth 100000 in
theorem impl_Height.calls (k : Nat) (a0 : ByteArray) (r : Int) (w : World) (h : impl_Height.f k a0 = some r) (hG : Glob w := by exact gG HG HB) :
  Calls Tryz.prog 48 #[.string a0] w fun e w' => e = .returned (.int .i64 r) ∧ Below w.heap.size w w' := by
 have HG := Aside0.mk hG; clear hG; have HB := Aside0.mk (Below.refl w.heap.size w)
 have H := h; unfold impl_Height.f at H
 clear h; obtain ⟨⟨t1038, t1039⟩, A2, H⟩ := oB H; (try dsimp only at H)
 go_enter Tryz.func48, Tryz.ntmps48
 have H' := Aside0.mk H; clear H
 go_upto_if 11 with (first | ((with_reducible refine gate_callee (f := 130) rfl ?_); refine gS1 (some 7) Tryz.func130 (impl_Steps.calls (w := _) (h := A2.out)) ?_; intro Ao1040 co1040 w3 _ HO1041))
 have H := H'.out; clear H'
 by_cases c4 : t1039 = true
 ·
  subst c4
  rw [if_pos rfl] at H
  obtain rfl := Option.some.inj H
  go_wp2
  go_ret
  exact ⟨y0_16, UpW.out⟩
 replace c4 := Bool.eq_false_iff.mpr c4; subst c4
 rw [if_neg (show ¬ (false = true) by decide)] at H
 obtain rfl := Option.some.inj H
 go_wp2
 go_ret
 exact ⟨y0_16, UpW.out⟩

end Go.Proofs.YtnpbopadajbopaaGreatDoor.PFnSafe
