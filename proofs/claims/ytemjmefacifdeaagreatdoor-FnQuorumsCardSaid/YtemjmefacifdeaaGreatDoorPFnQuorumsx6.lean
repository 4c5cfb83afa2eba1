-- By a program of this session, out of the translation (the print of the kit, with turns of its own). Lean checks it.
import Derived.Test.YtemjmefacifdeaaGreatDoorPFnQuorumsx0
import Derived.Test.YtemjmefacifdeaaGreatDoorPFnQuorumsx2
import Derived.Test.YtemjmefacifdeaaGreatDoorPFnQuorumsx4
import Derived.Test.YtemjmefacifdeaaGreatDoorPFnQuorumsx5
namespace Go.Proofs.YtemjmefacifdeaaGreatDoor.PFnQuorums
open Go.RowKit Go.Proofs.YtemjmefacifdeaaGreatDoorW.PrintWords Go.Proofs.YtemjmefacifdeaaGreatDoorW.PrintLast Go.Proofs.YtemjmefacifdeaaGreatDoorW.PrintMore
attribute [local go_sem] max2_int min2_int max_two min_two max_three min_three max_four min_four   -- for this text's walks alone
attribute [local go_sem] cell_in frozen_in
set_option synthInstance.maxSize 1000000
set_option synthInstance.maxHeartbeats 2000000
set_option linter.unusedVariables false
set_option linter.unusedSimpArgs false

/-! ### spec_l5Draw: function 117 -/
def spec_l5Draw.l0 : Nat → ByteArray → Int → List Int → Int → Int → Option (ByteArray × Int × Int)
 | 0, _, _, _, _, _ => none
 | k + 1, x3, x4, x1000, x1001, x1002 => (spec_l1Below.f x1000 x1001 x1002 2).bind fun bt304 => (if x4 ≤ (wrap64 (30 + bt304.1)) then (if x3.size + 1 ≤ 9223372036854775807 then ((spec_Digits.f k x4).bind fun t307 => (if (x3 ++ (⟨#[47]⟩ : ByteArray)).size + t307.size ≤ 9223372036854775807 then (if ((x3 ++ (⟨#[47]⟩ : ByteArray)) ++ t307).size + 1 ≤ 9223372036854775807 then (spec_l5Draw.l0 k (((x3 ++ (⟨#[47]⟩ : ByteArray)) ++ t307) ++ (⟨#[124]⟩ : ByteArray)) (wrap64 (x4 + 1)) x1000 bt304.2.1 bt304.2.2) else (none)) else (none))) else (none)) else (some (x3, bt304.2.1, bt304.2.2)))
def spec_l5Draw.f (k : Nat) (s0_0 : List Int) (s0_1 : Int) (s0_2 : Int) : Option (ByteArray × Int × Int) := (spec_l1Once.f s0_0 s0_1 s0_2 20).bind fun bt301 => (if bt301.1 = true then (spec_l5Draw.l0 k (⟨#[]⟩ : ByteArray) 1 s0_0 bt301.2.1 bt301.2.2) else ((spec_l5DrawRight.f k s0_0 bt301.2.1 bt301.2.2).bind fun bt308 => ((spec_l2Dent.f s0_0 bt308.2.1 bt308.2.2 bt308.1).bind fun bt311 => (some (bt311.1, bt311.2.1, bt311.2.2)))))
theorem spec_l5Draw.mono_l : ∀ k, (∀ y0 y1 y2 y3 y4, LeO (spec_l5Draw.l0 k y0 y1 y2 y3 y4) (spec_l5Draw.l0 (k + 1) y0 y1 y2 y3 y4))
 | 0 => fun _ _ _ _ _ r h => by simp [spec_l5Draw.l0] at h
 | k + 1 => by
  have ih0 := spec_l5Draw.mono_l k
  intro y0 y1 y2 y3 y4
  unfold spec_l5Draw.l0
  repeat' first | (with_reducible exact ih0 _ _ _ _ _) | (with_reducible exact spec_Digits.mono _ _) | (with_reducible exact spec_l5DrawRight.mono _ _ _ _) | (with_reducible exact LeO.refl _) | (with_reducible exact LeO.none _) | (with_reducible refine LeO.ite ?_ ?_) | (with_reducible refine LeO.bind ?_ (fun _ => ?_))
theorem spec_l5Draw.mono : ∀ a0 a1 a2 k, LeO (spec_l5Draw.f k a0 a1 a2) (spec_l5Draw.f (k + 1) a0 a1 a2) := by
 intro a0 a1 a2 k
 have ih0 := spec_l5Draw.mono_l k
 unfold spec_l5Draw.f
 repeat' first | (with_reducible exact ih0 _ _ _ _ _) | (with_reducible exact spec_Digits.mono _ _) | (with_reducible exact spec_l5DrawRight.mono _ _ _ _) | (with_reducible exact LeO.refl _) | (with_reducible exact LeO.none _) | (with_reducible refine LeO.ite ?_ ?_) | (with_reducible refine LeO.bind ?_ (fun _ => ?_))
set_option maxHeartbeats 8000000 in
set_option maxRecDepth 100000 in
theorem spec_l5Draw.calls (k : Nat) (g : Nat) (s0_0 : List Int) (s0_1 : Int) (s0_2 : Int) (r1 : ByteArray) (r2 : Int) (r3 : Int) (w0 w : World) (hI : IsS124 w0 w g s0_0 s0_1 s0_2) (hB : Below w0.heap.size w0 w) (h : spec_l5Draw.f k s0_0 s0_1 s0_2 = some (r1, r2, r3)) :
  Calls Tryz.prog 117 #[.pointer (some ⟨g, 0, none⟩)] w fun e w' => e = .returned (.string r1) ∧ IsS124 w0 w' g s0_0 r2 r3 ∧ Below w0.heap.size w0 w' ∧ KeepBut w w' g none := by
 have HI0 := Aside0.mk hI; have HK := Aside0.mk (KeepBut.refl w g none); have HL := Aside0.mk hB.size; clear hI; have HW0 := Aside0.mk hB.size; have HB := Aside0.mk hB; clear hB
 have H := h; unfold spec_l5Draw.f at H
 clear h; obtain ⟨⟨t301, t302, t303⟩, A2, H⟩ := oB H; (try dsimp only at H); have i0_ := iB124 HI0; have i1_ : LB w0 w := ⟨HB.out⟩
 go_enter Tryz.func117, Tryz.ntmps117
 have H' := Aside0.mk H; clear H
 go_upto_if 6 with (first | ((with_reducible refine gate_callee (f := 93) rfl ?_); refine gK (some 6) Tryz.func93 (spec_l1Once.calls (hI := iS124 HI0) (hB := UpW.out) (w := _) (h := A2.out)) ?_; intro w3 _ _ _ HI4))
 have H := H'.out; clear H'
 by_cases c5 : t301 = true
 ·
  subst c5
  rw [if_pos rfl] at H
  have H' := Aside0.mk H; clear H
  go_wp2
  refine wC ?_; intro w6 _
  go_loopg [3, 4] k (fun kq v3 v4 w' => ∃ (x3_1 : ByteArray) (x4_1 : Int) (x1001_1 : Int) (x1002_1 : Int), v3 = .string x3_1 ∧ v4 = .int .i64 x4_1 ∧ Aside0 (spec_l5Draw.l0 kq x3_1 x4_1 s0_0 x1001_1 x1002_1 = some (r1, r2, r3)) ∧ Aside0 (kq ≤ k) ∧ StB g w' 124 ∧ Aside0 (IsS124 w0 w' g s0_0 x1001_1 x1002_1) ∧ KL w6 [g] w' ∧ LB w0 w' ∧ KS w g w')
  case atStart => exact ⟨((⟨#[]⟩ : ByteArray)), (1), (t302), (t303), y0_15, y0_15, H', ⟨Nat.le_refl _⟩, iB124 ⟨iS124 HI4⟩, ⟨iS124 HI4⟩, ⟨UpL.out⟩, ⟨UpW.out⟩, ⟨UpB.out⟩⟩
  case round =>
   clear H'; obtain ⟨x3_1, x4_1, x1001_1, x1002_1, rfl, rfl, HA, HK1, _, HI7, _, _, _⟩ := hrel; cases gk with
   | zero => exact absurd HA.out (by simp [spec_l5Draw.l0])
   | succ k1 =>
    have H := HA.out; clear HA
    simp only [spec_l5Draw.l0] at H
    obtain ⟨⟨t304, t305, t306⟩, A8, H⟩ := oB H; (try dsimp only at H); have H' := Aside0.mk H; clear H
    go_upto_if 11 with (first | ((with_reducible refine gate_callee (f := 114) rfl ?_); refine gK (some 9) Tryz.func114 (spec_l1Below.calls (hI := iS124 HI7) (hB := UpW.out) (w := _) (h := A8.out)) ?_; intro w9 _ _ _ HI10))
    have H := H'.out; clear H'
    by_cases c11 : x4_1 ≤ (wrap64 (30 + t304))
    ·
     rw [if_pos c11] at H
     have c11b0 : decide (x4_1 ≤ (wrap64 (30 + t304))) = true := decide_eq_true c11; clear c11
     (first | rw [c11b0] | (simp only [i64_w, i32_w]; rw [c11b0]) | skip)
     by_cases c12 : x3_1.size + 1 ≤ 9223372036854775807
     rotate_left
     ·
      rw [if_neg c12] at H
      exact absurd H (by simp)
     rw [if_pos c12] at H
     have c12b0 := eq_true c12; have c12b1 : decide (x3_1.size + 1 ≤ 9223372036854775807) = true := decide_eq_true c12
     try have c12b2 : (9223372036854775807 < x3_1.size + 1) = False := eq_false (Nat.not_lt.2 c12)
     obtain ⟨t307, A13, H⟩ := oB H; (try dsimp only at H)
     by_cases c14 : (x3_1 ++ (⟨#[47]⟩ : ByteArray)).size + t307.size ≤ 9223372036854775807
     rotate_left
     ·
      rw [if_neg c14] at H
      exact absurd H (by simp)
     rw [if_pos c14] at H
     have c14b0 := eq_true c14; have c14b1 : decide ((x3_1 ++ (⟨#[47]⟩ : ByteArray)).size + t307.size ≤ 9223372036854775807) = true := decide_eq_true c14
     try have c14b2 : (9223372036854775807 < (x3_1 ++ (⟨#[47]⟩ : ByteArray)).size + t307.size) = False := eq_false (Nat.not_lt.2 c14)
     (try have c14b3 : (9223372036854775807 < x3_1.size + 1 + t307.size) = False := eq_false (by have h_ := c14; simp only [ByteArray.size_append, ByteArray.size_extract, show (⟨#[47]⟩ : ByteArray).size = 1 from rfl] at h_; omega))
     by_cases c15 : ((x3_1 ++ (⟨#[47]⟩ : ByteArray)) ++ t307).size + 1 ≤ 9223372036854775807
     rotate_left
     ·
      rw [if_neg c15] at H
      exact absurd H (by simp)
     rw [if_pos c15] at H
     have c15b0 := eq_true c15; have c15b1 : decide (((x3_1 ++ (⟨#[47]⟩ : ByteArray)) ++ t307).size + 1 ≤ 9223372036854775807) = true := decide_eq_true c15
     try have c15b2 : (9223372036854775807 < ((x3_1 ++ (⟨#[47]⟩ : ByteArray)) ++ t307).size + 1) = False := eq_false (Nat.not_lt.2 c15)
     (try have c15b3 : (9223372036854775807 < x3_1.size + 1 + t307.size + 1) = False := eq_false (by have h_ := c15; simp only [ByteArray.size_append, ByteArray.size_extract, show (⟨#[47]⟩ : ByteArray).size = 1 from rfl] at h_; omega))
     have H' := Aside0.mk H; clear H
     go_wp2_with (first | ((with_reducible refine gate_callee (f := 108) rfl ?_); refine gC (some 17) Tryz.func108 (spec_Digits.calls (w := _) (h := A13.out)) ?_; intro w16 _))
     go_roundg k1
     case measure => have := HK1.out; omega
     case rel => exact ⟨(((x3_1 ++ (⟨#[47]⟩ : ByteArray)) ++ t307) ++ (⟨#[124]⟩ : ByteArray)), (wrap64 (x4_1 + 1)), (t305), (t306), y0_15, y0_15, H', ⟨y0_17⟩, iB124 ⟨iS124 HI10⟩, ⟨iS124 HI10⟩, ⟨UpL.out⟩, ⟨UpW.out⟩, ⟨UpB.out⟩⟩
    rw [if_neg c11] at H
    have c11b0 : decide (x4_1 ≤ (wrap64 (30 + t304))) = false := decide_eq_false c11; clear c11
    (first | rw [c11b0] | (simp only [i64_w, i32_w]; rw [c11b0]) | skip)
    simp only [Option.some.injEq, Prod.mk.injEq] at H
    obtain ⟨rfl, rfl, rfl⟩ := H
    go_wp2
    go_ret
    exact ⟨y0_15, iS124 HI10, UpW.out, UpB.out⟩
 replace c5 := Bool.eq_false_iff.mpr c5; subst c5
 rw [if_neg (show ¬ (false = true) by decide)] at H
 obtain ⟨⟨t308, t309, t310⟩, A17, H⟩ := oB H; (try dsimp only at H); obtain ⟨⟨t311, t312, t313⟩, A18, H⟩ := oB H; (try dsimp only at H)
 simp only [Option.some.injEq, Prod.mk.injEq] at H
 obtain ⟨rfl, rfl, rfl⟩ := H
 go_wp2_with (first | ((with_reducible refine gate_callee (f := 124) rfl ?_); refine gK (some 23) Tryz.func124 (spec_l5DrawRight.calls (hI := iS124 HI4) (hB := UpW.out) (w := _) (h := A17.out)) ?_; intro w19 _ _ _ HI20) | ((with_reducible refine gate_callee (f := 139) rfl ?_); refine gK (some 24) Tryz.func139 (spec_l2Dent.calls (hI := iS124 HI20) (hB := UpW.out) (w := _) (h := A18.out)) ?_; intro w21 _ _ _ HI22))
 go_ret
 exact ⟨y0_15, iS124 HI22, UpW.out, UpB.out⟩

/-! ### spec_ViewOf: function 62 -/
def spec_ViewOf.f (k : Nat) (a0 : ByteArray) : Option (Int) := (spec_Steps.f k a0).bind fun bt314 => (if bt314.2 = true then (if (bt314.1.length : Int) = 0 then (some 0) else (if 0 ≤ (wrap64 ((bt314.1.length : Int) - 1)) then (if (wrap64 ((bt314.1.length : Int) - 1)) < (bt314.1.length : Int) then (some ((rd_T112 bt314.1 (wrap64 ((bt314.1.length : Int) - 1))).f0)) else (none)) else (none))) else (some 0))
theorem spec_ViewOf.mono : ∀ a0 k, LeO (spec_ViewOf.f k a0) (spec_ViewOf.f (k + 1) a0) := by
 intro a0 k
 unfold spec_ViewOf.f
 repeat' first | (with_reducible exact spec_Steps.mono _ _) | (with_reducible exact LeO.refl _) | (with_reducible exact LeO.none _) | (with_reducible refine LeO.ite ?_ ?_) | (with_reducible refine LeO.bind ?_ (fun _ => ?_))
set_option maxHeartbeats 8000000 in
set_option maxRecDepth 100000 in
theorem spec_ViewOf.calls (k : Nat) (a0 : ByteArray) (r : Int) (w : World) (h : spec_ViewOf.f k a0 = some r) :
  Calls Tryz.prog 62 #[.string a0] w fun e w' => e = .returned (.int .i64 r) ∧ Below w.heap.size w w' := by
 have HB := Aside0.mk (Below.refl w.heap.size w)
 have H := h; unfold spec_ViewOf.f at H
 clear h; obtain ⟨⟨t314, t315⟩, A2, H⟩ := oB H; (try dsimp only at H)
 by_cases c3 : t315 = true
 ·
  subst c3
  rw [if_pos rfl] at H
  by_cases c4 : (t314.length : Int) = 0
  ·
   rw [if_pos c4] at H
   have c4b0 : ((t314.length : Int) == 0) = true := beq_iff_eq.mpr c4; have c4b1 : ((t314.length : Int) != 0) = false := bne_eq_false_iff_eq.mpr c4; clear c4; obtain rfl := Option.some.inj H
   go_enter Tryz.func62, Tryz.ntmps62
   go_wp2_with (first | ((with_reducible refine gate_callee (f := 103) rfl ?_); refine gB (some 7) Tryz.func103 #[.string a0] ?_; (with_reducible refine (spec_Steps.calls k a0 t314 true _ A2.out).mono ?_); rintro e w5 ⟨v316, rfl, ho0, hb⟩; refine ⟨_, rfl, ?_⟩; have HO317 := Aside0.mk (Kd.S_lower ho0 (below_size (bI HB.out))); replace HB := bs HB hb; (try clear hb); (try clear ho0); obtain ⟨Ao6, co6, eo6⟩ := Kd.S_slice HO317.out; subst eo6))
   go_ret
   exact ⟨y0_11, bI HB.out⟩
  rw [if_neg c4] at H
  have c4b0 : ((t314.length : Int) == 0) = false := beq_eq_false_iff_ne.mpr c4; have c4b1 : ((t314.length : Int) != 0) = true := bne_iff_ne.mpr c4
  have c4b2 : ¬ (t314 = []) := fun h_ => c4 (by rw [h_]; rfl)
  obtain ⟨ji7, hji7⟩ : ∃ j_ : Int, (wrap64 ((t314.length : Int) - 1)) = j_ := ⟨_, rfl⟩
  replace H : (if 0 ≤ (ji7) then (if (ji7) < (t314.length : Int) then (some ((rd_T112 t314 (ji7)).f0)) else (none)) else (none)) = some r := by first | (rw [hji7] at H; exact H) | (simp only [hji7] at H ⊢; exact H)
  (try rw [hji7] at A2)
  have hji7w : (IntKind.i64.wrap ((t314.length : Int) - 1)) = ji7 := (i64_w _).trans hji7
  by_cases c8 : 0 ≤ (ji7)
  rotate_left
  ·
   rw [if_neg c8] at H
   exact absurd H (by simp)
  rw [if_pos c8] at H
  have c8b0 : decide (0 ≤ (ji7)) = true := decide_eq_true c8; clear c8
  by_cases c9 : (ji7) < (t314.length : Int)
  rotate_left
  ·
   rw [if_neg c9] at H
   exact absurd H (by simp)
  rw [if_pos c9] at H
  have c9b0 : decide ((ji7) < (t314.length : Int)) = true := decide_eq_true c9; clear c9; obtain rfl := Option.some.inj H
  go_enter Tryz.func62, Tryz.ntmps62
  go_wp2_with (first | ((with_reducible refine gate_callee (f := 103) rfl ?_); refine gB (some 7) Tryz.func103 #[.string a0] ?_; (with_reducible refine (spec_Steps.calls k a0 t314 true _ A2.out).mono ?_); rintro e w10 ⟨v316, rfl, ho0, hb⟩; refine ⟨_, rfl, ?_⟩; have HO317 := Aside0.mk (Kd.S_lower ho0 (below_size (bI HB.out))); replace HB := bs HB hb; (try clear hb); (try clear ho0); obtain ⟨Ao11, co11, eo11⟩ := Kd.S_slice HO317.out; subst eo11; have p318 : 0 ≤ ((ji7) : Int) := of_decide_eq_true y0_14; have q318 : (ji7) < (t314.length : Int) := of_decide_eq_true y0_14; obtain ⟨ad318, A318_1, c318_1, e318, hx318_0, hx318_1, hl318_1, hi318_1⟩ := at_T112 (Kd.S_reads' HO317.out).2.2 (ji7) p318 q318; cases e318; obtain ⟨ce318, hce318, hMe318, hcc318⟩ := Kd.S_get HO317.out z112 (ji7) p318 (by first | exact q318 | exact of_decide_eq_true y0_14 | (have e_ := (Kd.S_reads' HO317.out).1; omega)); obtain ⟨ve318_1, rfl, ge318_1⟩ := k112_openM hMe318; have hv318_1 := hcc318 1 _ rfl; rw [add_field _ _ 1 (by omega)] at hv318_1; replace hv318_1 := Option.some.inj (hv318_1.symm.trans hx318_1); rw [hv318_1] at ge318_1; have HL318_1 := Aside0.mk (show Kd.R k99 99 _ _ _ _ ((rd_T112 t314 (ji7)).f1) from ge318_1); clear hv318_1 ge318_1; clear hcc318 hce318; have HR318_1 := Aside0.mk hi318_1; have HC318_1 := Aside0.mk hl318_1; clear hi318_1 hl318_1; replace p318 := eq_true p318; replace q318 := eq_true q318))
  go_ret
  exact ⟨by first | rfl | (simp [errW_none, errW_some] <;> rfl) | (simp only [← hji7]; first | rfl | (simp [errW_none, errW_some] <;> rfl)) | (simp [*, errW_none, errW_some] <;> rfl), bI HB.out⟩
 replace c3 := Bool.eq_false_iff.mpr c3; subst c3
 rw [if_neg (show ¬ (false = true) by decide)] at H
 obtain rfl := Option.some.inj H
 go_enter Tryz.func62, Tryz.ntmps62
 go_wp2_with (first | ((with_reducible refine gate_callee (f := 103) rfl ?_); refine gB (some 7) Tryz.func103 #[.string a0] ?_; (with_reducible refine (spec_Steps.calls k a0 t314 false _ A2.out).mono ?_); rintro e w12 ⟨v316, rfl, ho0, hb⟩; refine ⟨_, rfl, ?_⟩; have HO317 := Aside0.mk (Kd.S_lower ho0 (below_size (bI HB.out))); replace HB := bs HB hb; (try clear hb); (try clear ho0)))
 go_ret
 exact ⟨y0_11, bI HB.out⟩

/-! ### spec_l7DrawOf: function 123 -/
def spec_l7DrawOf.l0 : Nat → Int → List Int → Int → Int → Int → Int → Int → ByteArray → List Int → Option (Int × ByteArray × List Int × Int × Int)
 | 0, _, _, _, _, _, _, _, _, _ => none
 | k + 1, x8, x1000, x1001, x1002, x320000, x320001, x323000, x323001, x323002 => if x8 < x320000 then (if x323002.length < 17592186044416 then (spec_l7DrawOf.l0 k (wrap64 (x8 + 1)) x1000 x1001 x1002 x320000 x320001 x323000 x323001 (x323002 ++ [x8])) else (none)) else ((spec_l1Once.f x1000 x1001 x1002 2).bind fun bt326 => (if bt326.1 = true then (if (x323002.length : Int) > 0 then ((spec_l1Below.f x1000 bt326.2.1 bt326.2.2 (x323002.length : Int)).bind fun bt329 => ((some (([] : List Int) : List Int)).bind fun y332 => (if 0 ≤ bt329.1 then (if bt329.1 ≤ (x323002.length : Int) then ((some (x323002.take (bt329.1 : Int).toNat : List Int)).bind fun y335 => (if y332.length + y335.length < 17592186044416 then ((some (y332 ++ y335 : List Int)).bind fun y339 => (if 0 ≤ (wrap64 (bt329.1 + 1)) then (if (wrap64 (bt329.1 + 1)) ≤ (x323002.length : Int) then ((some (x323002.drop ((wrap64 (bt329.1 + 1)) : Int).toNat : List Int)).bind fun y342 => (if y339.length + y342.length < 17592186044416 then (some (x323000, x323001, (y339 ++ y342), bt329.2.1, bt329.2.2)) else (none))) else (none)) else (none))) else (none))) else (none)) else (none)))) else (some (x323000, x323001, x323002, bt326.2.1, bt326.2.2))) else (some (x323000, x323001, x323002, bt326.2.1, bt326.2.2))))
def spec_l7DrawOf.f (k : Nat) (s0_0 : List Int) (s0_1 : Int) (s0_2 : Int) (a1_0 : Int) (a1_1 : Int) (a2 : ByteArray) : Option (Int × ByteArray × List Int × Int × Int) := (spec_ViewOf.f k a2).bind fun t321 => (if a2.toList = ([] : List UInt8) then (some (t321, a2, ([] : List Int), s0_1, s0_2)) else (spec_l7DrawOf.l0 k 0 s0_0 s0_1 s0_2 a1_0 a1_1 t321 a2 ([] : List Int)))
theorem spec_l7DrawOf.mono_l : ∀ k, (∀ y0 y1 y2 y3 y4 y5 y6 y7 y8, LeO (spec_l7DrawOf.l0 k y0 y1 y2 y3 y4 y5 y6 y7 y8) (spec_l7DrawOf.l0 (k + 1) y0 y1 y2 y3 y4 y5 y6 y7 y8))
 | 0 => fun _ _ _ _ _ _ _ _ _ r h => by simp [spec_l7DrawOf.l0] at h
 | k + 1 => by
  have ih0 := spec_l7DrawOf.mono_l k
  intro y0 y1 y2 y3 y4 y5 y6 y7 y8
  unfold spec_l7DrawOf.l0
  repeat' first | (with_reducible exact ih0 _ _ _ _ _ _ _ _ _) | (with_reducible exact spec_ViewOf.mono _ _) | (with_reducible exact LeO.refl _) | (with_reducible exact LeO.none _) | (with_reducible refine LeO.ite ?_ ?_) | (with_reducible refine LeO.bind ?_ (fun _ => ?_))
theorem spec_l7DrawOf.mono : ∀ a0 a1 a2 a3 a4 a5 k, LeO (spec_l7DrawOf.f k a0 a1 a2 a3 a4 a5) (spec_l7DrawOf.f (k + 1) a0 a1 a2 a3 a4 a5) := by
 intro a0 a1 a2 a3 a4 a5 k
 have ih0 := spec_l7DrawOf.mono_l k
 unfold spec_l7DrawOf.f
 repeat' first | (with_reducible exact ih0 _ _ _ _ _ _ _ _ _) | (with_reducible exact spec_ViewOf.mono _ _) | (with_reducible exact LeO.refl _) | (with_reducible exact LeO.none _) | (with_reducible refine LeO.ite ?_ ?_) | (with_reducible refine LeO.bind ?_ (fun _ => ?_))
def spec_l7DrawOf.T10 : Bool × List (List Nat × List Nat) := (true, [([], []), ([], []), ([1], [1]), ([], []), ([2, 3], [2, 3]), ([0, 4], [0, 4]), ([], []), ([6], [6]), ([], []), ([8], [8]), ([7, 9], [7, 9]), ([5, 10, 5], [5, 10]), ([0, 1, 2, 3, 4, 5, 6, 7, 8, 9, 10, 11], []), ([12, 11, 11, 0, 1, 2, 3, 4, 5, 6, 7, 8, 9, 10, 11], [11, 12])])
def spec_l7DrawOf.B10 : List Nat := [0, 0, 2, 0, 14, 31, 0, 64, 0, 256, 960, 2047, 4095, 8191]
theorem spec_l7DrawOf.tab10 : rtab .any (opsOf Tryz.f123 10) = spec_l7DrawOf.T10 := by kernel_rfl
theorem spec_l7DrawOf.bits10 : waitsOk spec_l7DrawOf.T10.2 spec_l7DrawOf.B10 = true := by kernel_rfl
set_option maxHeartbeats 8000000 in
set_option maxRecDepth 100000 in
theorem spec_l7DrawOf.calls (k : Nat) (g : Nat) (s0_0 : List Int) (s0_1 : Int) (s0_2 : Int) (a1_0 : Int) (a1_1 : Int) (a2 : ByteArray) (r1 : Int) (r2 : ByteArray) (r3 : List Int) (r4 : Int) (r5 : Int) (w0 w : World) (hI : IsS124 w0 w g s0_0 s0_1 s0_2) (hB : Below w0.heap.size w0 w) (h : spec_l7DrawOf.f k s0_0 s0_1 s0_2 a1_0 a1_1 a2 = some (r1, r2, r3, r4, r5)) :
  Calls Tryz.prog 123 #[.pointer (some ⟨g, 0, none⟩), .agg #[.int .i64 a1_0, .int .i64 a1_1], .string a2] w fun e w' => ∃ v2_ : Value, e = .returned (.agg #[.int .i64 r1, .string r2, v2_]) ∧ Kd.R (Kd.int .i64) 3 w' w.heap.size (fun _ => True) v2_ r3 ∧ IsS124 w0 w' g s0_0 r4 r5 ∧ Below w0.heap.size w0 w' ∧ KeepBut w w' g none := by
 have hu38 := Tryz.underlying38; have hu33 := Tryz.underlying33; have HI0 := Aside0.mk hI; have HK := Aside0.mk (KeepBut.refl w g none); have HL := Aside0.mk hB.size; clear hI; have HW0 := Aside0.mk hB.size; have HB := Aside0.mk hB; clear hB
 have H := h; unfold spec_l7DrawOf.f at H
 clear h; obtain ⟨t321, A4, H⟩ := oB H; (try dsimp only at H)
 by_cases c5 : a2.toList = ([] : List UInt8)
 ·
  rw [if_pos c5] at H
  have c5b0 : (a2.toList == ([] : List UInt8)) = true := beq_iff_eq.mpr c5; have c5b1 : (a2.toList != ([] : List UInt8)) = false := bne_eq_false_iff_eq.mpr c5; clear c5
  simp only [Option.some.injEq, Prod.mk.injEq] at H
  obtain ⟨rfl, rfl, rfl, rfl, rfl⟩ := H
  go_enter Tryz.func123, Tryz.ntmps123
  go_wp2_with (first | ((with_reducible refine gate_dst (N := 4) rfl ?_); (try (refine gate_guard (by rfl) ?_; dsimp only)); refine box_event ?hg (N := 4) ?hd (cs := #[.int .i64 a1_0, .int .i64 a1_1]) (t := 38) ?hr ?_; (case hd => rfl); (case hg => rfl); (case hr => first | (go_simp; done) | (go_simp; rfl)); intro gb319 hg w6 hbox hb; replace HB : Aside0 (Below w0.heap.size w0 _) := Aside0.mk (below_step y0_5 hb); have BK319 := Aside0.mk (hbox); have GW319 := bh hg HK; have GJ319 := gi GW319; have GE319 := Aside0.mk ((Nat.le_trans HW0.out (y0_12 : w.heap.size ≤ gb319) : w0.heap.size ≤ gb319)); have GI319 := gi GE319; replace HK := kb HK hb; have NB0_319 := Aside0.mk ((by rw [hg]; exact Nat.ne_of_lt (IsS124.lt (show IsS124 w0 _ g s0_0 s0_1 s0_2 from y0_4)) : g ≠ gb319)); have NI0_319 := ni NB0_319; have NB319_0 := Aside0.mk ((by rw [hg]; exact Nat.ne_of_gt (IsS124.lt (show IsS124 w0 _ g s0_0 s0_1 s0_2 from y0_4)) : gb319 ≠ g)); have NI319_0 := ni NB319_0; replace HI0 := Aside0.mk (IsS124.below y0_4 hb); clear hb hbox hg) | ((with_reducible refine gate_dst (N := 6) rfl ?_); (try (refine gate_guard (by rfl) ?_; dsimp only)); refine box_event ?hg (N := 6) ?hd (cs := #[.int .i64 0, .string (⟨#[]⟩ : ByteArray), .slice none 0 0]) (t := 33) ?hr ?_; (case hd => rfl); (case hg => rfl); (case hr => first | (go_simp; done) | (go_simp; rfl)); intro gb320 hg w7 hbox hb; replace HB : Aside0 (Below w0.heap.size w0 _) := Aside0.mk (below_step y0_3 hb); have BK320 := Aside0.mk (hbox); have GW320 := bh hg HK; have GJ320 := gi GW320; have GE320 := Aside0.mk ((Nat.le_trans HW0.out (y0_12 : w.heap.size ≤ gb320) : w0.heap.size ≤ gb320)); have GI320 := gi GE320; replace HK := kb HK hb; have NB319_320 := b1 BK319 hg; have NI319_320 := ni NB319_320; have NB320_319 := b2 BK319 hg; have NI320_319 := ni NB320_319; replace BK319 := bk BK319 hb; have NB0_320 := Aside0.mk ((y0_0 : g ≠ gb320)); have NI0_320 := ni NB0_320; have NB320_0 := Aside0.mk ((y0_1 : gb320 ≠ g)); have NI320_0 := ni NB320_0; replace HI0 := Aside0.mk (IsS124.below y0_2 hb); clear hb hbox hg) | ((with_reducible refine gate_callee (f := 62) rfl ?_); refine gB (some 11) Tryz.func62 #[.string a2] ?_; (with_reducible refine (spec_ViewOf.calls k a2 t321 _ A4.out).mono ?_); rintro e w8 ⟨rfl, hb⟩; refine ⟨_, rfl, ?_⟩; replace BK319 := bk BK319 hb; replace BK320 := bk BK320 hb; replace HK := kb HK hb; replace HB : Aside0 (Below w0.heap.size w0 _) := Aside0.mk (below_step y0_3 hb); replace HI0 := Aside0.mk (IsS124.below y0_2 hb); (try clear hb); (try clear hb2); (try clear hk); (try clear hi)) | ((with_reducible refine gate_dst (N := 7) rfl ?_); (try (refine gate_guard (by rfl) ?_; dsimp only)); refine box_event ?hg (N := 7) ?hd (cs := #[.int .i64 0, .string (⟨#[]⟩ : ByteArray), .slice none 0 0]) (t := 33) ?hr ?_; (case hd => rfl); (case hg => rfl); (case hr => first | (go_simp; done) | (go_simp; rfl)); intro gb322 hg w9 hbox hb; replace HB : Aside0 (Below w0.heap.size w0 _) := Aside0.mk (below_step y0_3 hb); have BK322 := Aside0.mk (hbox); have GW322 := bh hg HK; have GJ322 := gi GW322; have GE322 := Aside0.mk ((Nat.le_trans HW0.out (y0_12 : w.heap.size ≤ gb322) : w0.heap.size ≤ gb322)); have GI322 := gi GE322; replace HK := kb HK hb; have NB319_322 := b1 BK319 hg; have NI319_322 := ni NB319_322; have NB322_319 := b2 BK319 hg; have NI322_319 := ni NB322_319; replace BK319 := bk BK319 hb; have NB320_322 := b1 BK320 hg; have NI320_322 := ni NB320_322; have NB322_320 := b2 BK320 hg; have NI322_320 := ni NB322_320; replace BK320 := bk BK320 hb; have NB0_322 := Aside0.mk ((y0_0 : g ≠ gb322)); have NI0_322 := ni NB0_322; have NB322_0 := Aside0.mk ((y0_1 : gb322 ≠ g)); have NI322_0 := ni NB322_0; replace HI0 := Aside0.mk (IsS124.below y0_2 hb); clear hb hbox hg; have hnb10 := NB322_319.out; have hnc10 := NB319_322.out; have hnb11 := NB322_320.out; have hnc11 := NB320_322.out; have hnb12 := NB322_0.out; have hnc12 := NB0_322.out; obtain ⟨hcz13_0, hcz13_1, hcz13_2, hfz13_0, hfz13_1, hfz13_2⟩ := cs3 BK322; have hnb14 := NB320_319.out; have hnc14 := NB319_320.out; have hnb15 := NB320_0.out; have hnc15 := NB0_320.out; obtain ⟨hcz16_0, hcz16_1, hcz16_2, hfz16_0, hfz16_1, hfz16_2⟩ := cs3 BK320))
  refine bodyPost_ret (results_cell_row rfl _ _ gb320 33 #[.int .i64 t321, .string a2, .slice none 0 0] (0, 0) _ rfl (pI BK320) Tryz.underlying33 rfl (by kernel_rfl)) rfl ?_
  exact ⟨_, y0_11, y0_7, y0_2, y0_3, hI HK.out⟩
 rw [if_neg c5] at H
 have c5b0 : (a2.toList == ([] : List UInt8)) = false := beq_eq_false_iff_ne.mpr c5; have c5b1 : (a2.toList != ([] : List UInt8)) = true := bne_iff_ne.mpr c5; have H' := Aside0.mk H; clear H
 go_enter Tryz.func123, Tryz.ntmps123
 go_wp2_with (first | ((with_reducible refine gate_dst (N := 4) rfl ?_); (try (refine gate_guard (by rfl) ?_; dsimp only)); refine box_event ?hg (N := 4) ?hd (cs := #[.int .i64 a1_0, .int .i64 a1_1]) (t := 38) ?hr ?_; (case hd => rfl); (case hg => rfl); (case hr => first | (go_simp; done) | (go_simp; rfl)); intro gb319 hg w17 hbox hb; replace HB : Aside0 (Below w0.heap.size w0 _) := Aside0.mk (below_step y0_5 hb); have BK319 := Aside0.mk (hbox); have GW319 := bh hg HK; have GJ319 := gi GW319; have GE319 := Aside0.mk ((Nat.le_trans HW0.out (y0_12 : w.heap.size ≤ gb319) : w0.heap.size ≤ gb319)); have GI319 := gi GE319; replace HK := kb HK hb; have NB0_319 := Aside0.mk ((by rw [hg]; exact Nat.ne_of_lt (IsS124.lt (show IsS124 w0 _ g s0_0 s0_1 s0_2 from y0_4)) : g ≠ gb319)); have NI0_319 := ni NB0_319; have NB319_0 := Aside0.mk ((by rw [hg]; exact Nat.ne_of_gt (IsS124.lt (show IsS124 w0 _ g s0_0 s0_1 s0_2 from y0_4)) : gb319 ≠ g)); have NI319_0 := ni NB319_0; replace HI0 := Aside0.mk (IsS124.below y0_4 hb); clear hb hbox hg) | ((with_reducible refine gate_dst (N := 6) rfl ?_); (try (refine gate_guard (by rfl) ?_; dsimp only)); refine box_event ?hg (N := 6) ?hd (cs := #[.int .i64 0, .string (⟨#[]⟩ : ByteArray), .slice none 0 0]) (t := 33) ?hr ?_; (case hd => rfl); (case hg => rfl); (case hr => first | (go_simp; done) | (go_simp; rfl)); intro gb320 hg w18 hbox hb; replace HB : Aside0 (Below w0.heap.size w0 _) := Aside0.mk (below_step y0_3 hb); have BK320 := Aside0.mk (hbox); have GW320 := bh hg HK; have GJ320 := gi GW320; have GE320 := Aside0.mk ((Nat.le_trans HW0.out (y0_12 : w.heap.size ≤ gb320) : w0.heap.size ≤ gb320)); have GI320 := gi GE320; replace HK := kb HK hb; have NB319_320 := b1 BK319 hg; have NI319_320 := ni NB319_320; have NB320_319 := b2 BK319 hg; have NI320_319 := ni NB320_319; replace BK319 := bk BK319 hb; have NB0_320 := Aside0.mk ((y0_0 : g ≠ gb320)); have NI0_320 := ni NB0_320; have NB320_0 := Aside0.mk ((y0_1 : gb320 ≠ g)); have NI320_0 := ni NB320_0; replace HI0 := Aside0.mk (IsS124.below y0_2 hb); clear hb hbox hg) | ((with_reducible refine gate_callee (f := 62) rfl ?_); refine gB (some 11) Tryz.func62 #[.string a2] ?_; (with_reducible refine (spec_ViewOf.calls k a2 t321 _ A4.out).mono ?_); rintro e w19 ⟨rfl, hb⟩; refine ⟨_, rfl, ?_⟩; replace BK319 := bk BK319 hb; replace BK320 := bk BK320 hb; replace HK := kb HK hb; replace HB : Aside0 (Below w0.heap.size w0 _) := Aside0.mk (below_step y0_3 hb); replace HI0 := Aside0.mk (IsS124.below y0_2 hb); (try clear hb); (try clear hb2); (try clear hk); (try clear hi)) | ((with_reducible refine gate_dst (N := 7) rfl ?_); (try (refine gate_guard (by rfl) ?_; dsimp only)); refine box_event ?hg (N := 7) ?hd (cs := #[.int .i64 0, .string (⟨#[]⟩ : ByteArray), .slice none 0 0]) (t := 33) ?hr ?_; (case hd => rfl); (case hg => rfl); (case hr => first | (go_simp; done) | (go_simp; rfl)); intro gb322 hg w20 hbox hb; replace HB : Aside0 (Below w0.heap.size w0 _) := Aside0.mk (below_step y0_3 hb); have BK322 := Aside0.mk (hbox); have GW322 := bh hg HK; have GJ322 := gi GW322; have GE322 := Aside0.mk ((Nat.le_trans HW0.out (y0_12 : w.heap.size ≤ gb322) : w0.heap.size ≤ gb322)); have GI322 := gi GE322; replace HK := kb HK hb; have NB319_322 := b1 BK319 hg; have NI319_322 := ni NB319_322; have NB322_319 := b2 BK319 hg; have NI322_319 := ni NB322_319; replace BK319 := bk BK319 hb; have NB320_322 := b1 BK320 hg; have NI320_322 := ni NB320_322; have NB322_320 := b2 BK320 hg; have NI322_320 := ni NB322_320; replace BK320 := bk BK320 hb; have NB0_322 := Aside0.mk ((y0_0 : g ≠ gb322)); have NI0_322 := ni NB0_322; have NB322_0 := Aside0.mk ((y0_1 : gb322 ≠ g)); have NI322_0 := ni NB322_0; replace HI0 := Aside0.mk (IsS124.below y0_2 hb); clear hb hbox hg; have hnb21 := NB322_319.out; have hnc21 := NB319_322.out; have hnb22 := NB322_320.out; have hnc22 := NB320_322.out; have hnb23 := NB322_0.out; have hnc23 := NB0_322.out; obtain ⟨hcz24_0, hcz24_1, hcz24_2, hfz24_0, hfz24_1, hfz24_2⟩ := cs3 BK322))
 go_loopg [8] k (fun kq v8 w' => ∃ (x8_1 : Int) (x323002_1 : List Int) (u323002 : Value), v8 = .int .i64 x8_1 ∧ Aside0 (spec_l7DrawOf.l0 kq x8_1 s0_0 s0_1 s0_2 a1_0 a1_1 t321 a2 x323002_1 = some (r1, r2, r3, r4, r5)) ∧ Aside0 (kq ≤ k) ∧ Aside0 (Kd.R (Kd.int .i64) 3 w' w.heap.size (fun _ => True) u323002 x323002_1) ∧ Aside0 (w'.heap[gb319]? = some (.cells #[.int .i64 a1_0, .int .i64 a1_1] 38 (0, 0))) ∧ Aside0 (w'.heap[gb320]? = some (.cells #[.int .i64 0, .string (⟨#[]⟩ : ByteArray), (.slice none 0 0)] 33 (0, 0))) ∧ Aside0 (w'.heap[gb322]? = some (.cells #[.int .i64 t321, .string a2, u323002] 33 (0, 0))) ∧ Aside0 (IsS124 w0 w' g s0_0 s0_1 s0_2) ∧ Aside0 (KeepBut w w' g none) ∧ Aside0 (Below w0.heap.size w0 w'))
 case atStart => exact ⟨(0), (([] : List Int)), (.slice none 0 0), y0_15, H', ⟨Nat.le_refl _⟩, ⟨y0_7⟩, ⟨gI BK319.out⟩, ⟨gI BK320.out⟩, ⟨pI BK322⟩, ⟨y0_2⟩, ⟨hI HK.out⟩, ⟨y0_3⟩⟩
 case round =>
  clear H'
  try clear c1
  try clear c2
  try clear p2
  try clear c5
  try clear c5b0
  try clear c5b1
  try clear c6
  try clear c10
  try clear c11
  try clear c12
  try clear c14
  try clear c15
  try clear c21
  try clear c22
  try clear c23
  try clear hcz13_0
  try clear hcz13_1
  try clear hcz13_2
  try clear hcz16_0
  try clear hcz16_1
  try clear hcz16_2
  try clear hcz24_0
  try clear hcz24_1
  try clear hcz24_2
  try clear hfz13_0
  try clear hfz13_1
  try clear hfz13_2
  try clear hfz16_0
  try clear hfz16_1
  try clear hfz16_2
  try clear hfz24_0
  try clear hfz24_1
  try clear hfz24_2
  obtain ⟨x8_1, x323002_1, u323002, rfl, HA, HK1, HO_323002, BK319, BK320, BK322, HI0, HK, HB⟩ := hrel; cases gk with
  | zero => exact absurd HA.out (by simp [spec_l7DrawOf.l0])
  | succ k1 =>
   have H := HA.out; clear HA
   simp only [spec_l7DrawOf.l0] at H
   by_cases c25 : x8_1 < a1_0
   ·
    rw [if_pos c25] at H
    have c25b0 : decide (x8_1 < a1_0) = true := decide_eq_true c25; clear c25
    by_cases c26 : x323002_1.length < 17592186044416
    rotate_left
    ·
     rw [if_neg c26] at H
     exact absurd H (by simp)
    rw [if_pos c26] at H
    have LMc26 := Aside0.mk c26; clear c26; obtain ⟨y323, hy323⟩ : ∃ y_ : List Int, y_ = (x323002_1 ++ [x8_1]) := ⟨_, rfl⟩
    replace H : (spec_l7DrawOf.l0 k1 (wrap64 (x8_1 + 1)) s0_0 s0_1 s0_2 a1_0 a1_1 t321 a2 y323) = some (r1, r2, r3, r4, r5) := by first | (rw [hy323]; with_reducible exact H) | (have H2_ := (Option.bind_some _ _).symm.trans H; rw [hy323]; with_reducible exact H2_) | (have H2_ := (Option.bind_some _ _).symm.trans H; with_reducible exact H2_) | with_reducible exact H | (rw [hy323]; exact H) | exact H
    have Ny323 := Aside0.mk hy323; clear hy323; have H' := Aside0.mk H; clear H; have hnb27 := NB319_320.out; have hnc27 := NB320_319.out; have hnb28 := NB319_322.out; have hnc28 := NB322_319.out; have hnb29 := NB319_0.out; have hnc29 := NB0_319.out; have hcz30_0 := bc0 BK319.out; have hcz30_1 := bc1 BK319.out; have hfz30_0 := blk_frozen BK319.out 0; have hfz30_1 := blk_frozen BK319.out 1; have hnb31 := NB322_320.out; have hnc31 := NB320_322.out; have hnb32 := NB322_0.out; have hnc32 := NB0_322.out; have hcz33_0 := bc0 BK322.out; have hcz33_1 := bc1 BK322.out; have hcz33_2 := bc2 BK322.out; have hfz33_0 := blk_frozen BK322.out 0; have hfz33_1 := blk_frozen BK322.out 1; have hfz33_2 := blk_frozen BK322.out 2
    go_wp2_with (first | ((with_reducible refine gate_builtin (b := .append) (xs := #[.tmp 24, .tmp 26]) rfl ?_); (try (refine gate_guard (by rfl) ?_; dsimp only)); at_builtin; refine Kd.R_append (Kd.int .i64) w.heap.size rfl (.tmp 24) (.tmp 26) 24 3 (.int .i64 0) 8 rfl Tryz.underlying24 info3 rfl (by decide) (by omega) u323002 x323002_1 x8_1 [.int .i64 x8_1] (fun _ => True) (fun _ => False) rfl rfl ?aP (fun _ hk => hk.elim) ?aF ?aO (Below.refl _ _) ?aS ?aL ?_; (case aP => exact rfl); (case aF => exact (fun _ _ => trivial)); (case aO => exact (rI HO_323002.out)); (case aS => exact (keep_size (w := w) (g := g) (row := none) (hI HK.out))); (case aL => have := LMc26.out; omega); intro v324 w34 ho hb hg hat; rw [← Ny323.out] at ho; have n0_ := bn BK319 hg (Kd.R_ne HO_323002.out BK319.out (by decide)); have n1_ := bn BK320 hg (Kd.R_ne HO_323002.out BK320.out (by decide)); have n2_ := bn BK322 hg (Kd.R_ne HO_323002.out BK322.out (by decide)); have n3_ := Aside0.mk (IsS124.grown y0_2 hg (IsS124.own_ne HI0.out HO_323002.out (by decide))); have n4_ := Aside0.mk (below_weaken y0_3 HL.out hb); have n5_ := Aside0.mk (KeepBut.trans (hI HK.out) (KeepBut.of_grown hg g) (Kd.R_base2 HO_323002.out)); have n6_ := Aside0.mk (ho); clear BK319; clear BK320; clear BK322; clear HI0; clear HB; clear HK; clear HO_323002; have BK319 := n0_; have BK320 := n1_; have BK322 := n2_; have HI0 := n3_; have HB := n4_; have HK := n5_; have HO325 := n6_; clear n0_ n1_ n2_ n3_ n4_ n5_ n6_; clear ho hb hg hat; obtain ⟨Ao35, co35, eo35⟩ := Kd.R_slice HO325.out; subst eo35; obtain ⟨hcz36_0, hcz36_1, hcz36_2, hfz36_0, hfz36_1, hfz36_2⟩ := cs3 BK322))
    go_roundg k1
    case measure => have := HK1.out; omega
    case rel => exact ⟨(wrap64 (x8_1 + 1)), (y323), (.slice Ao35 y323.length co35), y0_15, H', ⟨y0_17⟩, ⟨by (with_reducible repeat (first | apply Kd.R_alloc | apply Kd.R_drewN | apply Kd.R_drew)); exact Kd.R_mono (Kd.R_far (p := ⟨gb322, 2, none⟩) (Kd.R_types HO325.out BK322.out (by decide)) (fun _ hk => hk.2) (.slice Ao35 y323.length co35)) (fun _ hk => trivial)⟩, ⟨gI BK319.out⟩, ⟨gI BK320.out⟩, ⟨pI BK322⟩, ⟨y0_2⟩, ⟨hI HK.out⟩, ⟨y0_3⟩⟩
   rw [if_neg c25] at H
   have c25b0 : decide (x8_1 < a1_0) = false := decide_eq_false c25; clear c25; obtain ⟨⟨t326, t327, t328⟩, A37, H⟩ := oB H; (try dsimp only at H)
   by_cases c38 : t326 = true
   ·
    subst c38
    rw [if_pos rfl] at H
    by_cases c39 : (x323002_1.length : Int) > 0
    ·
     rw [if_pos c39] at H
     have c39b0 : decide (0 < (x323002_1.length : Int)) = true := decide_eq_true c39
     have c39b1 : decide (0 < x323002_1.length) = true := decide_eq_true (by omega)
     clear c39; obtain ⟨⟨t329, t330, t331⟩, A40, H⟩ := oB H; (try dsimp only at H); obtain ⟨y332, hy332⟩ : ∃ y_ : List Int, y_ = (([] : List Int)) := ⟨_, rfl⟩
     replace H : (if 0 ≤ t329 then (if t329 ≤ (x323002_1.length : Int) then ((some (x323002_1.take (t329 : Int).toNat : List Int)).bind fun y335 => (if y332.length + y335.length < 17592186044416 then ((some (y332 ++ y335 : List Int)).bind fun y339 => (if 0 ≤ (wrap64 (t329 + 1)) then (if (wrap64 (t329 + 1)) ≤ (x323002_1.length : Int) then ((some (x323002_1.drop ((wrap64 (t329 + 1)) : Int).toNat : List Int)).bind fun y342 => (if y339.length + y342.length < 17592186044416 then (some (t321, a2, (y339 ++ y342), t330, t331)) else (none))) else (none)) else (none))) else (none))) else (none)) else (none)) = some (r1, r2, r3, r4, r5) := by first | (rw [hy332]; with_reducible exact H) | (have H2_ := (Option.bind_some _ _).symm.trans H; rw [hy332]; with_reducible exact H2_) | (have H2_ := (Option.bind_some _ _).symm.trans H; with_reducible exact H2_) | with_reducible exact H | (rw [hy332]; exact H) | exact H
     have Ny332 := Aside0.mk hy332; clear hy332
     by_cases c41 : 0 ≤ t329
     rotate_left
     ·
      rw [if_neg c41] at H
      exact absurd H (by simp)
     rw [if_pos c41] at H
     have c41b0 := eq_true c41; have c41b1 : decide (0 ≤ t329) = true := decide_eq_true c41; clear c41
     by_cases c42 : t329 ≤ (x323002_1.length : Int)
     rotate_left
     ·
      rw [if_neg c42] at H
      exact absurd H (by simp)
     rw [if_pos c42] at H
     have c42b0 := eq_true c42; have c42b1 : decide (t329 ≤ (x323002_1.length : Int)) = true := decide_eq_true c42; clear c42; obtain ⟨y335, hy335⟩ : ∃ y_ : List Int, y_ = (x323002_1.take (t329 : Int).toNat) := ⟨_, rfl⟩
     replace H : (if y332.length + y335.length < 17592186044416 then ((some (y332 ++ y335 : List Int)).bind fun y339 => (if 0 ≤ (wrap64 (t329 + 1)) then (if (wrap64 (t329 + 1)) ≤ (x323002_1.length : Int) then ((some (x323002_1.drop ((wrap64 (t329 + 1)) : Int).toNat : List Int)).bind fun y342 => (if y339.length + y342.length < 17592186044416 then (some (t321, a2, (y339 ++ y342), t330, t331)) else (none))) else (none)) else (none))) else (none)) = some (r1, r2, r3, r4, r5) := by first | (rw [hy335]; with_reducible exact H) | (have H2_ := (Option.bind_some _ _).symm.trans H; rw [hy335]; with_reducible exact H2_) | (have H2_ := (Option.bind_some _ _).symm.trans H; with_reducible exact H2_) | with_reducible exact H | (rw [hy335]; exact H) | exact H
     have Ny335 := Aside0.mk hy335; clear hy335
     by_cases c43 : y332.length + y335.length < 17592186044416
     rotate_left
     ·
      rw [if_neg c43] at H
      exact absurd H (by simp)
     rw [if_pos c43] at H
     have LMc43 := Aside0.mk c43; clear c43; obtain ⟨y339, hy339⟩ : ∃ y_ : List Int, y_ = (y332 ++ y335) := ⟨_, rfl⟩
     replace H : (if 0 ≤ (wrap64 (t329 + 1)) then (if (wrap64 (t329 + 1)) ≤ (x323002_1.length : Int) then ((some (x323002_1.drop ((wrap64 (t329 + 1)) : Int).toNat : List Int)).bind fun y342 => (if y339.length + y342.length < 17592186044416 then (some (t321, a2, (y339 ++ y342), t330, t331)) else (none))) else (none)) else (none)) = some (r1, r2, r3, r4, r5) := by first | (rw [hy339]; with_reducible exact H) | (have H2_ := (Option.bind_some _ _).symm.trans H; rw [hy339]; with_reducible exact H2_) | (have H2_ := (Option.bind_some _ _).symm.trans H; with_reducible exact H2_) | with_reducible exact H | (rw [hy339]; exact H) | exact H
     have Ny339 := Aside0.mk hy339; clear hy339; obtain ⟨ji44, hji44⟩ : ∃ j_ : Int, (wrap64 (t329 + 1)) = j_ := ⟨_, rfl⟩
     replace H : (if 0 ≤ (ji44) then (if (ji44) ≤ (x323002_1.length : Int) then ((some (x323002_1.drop ((ji44) : Int).toNat : List Int)).bind fun y342 => (if y339.length + y342.length < 17592186044416 then (some (t321, a2, (y339 ++ y342), t330, t331)) else (none))) else (none)) else (none)) = some (r1, r2, r3, r4, r5) := by first | (rw [hji44] at H; exact H) | (simp only [hji44] at H ⊢; exact H)
     (try rw [hji44] at A37)
     (try rw [hji44] at A40)
     have hji44w : (IntKind.i64.wrap (t329 + 1)) = ji44 := (i64_w _).trans hji44
     by_cases c45 : 0 ≤ (ji44)
     rotate_left
     ·
      rw [if_neg c45] at H
      exact absurd H (by simp)
     rw [if_pos c45] at H
     have c45b0 := eq_true c45; have c45b1 : decide (0 ≤ (ji44)) = true := decide_eq_true c45; clear c45
     by_cases c46 : (ji44) ≤ (x323002_1.length : Int)
     rotate_left
     ·
      rw [if_neg c46] at H
      exact absurd H (by simp)
     rw [if_pos c46] at H
     have c46b0 := eq_true c46; have c46b1 : decide ((ji44) ≤ (x323002_1.length : Int)) = true := decide_eq_true c46; clear c46; obtain ⟨y342, hy342⟩ : ∃ y_ : List Int, y_ = (x323002_1.drop ((ji44) : Int).toNat) := ⟨_, rfl⟩
     replace H : (if y339.length + y342.length < 17592186044416 then (some (t321, a2, (y339 ++ y342), t330, t331)) else (none)) = some (r1, r2, r3, r4, r5) := by first | (rw [hy342]; with_reducible exact H) | (have H2_ := (Option.bind_some _ _).symm.trans H; rw [hy342]; with_reducible exact H2_) | (have H2_ := (Option.bind_some _ _).symm.trans H; with_reducible exact H2_) | with_reducible exact H | (rw [hy342]; exact H) | exact H
     have Ny342 := Aside0.mk hy342; clear hy342
     by_cases c47 : y339.length + y342.length < 17592186044416
     rotate_left
     ·
      rw [if_neg c47] at H
      exact absurd H (by simp)
     rw [if_pos c47] at H
     have LMc47 := Aside0.mk c47; clear c47; obtain ⟨y346, hy346⟩ : ∃ y_ : List Int, y_ = (y339 ++ y342) := ⟨_, rfl⟩
     replace H : (some (t321, a2, y346, t330, t331)) = some (r1, r2, r3, r4, r5) := by first | (rw [hy346]; with_reducible exact H) | (have H2_ := (Option.bind_some _ _).symm.trans H; rw [hy346]; with_reducible exact H2_) | (have H2_ := (Option.bind_some _ _).symm.trans H; with_reducible exact H2_) | with_reducible exact H | (rw [hy346]; exact H) | exact H
     have Ny346 := Aside0.mk hy346; clear hy346
     simp only [Option.some.injEq, Prod.mk.injEq] at H
     obtain ⟨rfl, rfl, rfl, rfl, rfl⟩ := H; have hnb48 := NB319_320.out; have hnc48 := NB320_319.out; have hnb49 := NB319_322.out; have hnc49 := NB322_319.out; have hnb50 := NB319_0.out; have hnc50 := NB0_319.out; have hcz51_0 := bc0 BK319.out; have hcz51_1 := bc1 BK319.out; have hfz51_0 := blk_frozen BK319.out 0; have hfz51_1 := blk_frozen BK319.out 1
     try go_wp2_with (first | ((with_reducible refine gate_callee (f := 93) rfl ?_); refine gB (some 30) Tryz.func93 #[.pointer (some ⟨g, 0, none⟩), .int .i64 2] ?_; (with_reducible refine (spec_l1Once.calls g s0_0 s0_1 s0_2 2 true t327 t328 w0 _ ?side1 ?side2 A37.out).mono ?_); (case side1 => repeat (first | (with_reducible first | exact HI0.out | apply IsS124.alloc | apply IsS124.drewN | apply IsS124.drew | apply IsS124.set_1 | apply IsS124.set_2 | refine IsS124.far ?_ NeI.out _) | exact HI0.out)); (case side2 => repeat (first | (with_reducible first | exact HB.out | apply below_alloc | apply pw_below_drewN | apply below_drew1 | refine below_set ?_ (IsS124.ge HI0.out) | refine below_set ?_ GeI.out) | exact HB.out)); rintro e w52 ⟨rfl, hi, hb, hk⟩; refine ⟨_, rfl, ?_⟩; replace HO_323002 := Aside0.mk (Kd.R_mono (Kd.R_keep (IsS124.apart (show IsS124 w0 _ g s0_0 s0_1 s0_2 from y0_2) (rI HO_323002.out) (by decide)) hk (fun _ h => h.2)) (fun _ h => h.1)); replace BK319 := bq BK319 hk NB319_0; replace BK320 := bq BK320 hk NB320_0; replace BK322 := bq BK322 hk NB322_0; replace HK := kt HK hk; replace HB := Aside0.mk (hb); replace HI0 := Aside0.mk (hi); (try clear hb); (try clear hb2); (try clear hk); (try clear hi); have hnb53 := NB322_320.out; have hnc53 := NB320_322.out; have hnb54 := NB322_0.out; have hnc54 := NB0_322.out; obtain ⟨hcz55_0, hcz55_1, hcz55_2, hfz55_0, hfz55_1, hfz55_2⟩ := cs3 BK322; obtain ⟨Ao56, co56, eo56⟩ := Kd.R_slice HO_323002.out; subst eo56) | ((with_reducible refine gate_callee (f := 114) rfl ?_); refine gB (some 41) Tryz.func114 #[.pointer (some ⟨g, 0, none⟩), .int .i64 (x323002_1.length : Int)] ?_; (with_reducible refine (spec_l1Below.calls g s0_0 t327 t328 (x323002_1.length : Int) t329 t330 t331 w0 _ ?side1 ?side2 A40.out).mono ?_); (case side1 => repeat (first | (with_reducible first | exact HI0.out | apply IsS124.alloc | apply IsS124.drewN | apply IsS124.drew | apply IsS124.set_1 | apply IsS124.set_2 | refine IsS124.far ?_ NeI.out _) | exact HI0.out)); (case side2 => repeat (first | (with_reducible first | exact HB.out | apply below_alloc | apply pw_below_drewN | apply below_drew1 | refine below_set ?_ (IsS124.ge HI0.out) | refine below_set ?_ GeI.out) | exact HB.out)); rintro e w57 ⟨rfl, hi, hb, hk⟩; refine ⟨_, rfl, ?_⟩; replace HO_323002 := Aside0.mk (Kd.R_mono (Kd.R_keep (IsS124.apart (show IsS124 w0 _ g s0_0 t327 t328 from y0_2) (rI HO_323002.out) (by decide)) hk (fun _ h => h.2)) (fun _ h => h.1)); replace BK319 := bq BK319 hk NB319_0; replace BK320 := bq BK320 hk NB320_0; replace BK322 := bq BK322 hk NB322_0; replace HK := kt HK hk; replace HB := Aside0.mk (hb); replace HI0 := Aside0.mk (hi); (try clear hb); (try clear hb2); (try clear hk); (try clear hi)))
     replace HO_323002 := Aside0.mk (Kd.R_drew HO_323002.out); replace BK319 := Aside0.mk (blk_drew BK319.out); replace BK320 := Aside0.mk (blk_drew BK320.out); replace BK322 := Aside0.mk (blk_drew BK322.out); replace HI0 := Aside0.mk (IsS124.drew HI0.out); replace HK := Aside0.mk (keep_drew HK.out); replace HB := Aside0.mk (below_drew1 HB.out); have q59 : (t329 : Int) ≤ ((x323002_1.length : Int) : Int) := of_decide_eq_true y0_14; obtain ⟨i059, hi059, _, hsz59, _⟩ := info_parts info3; have hroom59 : x323002_1.length ≤ co56 := (Kd.R_reads' HO_323002.out).2.1; have hC59 : Kd.C (Kd.int .i64) _ Ao56 x323002_1.length x323002_1 := (Kd.R_reads' HO_323002.out).2.2; have hcut59 := cut_to (P := Tryz.prog) 24 3 .i64 Tryz.underlying24 hi059 Ao56 x323002_1.length co56 t329 (of_decide_eq_true y0_14) q59 hroom59
     have hr59 := Kd.C_take (m := (t329 : Int).toNat) hC59 (by omega)
     have hy59 : y335.length = (t329 : Int).toNat := (by rw [Ny335.out, List.length_take]; omega)
     rw [← Ny335.out] at hr59
     rw [← hy59] at hcut59
     have HR338 := Aside0.mk hr59
     have HC338 := Aside0.mk (show y335.length ≤ co56 from by omega)
     clear hr59 hC59 hroom59 hi059 hsz59; have KY59 := Aside0.mk hy59; clear hy59
     have KL59 := Aside0.mk (show (t329 : Int).toNat ≤ x323002_1.length from by omega)
     replace q59 := eq_true q59; have q60 : ((ji44) : Int) ≤ ((x323002_1.length : Int) : Int) := of_decide_eq_true y0_14; obtain ⟨i060, hi060, _, hsz60, _⟩ := info_parts info3; have hroom60 : x323002_1.length ≤ co56 := (Kd.R_reads' HO_323002.out).2.1; have hC60 : Kd.C (Kd.int .i64) _ Ao56 x323002_1.length x323002_1 := (Kd.R_reads' HO_323002.out).2.2; have q060 : (0 : Int) ≤ ((ji44) : Int) := of_decide_eq_true y0_14; have hcut60 := cut_from (P := Tryz.prog) 24 3 .i64 Tryz.underlying24 hi060 1 hsz60 Ao56 x323002_1.length co56 (ji44) q060 q60
     have hr60 := Kd.C_drop (m := ((ji44) : Int).toNat) (c := co56) hC60 (by omega) hroom60
     obtain ⟨A60, hA60⟩ : ∃ A1, A1 = (if co56 = ((ji44) : Int).toNat then Ao56 else (Ao56 : Option Addr).map (·.add (((ji44) : Int).toNat * 1))) := ⟨_, rfl⟩
     obtain ⟨c60, hc60⟩ : ∃ c1, c1 = co56 - ((ji44) : Int).toNat := ⟨_, rfl⟩
     have hy60 : y342.length = x323002_1.length - ((ji44) : Int).toNat := (by rw [Ny342.out, List.length_drop] <;> omega)
     rw [show (x323002_1).drop ((ji44) : Int).toNat = y342 from Ny342.out.symm] at hr60
     replace hr60 : Kd.C (Kd.int .i64) _ A60 y342.length y342 := (by rw [hA60]; exact hr60)
     rw [← hy60, ← hA60, ← hc60] at hcut60
     have HR345 := Aside0.mk hr60
     have HC345 := Aside0.mk (show y342.length ≤ c60 from by rw [hy60, hc60]; exact Nat.sub_le_sub_right hroom60 _)
     clear hr60 hC60 hroom60 hi060 hsz60 hc60; have KY60 := Aside0.mk hy60; have KA60 := Aside0.mk hA60; clear hy60 hA60
     have KL60 := Aside0.mk (show ((ji44) : Int).toNat ≤ x323002_1.length from by omega)
     replace q60 := eq_true q60
     refine start_ (n := 14) (S := fun w' => w'.cell? ⟨gb322, 0, none⟩ = some (.int .i64 t321) ∧ w'.cell? ⟨gb322, 1, none⟩ = some (.string a2) ∧ w'.cell? ⟨gb322, 2, none⟩ = some (.slice Ao56 x323002_1.length co56)) (ds := [13]) #[false, false, false, false, false, false, false, false, false, false, false, false, false, false] (by kernel_rfl) rfl rfl ⟨bc0 BK322.out, bc1 BK322.out, bc2 BK322.out⟩ (fun hHeld => ?_); refine with_tabW spec_l7DrawOf.tab10 spec_l7DrawOf.bits10 (fun HT_ HW_ => ?_)
     generalize w57.drew = w58 at HO_323002 BK319 BK320 BK322 HI0 HK HB HR338 HR345 hHeld ⊢
     refine pA 1 (some 43) (bz 14 2) HT_ ?_
     refine pA 3 (some 45) (bz 14 10) HT_ ?_
     refine pA 6 (some 48) (bz 14 74) HT_ ?_
     refine pA 8 (some 50) (bz 14 330) HT_ ?_
     refine pA 9 (some 51) (bz 14 842) HT_ ?_
     refine tA 2 (some 44) (bz 14 846) HT_ HW_ hHeld ?_
     refine pA 4 (some 46) (bz 14 862) HT_ ?_
     refine tA 7 (some 49) (bz 14 990) HT_ HW_ hHeld ?_
     refine pA 10 (some 52) (bz 14 2014) HT_ ?_
     refine oA 0 (some 42) (bz 14 2015) HT_ (fun K hK => ?_)
     refine Kd.R_lit_step (Kd.int .i64) _ 3 ?hg (N := 42) ?hd (xs := ([] : List Int)) (inner := []) (ok := fun _ => True) (okp := fun _ => True) ?hr ?hp (fun _ hk => hk) trivial (Below.refl _ _) (Nat.le_refl _) (by simp) ?_; (case hd => rfl); (case hg => rfl); (case hr => first | (go_simp; done) | (go_simp; rfl)); (case hp => exact (Reps.none _ _))
     intro v333 w61 ho62 hb hg_ hnew_
     clear hg_ hnew_
     (first | rw [← Ny332.out] at ho62 | (simp only [Int.reduceToNat] at ho62; rw [← Ny332.out] at ho62))
     have HO334 := Aside0.mk (Kd.R_lower (Kd.R_new' ho62 (Kd.R_lt (rI HO_323002.out))) (keep_size (w := w) (g := g) (row := none) (hI HK.out))); replace HO_323002 := Aside0.mk (Kd.R_elder' (rI HO_323002.out) (Kd.R_base ho62) hb); replace BK319 := bk BK319 hb; replace BK320 := bk BK320 hb; replace BK322 := bk BK322 hb
     replace HR338 := Aside0.mk (Kd.C_below (by repeat (first | (with_reducible exact HR338.out) | (with_reducible refine Kd.C_alloc ?_ _) | (with_reducible refine Kd.C_drewN ?_ _) | (with_reducible refine Kd.C_drew ?_) | exact HR338.out)) hb)
     replace HR345 := Aside0.mk (Kd.C_below (by repeat (first | (with_reducible exact HR345.out) | (with_reducible refine Kd.C_alloc ?_ _) | (with_reducible refine Kd.C_drewN ?_ _) | (with_reducible refine Kd.C_drew ?_) | exact HR345.out)) hb)
     replace HK := kb HK hb; replace HB : Aside0 (Below w0.heap.size w0 _) := Aside0.mk (below_step y0_3 hb); replace HI0 := Aside0.mk (IsS124.below y0_2 hb); clear hb ho62
     refine hK.out _ _ ⟨bc0 BK322.out, bc1 BK322.out, bc2 BK322.out⟩ (fun hHeld => ?_)
     clear hK K
     refine nA (some 42) ?_
     refine oA 5 (some 47) (bz 14 2047) HT_ (fun K hK => ?_)
     refine Kd.R_append_rows_step (Kd.int .i64) w.heap.size (by rfl) (.tmp 42) (.tmp 46) 24 3 (.int .i64 0) 8 rfl Tryz.underlying24 info3 rfl (by decide) (by omega) v333 y332 y335 _ _ _ (fun k_ => some k_ ≠ (.slice Ao56 x323002_1.length co56 : Value).ownBlock) (fun _ => False) rfl rfl ?aO ?aR (fun _ _ h => h) (fun _ h => h.elim) ?aF (Below.refl _ _) ?aS ?aL ?_
     (case aR => repeat (first | exact (by repeat (first | (with_reducible exact HR338.out) | (with_reducible refine Kd.C_alloc ?_ _) | (with_reducible refine Kd.C_drewN ?_ _) | (with_reducible refine Kd.C_drew ?_) | exact HR338.out)) | (with_reducible refine Kd.C_alloc ?_ _) | (with_reducible refine Kd.C_drewN ?_ _) | (with_reducible refine Kd.C_drew ?_)))
     (case aF => exact (fun k_ hk => Kd.fresh' (Kd.R_lt (rI HO_323002.out)) k_ hk))
     (case aO => exact (rI (Kd.R_mono HO334.out (fun _ hk => hk.2))))
     (case aS => exact (keep_size (w := w) (g := g) (row := none) (hI HK.out)))
     (case aL => have := LMc43.out; omega)
     intro v340 w63 ho hb hg hat
     rw [← Ny339.out] at ho
     have n0_ := Aside0.mk (Kd.R_after (ok := (fun _ => True)) (rI HO_323002.out) hg hat)
     have n1_ := bn BK319 hg (Kd.R_ne HO334.out BK319.out (by decide))
     have n2_ := bn BK320 hg (Kd.R_ne HO334.out BK320.out (by decide))
     have n3_ := bn BK322 hg (Kd.R_ne HO334.out BK322.out (by decide))
     have n4_ := Aside0.mk (IsS124.grown y0_2 hg (IsS124.own_ne HI0.out HO334.out (by decide)))
     have n5_ := Aside0.mk (below_weaken y0_3 HL.out hb); have n6_ := Aside0.mk (KeepBut.trans (hI HK.out) (KeepBut.of_grown hg g) (Kd.R_base2 HO334.out))
     have n7_ := Aside0.mk ((show Kd.C (Kd.int .i64) w63 Ao56 y335.length y335 from by rw [Ny335.out]; exact Kd.C_take (m := (t329 : Int).toNat) ((Kd.R_reads' (Kd.R_after (ok := (fun _ => True)) (rI HO_323002.out) hg hat)).2.2) KL59.out))
     have n8_ := Aside0.mk ((show Kd.C (Kd.int .i64) w63 A60 y342.length y342 from by rw [Ny342.out, KA60.out]; exact Kd.C_drop (m := ((ji44) : Int).toNat) (c := co56) ((Kd.R_reads' (Kd.R_after (ok := (fun _ => True)) (rI HO_323002.out) hg hat)).2.2) KL60.out ((Kd.R_reads' (Kd.R_after (ok := (fun _ => True)) (rI HO_323002.out) hg hat)).2.1)))
     have n9_ := Aside0.mk (ho); clear HO_323002; clear BK319; clear BK320; clear BK322; clear HI0; clear HB; clear HK; clear HR338; clear HR345; clear HO334; have HO_323002 := n0_; have BK319 := n1_; have BK320 := n2_; have BK322 := n3_; have HI0 := n4_; have HB := n5_; have HK := n6_; have HR338 := n7_; have HR345 := n8_; have HO341 := n9_; clear n0_ n1_ n2_ n3_ n4_ n5_ n6_ n7_ n8_ n9_; clear ho hb hg hat
     refine hK.out _ _ ⟨bc0 BK322.out, bc1 BK322.out, bc2 BK322.out⟩ (fun hHeld => ?_)
     clear hK K
     refine nA (some 47) ?_
     refine oA 11 (some 53) (bz 14 4095) HT_ (fun K hK => ?_)
     refine Kd.R_append_rows_step (Kd.int .i64) w.heap.size (by rfl) (.tmp 47) (.tmp 52) 24 3 (.int .i64 0) 8 rfl Tryz.underlying24 info3 rfl (by decide) (by omega) v340 y339 y342 _ _ _ (fun k_ => some k_ ≠ (.slice Ao56 x323002_1.length co56 : Value).ownBlock) (fun _ => False) rfl rfl ?aO ?aR (fun _ _ h => h) (fun _ h => h.elim) ?aF (Below.refl _ _) ?aS ?aL ?_
     (case aR => repeat (first | exact (by repeat (first | (with_reducible exact HR345.out) | (with_reducible refine Kd.C_alloc ?_ _) | (with_reducible refine Kd.C_drewN ?_ _) | (with_reducible refine Kd.C_drew ?_) | exact HR345.out)) | (with_reducible refine Kd.C_alloc ?_ _) | (with_reducible refine Kd.C_drewN ?_ _) | (with_reducible refine Kd.C_drew ?_)))
     (case aF => exact (fun k_ hk => Kd.fresh' (Kd.R_lt (rI HO_323002.out)) k_ hk))
     (case aO => exact (rI HO341.out))
     (case aS => exact (keep_size (w := w) (g := g) (row := none) (hI HK.out)))
     (case aL => have := LMc47.out; omega)
     intro v347 w64 ho hb hg hat
     rw [← Ny346.out] at ho
     have n0_ := Aside0.mk (Kd.R_after (ok := (fun _ => True)) (rI HO_323002.out) hg hat)
     have n1_ := bn BK319 hg (Kd.R_ne HO341.out BK319.out (by decide))
     have n2_ := bn BK320 hg (Kd.R_ne HO341.out BK320.out (by decide))
     have n3_ := bn BK322 hg (Kd.R_ne HO341.out BK322.out (by decide))
     have n4_ := Aside0.mk (IsS124.grown y0_2 hg (IsS124.own_ne HI0.out HO341.out (by decide)))
     have n5_ := Aside0.mk (below_weaken y0_3 HL.out hb); have n6_ := Aside0.mk (KeepBut.trans (hI HK.out) (KeepBut.of_grown hg g) (Kd.R_base2 HO341.out))
     have n7_ := Aside0.mk ((show Kd.C (Kd.int .i64) w64 Ao56 y335.length y335 from by rw [Ny335.out]; exact Kd.C_take (m := (t329 : Int).toNat) ((Kd.R_reads' (Kd.R_after (ok := (fun _ => True)) (rI HO_323002.out) hg hat)).2.2) KL59.out))
     have n8_ := Aside0.mk ((show Kd.C (Kd.int .i64) w64 A60 y342.length y342 from by rw [Ny342.out, KA60.out]; exact Kd.C_drop (m := ((ji44) : Int).toNat) (c := co56) ((Kd.R_reads' (Kd.R_after (ok := (fun _ => True)) (rI HO_323002.out) hg hat)).2.2) KL60.out ((Kd.R_reads' (Kd.R_after (ok := (fun _ => True)) (rI HO_323002.out) hg hat)).2.1)))
     have n9_ := Aside0.mk (ho); clear HO_323002; clear BK319; clear BK320; clear BK322; clear HI0; clear HB; clear HK; clear HR338; clear HR345; clear HO341; have HO_323002 := n0_; have BK319 := n1_; have BK320 := n2_; have BK322 := n3_; have HI0 := n4_; have HB := n5_; have HK := n6_; have HR338 := n7_; have HR345 := n8_; have HO348 := n9_; clear n0_ n1_ n2_ n3_ n4_ n5_ n6_ n7_ n8_ n9_; clear ho hb hg hat; obtain ⟨Ao65, co65, eo65⟩ := Kd.R_slice HO348.out
     (first | subst eo65 | (injection eo65 with f1_ f2_ f3_; have f4_ := f1_.symm; have f5_ := f3_.symm; clear f1_ f2_ f3_; subst f4_; subst f5_))
     refine hK.out _ _ ⟨bc0 BK322.out, bc1 BK322.out, bc2 BK322.out⟩ (fun hHeld => ?_)
     clear hK K
     refine nA (some 53) ?_
     refine pA 12 (some 54) (bz 14 0x1fff) HT_ ?_
     refine last_ (i := 13) (N := none) #[true, true, true, true, true, true, true, true, true, true, true, true, true, true] rfl rfl (one_of HT_.out (by kernel_rfl)) (by decide) (fun K hK => ?_)
     have hs66 : w64.cell? ⟨gb322, 2, none⟩ = some (.slice Ao56 x323002_1.length co56) := bc2 BK322.out; have hfs66 := blk_frozen BK322.out 2; have hns66_0 := NB319_322.out; have hns66_1 := NB320_322.out; have hms66_0 := NB322_319.out; have hms66_1 := NB322_320.out
     refine skip_ (w1 := ?_) (by rfl) rfl ?_ ?_
     rotate_left
     ·
      go_simp
      rfl
     refine hK.out _ _ ?_
     clear hK K
     refine done_ (done_of HT_.out (by kernel_rfl)) ?_
     have hcz67_0 := bc0 BK322.out; have hcz67_1 := bc1 BK322.out; have hcz67_2 := bc2 BK322.out; have hfz67_0 := blk_frozen BK322.out 0; have hfz67_1 := blk_frozen BK322.out 1; have hfz67_2 := blk_frozen BK322.out 2; have hnb68 := NB320_0.out; have hnc68 := NB0_320.out; have hcz69_0 := bc0 BK320.out; have hcz69_1 := bc1 BK320.out; have hcz69_2 := bc2 BK320.out; have hfz69_0 := blk_frozen BK320.out 0; have hfz69_1 := blk_frozen BK320.out 1; have hfz69_2 := blk_frozen BK320.out 2
     try go_wp2
     refine bodyPost_ret (results_cell_row rfl _ _ gb320 33 #[.int .i64 t321, .string a2, .slice Ao65 y346.length co65] (0, 0) _ rfl (pI BK320) Tryz.underlying33 rfl (by kernel_rfl)) rfl ?_
     exact ⟨_, by first | rfl | (simp [errW_none, errW_some] <;> rfl) | (simp only [← hji44]; first | rfl | (simp [errW_none, errW_some] <;> rfl)) | (simp [*, errW_none, errW_some] <;> rfl), by (with_reducible repeat (first | apply Kd.R_alloc | apply Kd.R_drewN | apply Kd.R_drew)); exact Kd.R_mono (Kd.R_far (p := ⟨gb320, 2, none⟩) (Kd.R_far (p := ⟨gb320, 1, none⟩) (Kd.R_far (p := ⟨gb320, 0, none⟩) (Kd.R_far (p := ⟨gb322, 2, none⟩) (Kd.R_types (Kd.R_types HO348.out BK322.out (by decide)) BK320.out (by decide)) (fun _ hk => hk.1.2) (.slice Ao65 y346.length co65)) (fun _ hk => hk.2) (.int .i64 t321)) (fun _ hk => hk.2) (.string a2)) (fun _ hk => hk.2) (.slice Ao65 y346.length co65)) (fun _ hk => trivial), y0_2, y0_3, hI HK.out⟩
    rw [if_neg c39] at H
    have c39b0 : decide (0 < (x323002_1.length : Int)) = false := decide_eq_false c39
    have c39b1 : decide (0 < x323002_1.length) = false := decide_eq_false (by omega)
    clear c39
    simp only [Option.some.injEq, Prod.mk.injEq] at H
    obtain ⟨rfl, rfl, rfl, rfl, rfl⟩ := H; have hnb70 := NB319_320.out; have hnc70 := NB320_319.out; have hnb71 := NB319_322.out; have hnc71 := NB322_319.out; have hnb72 := NB319_0.out; have hnc72 := NB0_319.out; have hcz73_0 := bc0 BK319.out; have hcz73_1 := bc1 BK319.out; have hfz73_0 := blk_frozen BK319.out 0; have hfz73_1 := blk_frozen BK319.out 1
    go_wp2_with (first | ((with_reducible refine gate_callee (f := 93) rfl ?_); refine gB (some 30) Tryz.func93 #[.pointer (some ⟨g, 0, none⟩), .int .i64 2] ?_; (with_reducible refine (spec_l1Once.calls g s0_0 s0_1 s0_2 2 true t327 t328 w0 _ ?side1 ?side2 A37.out).mono ?_); (case side1 => repeat (first | (with_reducible first | exact HI0.out | apply IsS124.alloc | apply IsS124.drewN | apply IsS124.drew | apply IsS124.set_1 | apply IsS124.set_2 | refine IsS124.far ?_ NeI.out _) | exact HI0.out)); (case side2 => repeat (first | (with_reducible first | exact HB.out | apply below_alloc | apply pw_below_drewN | apply below_drew1 | refine below_set ?_ (IsS124.ge HI0.out) | refine below_set ?_ GeI.out) | exact HB.out)); rintro e w74 ⟨rfl, hi, hb, hk⟩; refine ⟨_, rfl, ?_⟩; replace HO_323002 := Aside0.mk (Kd.R_mono (Kd.R_keep (IsS124.apart (show IsS124 w0 _ g s0_0 s0_1 s0_2 from y0_2) (rI HO_323002.out) (by decide)) hk (fun _ h => h.2)) (fun _ h => h.1)); replace BK319 := bq BK319 hk NB319_0; replace BK320 := bq BK320 hk NB320_0; replace BK322 := bq BK322 hk NB322_0; replace HK := kt HK hk; replace HB := Aside0.mk (hb); replace HI0 := Aside0.mk (hi); (try clear hb); (try clear hb2); (try clear hk); (try clear hi); have hnb75 := NB322_320.out; have hnc75 := NB320_322.out; have hnb76 := NB322_0.out; have hnc76 := NB0_322.out; obtain ⟨hcz77_0, hcz77_1, hcz77_2, hfz77_0, hfz77_1, hfz77_2⟩ := cs3 BK322; obtain ⟨Ao78, co78, eo78⟩ := Kd.R_slice HO_323002.out; subst eo78; have hnb79 := NB320_0.out; have hnc79 := NB0_320.out; obtain ⟨hcz80_0, hcz80_1, hcz80_2, hfz80_0, hfz80_1, hfz80_2⟩ := cs3 BK320))
    refine bodyPost_ret (results_cell_row rfl _ _ gb320 33 #[.int .i64 t321, .string a2, .slice Ao78 x323002_1.length co78] (0, 0) _ rfl (pI BK320) Tryz.underlying33 rfl (by kernel_rfl)) rfl ?_
    exact ⟨_, y0_11, by (with_reducible repeat (first | apply Kd.R_alloc | apply Kd.R_drewN | apply Kd.R_drew)); exact Kd.R_mono (Kd.R_far (p := ⟨gb320, 2, none⟩) (Kd.R_far (p := ⟨gb320, 1, none⟩) (Kd.R_far (p := ⟨gb320, 0, none⟩) (Kd.R_types HO_323002.out BK320.out (by decide)) (fun _ hk => hk.2) (.int .i64 t321)) (fun _ hk => hk.2) (.string a2)) (fun _ hk => hk.2) (.slice Ao78 x323002_1.length co78)) (fun _ hk => trivial), y0_2, y0_3, hI HK.out⟩
   replace c38 := Bool.eq_false_iff.mpr c38; subst c38
   rw [if_neg (show ¬ (false = true) by decide)] at H
   simp only [Option.some.injEq, Prod.mk.injEq] at H
   obtain ⟨rfl, rfl, rfl, rfl, rfl⟩ := H; have hnb81 := NB319_320.out; have hnc81 := NB320_319.out; have hnb82 := NB319_322.out; have hnc82 := NB322_319.out; have hnb83 := NB319_0.out; have hnc83 := NB0_319.out; have hcz84_0 := bc0 BK319.out; have hcz84_1 := bc1 BK319.out; have hfz84_0 := blk_frozen BK319.out 0; have hfz84_1 := blk_frozen BK319.out 1
   go_wp2_with (first | ((with_reducible refine gate_callee (f := 93) rfl ?_); refine gB (some 30) Tryz.func93 #[.pointer (some ⟨g, 0, none⟩), .int .i64 2] ?_; (with_reducible refine (spec_l1Once.calls g s0_0 s0_1 s0_2 2 false t327 t328 w0 _ ?side1 ?side2 A37.out).mono ?_); (case side1 => repeat (first | (with_reducible first | exact HI0.out | apply IsS124.alloc | apply IsS124.drewN | apply IsS124.drew | apply IsS124.set_1 | apply IsS124.set_2 | refine IsS124.far ?_ NeI.out _) | exact HI0.out)); (case side2 => repeat (first | (with_reducible first | exact HB.out | apply below_alloc | apply pw_below_drewN | apply below_drew1 | refine below_set ?_ (IsS124.ge HI0.out) | refine below_set ?_ GeI.out) | exact HB.out)); rintro e w85 ⟨rfl, hi, hb, hk⟩; refine ⟨_, rfl, ?_⟩; replace HO_323002 := Aside0.mk (Kd.R_mono (Kd.R_keep (IsS124.apart (show IsS124 w0 _ g s0_0 s0_1 s0_2 from y0_2) (rI HO_323002.out) (by decide)) hk (fun _ h => h.2)) (fun _ h => h.1)); replace BK319 := bq BK319 hk NB319_0; replace BK320 := bq BK320 hk NB320_0; replace BK322 := bq BK322 hk NB322_0; replace HK := kt HK hk; replace HB := Aside0.mk (hb); replace HI0 := Aside0.mk (hi); (try clear hb); (try clear hb2); (try clear hk); (try clear hi); have hnb86 := NB322_320.out; have hnc86 := NB320_322.out; have hnb87 := NB322_0.out; have hnc87 := NB0_322.out; obtain ⟨hcz88_0, hcz88_1, hcz88_2, hfz88_0, hfz88_1, hfz88_2⟩ := cs3 BK322; have hnb89 := NB320_0.out; have hnc89 := NB0_320.out; obtain ⟨hcz90_0, hcz90_1, hcz90_2, hfz90_0, hfz90_1, hfz90_2⟩ := cs3 BK320; obtain ⟨Ao91, co91, eo91⟩ := Kd.R_slice HO_323002.out; subst eo91))
   refine bodyPost_ret (results_cell_row rfl _ _ gb320 33 #[.int .i64 t321, .string a2, .slice Ao91 x323002_1.length co91] (0, 0) _ rfl (pI BK320) Tryz.underlying33 rfl (by kernel_rfl)) rfl ?_
   exact ⟨_, y0_11, by (with_reducible repeat (first | apply Kd.R_alloc | apply Kd.R_drewN | apply Kd.R_drew)); exact Kd.R_mono (Kd.R_far (p := ⟨gb320, 2, none⟩) (Kd.R_far (p := ⟨gb320, 1, none⟩) (Kd.R_far (p := ⟨gb320, 0, none⟩) (Kd.R_types HO_323002.out BK320.out (by decide)) (fun _ hk => hk.2) (.int .i64 t321)) (fun _ hk => hk.2) (.string a2)) (fun _ hk => hk.2) (.slice Ao91 x323002_1.length co91)) (fun _ hk => trivial), y0_2, y0_3, hI HK.out⟩

end Go.Proofs.YtemjmefacifdeaaGreatDoor.PFnQuorums
