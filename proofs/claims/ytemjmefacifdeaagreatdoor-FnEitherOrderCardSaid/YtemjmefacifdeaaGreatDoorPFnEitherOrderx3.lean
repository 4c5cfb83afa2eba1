-- By a program of this session, out of the translation (the print of the kit, with turns of its own). Lean checks it.
import Derived.Test.YtemjmefacifdeaaGreatDoorPFnEitherOrderx0
import Derived.Test.YtemjmefacifdeaaGreatDoorPFnEitherOrderx1
import Derived.Test.YtemjmefacifdeaaGreatDoorPFnEitherOrderx2
namespace Go.Proofs.YtemjmefacifdeaaGreatDoor.PFnEitherOrder
open Go.RowKit Go.Proofs.YtemjmefacifdeaaGreatDoorW.PrintWords Go.Proofs.YtemjmefacifdeaaGreatDoorW.PrintLast Go.Proofs.YtemjmefacifdeaaGreatDoorW.PrintMore
attribute [local go_sem] max2_int min2_int max_two min_two max_three min_three max_four min_four   -- for this text's walks alone
attribute [local go_sem] cell_in frozen_in
set_option synthInstance.maxSize 1000000
set_option synthInstance.maxHeartbeats 2000000
set_option linter.unusedVariables false
set_option linter.unusedSimpArgs false

/-! ### spec_ViewOf: function 62 -/
def spec_ViewOf.f (k : Nat) (a0 : ByteArray) : Option (Int) := (spec_Steps.f k a0).bind fun bt195 => (if bt195.2 = true then (if (bt195.1.length : Int) = 0 then (some 0) else (if 0 ≤ (wrap64 ((bt195.1.length : Int) - 1)) then (if (wrap64 ((bt195.1.length : Int) - 1)) < (bt195.1.length : Int) then (some ((rd_T112 bt195.1 (wrap64 ((bt195.1.length : Int) - 1))).f0)) else (none)) else (none))) else (some 0))
theorem spec_ViewOf.mono : ∀ a0 k, LeO (spec_ViewOf.f k a0) (spec_ViewOf.f (k + 1) a0) := by
 intro a0 k
 unfold spec_ViewOf.f
 repeat' first | (with_reducible exact spec_Steps.mono _ _) | (with_reducible exact LeO.refl _) | (with_reducible exact LeO.none _) | (with_reducible refine LeO.ite ?_ ?_) | (with_reducible refine LeO.bind ?_ (fun _ => ?_))
set_option maxHeartbeats 8000000 in
set_option maxRecDepth 100000 in
theorem spec_ViewOf.calls (k : Nat) (a0 : ByteArray) (r : Int) (w : World) (h : spec_ViewOf.f k a0 = some r) :
  Calls Tryz.prog 62 #[.string a0] w fun e w' => e = .returned (.int .i64 r) ∧ Below w.heap.size w w' := by
 have HB := Aside0.mk (Below.refl w.heap.size w)
 have H : ((spec_Steps.f k a0).bind fun bt195 => (if bt195.2 = true then (if (bt195.1.length : Int) = 0 then (some 0) else (if 0 ≤ (wrap64 ((bt195.1.length : Int) - 1)) then (if (wrap64 ((bt195.1.length : Int) - 1)) < (bt195.1.length : Int) then (some ((rd_T112 bt195.1 (wrap64 ((bt195.1.length : Int) - 1))).f0)) else (none)) else (none))) else (some 0))) = some r := h
 clear h; obtain ⟨⟨t195, t196⟩, A20, H⟩ := Option.bind_eq_some_iff.mp H
 try dsimp only at H
 have A2 := Aside0.mk A20; clear A20
 by_cases c3 : t196 = true
 ·
  subst c3
  rw [if_pos rfl] at H
  by_cases c4 : (t195.length : Int) = 0
  ·
   rw [if_pos c4] at H
   have c4b0 : ((t195.length : Int) == 0) = true := beq_iff_eq.mpr c4; have c4b1 : ((t195.length : Int) != 0) = false := bne_eq_false_iff_eq.mpr c4; clear c4; obtain rfl := Option.some.inj H
   go_enter Tryz.func62, Tryz.ntmps62
   go_wp2_with (first | ((with_reducible refine gate_callee (f := 103) rfl ?_); refine gB (some 7) Tryz.func103 #[.string a0] ?_; (with_reducible refine (spec_Steps.calls k a0 t195 true _ A2.out).mono ?_); rintro e w5 ⟨v197, rfl, ho0, hb⟩; refine ⟨_, rfl, ?_⟩; have HO198 := Aside0.mk (Kd.S_lower ho0 (below_size (bI HB.out))); replace HB := bs HB hb; (try clear hb); (try clear ho0); obtain ⟨Ao6, co6, eo6⟩ := Kd.S_slice HO198.out; subst eo6))
   go_ret
   exact ⟨y0_14, bI HB.out⟩
  rw [if_neg c4] at H
  have c4b0 : ((t195.length : Int) == 0) = false := beq_eq_false_iff_ne.mpr c4; have c4b1 : ((t195.length : Int) != 0) = true := bne_iff_ne.mpr c4
  have c4b2 : ¬ (t195 = []) := fun h_ => c4 (by rw [h_]; rfl)
  obtain ⟨ji7, hji7⟩ : ∃ j_ : Int, (wrap64 ((t195.length : Int) - 1)) = j_ := ⟨_, rfl⟩
  replace H : (if 0 ≤ (ji7) then (if (ji7) < (t195.length : Int) then (some ((rd_T112 t195 (ji7)).f0)) else (none)) else (none)) = some r := by first | (rw [hji7] at H; exact H) | (simp only [hji7] at H ⊢; exact H)
  (try rw [hji7] at A2)
  have hji7w : (IntKind.i64.wrap ((t195.length : Int) - 1)) = ji7 := (i64_w _).trans hji7
  by_cases c8 : 0 ≤ (ji7)
  rotate_left
  ·
   rw [if_neg c8] at H
   exact absurd H (by simp)
  rw [if_pos c8] at H
  have c8b0 : decide (0 ≤ (ji7)) = true := decide_eq_true c8; clear c8
  by_cases c9 : (ji7) < (t195.length : Int)
  rotate_left
  ·
   rw [if_neg c9] at H
   exact absurd H (by simp)
  rw [if_pos c9] at H
  have c9b0 : decide ((ji7) < (t195.length : Int)) = true := decide_eq_true c9; clear c9; obtain rfl := Option.some.inj H
  go_enter Tryz.func62, Tryz.ntmps62
  go_wp2_with (first | ((with_reducible refine gate_callee (f := 103) rfl ?_); refine gB (some 7) Tryz.func103 #[.string a0] ?_; (with_reducible refine (spec_Steps.calls k a0 t195 true _ A2.out).mono ?_); rintro e w10 ⟨v197, rfl, ho0, hb⟩; refine ⟨_, rfl, ?_⟩; have HO198 := Aside0.mk (Kd.S_lower ho0 (below_size (bI HB.out))); replace HB := bs HB hb; (try clear hb); (try clear ho0); obtain ⟨Ao11, co11, eo11⟩ := Kd.S_slice HO198.out; subst eo11; have p199 : 0 ≤ ((ji7) : Int) := of_decide_eq_true y0_18; have q199 : (ji7) < (t195.length : Int) := of_decide_eq_true y0_18; obtain ⟨ad199, A199_1, c199_1, e199, hx199_0, hx199_1, hl199_1, hi199_1⟩ := at_T112 (Kd.S_reads' HO198.out).2.2 (ji7) p199 q199; cases e199; obtain ⟨ce199, hce199, hMe199, hcc199⟩ := Kd.S_get HO198.out z112 (ji7) p199 (by first | exact q199 | exact of_decide_eq_true y0_18 | (have e_ := (Kd.S_reads' HO198.out).1; omega)); obtain ⟨ve199_1, rfl, ge199_1⟩ := k112_openM hMe199; have hv199_1 := hcc199 1 _ rfl; rw [add_field _ _ 1 (by omega)] at hv199_1; replace hv199_1 := Option.some.inj (hv199_1.symm.trans hx199_1); rw [hv199_1] at ge199_1; have HL199_1 := Aside0.mk (show Kd.R k99 99 _ _ _ _ ((rd_T112 t195 (ji7)).f1) from ge199_1); clear hv199_1 ge199_1; clear hcc199 hce199; have HR199_1 := Aside0.mk hi199_1; have HC199_1 := Aside0.mk hl199_1; clear hi199_1 hl199_1; replace p199 := eq_true p199; replace q199 := eq_true q199))
  go_ret
  exact ⟨by first | rfl | (simp [errW_none, errW_some] <;> rfl) | (simp only [← hji7]; first | rfl | (simp [errW_none, errW_some] <;> rfl)) | (simp [*, errW_none, errW_some] <;> rfl), bI HB.out⟩
 replace c3 := Bool.eq_false_iff.mpr c3; subst c3
 rw [if_neg (show ¬ (false = true) by decide)] at H
 obtain rfl := Option.some.inj H
 go_enter Tryz.func62, Tryz.ntmps62
 go_wp2_with (first | ((with_reducible refine gate_callee (f := 103) rfl ?_); refine gB (some 7) Tryz.func103 #[.string a0] ?_; (with_reducible refine (spec_Steps.calls k a0 t195 false _ A2.out).mono ?_); rintro e w12 ⟨v197, rfl, ho0, hb⟩; refine ⟨_, rfl, ?_⟩; have HO198 := Aside0.mk (Kd.S_lower ho0 (below_size (bI HB.out))); replace HB := bs HB hb; (try clear hb); (try clear ho0)))
 go_ret
 exact ⟨y0_14, bI HB.out⟩

/-! ### spec_NameOk: function 97 -/
def spec_NameOk.f (k : Nat) (a0 : ByteArray) : Option (Bool) := (spec_Steps.f k a0).bind fun bt200 => (some bt200.2)
theorem spec_NameOk.mono : ∀ a0 k, LeO (spec_NameOk.f k a0) (spec_NameOk.f (k + 1) a0) := by
 intro a0 k
 unfold spec_NameOk.f
 repeat' first | (with_reducible exact spec_Steps.mono _ _) | (with_reducible exact LeO.refl _) | (with_reducible exact LeO.none _) | (with_reducible refine LeO.ite ?_ ?_) | (with_reducible refine LeO.bind ?_ (fun _ => ?_))
set_option maxHeartbeats 8000000 in
set_option maxRecDepth 100000 in
theorem spec_NameOk.calls (k : Nat) (a0 : ByteArray) (r : Bool) (w : World) (h : spec_NameOk.f k a0 = some r) :
  Calls Tryz.prog 97 #[.string a0] w fun e w' => e = .returned (.bool r) ∧ Below w.heap.size w w' := by
 have HB := Aside0.mk (Below.refl w.heap.size w)
 have H : ((spec_Steps.f k a0).bind fun bt200 => (some bt200.2)) = some r := h
 clear h; obtain ⟨⟨t200, t201⟩, A20, H⟩ := Option.bind_eq_some_iff.mp H
 try dsimp only at H
 have A2 := Aside0.mk A20; clear A20; obtain rfl := Option.some.inj H
 go_enter Tryz.func97, Tryz.ntmps97
 go_wp2_with (first | ((with_reducible refine gate_callee (f := 103) rfl ?_); refine gS1 (some 7) Tryz.func103 (spec_Steps.calls (w := _) (h := A2.out)) ?_; intro Ao202 co202 w3 _ HO203))
 go_ret
 exact ⟨y0_19, UpW.out⟩

/-! ### spec_SetOk: function 98 -/
def spec_SetOk.l0 : Nat → Int → List Int → Int → Option (Bool)
 | 0, _, _, _ => none
 | k + 1, x0, x1, x5 => if x5 < (x1.length : Int) then (if 0 ≤ x5 then (if (rd x1 x5) < 0 then (some false) else (if (rd x1 x5) ≥ x0 then (some false) else (if x5 > 0 then (if 0 ≤ (wrap64 (x5 - 1)) then (if (wrap64 (x5 - 1)) < (x1.length : Int) then (if (rd x1 (wrap64 (x5 - 1))) ≥ (rd x1 x5) then (some false) else (spec_SetOk.l0 k x0 x1 (wrap64 (x5 + 1)))) else (none)) else (none)) else (spec_SetOk.l0 k x0 x1 (wrap64 (x5 + 1)))))) else (none)) else (some true)
def spec_SetOk.f (k : Nat) (a0 : Int) (l1 : List Int) : Option (Bool) := spec_SetOk.l0 k a0 l1 0
theorem spec_SetOk.mono_l : ∀ k, (∀ y0 y1 y2, LeO (spec_SetOk.l0 k y0 y1 y2) (spec_SetOk.l0 (k + 1) y0 y1 y2))
 | 0 => fun _ _ _ r h => by simp [spec_SetOk.l0] at h
 | k + 1 => by
  have ih0 := spec_SetOk.mono_l k
  intro y0 y1 y2
  unfold spec_SetOk.l0
  repeat' first | (with_reducible exact ih0 _ _ _) | (with_reducible exact LeO.refl _) | (with_reducible exact LeO.none _) | (with_reducible refine LeO.ite ?_ ?_) | (with_reducible refine LeO.bind ?_ (fun _ => ?_))
theorem spec_SetOk.mono : ∀ a0 a1 k, LeO (spec_SetOk.f k a0 a1) (spec_SetOk.f (k + 1) a0 a1) := by
 intro a0 a1 k
 have ih0 := spec_SetOk.mono_l k
 unfold spec_SetOk.f
 repeat' first | (with_reducible exact ih0 _ _ _) | (with_reducible exact LeO.refl _) | (with_reducible exact LeO.none _) | (with_reducible refine LeO.ite ?_ ?_) | (with_reducible refine LeO.bind ?_ (fun _ => ?_))
set_option maxHeartbeats 8000000 in
set_option maxRecDepth 100000 in
theorem spec_SetOk.calls (k : Nat) (a0 : Int) (A1 : Option Addr) (c1 : Nat) (l1 : List Int) (r : Bool) (w : World) (hr1 : Kd.C (Kd.int .i64) w A1 l1.length l1) (hc1 : l1.length ≤ c1) (h : spec_SetOk.f k a0 l1 = some r) :
  Calls Tryz.prog 98 #[.int .i64 a0, .slice A1 l1.length c1] w fun e w' => e = .returned (.bool r) ∧ Drawn0 w w' := by
 have HR1 := Aside0.mk hr1; have HC1 := Aside0.mk hc1; clear hr1 hc1; have H : (spec_SetOk.l0 k a0 l1 0) = some r := h; clear h; have H' := Aside0.mk H; clear H
 go_enter Tryz.func98, Tryz.ntmps98
 go_wp2
 repeat (go_quiet (fail); try go_wp2)
 go_loopg [5] k (fun kq v5 w' => ∃ (x5_1 : Int), v5 = .int .i64 x5_1 ∧ Aside0 (spec_SetOk.l0 kq a0 l1 x5_1 = some r) ∧ Aside0 (kq ≤ k) ∧ Drawn0 w w')
 case atStart => exact ⟨(0), y0_19, H', ⟨Nat.le_refl _⟩, y0_17⟩
 case round =>
  clear H'
  try clear c1
  try clear p2
  obtain ⟨x5_1, rfl, HA, HK1, ⟨m1, rfl⟩⟩ := hrel; cases gk with
  | zero => exact absurd HA.out (by simp [spec_SetOk.l0])
  | succ k1 =>
   have H := HA.out; clear HA
   simp only [spec_SetOk.l0] at H
   by_cases c3 : x5_1 < (l1.length : Int)
   ·
    rw [if_pos c3] at H
    have c3b0 : decide (x5_1 < (l1.length : Int)) = true := decide_eq_true c3; clear c3
    by_cases c4 : 0 ≤ x5_1
    rotate_left
    ·
     rw [if_neg c4] at H
     exact absurd H (by simp)
    rw [if_pos c4] at H
    have c4b0 : decide (0 ≤ x5_1) = true := decide_eq_true c4; clear c4
    by_cases c5 : (rd l1 x5_1) < 0
    ·
     rw [if_pos c5] at H
     have c5b0 : decide ((rd l1 x5_1) < 0) = true := decide_eq_true c5; clear c5; obtain rfl := Option.some.inj H; have p204 : 0 ≤ (x5_1 : Int) := of_decide_eq_true y0_18; have q204 : x5_1 < (l1.length : Int) := of_decide_eq_true y0_18; obtain ⟨ad204, e204, hx204_0⟩ := Kd.at_int HR1.out x5_1 p204 q204; cases e204; replace p204 := eq_true p204; replace q204 := eq_true q204
     go_wp2
     repeat (go_quiet (fail); try go_wp2)
     go_ret
     exact ⟨y0_19, y0_17⟩
    rw [if_neg c5] at H
    have c5b0 : decide ((rd l1 x5_1) < 0) = false := decide_eq_false c5; clear c5
    by_cases c6 : (rd l1 x5_1) ≥ a0
    ·
     rw [if_pos c6] at H
     have c6b0 : decide (a0 ≤ (rd l1 x5_1)) = true := decide_eq_true c6; clear c6; obtain rfl := Option.some.inj H; have p204 : 0 ≤ (x5_1 : Int) := of_decide_eq_true y0_18; have q204 : x5_1 < (l1.length : Int) := of_decide_eq_true y0_18; obtain ⟨ad204, e204, hx204_0⟩ := Kd.at_int HR1.out x5_1 p204 q204; cases e204; replace p204 := eq_true p204; replace q204 := eq_true q204; have p205 : 0 ≤ (x5_1 : Int) := of_decide_eq_true y0_18; have q205 : x5_1 < (l1.length : Int) := of_decide_eq_true y0_18; obtain ⟨ad205, e205, hx205_0⟩ := Kd.at_int HR1.out x5_1 p205 q205
     obtain rfl : ad204 = ad205 := (by injection e205)
     replace p205 := eq_true p205; replace q205 := eq_true q205
     go_wp2
     repeat (go_quiet (fail); try go_wp2)
     go_ret
     exact ⟨y0_19, y0_17⟩
    rw [if_neg c6] at H
    have c6b0 : decide (a0 ≤ (rd l1 x5_1)) = false := decide_eq_false c6; clear c6
    by_cases c7 : x5_1 > 0
    ·
     rw [if_pos c7] at H
     have c7b0 : decide (0 < x5_1) = true := decide_eq_true c7; clear c7; obtain ⟨ji8, hji8⟩ : ∃ j_ : Int, (wrap64 (x5_1 - 1)) = j_ := ⟨_, rfl⟩
     replace H : (if 0 ≤ (ji8) then (if (ji8) < (l1.length : Int) then (if (rd l1 (ji8)) ≥ (rd l1 x5_1) then (some false) else (spec_SetOk.l0 k1 a0 l1 (wrap64 (x5_1 + 1)))) else (none)) else (none)) = some r := by first | (rw [hji8] at H; exact H) | (simp only [hji8] at H ⊢; exact H)
     have hji8w : (IntKind.i64.wrap (x5_1 - 1)) = ji8 := (i64_w _).trans hji8
     by_cases c9 : 0 ≤ (ji8)
     rotate_left
     ·
      rw [if_neg c9] at H
      exact absurd H (by simp)
     rw [if_pos c9] at H
     have c9b0 : decide (0 ≤ (ji8)) = true := decide_eq_true c9; clear c9
     by_cases c10 : (ji8) < (l1.length : Int)
     rotate_left
     ·
      rw [if_neg c10] at H
      exact absurd H (by simp)
     rw [if_pos c10] at H
     have c10b0 : decide ((ji8) < (l1.length : Int)) = true := decide_eq_true c10; clear c10
     by_cases c11 : (rd l1 (ji8)) ≥ (rd l1 x5_1)
     ·
      rw [if_pos c11] at H
      have c11b0 : decide ((rd l1 x5_1) ≤ (rd l1 (ji8))) = true := decide_eq_true c11; clear c11; obtain rfl := Option.some.inj H; have p204 : 0 ≤ (x5_1 : Int) := of_decide_eq_true y0_18; have q204 : x5_1 < (l1.length : Int) := of_decide_eq_true y0_18; obtain ⟨ad204, e204, hx204_0⟩ := Kd.at_int HR1.out x5_1 p204 q204; cases e204; replace p204 := eq_true p204; replace q204 := eq_true q204; have p205 : 0 ≤ (x5_1 : Int) := of_decide_eq_true y0_18; have q205 : x5_1 < (l1.length : Int) := of_decide_eq_true y0_18; obtain ⟨ad205, e205, hx205_0⟩ := Kd.at_int HR1.out x5_1 p205 q205
      obtain rfl : ad204 = ad205 := (by injection e205)
      replace p205 := eq_true p205; replace q205 := eq_true q205; have p206 : 0 ≤ ((ji8) : Int) := of_decide_eq_true y0_18; have q206 : (ji8) < (l1.length : Int) := of_decide_eq_true y0_18; obtain ⟨ad206, e206, hx206_0⟩ := Kd.at_int HR1.out (ji8) p206 q206
      obtain rfl : ad204 = ad206 := (by injection e206)
      replace p206 := eq_true p206; replace q206 := eq_true q206; have p207 : 0 ≤ (x5_1 : Int) := of_decide_eq_true y0_18; have q207 : x5_1 < (l1.length : Int) := of_decide_eq_true y0_18; obtain ⟨ad207, e207, hx207_0⟩ := Kd.at_int HR1.out x5_1 p207 q207
      obtain rfl : ad204 = ad207 := (by injection e207)
      replace p207 := eq_true p207; replace q207 := eq_true q207
      go_wp2
      repeat (go_quiet (fail); try go_wp2)
      go_ret
      exact ⟨by first | rfl | (simp; done) | (simp only [← hji8] <;> (first | rfl | simp)) | (simp [*]; done), y0_17⟩
     rw [if_neg c11] at H
     have c11b0 : decide ((rd l1 x5_1) ≤ (rd l1 (ji8))) = false := decide_eq_false c11; clear c11; have H' := Aside0.mk H; clear H; have p204 : 0 ≤ (x5_1 : Int) := of_decide_eq_true y0_18; have q204 : x5_1 < (l1.length : Int) := of_decide_eq_true y0_18; obtain ⟨ad204, e204, hx204_0⟩ := Kd.at_int HR1.out x5_1 p204 q204; cases e204; replace p204 := eq_true p204; replace q204 := eq_true q204; have p205 : 0 ≤ (x5_1 : Int) := of_decide_eq_true y0_18; have q205 : x5_1 < (l1.length : Int) := of_decide_eq_true y0_18; obtain ⟨ad205, e205, hx205_0⟩ := Kd.at_int HR1.out x5_1 p205 q205
     obtain rfl : ad204 = ad205 := (by injection e205)
     replace p205 := eq_true p205; replace q205 := eq_true q205; have p206 : 0 ≤ ((ji8) : Int) := of_decide_eq_true y0_18; have q206 : (ji8) < (l1.length : Int) := of_decide_eq_true y0_18; obtain ⟨ad206, e206, hx206_0⟩ := Kd.at_int HR1.out (ji8) p206 q206
     obtain rfl : ad204 = ad206 := (by injection e206)
     replace p206 := eq_true p206; replace q206 := eq_true q206; have p207 : 0 ≤ (x5_1 : Int) := of_decide_eq_true y0_18; have q207 : x5_1 < (l1.length : Int) := of_decide_eq_true y0_18; obtain ⟨ad207, e207, hx207_0⟩ := Kd.at_int HR1.out x5_1 p207 q207
     obtain rfl : ad204 = ad207 := (by injection e207)
     replace p207 := eq_true p207; replace q207 := eq_true q207
     go_wp2
     repeat (go_quiet (fail); try go_wp2)
     go_roundg k1
     case measure => have := HK1.out; omega
     case rel => exact ⟨(wrap64 (x5_1 + 1)), y0_19, H', ⟨y0_21⟩, y0_17⟩
    rw [if_neg c7] at H
    have c7b0 : decide (0 < x5_1) = false := decide_eq_false c7; clear c7; have H' := Aside0.mk H; clear H; have p204 : 0 ≤ (x5_1 : Int) := of_decide_eq_true y0_18; have q204 : x5_1 < (l1.length : Int) := of_decide_eq_true y0_18; obtain ⟨ad204, e204, hx204_0⟩ := Kd.at_int HR1.out x5_1 p204 q204; cases e204; replace p204 := eq_true p204; replace q204 := eq_true q204; have p205 : 0 ≤ (x5_1 : Int) := of_decide_eq_true y0_18; have q205 : x5_1 < (l1.length : Int) := of_decide_eq_true y0_18; obtain ⟨ad205, e205, hx205_0⟩ := Kd.at_int HR1.out x5_1 p205 q205
    obtain rfl : ad204 = ad205 := (by injection e205)
    replace p205 := eq_true p205; replace q205 := eq_true q205
    go_wp2
    repeat (go_quiet (fail); try go_wp2)
    go_roundg k1
    case measure => have := HK1.out; omega
    case rel => exact ⟨(wrap64 (x5_1 + 1)), y0_19, H', ⟨y0_21⟩, y0_17⟩
   rw [if_neg c3] at H
   have c3b0 : decide (x5_1 < (l1.length : Int)) = false := decide_eq_false c3; clear c3; obtain rfl := Option.some.inj H
   go_wp2
   repeat (go_quiet (fail); try go_wp2)
   go_ret
   exact ⟨y0_19, y0_17⟩

/-! ### spec_QcOk: function 49 -/
def spec_QcOk.f (k : Nat) (a0_0 : Int) (a0_1 : Int) (a1_0 : Int) (a1_1 : ByteArray) (l1_2 : List Int) : Option (Bool) := (spec_ConfOk.f a0_0 a0_1).bind fun t210 => (if t210 = true then ((spec_NameOk.f k a1_1).bind fun t211 => (if t211 = true then ((spec_ViewOf.f k a1_1).bind fun t212 => (if t212 = a1_0 then (if a1_1.toList = ([] : List UInt8) then (some ((l1_2.length : Int) == 0)) else ((spec_SetOk.f k a0_0 l1_2).bind fun t213 => (if t213 = true then ((spec_Quorum.f a0_0 a0_1).bind fun t214 => (some (decide ((l1_2.length : Int) ≥ t214)))) else (some false)))) else (some false))) else (some false))) else (some false))
theorem spec_QcOk.mono : ∀ a0 a1 a2 a3 a4 k, LeO (spec_QcOk.f k a0 a1 a2 a3 a4) (spec_QcOk.f (k + 1) a0 a1 a2 a3 a4) := by
 intro a0 a1 a2 a3 a4 k
 unfold spec_QcOk.f
 repeat' first | (with_reducible exact spec_NameOk.mono _ _) | (with_reducible exact spec_SetOk.mono _ _ _) | (with_reducible exact spec_ViewOf.mono _ _) | (with_reducible exact LeO.refl _) | (with_reducible exact LeO.none _) | (with_reducible refine LeO.ite ?_ ?_) | (with_reducible refine LeO.bind ?_ (fun _ => ?_))
def spec_QcOk.T1 : Bool × List (List Nat × List Nat) := (true, [([], []), ([0], [0]), ([1], [1]), ([2, 1], [2]), ([3], [3]), ([4, 3], [3, 4]), ([5, 3, 3], [3, 5]), ([6, 3], [3, 6]), ([3, 7], [3, 7]), ([8, 6], [8]), ([9], [9]), ([10, 9], [9, 10]), ([11, 9, 9], [9, 11]), ([9], [9]), ([13, 9], [9, 13]), ([12, 14, 9], [9, 12, 14]), ([9, 15], [9, 15])])
def spec_QcOk.B1 : List Nat := [0, 1, 3, 7, 15, 31, 63, 127, 255, 511, 1023, 2047, 4095, 1023, 9215, 32767, 65535]
theorem spec_QcOk.tab1 : rtab .any (opsOf Tryz.f49 1) = spec_QcOk.T1 := by kernel_rfl
theorem spec_QcOk.bits1 : waitsOk spec_QcOk.T1.2 spec_QcOk.B1 = true := by kernel_rfl
def spec_QcOk.T5 : Bool × List (List Nat × List Nat) := (true, [([], []), ([0], [0]), ([], []), ([2], [2]), ([1, 3], [1, 3]), ([4, 4], [4]), ([5], [5]), ([6, 5], [5, 6]), ([7, 5], [5, 7]), ([5], [5]), ([9, 5, 5], [5, 9]), ([8, 10, 5], [5, 8, 10]), ([5, 11], [5, 11]), ([12, 10, 0, 1, 2, 3, 4, 5, 6, 7, 8, 9, 10, 11, 12], [12])])
def spec_QcOk.B5 : List Nat := [0, 1, 0, 4, 15, 31, 63, 127, 255, 63, 575, 2047, 4095, 8191]
theorem spec_QcOk.tab5 : rtab .any (opsOf Tryz.f49 5) = spec_QcOk.T5 := by kernel_rfl
theorem spec_QcOk.bits5 : waitsOk spec_QcOk.T5.2 spec_QcOk.B5 = true := by kernel_rfl
set_option maxHeartbeats 8000000 in
set_option maxRecDepth 100000 in
theorem spec_QcOk.calls (k : Nat) (a0_0 : Int) (a0_1 : Int) (a1_0 : Int) (a1_1 : ByteArray) (A1_2 : Option Addr) (c1_2 : Nat) (l1_2 : List Int) (r : Bool) (w : World) (hr1_2 : Kd.C (Kd.int .i64) w A1_2 l1_2.length l1_2) (hc1_2 : l1_2.length ≤ c1_2) (h : spec_QcOk.f k a0_0 a0_1 a1_0 a1_1 l1_2 = some r) :
  Calls Tryz.prog 49 #[.agg #[.int .i64 a0_0, .int .i64 a0_1], .agg #[.int .i64 a1_0, .string a1_1, .slice A1_2 l1_2.length c1_2]] w fun e w' => e = .returned (.bool r) ∧ Below w.heap.size w w' := by
 have hu38 := Tryz.underlying38; have hu33 := Tryz.underlying33; have HR1_2 := Aside0.mk hr1_2; have HC1_2 := Aside0.mk hc1_2; clear hr1_2 hc1_2; have HB := Aside0.mk (Below.refl w.heap.size w)
 have H : ((spec_ConfOk.f a0_0 a0_1).bind fun t210 => (if t210 = true then ((spec_NameOk.f k a1_1).bind fun t211 => (if t211 = true then ((spec_ViewOf.f k a1_1).bind fun t212 => (if t212 = a1_0 then (if a1_1.toList = ([] : List UInt8) then (some ((l1_2.length : Int) == 0)) else ((spec_SetOk.f k a0_0 l1_2).bind fun t213 => (if t213 = true then ((spec_Quorum.f a0_0 a0_1).bind fun t214 => (some (decide ((l1_2.length : Int) ≥ t214)))) else (some false)))) else (some false))) else (some false))) else (some false))) = some r := h
 clear h; obtain ⟨t210, A30, H⟩ := Option.bind_eq_some_iff.mp H
 try dsimp only at H
 have A3 := Aside0.mk A30; clear A30
 by_cases c4 : t210 = true
 ·
  subst c4
  rw [if_pos rfl] at H
  obtain ⟨t211, A50, H⟩ := Option.bind_eq_some_iff.mp H
  try dsimp only at H
  have A5 := Aside0.mk A50; clear A50
  by_cases c6 : t211 = true
  ·
   subst c6
   rw [if_pos rfl] at H
   obtain ⟨t212, A70, H⟩ := Option.bind_eq_some_iff.mp H
   try dsimp only at H
   have A7 := Aside0.mk A70; clear A70
   by_cases c8 : t212 = a1_0
   ·
    rw [if_pos c8] at H
    have c8b0 : (t212 == a1_0) = true := beq_iff_eq.mpr c8; have c8b1 : (t212 != a1_0) = false := bne_eq_false_iff_eq.mpr c8; clear c8
    by_cases c9 : a1_1.toList = ([] : List UInt8)
    ·
     rw [if_pos c9] at H
     have c9b0 : (a1_1.toList == ([] : List UInt8)) = true := beq_iff_eq.mpr c9; have c9b1 : (a1_1.toList != ([] : List UInt8)) = false := bne_eq_false_iff_eq.mpr c9; clear c9; obtain rfl := Option.some.inj H
     go_enter Tryz.func49, Tryz.ntmps49
     try go_wp2_with (first | ((with_reducible refine gd 2 ?_); refine bL 2 #[.int .i64 a0_0, .int .i64 a0_1] 38 ?_; intro gb208 w10 _ _ _) | ((with_reducible refine gd 3 ?_); refine bL 3 #[.int .i64 a1_0, .string a1_1, .slice A1_2 l1_2.length c1_2] 33 ?_; intro gb209 w11 _ _ _))
     refine sB [] spec_QcOk.tab1 spec_QcOk.bits1 ?_; intro w12 _ HT_ HW_
     refine tB 0 (some 5) (bz 17 1) HT_ HW_ ?_
     refine o1 1 (some 6) (bz 17 3) HT_ rfl (kC Tryz.func55 (spec_ConfOk.calls (w := _) (h := A3.out)) ?_); intro w13 _
     refine nA (some 6) ?_
     refine pA 2 (some 7) (bz 17 7) HT_ ?_
     refine pA 3 (some 8) (bz 17 15) HT_ ?_
     refine pA 4 (some 9) (bz 17 31) HT_ ?_
     refine tB 5 (some 10) (bz 17 63) HT_ HW_ ?_
     refine o1 6 (some 11) (bz 17 127) HT_ rfl (kC Tryz.func97 (spec_NameOk.calls (w := _) (h := A5.out)) ?_); intro w14 _
     refine nA (some 11) ?_
     refine pA 7 (some 12) (bz 17 255) HT_ ?_
     refine pA 8 (some 13) (bz 17 511) HT_ ?_
     refine pA 9 (some 14) (bz 17 1023) HT_ ?_
     refine pA 10 (some 15) (bz 17 2047) HT_ ?_
     refine tB 11 (some 16) (bz 17 4095) HT_ HW_ ?_
     refine pA 13 (some 18) (bz 17 0x2fff) HT_ ?_
     refine tB 14 (some 19) (bz 17 0x6fff) HT_ HW_ ?_
     refine o1 12 (some 17) (bz 17 0x7fff) HT_ rfl (kC Tryz.func62 (spec_ViewOf.calls (w := _) (h := A7.out)) ?_); intro w15 _
     refine nA (some 17) ?_
     refine pA 15 (some 20) (bz 17 0xffff) HT_ ?_
     refine pA 16 (some 21) (bz 17 0x1ffff) HT_ ?_
     refine done_ (done_of HT_.out (by kernel_rfl)) ?_
     try go_wp2
     go_ret
     exact ⟨y0_19, UpW.out⟩
    rw [if_neg c9] at H
    have c9b0 : (a1_1.toList == ([] : List UInt8)) = false := beq_eq_false_iff_ne.mpr c9; have c9b1 : (a1_1.toList != ([] : List UInt8)) = true := bne_iff_ne.mpr c9; obtain ⟨t213, A160, H⟩ := Option.bind_eq_some_iff.mp H
    try dsimp only at H
    have A16 := Aside0.mk A160; clear A160
    by_cases c17 : t213 = true
    ·
     subst c17
     rw [if_pos rfl] at H
     obtain ⟨t214, A180, H⟩ := Option.bind_eq_some_iff.mp H
     try dsimp only at H
     have A18 := Aside0.mk A180; clear A180; obtain rfl := Option.some.inj H
     go_enter Tryz.func49, Tryz.ntmps49
     try go_wp2_with (first | ((with_reducible refine gd 2 ?_); refine bL 2 #[.int .i64 a0_0, .int .i64 a0_1] 38 ?_; intro gb208 w19 _ _ _) | ((with_reducible refine gd 3 ?_); refine bL 3 #[.int .i64 a1_0, .string a1_1, .slice A1_2 l1_2.length c1_2] 33 ?_; intro gb209 w20 _ _ _))
     refine sB [] spec_QcOk.tab1 spec_QcOk.bits1 ?_; intro w21 _ HT_ HW_
     refine tB 0 (some 5) (bz 17 1) HT_ HW_ ?_
     refine o1 1 (some 6) (bz 17 3) HT_ rfl (kC Tryz.func55 (spec_ConfOk.calls (w := _) (h := A3.out)) ?_); intro w22 _
     refine nA (some 6) ?_
     refine pA 2 (some 7) (bz 17 7) HT_ ?_
     refine pA 3 (some 8) (bz 17 15) HT_ ?_
     refine pA 4 (some 9) (bz 17 31) HT_ ?_
     refine tB 5 (some 10) (bz 17 63) HT_ HW_ ?_
     refine o1 6 (some 11) (bz 17 127) HT_ rfl (kC Tryz.func97 (spec_NameOk.calls (w := _) (h := A5.out)) ?_); intro w23 _
     refine nA (some 11) ?_
     refine pA 7 (some 12) (bz 17 255) HT_ ?_
     refine pA 8 (some 13) (bz 17 511) HT_ ?_
     refine pA 9 (some 14) (bz 17 1023) HT_ ?_
     refine pA 10 (some 15) (bz 17 2047) HT_ ?_
     refine tB 11 (some 16) (bz 17 4095) HT_ HW_ ?_
     refine pA 13 (some 18) (bz 17 0x2fff) HT_ ?_
     refine tB 14 (some 19) (bz 17 0x6fff) HT_ HW_ ?_
     refine o1 12 (some 17) (bz 17 0x7fff) HT_ rfl (kC Tryz.func62 (spec_ViewOf.calls (w := _) (h := A7.out)) ?_); intro w24 _
     refine nA (some 17) ?_
     refine pA 15 (some 20) (bz 17 0xffff) HT_ ?_
     refine pA 16 (some 21) (bz 17 0x1ffff) HT_ ?_
     refine done_ (done_of HT_.out (by kernel_rfl)) ?_
     try go_wp2
     refine sB [] spec_QcOk.tab5 spec_QcOk.bits5 ?_; intro w25 _ HT_ HW_
     refine pA 0 (some 29) (bz 14 1) HT_ ?_
     refine tB 1 (some 30) (bz 14 3) HT_ HW_ ?_
     refine pA 2 (some 31) (bz 14 7) HT_ ?_
     refine tB 3 (some 32) (bz 14 15) HT_ HW_ ?_
     refine o1 4 (some 33) (bz 14 31) HT_ rfl (kD Tryz.func98 (spec_SetOk.calls (hr1 := pC HR1_2) (hc1 := HC1_2.out) (w := _) (h := A16.out)) ?_); intro w26 _
     refine nA (some 33) ?_
     refine pA 5 (some 34) (bz 14 63) HT_ ?_
     refine pA 6 (some 35) (bz 14 127) HT_ ?_
     refine tB 7 (some 36) (bz 14 255) HT_ HW_ ?_
     refine pA 8 (some 37) (bz 14 511) HT_ ?_
     refine tB 9 (some 38) (bz 14 1023) HT_ HW_ ?_
     refine o1 10 (some 39) (bz 14 2047) HT_ rfl (kC Tryz.func53 (spec_Quorum.calls (w := _) (h := A18.out)) ?_); intro w27 _
     refine nA (some 39) ?_
     refine pA 11 (some 40) (bz 14 4095) HT_ ?_
     refine pA 12 (some 41) (bz 14 0x1fff) HT_ ?_
     refine pA 13 (some 4) (bz 14 0x3fff) HT_ ?_
     refine done_ (done_of HT_.out (by kernel_rfl)) ?_
     try go_wp2
     go_ret
     exact ⟨y0_19, UpW.out⟩
    replace c17 := Bool.eq_false_iff.mpr c17; subst c17
    rw [if_neg (show ¬ (false = true) by decide)] at H
    obtain rfl := Option.some.inj H
    go_enter Tryz.func49, Tryz.ntmps49
    try go_wp2_with (first | ((with_reducible refine gd 2 ?_); refine bL 2 #[.int .i64 a0_0, .int .i64 a0_1] 38 ?_; intro gb208 w28 _ _ _) | ((with_reducible refine gd 3 ?_); refine bL 3 #[.int .i64 a1_0, .string a1_1, .slice A1_2 l1_2.length c1_2] 33 ?_; intro gb209 w29 _ _ _))
    refine sB [] spec_QcOk.tab1 spec_QcOk.bits1 ?_; intro w30 _ HT_ HW_
    refine tB 0 (some 5) (bz 17 1) HT_ HW_ ?_
    refine o1 1 (some 6) (bz 17 3) HT_ rfl (kC Tryz.func55 (spec_ConfOk.calls (w := _) (h := A3.out)) ?_); intro w31 _
    refine nA (some 6) ?_
    refine pA 2 (some 7) (bz 17 7) HT_ ?_
    refine pA 3 (some 8) (bz 17 15) HT_ ?_
    refine pA 4 (some 9) (bz 17 31) HT_ ?_
    refine tB 5 (some 10) (bz 17 63) HT_ HW_ ?_
    refine o1 6 (some 11) (bz 17 127) HT_ rfl (kC Tryz.func97 (spec_NameOk.calls (w := _) (h := A5.out)) ?_); intro w32 _
    refine nA (some 11) ?_
    refine pA 7 (some 12) (bz 17 255) HT_ ?_
    refine pA 8 (some 13) (bz 17 511) HT_ ?_
    refine pA 9 (some 14) (bz 17 1023) HT_ ?_
    refine pA 10 (some 15) (bz 17 2047) HT_ ?_
    refine tB 11 (some 16) (bz 17 4095) HT_ HW_ ?_
    refine pA 13 (some 18) (bz 17 0x2fff) HT_ ?_
    refine tB 14 (some 19) (bz 17 0x6fff) HT_ HW_ ?_
    refine o1 12 (some 17) (bz 17 0x7fff) HT_ rfl (kC Tryz.func62 (spec_ViewOf.calls (w := _) (h := A7.out)) ?_); intro w33 _
    refine nA (some 17) ?_
    refine pA 15 (some 20) (bz 17 0xffff) HT_ ?_
    refine pA 16 (some 21) (bz 17 0x1ffff) HT_ ?_
    refine done_ (done_of HT_.out (by kernel_rfl)) ?_
    try go_wp2
    refine sB [] spec_QcOk.tab5 spec_QcOk.bits5 ?_; intro w34 _ HT_ HW_
    refine pA 0 (some 29) (bz 14 1) HT_ ?_
    refine tB 1 (some 30) (bz 14 3) HT_ HW_ ?_
    refine pA 2 (some 31) (bz 14 7) HT_ ?_
    refine tB 3 (some 32) (bz 14 15) HT_ HW_ ?_
    refine o1 4 (some 33) (bz 14 31) HT_ rfl (kD Tryz.func98 (spec_SetOk.calls (hr1 := pC HR1_2) (hc1 := HC1_2.out) (w := _) (h := A16.out)) ?_); intro w35 _
    refine nA (some 33) ?_
    refine pA 5 (some 34) (bz 14 63) HT_ ?_
    refine pU 6 (some 35) (bz 14 127) HT_ ?_
    refine pU 7 (some 36) (bz 14 255) HT_ ?_
    refine pU 8 (some 37) (bz 14 511) HT_ ?_
    refine pU 9 (some 38) (bz 14 1023) HT_ ?_
    refine pU 10 (some 39) (bz 14 2047) HT_ ?_
    refine pU 11 (some 40) (bz 14 4095) HT_ ?_
    refine pA 12 (some 41) (bz 14 0x1fff) HT_ ?_
    refine pA 13 (some 4) (bz 14 0x3fff) HT_ ?_
    refine done_ (done_of HT_.out (by kernel_rfl)) ?_
    try go_wp2
    go_ret
    exact ⟨y0_19, UpW.out⟩
   rw [if_neg c8] at H
   have c8b0 : (t212 == a1_0) = false := beq_eq_false_iff_ne.mpr c8; have c8b1 : (t212 != a1_0) = true := bne_iff_ne.mpr c8; obtain rfl := Option.some.inj H
   go_enter Tryz.func49, Tryz.ntmps49
   try go_wp2_with (first | ((with_reducible refine gd 2 ?_); refine bL 2 #[.int .i64 a0_0, .int .i64 a0_1] 38 ?_; intro gb208 w36 _ _ _) | ((with_reducible refine gd 3 ?_); refine bL 3 #[.int .i64 a1_0, .string a1_1, .slice A1_2 l1_2.length c1_2] 33 ?_; intro gb209 w37 _ _ _))
   refine sB [] spec_QcOk.tab1 spec_QcOk.bits1 ?_; intro w38 _ HT_ HW_
   refine tB 0 (some 5) (bz 17 1) HT_ HW_ ?_
   refine o1 1 (some 6) (bz 17 3) HT_ rfl (kC Tryz.func55 (spec_ConfOk.calls (w := _) (h := A3.out)) ?_); intro w39 _
   refine nA (some 6) ?_
   refine pA 2 (some 7) (bz 17 7) HT_ ?_
   refine pA 3 (some 8) (bz 17 15) HT_ ?_
   refine pA 4 (some 9) (bz 17 31) HT_ ?_
   refine tB 5 (some 10) (bz 17 63) HT_ HW_ ?_
   refine o1 6 (some 11) (bz 17 127) HT_ rfl (kC Tryz.func97 (spec_NameOk.calls (w := _) (h := A5.out)) ?_); intro w40 _
   refine nA (some 11) ?_
   refine pA 7 (some 12) (bz 17 255) HT_ ?_
   refine pA 8 (some 13) (bz 17 511) HT_ ?_
   refine pA 9 (some 14) (bz 17 1023) HT_ ?_
   refine pA 10 (some 15) (bz 17 2047) HT_ ?_
   refine tB 11 (some 16) (bz 17 4095) HT_ HW_ ?_
   refine pA 13 (some 18) (bz 17 0x2fff) HT_ ?_
   refine tB 14 (some 19) (bz 17 0x6fff) HT_ HW_ ?_
   refine o1 12 (some 17) (bz 17 0x7fff) HT_ rfl (kC Tryz.func62 (spec_ViewOf.calls (w := _) (h := A7.out)) ?_); intro w41 _
   refine nA (some 17) ?_
   refine pA 15 (some 20) (bz 17 0xffff) HT_ ?_
   refine pA 16 (some 21) (bz 17 0x1ffff) HT_ ?_
   refine done_ (done_of HT_.out (by kernel_rfl)) ?_
   try go_wp2
   go_ret
   exact ⟨y0_19, UpW.out⟩
  replace c6 := Bool.eq_false_iff.mpr c6; subst c6
  rw [if_neg (show ¬ (false = true) by decide)] at H
  obtain rfl := Option.some.inj H
  go_enter Tryz.func49, Tryz.ntmps49
  try go_wp2_with (first | ((with_reducible refine gd 2 ?_); refine bL 2 #[.int .i64 a0_0, .int .i64 a0_1] 38 ?_; intro gb208 w42 _ _ _) | ((with_reducible refine gd 3 ?_); refine bL 3 #[.int .i64 a1_0, .string a1_1, .slice A1_2 l1_2.length c1_2] 33 ?_; intro gb209 w43 _ _ _))
  refine sB [] spec_QcOk.tab1 spec_QcOk.bits1 ?_; intro w44 _ HT_ HW_
  refine tB 0 (some 5) (bz 17 1) HT_ HW_ ?_
  refine o1 1 (some 6) (bz 17 3) HT_ rfl (kC Tryz.func55 (spec_ConfOk.calls (w := _) (h := A3.out)) ?_); intro w45 _
  refine nA (some 6) ?_
  refine pA 2 (some 7) (bz 17 7) HT_ ?_
  refine pA 3 (some 8) (bz 17 15) HT_ ?_
  refine pA 4 (some 9) (bz 17 31) HT_ ?_
  refine tB 5 (some 10) (bz 17 63) HT_ HW_ ?_
  refine o1 6 (some 11) (bz 17 127) HT_ rfl (kC Tryz.func97 (spec_NameOk.calls (w := _) (h := A5.out)) ?_); intro w46 _
  refine nA (some 11) ?_
  refine pA 7 (some 12) (bz 17 255) HT_ ?_
  refine pA 8 (some 13) (bz 17 511) HT_ ?_
  refine pA 9 (some 14) (bz 17 1023) HT_ ?_
  refine pU 10 (some 15) (bz 17 2047) HT_ ?_
  refine pU 11 (some 16) (bz 17 4095) HT_ ?_
  refine pU 12 (some 17) (bz 17 0x1fff) HT_ ?_
  refine pU 13 (some 18) (bz 17 0x3fff) HT_ ?_
  refine pU 14 (some 19) (bz 17 0x7fff) HT_ ?_
  refine pU 15 (some 20) (bz 17 0xffff) HT_ ?_
  refine pA 16 (some 21) (bz 17 0x1ffff) HT_ ?_
  refine done_ (done_of HT_.out (by kernel_rfl)) ?_
  try go_wp2
  go_ret
  exact ⟨y0_19, UpW.out⟩
 replace c4 := Bool.eq_false_iff.mpr c4; subst c4
 rw [if_neg (show ¬ (false = true) by decide)] at H
 obtain rfl := Option.some.inj H
 go_enter Tryz.func49, Tryz.ntmps49
 try go_wp2_with (first | ((with_reducible refine gd 2 ?_); refine bL 2 #[.int .i64 a0_0, .int .i64 a0_1] 38 ?_; intro gb208 w47 _ _ _) | ((with_reducible refine gd 3 ?_); refine bL 3 #[.int .i64 a1_0, .string a1_1, .slice A1_2 l1_2.length c1_2] 33 ?_; intro gb209 w48 _ _ _))
 refine sB [] spec_QcOk.tab1 spec_QcOk.bits1 ?_; intro w49 _ HT_ HW_
 refine tB 0 (some 5) (bz 17 1) HT_ HW_ ?_
 refine o1 1 (some 6) (bz 17 3) HT_ rfl (kC Tryz.func55 (spec_ConfOk.calls (w := _) (h := A3.out)) ?_); intro w50 _
 refine nA (some 6) ?_
 refine pA 2 (some 7) (bz 17 7) HT_ ?_
 refine pA 3 (some 8) (bz 17 15) HT_ ?_
 refine pU 4 (some 9) (bz 17 31) HT_ ?_
 refine pU 5 (some 10) (bz 17 63) HT_ ?_
 refine pU 6 (some 11) (bz 17 127) HT_ ?_
 refine pU 7 (some 12) (bz 17 255) HT_ ?_
 refine pA 8 (some 13) (bz 17 511) HT_ ?_
 refine pA 9 (some 14) (bz 17 1023) HT_ ?_
 refine pU 10 (some 15) (bz 17 2047) HT_ ?_
 refine pU 11 (some 16) (bz 17 4095) HT_ ?_
 refine pU 12 (some 17) (bz 17 0x1fff) HT_ ?_
 refine pU 13 (some 18) (bz 17 0x3fff) HT_ ?_
 refine pU 14 (some 19) (bz 17 0x7fff) HT_ ?_
 refine pU 15 (some 20) (bz 17 0xffff) HT_ ?_
 refine pA 16 (some 21) (bz 17 0x1ffff) HT_ ?_
 refine done_ (done_of HT_.out (by kernel_rfl)) ?_
 try go_wp2
 go_ret
 exact ⟨y0_19, UpW.out⟩

/-! ### spec_l7Copy: function 79 -/
def spec_l7Copy.f (a0_0 : Int) (a0_1 : ByteArray) (l0_2 : List Int) : Option (Int × ByteArray × List Int) := (some (([] : List Int) : List Int)).bind fun y217 => (if y217.length + l0_2.length < 17592186044416 then (some (a0_0, a0_1, (y217 ++ l0_2))) else (none))
set_option maxHeartbeats 8000000 in
set_option maxRecDepth 100000 in
theorem spec_l7Copy.calls (a0_0 : Int) (a0_1 : ByteArray) (A0_2 : Option Addr) (c0_2 : Nat) (l0_2 : List Int) (r1 : Int) (r2 : ByteArray) (r3 : List Int) (w : World) (hr0_2 : Kd.C (Kd.int .i64) w A0_2 l0_2.length l0_2) (hc0_2 : l0_2.length ≤ c0_2) (h : spec_l7Copy.f a0_0 a0_1 l0_2 = some (r1, r2, r3)) :
  Calls Tryz.prog 79 #[.agg #[.int .i64 a0_0, .string a0_1, .slice A0_2 l0_2.length c0_2]] w fun e w' => ∃ v2_ : Value, e = .returned (.agg #[.int .i64 r1, .string r2, v2_]) ∧ Kd.R (Kd.int .i64) 3 w' w.heap.size (fun _ => True) v2_ r3 ∧ Below w.heap.size w w' := by
 have hu33 := Tryz.underlying33; have HR0_2 := Aside0.mk hr0_2; have HC0_2 := Aside0.mk hc0_2; clear hr0_2 hc0_2; have HB := Aside0.mk (Below.refl w.heap.size w)
 have H : ((some (([] : List Int) : List Int)).bind fun y217 => (if y217.length + l0_2.length < 17592186044416 then (some (a0_0, a0_1, (y217 ++ l0_2))) else (none))) = some (r1, r2, r3) := h
 clear h; obtain ⟨y217, hy217⟩ : ∃ y_ : List Int, y_ = (([] : List Int)) := ⟨_, rfl⟩
 replace H : (if y217.length + l0_2.length < 17592186044416 then (some (a0_0, a0_1, (y217 ++ l0_2))) else (none)) = some (r1, r2, r3) := by first | (rw [hy217]; with_reducible exact H) | (have H2_ := (Option.bind_some _ _).symm.trans H; rw [hy217]; with_reducible exact H2_) | (have H2_ := (Option.bind_some _ _).symm.trans H; with_reducible exact H2_) | with_reducible exact H | (rw [hy217]; exact H) | exact H
 have Ny217 := Aside0.mk hy217; clear hy217
 by_cases c2 : y217.length + l0_2.length < 17592186044416
 ·
  rw [if_pos c2] at H
  have LMc2 := Aside0.mk c2; clear c2; obtain ⟨y220, hy220⟩ : ∃ y_ : List Int, y_ = (y217 ++ l0_2) := ⟨_, rfl⟩
  replace H : (some (a0_0, a0_1, y220)) = some (r1, r2, r3) := by first | (rw [hy220]; with_reducible exact H) | (have H2_ := (Option.bind_some _ _).symm.trans H; rw [hy220]; with_reducible exact H2_) | (have H2_ := (Option.bind_some _ _).symm.trans H; with_reducible exact H2_) | with_reducible exact H | (rw [hy220]; exact H) | exact H
  have Ny220 := Aside0.mk hy220; clear hy220
  simp only [Option.some.injEq, Prod.mk.injEq] at H
  obtain ⟨rfl, rfl, rfl⟩ := H
  go_enter Tryz.func79, Tryz.ntmps79
  go_wp2_with (first | ((with_reducible refine gd 1 ?_); refine bA 1 #[.int .i64 a0_0, .string a0_1, .slice A0_2 l0_2.length c0_2] 33 ?_; intro gb215 hg w3 hbox hb; have BK215 := Aside0.mk (hbox); have GW215 := bg hg HB; have GJ215 := gi GW215; have GE215 := GW215; replace HB := bs HB hb; clear hb hbox hg) | ((with_reducible refine gd 2 ?_); refine bA 2 #[.int .i64 0, .string (⟨#[]⟩ : ByteArray), .slice none 0 0] 33 ?_; intro gb216 hg w4 hbox hb; have BK216 := Aside0.mk (hbox); have GW216 := bg hg HB; have GJ216 := gi GW216; have GE216 := GW216; replace HB := bs HB hb; have NB215_216 := b1 BK215 hg; have NI215_216 := ni NB215_216; have NB216_215 := b2 BK215 hg; have NI216_215 := ni NB216_215; replace BK215 := bk BK215 hb; clear hb hbox hg) | ((with_reducible refine gate_dst (N := 3) rfl ?_); refine Kd.R_lit (Kd.int .i64) _ 3 ?hg (N := 3) ?hd (xs := ([] : List Int)) (inner := []) (ok := fun _ => True) (okp := fun _ => True) ?hr ?hp (fun _ hk => hk) trivial (Below.refl _ _) (Nat.le_refl _) (by simp) ?_; (case hd => rfl); (case hg => rfl); (case hr => first | (go_simp; done) | (go_simp; rfl)); (case hp => exact (Reps.none _ _)); intro v218 w5 ho6 hb hg_ hnew_; clear hg_ hnew_; (first | rw [← Ny217.out] at ho6 | (simp only [Int.reduceToNat] at ho6; rw [← Ny217.out] at ho6)); have HO219 := Aside0.mk (Kd.R_lower ho6 (below_size (bI HB.out))); replace BK215 := bk BK215 hb; replace BK216 := bk BK216 hb; replace HB := bs HB hb; clear hb ho6; have hnb7 := NB215_216.out; have hnc7 := NB216_215.out; obtain ⟨hcz8_0, hcz8_1, hcz8_2, hfz8_0, hfz8_1, hfz8_2⟩ := cs3 BK215) | ((with_reducible refine gate_builtin (b := .append) (xs := #[.tmp 3, .tmp 5]) rfl ?_); at_builtin; refine Kd.R_append_rows (Kd.int .i64) (w0 := w) w.heap.size rfl (.tmp 3) (.tmp 5) 24 3 (.int .i64 0) 8 rfl Tryz.underlying24 info3 rfl (by decide) (by omega) v218 y217 l0_2 _ _ _ (fun _ => True) (fun _ => False) rfl rfl ?aO ?aR (fun _ _ h => h) (fun _ h => h.elim) ?aF ?aB ?aS ?aL ?_; (case aR => exact ch HR0_2 HB); (case aB => exact (bI HB.out)); (case aF => exact (fun _ _ => trivial)); (case aO => exact (rI HO219.out)); (case aS => exact (below_size (bI HB.out))); (case aL => have := LMc2.out; omega); intro v221 w9 ho hb hg hat; rw [← Ny220.out] at ho; have n0_ := bn BK215 hg (Kd.R_ne HO219.out BK215.out (by decide)); have n1_ := bn BK216 hg (Kd.R_ne HO219.out BK216.out (by decide)); have n2_ := Aside0.mk (hb); have n3_ := Aside0.mk (ho); clear BK215; clear BK216; clear HB; clear HO219; have BK215 := n0_; have BK216 := n1_; have HB := n2_; have HO222 := n3_; clear n0_ n1_ n2_ n3_; clear ho hb hg hat; obtain ⟨Ao10, co10, eo10⟩ := Kd.R_slice HO222.out; subst eo10; obtain ⟨hcz11_0, hcz11_1, hcz11_2, hfz11_0, hfz11_1, hfz11_2⟩ := cs3 BK215; obtain ⟨hcz12_0, hcz12_1, hcz12_2, hfz12_0, hfz12_1, hfz12_2⟩ := cs3 BK216))
  refine bodyPost_ret (results_cell_row rfl _ _ gb216 33 #[.int .i64 a0_0, .string a0_1, .slice Ao10 y220.length co10] (0, 0) _ rfl (pI BK216) Tryz.underlying33 rfl (by kernel_rfl)) rfl ?_
  exact ⟨_, y0_14, by (with_reducible repeat (first | apply Kd.R_alloc | apply Kd.R_drewN | apply Kd.R_drew)); exact Kd.R_mono (Kd.R_far (p := ⟨gb216, 2, none⟩) (Kd.R_far (p := ⟨gb216, 1, none⟩) (Kd.R_far (p := ⟨gb216, 0, none⟩) (Kd.R_far (p := ⟨gb215, 2, none⟩) (Kd.R_types (Kd.R_types HO222.out BK215.out (by decide)) BK216.out (by decide)) (fun _ hk => hk.1.2) (.slice Ao10 y220.length co10)) (fun _ hk => hk.2) (.int .i64 a0_0)) (fun _ hk => hk.2) (.string a0_1)) (fun _ hk => hk.2) (.slice Ao10 y220.length co10)) (fun _ hk => trivial), bI HB.out⟩
 rw [if_neg c2] at H
 exact absurd H (by simp)

/-! ### spec_QcLater: function 58 -/
def spec_QcLater.f (a0_0 : Int) (a0_1 : ByteArray) (l0_2 : List Int) (a1_0 : Int) (a1_1 : ByteArray) (l1_2 : List Int) : Option (Int × ByteArray × List Int) := if a0_0 > a1_0 then ((spec_l7Copy.f a0_0 a0_1 l0_2).bind fun bt226 => (some (bt226.1, bt226.2.1, bt226.2.2))) else ((spec_l7Copy.f a1_0 a1_1 l1_2).bind fun bt231 => (some (bt231.1, bt231.2.1, bt231.2.2)))
set_option maxHeartbeats 8000000 in
set_option maxRecDepth 100000 in
theorem spec_QcLater.calls (a0_0 : Int) (a0_1 : ByteArray) (A0_2 : Option Addr) (c0_2 : Nat) (l0_2 : List Int) (a1_0 : Int) (a1_1 : ByteArray) (A1_2 : Option Addr) (c1_2 : Nat) (l1_2 : List Int) (r1 : Int) (r2 : ByteArray) (r3 : List Int) (w : World) (hr0_2 : Kd.C (Kd.int .i64) w A0_2 l0_2.length l0_2) (hc0_2 : l0_2.length ≤ c0_2) (hr1_2 : Kd.C (Kd.int .i64) w A1_2 l1_2.length l1_2) (hc1_2 : l1_2.length ≤ c1_2) (h : spec_QcLater.f a0_0 a0_1 l0_2 a1_0 a1_1 l1_2 = some (r1, r2, r3)) :
  Calls Tryz.prog 58 #[.agg #[.int .i64 a0_0, .string a0_1, .slice A0_2 l0_2.length c0_2], .agg #[.int .i64 a1_0, .string a1_1, .slice A1_2 l1_2.length c1_2]] w fun e w' => ∃ v2_ : Value, e = .returned (.agg #[.int .i64 r1, .string r2, v2_]) ∧ Kd.R (Kd.int .i64) 3 w' w.heap.size (fun _ => True) v2_ r3 ∧ Below w.heap.size w w' := by
 have hu33 := Tryz.underlying33; have HR0_2 := Aside0.mk hr0_2; have HC0_2 := Aside0.mk hc0_2; clear hr0_2 hc0_2; have HR1_2 := Aside0.mk hr1_2; have HC1_2 := Aside0.mk hc1_2; clear hr1_2 hc1_2; have HB := Aside0.mk (Below.refl w.heap.size w)
 have H : (if a0_0 > a1_0 then ((spec_l7Copy.f a0_0 a0_1 l0_2).bind fun bt226 => (some (bt226.1, bt226.2.1, bt226.2.2))) else ((spec_l7Copy.f a1_0 a1_1 l1_2).bind fun bt231 => (some (bt231.1, bt231.2.1, bt231.2.2)))) = some (r1, r2, r3) := h
 clear h
 by_cases c3 : a0_0 > a1_0
 ·
  rw [if_pos c3] at H
  have c3b0 : decide (a1_0 < a0_0) = true := decide_eq_true c3; clear c3; obtain ⟨⟨t226, t227, t228⟩, A40, H⟩ := Option.bind_eq_some_iff.mp H
  try dsimp only at H
  have A4 := Aside0.mk A40; clear A40
  simp only [Option.some.injEq, Prod.mk.injEq] at H
  obtain ⟨rfl, rfl, rfl⟩ := H
  go_enter Tryz.func58, Tryz.ntmps58
  go_wp2_with (first | ((with_reducible refine gd 2 ?_); refine bL 2 #[.int .i64 a0_0, .string a0_1, .slice A0_2 l0_2.length c0_2] 33 ?_; intro gb223 w5 _ _ _) | ((with_reducible refine gd 3 ?_); refine bL 3 #[.int .i64 a1_0, .string a1_1, .slice A1_2 l1_2.length c1_2] 33 ?_; intro gb224 w6 _ _ _) | ((with_reducible refine gd 4 ?_); refine bL 4 #[.int .i64 0, .string (⟨#[]⟩ : ByteArray), .slice none 0 0] 33 ?_; intro gb225 w7 _ _ _) | ((with_reducible refine gate_callee (f := 79) rfl ?_); refine gC1 (some 11) Tryz.func79 (spec_l7Copy.calls (hr0_2 := pC HR0_2) (hc0_2 := HC0_2.out) (w := _) (h := A4.out)) ?_; intro Ao229 co229 w8 _ HO230))
  refine bodyPost_ret (results_cell_row rfl _ _ gb225 33 #[.int .i64 t226, .string t227, .slice Ao229 t228.length co229] (0, 0) _ rfl xB Tryz.underlying33 rfl (by kernel_rfl)) rfl ?_
  exact ⟨_, y0_19, rR HO230, UpW.out⟩
 rw [if_neg c3] at H
 have c3b0 : decide (a1_0 < a0_0) = false := decide_eq_false c3; clear c3; obtain ⟨⟨t231, t232, t233⟩, A90, H⟩ := Option.bind_eq_some_iff.mp H
 try dsimp only at H
 have A9 := Aside0.mk A90; clear A90
 simp only [Option.some.injEq, Prod.mk.injEq] at H
 obtain ⟨rfl, rfl, rfl⟩ := H
 go_enter Tryz.func58, Tryz.ntmps58
 go_wp2_with (first | ((with_reducible refine gd 2 ?_); refine bL 2 #[.int .i64 a0_0, .string a0_1, .slice A0_2 l0_2.length c0_2] 33 ?_; intro gb223 w10 _ _ _) | ((with_reducible refine gd 3 ?_); refine bL 3 #[.int .i64 a1_0, .string a1_1, .slice A1_2 l1_2.length c1_2] 33 ?_; intro gb224 w11 _ _ _) | ((with_reducible refine gd 4 ?_); refine bL 4 #[.int .i64 0, .string (⟨#[]⟩ : ByteArray), .slice none 0 0] 33 ?_; intro gb225 w12 _ _ _) | ((with_reducible refine gate_callee (f := 79) rfl ?_); refine gC1 (some 13) Tryz.func79 (spec_l7Copy.calls (hr0_2 := pC HR1_2) (hc0_2 := HC1_2.out) (w := _) (h := A9.out)) ?_; intro Ao234 co234 w13 _ HO235))
 refine bodyPost_ret (results_cell_row rfl _ _ gb225 33 #[.int .i64 t231, .string t232, .slice Ao234 t233.length co234] (0, 0) _ rfl xB Tryz.underlying33 rfl (by kernel_rfl)) rfl ?_
 exact ⟨_, y0_19, rR HO235, UpW.out⟩

/-! ### spec_l11Copy: function 61 -/
def spec_l11Copy.f (a0_0 : Int) (a0_1 : Int) (a0_2 : Int) (a0_3 : ByteArray) (l0_4 : List Int) (a0_5 : ByteArray) : Option (Int × Int × Int × ByteArray × List Int × ByteArray) := (spec_l7Copy.f a0_2 a0_3 l0_4).bind fun bt238 => (some (a0_0, a0_1, bt238.1, bt238.2.1, bt238.2.2, a0_5))
set_option maxHeartbeats 8000000 in
set_option maxRecDepth 100000 in
theorem spec_l11Copy.calls (a0_0 : Int) (a0_1 : Int) (a0_2 : Int) (a0_3 : ByteArray) (A0_4 : Option Addr) (c0_4 : Nat) (l0_4 : List Int) (a0_5 : ByteArray) (r1 : Int) (r2 : Int) (r3 : Int) (r4 : ByteArray) (r5 : List Int) (r6 : ByteArray) (w : World) (hr0_4 : Kd.C (Kd.int .i64) w A0_4 l0_4.length l0_4) (hc0_4 : l0_4.length ≤ c0_4) (h : spec_l11Copy.f a0_0 a0_1 a0_2 a0_3 l0_4 a0_5 = some (r1, r2, r3, r4, r5, r6)) :
  Calls Tryz.prog 61 #[.agg #[.int .i64 a0_0, .int .i64 a0_1, .int .i64 a0_2, .string a0_3, .slice A0_4 l0_4.length c0_4, .string a0_5]] w fun e w' => ∃ v4_ : Value, e = .returned (.agg #[.int .i64 r1, .int .i64 r2, .int .i64 r3, .string r4, v4_, .string r6]) ∧ Kd.R (Kd.int .i64) 3 w' w.heap.size (fun _ => True) v4_ r5 ∧ Below w.heap.size w w' := by
 have hu35 := Tryz.underlying35; have hu33 := Tryz.underlying33; have HR0_4 := Aside0.mk hr0_4; have HC0_4 := Aside0.mk hc0_4; clear hr0_4 hc0_4; have HB := Aside0.mk (Below.refl w.heap.size w)
 have H : ((spec_l7Copy.f a0_2 a0_3 l0_4).bind fun bt238 => (some (a0_0, a0_1, bt238.1, bt238.2.1, bt238.2.2, a0_5))) = some (r1, r2, r3, r4, r5, r6) := h
 clear h; obtain ⟨⟨t238, t239, t240⟩, A20, H⟩ := Option.bind_eq_some_iff.mp H
 try dsimp only at H
 have A2 := Aside0.mk A20; clear A20
 simp only [Option.some.injEq, Prod.mk.injEq] at H
 obtain ⟨rfl, rfl, rfl, rfl, rfl, rfl⟩ := H
 go_enter Tryz.func61, Tryz.ntmps61
 go_wp2_with (first | ((with_reducible refine gd 1 ?_); refine bL 1 #[.int .i64 a0_0, .int .i64 a0_1, .int .i64 a0_2, .string a0_3, .slice A0_4 l0_4.length c0_4, .string a0_5] 35 ?_; intro gb236 w3 _ _ _) | ((with_reducible refine gd 2 ?_); refine bL 2 #[.int .i64 0, .int .i64 0, .int .i64 0, .string (⟨#[]⟩ : ByteArray), .slice none 0 0, .string (⟨#[]⟩ : ByteArray)] 35 ?_; intro gb237 w4 _ _ _) | ((with_reducible refine gate_callee (f := 79) rfl ?_); refine gC1 (some 5) Tryz.func79 (spec_l7Copy.calls (hr0_2 := pC HR0_4) (hc0_2 := HC0_4.out) (w := _) (h := A2.out)) ?_; intro Ao241 co241 w5 _ HO242))
 refine bodyPost_ret (results_cell_row rfl _ _ gb237 35 #[.int .i64 a0_0, .int .i64 a0_1, .int .i64 t238, .string t239, .slice Ao241 t240.length co241, .string a0_5] (0, 0) _ rfl xB Tryz.underlying35 rfl (by kernel_rfl)) rfl ?_
 exact ⟨_, y0_19, rR HO242, UpW.out⟩

/-! ### spec_SafeOk: function 66 -/
def spec_SafeOk.f (k : Nat) (a0_0 : Int) (a0_1 : Int) (a1_0 : Int) (a1_1 : Int) (a1_2 : Int) (a1_3 : ByteArray) (l1_4 : List Int) (a1_5 : ByteArray) : Option (Bool) := (spec_l1In.f a1_0 0 60).bind fun t245 => (if t245 = true then ((spec_l1In.f a1_1 0 60).bind fun t246 => (if t246 = true then ((spec_QcOk.f k a0_0 a0_1 a1_2 a1_3 l1_4).bind fun t247 => (if t247 = true then ((spec_NameOk.f k a1_5).bind fun t248 => (some t248)) else (some false))) else (some false))) else (some false))
theorem spec_SafeOk.mono : ∀ a0 a1 a2 a3 a4 a5 a6 a7 k, LeO (spec_SafeOk.f k a0 a1 a2 a3 a4 a5 a6 a7) (spec_SafeOk.f (k + 1) a0 a1 a2 a3 a4 a5 a6 a7) := by
 intro a0 a1 a2 a3 a4 a5 a6 a7 k
 unfold spec_SafeOk.f
 repeat' first | (with_reducible exact spec_NameOk.mono _ _) | (with_reducible exact spec_QcOk.mono _ _ _ _ _ _) | (with_reducible exact LeO.refl _) | (with_reducible exact LeO.none _) | (with_reducible refine LeO.ite ?_ ?_) | (with_reducible refine LeO.bind ?_ (fun _ => ?_))
set_option maxHeartbeats 8000000 in
set_option maxRecDepth 100000 in
theorem spec_SafeOk.calls (k : Nat) (a0_0 : Int) (a0_1 : Int) (a1_0 : Int) (a1_1 : Int) (a1_2 : Int) (a1_3 : ByteArray) (A1_4 : Option Addr) (c1_4 : Nat) (l1_4 : List Int) (a1_5 : ByteArray) (r : Bool) (w : World) (hr1_4 : Kd.C (Kd.int .i64) w A1_4 l1_4.length l1_4) (hc1_4 : l1_4.length ≤ c1_4) (h : spec_SafeOk.f k a0_0 a0_1 a1_0 a1_1 a1_2 a1_3 l1_4 a1_5 = some r) :
  Calls Tryz.prog 66 #[.agg #[.int .i64 a0_0, .int .i64 a0_1], .agg #[.int .i64 a1_0, .int .i64 a1_1, .int .i64 a1_2, .string a1_3, .slice A1_4 l1_4.length c1_4, .string a1_5]] w fun e w' => e = .returned (.bool r) ∧ Below w.heap.size w w' := by
 have hu38 := Tryz.underlying38; have hu35 := Tryz.underlying35; have hu33 := Tryz.underlying33; have HR1_4 := Aside0.mk hr1_4; have HC1_4 := Aside0.mk hc1_4; clear hr1_4 hc1_4; have HB := Aside0.mk (Below.refl w.heap.size w)
 have H : ((spec_l1In.f a1_0 0 60).bind fun t245 => (if t245 = true then ((spec_l1In.f a1_1 0 60).bind fun t246 => (if t246 = true then ((spec_QcOk.f k a0_0 a0_1 a1_2 a1_3 l1_4).bind fun t247 => (if t247 = true then ((spec_NameOk.f k a1_5).bind fun t248 => (some t248)) else (some false))) else (some false))) else (some false))) = some r := h
 clear h; obtain ⟨t245, A30, H⟩ := Option.bind_eq_some_iff.mp H
 try dsimp only at H
 have A3 := Aside0.mk A30; clear A30
 by_cases c4 : t245 = true
 ·
  subst c4
  rw [if_pos rfl] at H
  obtain ⟨t246, A50, H⟩ := Option.bind_eq_some_iff.mp H
  try dsimp only at H
  have A5 := Aside0.mk A50; clear A50
  by_cases c6 : t246 = true
  ·
   subst c6
   rw [if_pos rfl] at H
   obtain ⟨t247, A70, H⟩ := Option.bind_eq_some_iff.mp H
   try dsimp only at H
   have A7 := Aside0.mk A70; clear A70
   by_cases c8 : t247 = true
   ·
    subst c8
    rw [if_pos rfl] at H
    obtain ⟨t248, A90, H⟩ := Option.bind_eq_some_iff.mp H
    try dsimp only at H
    have A9 := Aside0.mk A90; clear A90; obtain rfl := Option.some.inj H
    go_enter Tryz.func66, Tryz.ntmps66
    go_wp2_with (first | ((with_reducible refine gd 2 ?_); refine bL 2 #[.int .i64 a0_0, .int .i64 a0_1] 38 ?_; intro gb243 w10 _ _ _) | ((with_reducible refine gd 3 ?_); refine bL 3 #[.int .i64 a1_0, .int .i64 a1_1, .int .i64 a1_2, .string a1_3, .slice A1_4 l1_4.length c1_4, .string a1_5] 35 ?_; intro gb244 w11 _ _ _) | ((with_reducible refine gate_callee (f := 100) rfl ?_); refine gD (some 7) Tryz.func100 (spec_l1In.calls (w := _) (h := A3.out)) ?_; intro w12 _) | (go_at_call 100; refine aD (spec_l1In.calls (w := _) (h := A5.out)) ?_; intro w13 _) | (go_at_call 49; refine aC (spec_QcOk.calls (hr1_2 := pC HR1_4) (hc1_2 := HC1_4.out) (w := _) (h := A7.out)) ?_; intro w14 _) | (go_at_call 97; refine aC (spec_NameOk.calls (w := _) (h := A9.out)) ?_; intro w15 _))
    go_ret
    exact ⟨y0_19, UpW.out⟩
   replace c8 := Bool.eq_false_iff.mpr c8; subst c8
   rw [if_neg (show ¬ (false = true) by decide)] at H
   obtain rfl := Option.some.inj H
   go_enter Tryz.func66, Tryz.ntmps66
   go_wp2_with (first | ((with_reducible refine gd 2 ?_); refine bL 2 #[.int .i64 a0_0, .int .i64 a0_1] 38 ?_; intro gb243 w16 _ _ _) | ((with_reducible refine gd 3 ?_); refine bL 3 #[.int .i64 a1_0, .int .i64 a1_1, .int .i64 a1_2, .string a1_3, .slice A1_4 l1_4.length c1_4, .string a1_5] 35 ?_; intro gb244 w17 _ _ _) | ((with_reducible refine gate_callee (f := 100) rfl ?_); refine gD (some 7) Tryz.func100 (spec_l1In.calls (w := _) (h := A3.out)) ?_; intro w18 _) | (go_at_call 100; refine aD (spec_l1In.calls (w := _) (h := A5.out)) ?_; intro w19 _) | (go_at_call 49; refine aC (spec_QcOk.calls (hr1_2 := pC HR1_4) (hc1_2 := HC1_4.out) (w := _) (h := A7.out)) ?_; intro w20 _))
   go_ret
   exact ⟨y0_19, UpW.out⟩
  replace c6 := Bool.eq_false_iff.mpr c6; subst c6
  rw [if_neg (show ¬ (false = true) by decide)] at H
  obtain rfl := Option.some.inj H
  go_enter Tryz.func66, Tryz.ntmps66
  go_wp2_with (first | ((with_reducible refine gd 2 ?_); refine bL 2 #[.int .i64 a0_0, .int .i64 a0_1] 38 ?_; intro gb243 w21 _ _ _) | ((with_reducible refine gd 3 ?_); refine bL 3 #[.int .i64 a1_0, .int .i64 a1_1, .int .i64 a1_2, .string a1_3, .slice A1_4 l1_4.length c1_4, .string a1_5] 35 ?_; intro gb244 w22 _ _ _) | ((with_reducible refine gate_callee (f := 100) rfl ?_); refine gD (some 7) Tryz.func100 (spec_l1In.calls (w := _) (h := A3.out)) ?_; intro w23 _) | (go_at_call 100; refine aD (spec_l1In.calls (w := _) (h := A5.out)) ?_; intro w24 _))
  go_ret
  exact ⟨y0_19, UpW.out⟩
 replace c4 := Bool.eq_false_iff.mpr c4; subst c4
 rw [if_neg (show ¬ (false = true) by decide)] at H
 obtain rfl := Option.some.inj H
 go_enter Tryz.func66, Tryz.ntmps66
 go_wp2_with (first | ((with_reducible refine gd 2 ?_); refine bL 2 #[.int .i64 a0_0, .int .i64 a0_1] 38 ?_; intro gb243 w25 _ _ _) | ((with_reducible refine gd 3 ?_); refine bL 3 #[.int .i64 a1_0, .int .i64 a1_1, .int .i64 a1_2, .string a1_3, .slice A1_4 l1_4.length c1_4, .string a1_5] 35 ?_; intro gb244 w26 _ _ _) | ((with_reducible refine gate_callee (f := 100) rfl ?_); refine gD (some 7) Tryz.func100 (spec_l1In.calls (w := _) (h := A3.out)) ?_; intro w27 _))
 go_ret
 exact ⟨y0_19, UpW.out⟩

/-! ### spec_l1Max: function 67 -/
def spec_l1Max.f (a0 : Int) (a1 : Int) : Option (Int) := if a0 > a1 then (some a0) else (some a1)
set_option maxHeartbeats 8000000 in
set_option maxRecDepth 100000 in
theorem spec_l1Max.calls (a0 : Int) (a1 : Int) (r : Int) (w : World) (h : spec_l1Max.f a0 a1 = some r) :
  Calls Tryz.prog 67 #[.int .i64 a0, .int .i64 a1] w fun e w' => e = .returned (.int .i64 r) ∧ Drawn0 w w' := by
 have H : (if a0 > a1 then (some a0) else (some a1)) = some r := h; clear h
 by_cases c3 : a0 > a1
 ·
  rw [if_pos c3] at H
  have c3b0 : decide (a1 < a0) = true := decide_eq_true c3; clear c3; obtain rfl := Option.some.inj H
  go_enter Tryz.func67, Tryz.ntmps67
  go_wp2
  go_ret
  exact ⟨y0_19, y0_17⟩
 rw [if_neg c3] at H
 have c3b0 : decide (a1 < a0) = false := decide_eq_false c3; clear c3; obtain rfl := Option.some.inj H
 go_enter Tryz.func67, Tryz.ntmps67
 go_wp2
 go_ret
 exact ⟨y0_19, y0_17⟩

end Go.Proofs.YtemjmefacifdeaaGreatDoor.PFnEitherOrder
