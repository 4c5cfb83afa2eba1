-- By a program of this session, out of the translation (the print of the kit, with turns of its own). Lean checks it.
import Derived.Test.YtnpbopadajbopaaDoorPFnExactQcOfx0
import Derived.Test.YtnpbopadajbopaaDoorPFnExactQcOfx1
import Derived.Test.YtnpbopadajbopaaDoorPFnExactQcOfx2
import Derived.Test.YtnpbopadajbopaaDoorPFnExactQcOfx3
namespace Go.Proofs.YtnpbopadajbopaaDoor.PFnExactQcOf
open Go.RowKit Go.Proofs.YtnpbopadajbopaaDoorW.PrintWords Go.Proofs.YtnpbopadajbopaaDoorW.PrintLast Go.Proofs.YtnpbopadajbopaaDoorW.PrintMore
attribute [local go_sem] max2_int min2_int max_two min_two max_three min_three max_four min_four   -- for this text's walks alone
attribute [local go_sem] cell_in frozen_in
set_option synthInstance.maxSize 1000000
set_option synthInstance.maxHeartbeats 2000000
set_option linter.unusedVariables false
set_option linter.unusedSimpArgs false

/-! ### spec_NameOk: function 63 -/
def spec_NameOk.f (k : Nat) (a0 : ByteArray) : Option (Bool) := (spec_Steps.f k a0).bind fun bt231 => (some bt231.2)
theorem spec_NameOk.mono : ∀ a0 k, LeO (spec_NameOk.f k a0) (spec_NameOk.f (k + 1) a0) := by
 intro a0 k
 unfold spec_NameOk.f
 repeat' first | (with_reducible exact spec_Steps.mono _ _) | (with_reducible exact LeO.refl _) | (with_reducible exact LeO.none _) | (with_reducible refine LeO.ite ?_ ?_) | (with_reducible refine LeO.bind ?_ (fun _ => ?_))
set_option maxHeartbeats 8000000 in
set_option maxRecDepth 100000 in
theorem spec_NameOk.calls (k : Nat) (a0 : ByteArray) (r : Bool) (w : World) (h : spec_NameOk.f k a0 = some r) :
  Calls Tryd.prog 63 #[.string a0] w fun e w' => e = .returned (.bool r) ∧ Below w.heap.size w w' := by
 have HB := Aside0.mk (Below.refl w.heap.size w)
 have H := h; unfold spec_NameOk.f at H
 clear h; obtain ⟨⟨t231, t232⟩, A2, H⟩ := oB H; (try dsimp only at H); obtain rfl := Option.some.inj H
 go_enter Tryd.func63, Tryd.ntmps63
 go_wp2_with (first | ((with_reducible refine gate_callee (f := 80) rfl ?_); refine gS1 (some 7) Tryd.func80 (spec_Steps.calls (w := _) (h := A2.out)) ?_; intro Ao233 co233 w3 _ HO234))
 go_ret
 exact ⟨y0_11, UpW.out⟩

/-! ### spec_ViewOf: function 64 -/
def spec_ViewOf.f (k : Nat) (a0 : ByteArray) : Option (Int) := (spec_Steps.f k a0).bind fun bt235 => (if bt235.2 = true then (if (bt235.1.length : Int) = 0 then (some 0) else (if 0 ≤ (wrap64 ((bt235.1.length : Int) - 1)) then (if (wrap64 ((bt235.1.length : Int) - 1)) < (bt235.1.length : Int) then (some ((rd_T108 bt235.1 (wrap64 ((bt235.1.length : Int) - 1))).f0)) else (none)) else (none))) else (some 0))
theorem spec_ViewOf.mono : ∀ a0 k, LeO (spec_ViewOf.f k a0) (spec_ViewOf.f (k + 1) a0) := by
 intro a0 k
 unfold spec_ViewOf.f
 repeat' first | (with_reducible exact spec_Steps.mono _ _) | (with_reducible exact LeO.refl _) | (with_reducible exact LeO.none _) | (with_reducible refine LeO.ite ?_ ?_) | (with_reducible refine LeO.bind ?_ (fun _ => ?_))
set_option maxHeartbeats 8000000 in
set_option maxRecDepth 100000 in
theorem spec_ViewOf.calls (k : Nat) (a0 : ByteArray) (r : Int) (w : World) (h : spec_ViewOf.f k a0 = some r) :
  Calls Tryd.prog 64 #[.string a0] w fun e w' => e = .returned (.int .i64 r) ∧ Below w.heap.size w w' := by
 have HB := Aside0.mk (Below.refl w.heap.size w)
 have H := h; unfold spec_ViewOf.f at H
 clear h; obtain ⟨⟨t235, t236⟩, A2, H⟩ := oB H; (try dsimp only at H)
 by_cases c3 : t236 = true
 ·
  subst c3
  rw [if_pos rfl] at H
  by_cases c4 : (t235.length : Int) = 0
  ·
   rw [if_pos c4] at H
   have c4b0 : ((t235.length : Int) == 0) = true := beq_iff_eq.mpr c4; have c4b1 : ((t235.length : Int) != 0) = false := bne_eq_false_iff_eq.mpr c4; clear c4; obtain rfl := Option.some.inj H
   go_enter Tryd.func64, Tryd.ntmps64
   go_wp2_with (first | ((with_reducible refine gate_callee (f := 80) rfl ?_); refine gB (some 7) Tryd.func80 #[.string a0] ?_; (with_reducible refine (spec_Steps.calls k a0 t235 true _ A2.out).mono ?_); rintro e w5 ⟨v237, rfl, ho0, hb⟩; refine ⟨_, rfl, ?_⟩; have HO238 := Aside0.mk (Kd.S_lower ho0 (below_size (bI HB.out))); replace HB := bs HB hb; (try clear hb); (try clear ho0); obtain ⟨Ao6, co6, eo6⟩ := Kd.S_slice HO238.out; subst eo6))
   go_ret
   exact ⟨y0_7, bI HB.out⟩
  rw [if_neg c4] at H
  have c4b0 : ((t235.length : Int) == 0) = false := beq_eq_false_iff_ne.mpr c4; have c4b1 : ((t235.length : Int) != 0) = true := bne_iff_ne.mpr c4
  have c4b2 : ¬ (t235 = []) := fun h_ => c4 (by rw [h_]; rfl)
  obtain ⟨ji7, hji7⟩ : ∃ j_ : Int, (wrap64 ((t235.length : Int) - 1)) = j_ := ⟨_, rfl⟩
  replace H : (if 0 ≤ (ji7) then (if (ji7) < (t235.length : Int) then (some ((rd_T108 t235 (ji7)).f0)) else (none)) else (none)) = some r := by first | (rw [hji7] at H; exact H) | (simp only [hji7] at H ⊢; exact H)
  (try rw [hji7] at A2)
  have hji7w : (IntKind.i64.wrap ((t235.length : Int) - 1)) = ji7 := (i64_w _).trans hji7
  by_cases c8 : 0 ≤ (ji7)
  rotate_left
  ·
   rw [if_neg c8] at H
   exact absurd H (by simp)
  rw [if_pos c8] at H
  have c8b0 : decide (0 ≤ (ji7)) = true := decide_eq_true c8; clear c8
  by_cases c9 : (ji7) < (t235.length : Int)
  rotate_left
  ·
   rw [if_neg c9] at H
   exact absurd H (by simp)
  rw [if_pos c9] at H
  have c9b0 : decide ((ji7) < (t235.length : Int)) = true := decide_eq_true c9; clear c9; obtain rfl := Option.some.inj H
  go_enter Tryd.func64, Tryd.ntmps64
  go_wp2_with (first | ((with_reducible refine gate_callee (f := 80) rfl ?_); refine gB (some 7) Tryd.func80 #[.string a0] ?_; (with_reducible refine (spec_Steps.calls k a0 t235 true _ A2.out).mono ?_); rintro e w10 ⟨v237, rfl, ho0, hb⟩; refine ⟨_, rfl, ?_⟩; have HO238 := Aside0.mk (Kd.S_lower ho0 (below_size (bI HB.out))); replace HB := bs HB hb; (try clear hb); (try clear ho0); obtain ⟨Ao11, co11, eo11⟩ := Kd.S_slice HO238.out; subst eo11; have p239 : 0 ≤ ((ji7) : Int) := of_decide_eq_true y0_10; have q239 : (ji7) < (t235.length : Int) := of_decide_eq_true y0_10; obtain ⟨ad239, A239_1, c239_1, e239, hx239_0, hx239_1, hl239_1, hi239_1⟩ := at_T108 (Kd.S_reads' HO238.out).2.2 (ji7) p239 q239; cases e239; obtain ⟨ce239, hce239, hMe239, hcc239⟩ := Kd.S_get HO238.out z108 (ji7) p239 (by first | exact q239 | exact of_decide_eq_true y0_10 | (have e_ := (Kd.S_reads' HO238.out).1; omega)); obtain ⟨ve239_1, rfl, ge239_1⟩ := k108_openM hMe239; have hv239_1 := hcc239 1 _ rfl; rw [add_field _ _ 1 (by omega)] at hv239_1; replace hv239_1 := Option.some.inj (hv239_1.symm.trans hx239_1); rw [hv239_1] at ge239_1; have HL239_1 := Aside0.mk (show Kd.R k97 97 _ _ _ _ ((rd_T108 t235 (ji7)).f1) from ge239_1); clear hv239_1 ge239_1; clear hcc239 hce239; have HR239_1 := Aside0.mk hi239_1; have HC239_1 := Aside0.mk hl239_1; clear hi239_1 hl239_1; replace p239 := eq_true p239; replace q239 := eq_true q239))
  go_ret
  exact ⟨by first | rfl | (simp [errW_none, errW_some] <;> rfl) | (simp only [← hji7]; first | rfl | (simp [errW_none, errW_some] <;> rfl)) | (simp [*, errW_none, errW_some] <;> rfl), bI HB.out⟩
 replace c3 := Bool.eq_false_iff.mpr c3; subst c3
 rw [if_neg (show ¬ (false = true) by decide)] at H
 obtain rfl := Option.some.inj H
 go_enter Tryd.func64, Tryd.ntmps64
 go_wp2_with (first | ((with_reducible refine gate_callee (f := 80) rfl ?_); refine gB (some 7) Tryd.func80 #[.string a0] ?_; (with_reducible refine (spec_Steps.calls k a0 t235 false _ A2.out).mono ?_); rintro e w12 ⟨v237, rfl, ho0, hb⟩; refine ⟨_, rfl, ?_⟩; have HO238 := Aside0.mk (Kd.S_lower ho0 (below_size (bI HB.out))); replace HB := bs HB hb; (try clear hb); (try clear ho0)))
 go_ret
 exact ⟨y0_7, bI HB.out⟩

/-! ### spec_SetOk: function 65 -/
def spec_SetOk.l0 : Nat → Int → List Int → Int → Option (Bool)
 | 0, _, _, _ => none
 | k + 1, x0, x1, x5 => if x5 < (x1.length : Int) then (if 0 ≤ x5 then (if (rd x1 x5) < 0 then (some false) else (if (rd x1 x5) ≥ x0 then (some false) else (if x5 > 0 then (if 0 ≤ (wrap64 (x5 - 1)) then (if (wrap64 (x5 - 1)) < (x1.length : Int) then (if (rd x1 (wrap64 (x5 - 1))) ≥ (rd x1 x5) then (some false) else (spec_SetOk.l0 k x0 x1 (wrap64 (x5 + 1)))) else (none)) else (none)) else (spec_SetOk.l0 k x0 x1 (wrap64 (x5 + 1)))))) else (none)) else (some true)
def spec_SetOk.f (k : Nat) (a0 : Int) (l1 : List Int) : Option (Bool) := spec_SetOk.l0 k a0 l1 0
theorem spec_SetOk.mono_l : ∀ k, (∀ y0 y1 y2, LeO (spec_SetOk.l0 k y0 y1 y2) (spec_SetOk.l0 (k + 1) y0 y1 y2))
 | 0 => fun _ _ _ r h => by simp [spec_SetOk.l0] at h
 | k + 1 => by
  have ih0 := spec_SetOk.mono_l k
  intro y0 y1 y2
  unfold spec_SetOk.l0
  repeat' first | (with_reducible exact ih0 _ _ _) | (with_reducible exact LeO.refl _) | (with_reducible exact LeO.none _) | (with_reducible refine LeO.ite ?_ ?_) | (with_reducible refine LeO.bind ?_ (fun _ => ?_))
theorem spec_SetOk.mono : ∀ a0 a1 k, LeO (spec_SetOk.f k a0 a1) (spec_SetOk.f (k + 1) a0 a1) := by
 intro a0 a1 k
 have ih0 := spec_SetOk.mono_l k
 unfold spec_SetOk.f
 repeat' first | (with_reducible exact ih0 _ _ _) | (with_reducible exact LeO.refl _) | (with_reducible exact LeO.none _) | (with_reducible refine LeO.ite ?_ ?_) | (with_reducible refine LeO.bind ?_ (fun _ => ?_))
set_option maxHeartbeats 8000000 in
set_option maxRecDepth 100000 in
theorem spec_SetOk.calls (k : Nat) (a0 : Int) (A1 : Option Addr) (c1 : Nat) (l1 : List Int) (r : Bool) (w : World) (hr1 : Kd.C (Kd.int .i64) w A1 l1.length l1) (hc1 : l1.length ≤ c1) (h : spec_SetOk.f k a0 l1 = some r) :
  Calls Tryd.prog 65 #[.int .i64 a0, .slice A1 l1.length c1] w fun e w' => e = .returned (.bool r) ∧ Drawn0 w w' := by
 have HR1 := Aside0.mk hr1; have HC1 := Aside0.mk hc1; clear hr1 hc1; have H := h; unfold spec_SetOk.f at H; clear h; have H' := Aside0.mk H; clear H
 go_enter Tryd.func65, Tryd.ntmps65
 go_wp2
 repeat (go_quiet (fail); try go_wp2)
 go_loopg [5] k (fun kq v5 w' => ∃ (x5_1 : Int), v5 = .int .i64 x5_1 ∧ Aside0 (spec_SetOk.l0 kq a0 l1 x5_1 = some r) ∧ Aside0 (kq ≤ k) ∧ Drawn0 w w')
 case atStart => exact ⟨(0), y0_11, H', ⟨Nat.le_refl _⟩, y0_8⟩
 case round =>
  clear H'
  try clear c1
  try clear p2
  obtain ⟨x5_1, rfl, HA, HK1, ⟨m1, rfl⟩⟩ := hrel; cases gk with
  | zero => exact absurd HA.out (by simp [spec_SetOk.l0])
  | succ k1 =>
   have H := HA.out; clear HA
   simp only [spec_SetOk.l0] at H
   by_cases c3 : x5_1 < (l1.length : Int)
   ·
    rw [if_pos c3] at H
    have c3b0 : decide (x5_1 < (l1.length : Int)) = true := decide_eq_true c3; clear c3
    by_cases c4 : 0 ≤ x5_1
    rotate_left
    ·
     rw [if_neg c4] at H
     exact absurd H (by simp)
    rw [if_pos c4] at H
    have c4b0 : decide (0 ≤ x5_1) = true := decide_eq_true c4; clear c4
    by_cases c5 : (rd l1 x5_1) < 0
    ·
     rw [if_pos c5] at H
     have c5b0 : decide ((rd l1 x5_1) < 0) = true := decide_eq_true c5; clear c5; obtain rfl := Option.some.inj H; have p240 : 0 ≤ (x5_1 : Int) := of_decide_eq_true y0_10; have q240 : x5_1 < (l1.length : Int) := of_decide_eq_true y0_10; obtain ⟨ad240, e240, hx240_0⟩ := Kd.at_int HR1.out x5_1 p240 q240; cases e240; replace p240 := eq_true p240; replace q240 := eq_true q240
     go_wp2
     repeat (go_quiet (fail); try go_wp2)
     go_ret
     exact ⟨y0_11, y0_8⟩
    rw [if_neg c5] at H
    have c5b0 : decide ((rd l1 x5_1) < 0) = false := decide_eq_false c5; clear c5
    by_cases c6 : (rd l1 x5_1) ≥ a0
    ·
     rw [if_pos c6] at H
     have c6b0 : decide (a0 ≤ (rd l1 x5_1)) = true := decide_eq_true c6; clear c6; obtain rfl := Option.some.inj H; have p240 : 0 ≤ (x5_1 : Int) := of_decide_eq_true y0_10; have q240 : x5_1 < (l1.length : Int) := of_decide_eq_true y0_10; obtain ⟨ad240, e240, hx240_0⟩ := Kd.at_int HR1.out x5_1 p240 q240; cases e240; replace p240 := eq_true p240; replace q240 := eq_true q240; have p241 : 0 ≤ (x5_1 : Int) := of_decide_eq_true y0_10; have q241 : x5_1 < (l1.length : Int) := of_decide_eq_true y0_10; obtain ⟨ad241, e241, hx241_0⟩ := Kd.at_int HR1.out x5_1 p241 q241
     obtain rfl : ad240 = ad241 := (by injection e241)
     replace p241 := eq_true p241; replace q241 := eq_true q241
     go_wp2
     repeat (go_quiet (fail); try go_wp2)
     go_ret
     exact ⟨y0_11, y0_8⟩
    rw [if_neg c6] at H
    have c6b0 : decide (a0 ≤ (rd l1 x5_1)) = false := decide_eq_false c6; clear c6
    by_cases c7 : x5_1 > 0
    ·
     rw [if_pos c7] at H
     have c7b0 : decide (0 < x5_1) = true := decide_eq_true c7; clear c7; obtain ⟨ji8, hji8⟩ : ∃ j_ : Int, (wrap64 (x5_1 - 1)) = j_ := ⟨_, rfl⟩
     replace H : (if 0 ≤ (ji8) then (if (ji8) < (l1.length : Int) then (if (rd l1 (ji8)) ≥ (rd l1 x5_1) then (some false) else (spec_SetOk.l0 k1 a0 l1 (wrap64 (x5_1 + 1)))) else (none)) else (none)) = some r := by first | (rw [hji8] at H; exact H) | (simp only [hji8] at H ⊢; exact H)
     have hji8w : (IntKind.i64.wrap (x5_1 - 1)) = ji8 := (i64_w _).trans hji8
     by_cases c9 : 0 ≤ (ji8)
     rotate_left
     ·
      rw [if_neg c9] at H
      exact absurd H (by simp)
     rw [if_pos c9] at H
     have c9b0 : decide (0 ≤ (ji8)) = true := decide_eq_true c9; clear c9
     by_cases c10 : (ji8) < (l1.length : Int)
     rotate_left
     ·
      rw [if_neg c10] at H
      exact absurd H (by simp)
     rw [if_pos c10] at H
     have c10b0 : decide ((ji8) < (l1.length : Int)) = true := decide_eq_true c10; clear c10
     by_cases c11 : (rd l1 (ji8)) ≥ (rd l1 x5_1)
     ·
      rw [if_pos c11] at H
      have c11b0 : decide ((rd l1 x5_1) ≤ (rd l1 (ji8))) = true := decide_eq_true c11; clear c11; obtain rfl := Option.some.inj H; have p240 : 0 ≤ (x5_1 : Int) := of_decide_eq_true y0_10; have q240 : x5_1 < (l1.length : Int) := of_decide_eq_true y0_10; obtain ⟨ad240, e240, hx240_0⟩ := Kd.at_int HR1.out x5_1 p240 q240; cases e240; replace p240 := eq_true p240; replace q240 := eq_true q240; have p241 : 0 ≤ (x5_1 : Int) := of_decide_eq_true y0_10; have q241 : x5_1 < (l1.length : Int) := of_decide_eq_true y0_10; obtain ⟨ad241, e241, hx241_0⟩ := Kd.at_int HR1.out x5_1 p241 q241
      obtain rfl : ad240 = ad241 := (by injection e241)
      replace p241 := eq_true p241; replace q241 := eq_true q241; have p242 : 0 ≤ ((ji8) : Int) := of_decide_eq_true y0_10; have q242 : (ji8) < (l1.length : Int) := of_decide_eq_true y0_10; obtain ⟨ad242, e242, hx242_0⟩ := Kd.at_int HR1.out (ji8) p242 q242
      obtain rfl : ad240 = ad242 := (by injection e242)
      replace p242 := eq_true p242; replace q242 := eq_true q242; have p243 : 0 ≤ (x5_1 : Int) := of_decide_eq_true y0_10; have q243 : x5_1 < (l1.length : Int) := of_decide_eq_true y0_10; obtain ⟨ad243, e243, hx243_0⟩ := Kd.at_int HR1.out x5_1 p243 q243
      obtain rfl : ad240 = ad243 := (by injection e243)
      replace p243 := eq_true p243; replace q243 := eq_true q243
      go_wp2
      repeat (go_quiet (fail); try go_wp2)
      go_ret
      exact ⟨by first | rfl | (simp; done) | (simp only [← hji8] <;> (first | rfl | simp)) | (simp [*]; done), y0_8⟩
     rw [if_neg c11] at H
     have c11b0 : decide ((rd l1 x5_1) ≤ (rd l1 (ji8))) = false := decide_eq_false c11; clear c11; have H' := Aside0.mk H; clear H; have p240 : 0 ≤ (x5_1 : Int) := of_decide_eq_true y0_10; have q240 : x5_1 < (l1.length : Int) := of_decide_eq_true y0_10; obtain ⟨ad240, e240, hx240_0⟩ := Kd.at_int HR1.out x5_1 p240 q240; cases e240; replace p240 := eq_true p240; replace q240 := eq_true q240; have p241 : 0 ≤ (x5_1 : Int) := of_decide_eq_true y0_10; have q241 : x5_1 < (l1.length : Int) := of_decide_eq_true y0_10; obtain ⟨ad241, e241, hx241_0⟩ := Kd.at_int HR1.out x5_1 p241 q241
     obtain rfl : ad240 = ad241 := (by injection e241)
     replace p241 := eq_true p241; replace q241 := eq_true q241; have p242 : 0 ≤ ((ji8) : Int) := of_decide_eq_true y0_10; have q242 : (ji8) < (l1.length : Int) := of_decide_eq_true y0_10; obtain ⟨ad242, e242, hx242_0⟩ := Kd.at_int HR1.out (ji8) p242 q242
     obtain rfl : ad240 = ad242 := (by injection e242)
     replace p242 := eq_true p242; replace q242 := eq_true q242; have p243 : 0 ≤ (x5_1 : Int) := of_decide_eq_true y0_10; have q243 : x5_1 < (l1.length : Int) := of_decide_eq_true y0_10; obtain ⟨ad243, e243, hx243_0⟩ := Kd.at_int HR1.out x5_1 p243 q243
     obtain rfl : ad240 = ad243 := (by injection e243)
     replace p243 := eq_true p243; replace q243 := eq_true q243
     go_wp2
     repeat (go_quiet (fail); try go_wp2)
     go_roundg k1
     case measure => have := HK1.out; omega
     case rel => exact ⟨(wrap64 (x5_1 + 1)), y0_11, H', ⟨y0_13⟩, y0_8⟩
    rw [if_neg c7] at H
    have c7b0 : decide (0 < x5_1) = false := decide_eq_false c7; clear c7; have H' := Aside0.mk H; clear H; have p240 : 0 ≤ (x5_1 : Int) := of_decide_eq_true y0_10; have q240 : x5_1 < (l1.length : Int) := of_decide_eq_true y0_10; obtain ⟨ad240, e240, hx240_0⟩ := Kd.at_int HR1.out x5_1 p240 q240; cases e240; replace p240 := eq_true p240; replace q240 := eq_true q240; have p241 : 0 ≤ (x5_1 : Int) := of_decide_eq_true y0_10; have q241 : x5_1 < (l1.length : Int) := of_decide_eq_true y0_10; obtain ⟨ad241, e241, hx241_0⟩ := Kd.at_int HR1.out x5_1 p241 q241
    obtain rfl : ad240 = ad241 := (by injection e241)
    replace p241 := eq_true p241; replace q241 := eq_true q241
    go_wp2
    repeat (go_quiet (fail); try go_wp2)
    go_roundg k1
    case measure => have := HK1.out; omega
    case rel => exact ⟨(wrap64 (x5_1 + 1)), y0_11, H', ⟨y0_13⟩, y0_8⟩
   rw [if_neg c3] at H
   have c3b0 : decide (x5_1 < (l1.length : Int)) = false := decide_eq_false c3; clear c3; obtain rfl := Option.some.inj H
   go_wp2
   repeat (go_quiet (fail); try go_wp2)
   go_ret
   exact ⟨y0_11, y0_8⟩

/-! ### spec_QcOk: function 36 -/
def spec_QcOk.f (k : Nat) (a0_0 : Int) (a0_1 : Int) (a1_0 : Int) (a1_1 : ByteArray) (l1_2 : List Int) : Option (Bool) := (spec_ConfOk.f a0_0 a0_1).bind fun t246 => (if t246 = true then ((spec_NameOk.f k a1_1).bind fun t247 => (if t247 = true then ((spec_ViewOf.f k a1_1).bind fun t248 => (if t248 = a1_0 then (if a1_1.toList = ([] : List UInt8) then (some ((l1_2.length : Int) == 0)) else ((spec_SetOk.f k a0_0 l1_2).bind fun t249 => (if t249 = true then ((spec_Quorum.f a0_0 a0_1).bind fun t250 => (some (decide ((l1_2.length : Int) ≥ t250)))) else (some false)))) else (some false))) else (some false))) else (some false))
theorem spec_QcOk.mono : ∀ a0 a1 a2 a3 a4 k, LeO (spec_QcOk.f k a0 a1 a2 a3 a4) (spec_QcOk.f (k + 1) a0 a1 a2 a3 a4) := by
 intro a0 a1 a2 a3 a4 k
 unfold spec_QcOk.f
 repeat' first | (with_reducible exact spec_NameOk.mono _ _) | (with_reducible exact spec_SetOk.mono _ _ _) | (with_reducible exact spec_ViewOf.mono _ _) | (with_reducible exact LeO.refl _) | (with_reducible exact LeO.none _) | (with_reducible refine LeO.ite ?_ ?_) | (with_reducible refine LeO.bind ?_ (fun _ => ?_))
def spec_QcOk.T1 : Bool × List (List Nat × List Nat) := (true, [([], []), ([0], [0]), ([1], [1]), ([2, 1], [2]), ([3], [3]), ([4, 3], [3, 4]), ([5, 3, 3], [3, 5]), ([6, 3], [3, 6]), ([3, 7], [3, 7]), ([8, 6], [8]), ([9], [9]), ([10, 9], [9, 10]), ([11, 9, 9], [9, 11]), ([9], [9]), ([13, 9], [9, 13]), ([12, 14, 9], [9, 12, 14]), ([9, 15], [9, 15])])
def spec_QcOk.B1 : List Nat := [0, 1, 3, 7, 15, 31, 63, 127, 255, 511, 1023, 2047, 4095, 1023, 9215, 32767, 65535]
theorem spec_QcOk.tab1 : rtab .any (opsOf Tryd.f36 1) = spec_QcOk.T1 := by kernel_rfl
theorem spec_QcOk.bits1 : waitsOk spec_QcOk.T1.2 spec_QcOk.B1 = true := by kernel_rfl
def spec_QcOk.T5 : Bool × List (List Nat × List Nat) := (true, [([], []), ([0], [0]), ([], []), ([2], [2]), ([1, 3], [1, 3]), ([4, 4], [4]), ([5], [5]), ([6, 5], [5, 6]), ([7, 5], [5, 7]), ([5], [5]), ([9, 5, 5], [5, 9]), ([8, 10, 5], [5, 8, 10]), ([5, 11], [5, 11]), ([12, 10, 0, 1, 2, 3, 4, 5, 6, 7, 8, 9, 10, 11, 12], [12])])
def spec_QcOk.B5 : List Nat := [0, 1, 0, 4, 15, 31, 63, 127, 255, 63, 575, 2047, 4095, 8191]
theorem spec_QcOk.tab5 : rtab .any (opsOf Tryd.f36 5) = spec_QcOk.T5 := by kernel_rfl
theorem spec_QcOk.bits5 : waitsOk spec_QcOk.T5.2 spec_QcOk.B5 = true := by kernel_rfl
set_option maxHeartbeats 8000000 in
set_option maxRecDepth 100000 in
theorem spec_QcOk.calls (k : Nat) (a0_0 : Int) (a0_1 : Int) (a1_0 : Int) (a1_1 : ByteArray) (A1_2 : Option Addr) (c1_2 : Nat) (l1_2 : List Int) (r : Bool) (w : World) (hr1_2 : Kd.C (Kd.int .i64) w A1_2 l1_2.length l1_2) (hc1_2 : l1_2.length ≤ c1_2) (h : spec_QcOk.f k a0_0 a0_1 a1_0 a1_1 l1_2 = some r) :
  Calls Tryd.prog 36 #[.agg #[.int .i64 a0_0, .int .i64 a0_1], .agg #[.int .i64 a1_0, .string a1_1, .slice A1_2 l1_2.length c1_2]] w fun e w' => e = .returned (.bool r) ∧ Below w.heap.size w w' := by
 have hu25 := Tryd.underlying25; have hu32 := Tryd.underlying32; have HR1_2 := Aside0.mk hr1_2; have HC1_2 := Aside0.mk hc1_2; clear hr1_2 hc1_2; have HB := Aside0.mk (Below.refl w.heap.size w)
 have H := h; unfold spec_QcOk.f at H
 clear h
 go_enter Tryd.func36, Tryd.ntmps36
 have H' := Aside0.mk H; clear H
 go_upto_region 1 with (first | ((with_reducible refine gd 2 ?_); refine bL 2 #[.int .i64 a0_0, .int .i64 a0_1] 25 ?_; intro gb244 w3 _ _ _) | ((with_reducible refine gd 3 ?_); refine bL 3 #[.int .i64 a1_0, .string a1_1, .slice A1_2 l1_2.length c1_2] 32 ?_; intro gb245 w4 _ _ _))
 have H := H'.out; clear H'; obtain ⟨t246, A5, H⟩ := oB H; (try dsimp only at H)
 by_cases c6 : t246 = true
 ·
  subst c6
  rw [if_pos rfl] at H
  obtain ⟨t247, A7, H⟩ := oB H; (try dsimp only at H)
  by_cases c8 : t247 = true
  ·
   subst c8
   rw [if_pos rfl] at H
   obtain ⟨t248, A9, H⟩ := oB H; (try dsimp only at H); have H' := Aside0.mk H; clear H
   try go_wp2
   refine sB [] spec_QcOk.tab1 spec_QcOk.bits1 ?_; intro w10 _ HT_ HW_
   refine tB 0 (some 5) (bz 17 1) HT_ HW_ ?_
   refine o1 1 (some 6) (bz 17 3) HT_ rfl (kC Tryd.func32 (spec_ConfOk.calls (w := _) (h := A5.out)) ?_); intro w11 _
   refine nA (some 6) ?_
   refine pA 2 (some 7) (bz 17 7) HT_ ?_
   refine pA 3 (some 8) (bz 17 15) HT_ ?_
   refine pA 4 (some 9) (bz 17 31) HT_ ?_
   refine tB 5 (some 10) (bz 17 63) HT_ HW_ ?_
   refine o1 6 (some 11) (bz 17 127) HT_ rfl (kC Tryd.func63 (spec_NameOk.calls (w := _) (h := A7.out)) ?_); intro w12 _
   refine nA (some 11) ?_
   refine pA 7 (some 12) (bz 17 255) HT_ ?_
   refine pA 8 (some 13) (bz 17 511) HT_ ?_
   refine pA 9 (some 14) (bz 17 1023) HT_ ?_
   refine pA 10 (some 15) (bz 17 2047) HT_ ?_
   refine tB 11 (some 16) (bz 17 4095) HT_ HW_ ?_
   refine pA 13 (some 18) (bz 17 0x2fff) HT_ ?_
   refine tB 14 (some 19) (bz 17 0x6fff) HT_ HW_ ?_
   refine o1 12 (some 17) (bz 17 0x7fff) HT_ rfl (kC Tryd.func64 (spec_ViewOf.calls (w := _) (h := A9.out)) ?_); intro w13 _
   refine nA (some 17) ?_
   refine pA 15 (some 20) (bz 17 0xffff) HT_ ?_
   refine pA 16 (some 21) (bz 17 0x1ffff) HT_ ?_
   refine done_ (done_of HT_.out (by kernel_rfl)) ?_
   go_upto_if 21 with fail
   have H := H'.out; clear H'
   by_cases c14 : t248 = a1_0
   ·
    rw [if_pos c14] at H
    have c14b0 : (t248 == a1_0) = true := beq_iff_eq.mpr c14; have c14b1 : (t248 != a1_0) = false := bne_eq_false_iff_eq.mpr c14; clear c14
    (first | rw [c14b0] | (simp only [i64_w, i32_w]; rw [c14b0]) | skip)
    have H' := Aside0.mk H; clear H
    go_upto_if 24 with fail
    have H := H'.out; clear H'
    by_cases c15 : a1_1.toList = ([] : List UInt8)
    ·
     rw [if_pos c15] at H
     have c15b0 : (a1_1.toList == ([] : List UInt8)) = true := beq_iff_eq.mpr c15; have c15b1 : (a1_1.toList != ([] : List UInt8)) = false := bne_eq_false_iff_eq.mpr c15; clear c15
     (first | rw [c15b0] | (simp only [i64_w, i32_w]; rw [c15b0]) | rw [show List.isEmpty (a1_1.toList) = true from by simpa using c15b0] | skip)
     obtain rfl := Option.some.inj H
     go_wp2
     go_ret
     exact ⟨y0_11, UpW.out⟩
    rw [if_neg c15] at H
    have c15b0 : (a1_1.toList == ([] : List UInt8)) = false := beq_eq_false_iff_ne.mpr c15; have c15b1 : (a1_1.toList != ([] : List UInt8)) = true := bne_iff_ne.mpr c15
    (first | rw [c15b0] | (simp only [i64_w, i32_w]; rw [c15b0]) | rw [show List.isEmpty (a1_1.toList) = false from by simpa using c15b0] | skip)
    obtain ⟨t249, A16, H⟩ := oB H; (try dsimp only at H)
    by_cases c17 : t249 = true
    ·
     subst c17
     rw [if_pos rfl] at H
     obtain ⟨t250, A18, H⟩ := oB H; (try dsimp only at H); obtain rfl := Option.some.inj H
     try go_wp2
     refine sB [] spec_QcOk.tab5 spec_QcOk.bits5 ?_; intro w19 _ HT_ HW_
     refine pA 0 (some 29) (bz 14 1) HT_ ?_
     refine tB 1 (some 30) (bz 14 3) HT_ HW_ ?_
     refine pA 2 (some 31) (bz 14 7) HT_ ?_
     refine tB 3 (some 32) (bz 14 15) HT_ HW_ ?_
     refine o1 4 (some 33) (bz 14 31) HT_ rfl (kD Tryd.func65 (spec_SetOk.calls (hr1 := pC HR1_2) (hc1 := HC1_2.out) (w := _) (h := A16.out)) ?_); intro w20 _
     refine nA (some 33) ?_
     refine pA 5 (some 34) (bz 14 63) HT_ ?_
     refine pA 6 (some 35) (bz 14 127) HT_ ?_
     refine tB 7 (some 36) (bz 14 255) HT_ HW_ ?_
     refine pA 8 (some 37) (bz 14 511) HT_ ?_
     refine tB 9 (some 38) (bz 14 1023) HT_ HW_ ?_
     refine o1 10 (some 39) (bz 14 2047) HT_ rfl (kC Tryd.func9 (spec_Quorum.calls (w := _) (h := A18.out)) ?_); intro w21 _
     refine nA (some 39) ?_
     refine pA 11 (some 40) (bz 14 4095) HT_ ?_
     refine pA 12 (some 41) (bz 14 0x1fff) HT_ ?_
     refine pA 13 (some 4) (bz 14 0x3fff) HT_ ?_
     refine done_ (done_of HT_.out (by kernel_rfl)) ?_
     try go_wp2
     go_ret
     exact ⟨y0_11, UpW.out⟩
    replace c17 := Bool.eq_false_iff.mpr c17; subst c17
    rw [if_neg (show ¬ (false = true) by decide)] at H
    obtain rfl := Option.some.inj H
    try go_wp2
    refine sB [] spec_QcOk.tab5 spec_QcOk.bits5 ?_; intro w22 _ HT_ HW_
    refine pA 0 (some 29) (bz 14 1) HT_ ?_
    refine tB 1 (some 30) (bz 14 3) HT_ HW_ ?_
    refine pA 2 (some 31) (bz 14 7) HT_ ?_
    refine tB 3 (some 32) (bz 14 15) HT_ HW_ ?_
    refine o1 4 (some 33) (bz 14 31) HT_ rfl (kD Tryd.func65 (spec_SetOk.calls (hr1 := pC HR1_2) (hc1 := HC1_2.out) (w := _) (h := A16.out)) ?_); intro w23 _
    refine nA (some 33) ?_
    refine pA 5 (some 34) (bz 14 63) HT_ ?_
    refine pU 6 (some 35) (bz 14 127) HT_ ?_
    refine pU 7 (some 36) (bz 14 255) HT_ ?_
    refine pU 8 (some 37) (bz 14 511) HT_ ?_
    refine pU 9 (some 38) (bz 14 1023) HT_ ?_
    refine pU 10 (some 39) (bz 14 2047) HT_ ?_
    refine pU 11 (some 40) (bz 14 4095) HT_ ?_
    refine pA 12 (some 41) (bz 14 0x1fff) HT_ ?_
    refine pA 13 (some 4) (bz 14 0x3fff) HT_ ?_
    refine done_ (done_of HT_.out (by kernel_rfl)) ?_
    try go_wp2
    go_ret
    exact ⟨y0_11, UpW.out⟩
   rw [if_neg c14] at H
   have c14b0 : (t248 == a1_0) = false := beq_eq_false_iff_ne.mpr c14; have c14b1 : (t248 != a1_0) = true := bne_iff_ne.mpr c14
   (first | rw [c14b0] | (simp only [i64_w, i32_w]; rw [c14b0]) | skip)
   obtain rfl := Option.some.inj H
   go_wp2
   go_ret
   exact ⟨y0_11, UpW.out⟩
  replace c8 := Bool.eq_false_iff.mpr c8; subst c8
  rw [if_neg (show ¬ (false = true) by decide)] at H
  have H' := Aside0.mk H; clear H
  try go_wp2
  refine sB [] spec_QcOk.tab1 spec_QcOk.bits1 ?_; intro w24 _ HT_ HW_
  refine tB 0 (some 5) (bz 17 1) HT_ HW_ ?_
  refine o1 1 (some 6) (bz 17 3) HT_ rfl (kC Tryd.func32 (spec_ConfOk.calls (w := _) (h := A5.out)) ?_); intro w25 _
  refine nA (some 6) ?_
  refine pA 2 (some 7) (bz 17 7) HT_ ?_
  refine pA 3 (some 8) (bz 17 15) HT_ ?_
  refine pA 4 (some 9) (bz 17 31) HT_ ?_
  refine tB 5 (some 10) (bz 17 63) HT_ HW_ ?_
  refine o1 6 (some 11) (bz 17 127) HT_ rfl (kC Tryd.func63 (spec_NameOk.calls (w := _) (h := A7.out)) ?_); intro w26 _
  refine nA (some 11) ?_
  refine pA 7 (some 12) (bz 17 255) HT_ ?_
  refine pA 8 (some 13) (bz 17 511) HT_ ?_
  refine pA 9 (some 14) (bz 17 1023) HT_ ?_
  refine pU 10 (some 15) (bz 17 2047) HT_ ?_
  refine pU 11 (some 16) (bz 17 4095) HT_ ?_
  refine pU 12 (some 17) (bz 17 0x1fff) HT_ ?_
  refine pU 13 (some 18) (bz 17 0x3fff) HT_ ?_
  refine pU 14 (some 19) (bz 17 0x7fff) HT_ ?_
  refine pU 15 (some 20) (bz 17 0xffff) HT_ ?_
  refine pA 16 (some 21) (bz 17 0x1ffff) HT_ ?_
  refine done_ (done_of HT_.out (by kernel_rfl)) ?_
  go_upto_if 21 with fail
  have H := H'.out; clear H'; obtain rfl := Option.some.inj H
  go_wp2
  go_ret
  exact ⟨y0_11, UpW.out⟩
 replace c6 := Bool.eq_false_iff.mpr c6; subst c6
 rw [if_neg (show ¬ (false = true) by decide)] at H
 have H' := Aside0.mk H; clear H
 try go_wp2
 refine sB [] spec_QcOk.tab1 spec_QcOk.bits1 ?_; intro w27 _ HT_ HW_
 refine tB 0 (some 5) (bz 17 1) HT_ HW_ ?_
 refine o1 1 (some 6) (bz 17 3) HT_ rfl (kC Tryd.func32 (spec_ConfOk.calls (w := _) (h := A5.out)) ?_); intro w28 _
 refine nA (some 6) ?_
 refine pA 2 (some 7) (bz 17 7) HT_ ?_
 refine pA 3 (some 8) (bz 17 15) HT_ ?_
 refine pU 4 (some 9) (bz 17 31) HT_ ?_
 refine pU 5 (some 10) (bz 17 63) HT_ ?_
 refine pU 6 (some 11) (bz 17 127) HT_ ?_
 refine pU 7 (some 12) (bz 17 255) HT_ ?_
 refine pA 8 (some 13) (bz 17 511) HT_ ?_
 refine pA 9 (some 14) (bz 17 1023) HT_ ?_
 refine pU 10 (some 15) (bz 17 2047) HT_ ?_
 refine pU 11 (some 16) (bz 17 4095) HT_ ?_
 refine pU 12 (some 17) (bz 17 0x1fff) HT_ ?_
 refine pU 13 (some 18) (bz 17 0x3fff) HT_ ?_
 refine pU 14 (some 19) (bz 17 0x7fff) HT_ ?_
 refine pU 15 (some 20) (bz 17 0xffff) HT_ ?_
 refine pA 16 (some 21) (bz 17 0x1ffff) HT_ ?_
 refine done_ (done_of HT_.out (by kernel_rfl)) ?_
 go_upto_if 21 with fail
 have H := H'.out; clear H'; obtain rfl := Option.some.inj H
 go_wp2
 go_ret
 exact ⟨y0_11, UpW.out⟩

/-! ### spec_QcOf: function 11 -/
def spec_QcOf.f (k : Nat) (a0_0 : Int) (a0_1 : Int) (l1 : List Int) (a2 : Int) : Option (Int × ByteArray × List Int × Int × Bool) := (spec_l12Qc.f k l1 a2 true).bind fun bt254 => (if bt254.2.2.2.2 = true then ((spec_QcOk.f k a0_0 a0_1 bt254.1 bt254.2.1 bt254.2.2.1).bind fun t262 => (if t262 = true then (some (bt254.1, bt254.2.1, bt254.2.2.1, bt254.2.2.2.1, true)) else (some (0, (⟨#[]⟩ : ByteArray), ([] : List Int), 0, false)))) else (some (0, (⟨#[]⟩ : ByteArray), ([] : List Int), 0, false)))
theorem spec_QcOf.mono : ∀ a0 a1 a2 a3 k, LeO (spec_QcOf.f k a0 a1 a2 a3) (spec_QcOf.f (k + 1) a0 a1 a2 a3) := by
 intro a0 a1 a2 a3 k
 unfold spec_QcOf.f
 repeat' first | (with_reducible exact spec_QcOk.mono _ _ _ _ _ _) | (with_reducible exact spec_l12Qc.mono _ _ _ _) | (with_reducible exact LeO.refl _) | (with_reducible exact LeO.none _) | (with_reducible refine LeO.ite ?_ ?_) | (with_reducible refine LeO.bind ?_ (fun _ => ?_))
def spec_QcOf.T5 : Bool × List (List Nat × List Nat) := (true, [([], []), ([], []), ([1], [1]), ([2], [2]), ([3], [3]), ([0, 0], [0]), ([4, 5, 0, 1, 2, 3, 4, 5], [4]), ([6, 0, 1, 2, 3, 4, 5, 6], [])])
def spec_QcOf.B5 : List Nat := [0, 0, 2, 6, 14, 1, 63, 127]
theorem spec_QcOf.tab5 : rtab .any (opsOf Tryd.f11 5) = spec_QcOf.T5 := by kernel_rfl
theorem spec_QcOf.bits5 : waitsOk spec_QcOf.T5.2 spec_QcOf.B5 = true := by kernel_rfl
set_option maxHeartbeats 8000000 in
set_option maxRecDepth 100000 in
theorem spec_QcOf.calls (k : Nat) (a0_0 : Int) (a0_1 : Int) (A1 : Option Addr) (c1 : Nat) (l1 : List Int) (a2 : Int) (r1 : Int) (r2 : ByteArray) (r3 : List Int) (r4 : Int) (r5 : Bool) (w : World) (hr1 : Kd.C (Kd.int .u8) w A1 l1.length l1) (hc1 : l1.length ≤ c1) (h : spec_QcOf.f k a0_0 a0_1 l1 a2 = some (r1, r2, r3, r4, r5)) :
  Calls Tryd.prog 11 #[.agg #[.int .i64 a0_0, .int .i64 a0_1], .slice A1 l1.length c1, .int .i64 a2] w fun e w' => ∃ v2_ : Value, e = .returned (.tuple #[.agg #[.int .i64 r1, .string r2, v2_], .int .i64 r4, .bool r5]) ∧ Kd.R (Kd.int .i64) 3 w' w.heap.size (fun _ => True) v2_ r3 ∧ Below w.heap.size w w' := by
 have hu25 := Tryd.underlying25; have hu32 := Tryd.underlying32; have hu63 := Tryd.underlying63; have HR1 := Aside0.mk hr1; have HC1 := Aside0.mk hc1; clear hr1 hc1; have HB := Aside0.mk (Below.refl w.heap.size w)
 have H := h; unfold spec_QcOf.f at H
 clear h; obtain ⟨⟨t254, t255, t256, t259, t260⟩, A4, H⟩ := oB H; (try dsimp only at H)
 go_enter Tryd.func11, Tryd.ntmps11
 have H' := Aside0.mk H; clear H
 go_upto_region 3 with (first | ((with_reducible refine gd 3 ?_); refine bL 3 #[.int .i64 a0_0, .int .i64 a0_1] 25 ?_; intro gb251 w5 _ _ _) | ((with_reducible refine gd 6 ?_); refine bL 6 #[.int .i64 0, .string (⟨#[]⟩ : ByteArray), .slice none 0 0] 32 ?_; intro gb252 w6 _ _ _) | ((with_reducible refine gd 14 ?_); refine bL 14 #[.slice A1 l1.length c1, .int .i64 a2, .bool true] 63 ?_; intro gb253 w7 _ _ _) | ((with_reducible refine gate_callee (f := 35) rfl ?_); refine gK1 (some 16) Tryd.func35 (spec_l12Qc.calls (hI := (nS63 xB HR1 HC1)) (hB := UpW.out) (w := _) (h := A4.out)) ?_; intro Ao257 co257 w8 _ _ _ HI9 HO258; obtain ⟨AS10_0, cS10_0, bk10, HG10, HS10_0, HL10_0⟩ := oS63 HI9) | ((with_reducible refine gd 10 ?_); refine bL 10 #[.int .i64 0, .string (⟨#[]⟩ : ByteArray), .slice none 0 0] 32 ?_; intro gb261 w11 _ _ _))
 have H := H'.out; clear H'
 by_cases c12 : t260 = true
 ·
  subst c12
  rw [if_pos rfl] at H
  obtain ⟨t262, A13, H⟩ := oB H; (try dsimp only at H); have H' := Aside0.mk H; clear H
  go_upto_if 27 with (first | (go_at_call 36; refine aC (spec_QcOk.calls (hr1_2 := rC HO258) (hc1_2 := rL HO258) (w := _) (h := A13.out)) ?_; intro w14 _))
  have H := H'.out; clear H'
  by_cases c15 : t262 = true
  ·
   subst c15
   rw [if_pos rfl] at H
   simp only [Option.some.injEq, Prod.mk.injEq] at H
   obtain ⟨rfl, rfl, rfl, rfl, rfl⟩ := H
   try go_wp2
   refine sB [gb252] spec_QcOf.tab5 spec_QcOf.bits5 ?_; intro w16 _ HT_ HW_
   refine tB 0 (some 29) (bz 8 1) HT_ HW_ ?_
   refine pA 1 (some 30) (bz 8 3) HT_ ?_
   refine pA 2 (some 31) (bz 8 7) HT_ ?_
   refine pA 3 (some 32) (bz 8 15) HT_ ?_
   refine tB 4 (some 33) (bz 8 31) HT_ HW_ ?_
   refine o1 5 none (bz 8 63) HT_ rfl (kS ?_)
   refine pA 6 (some 7) (bz 8 127) HT_ ?_
   refine pA 7 (some 8) (bz 8 255) HT_ ?_
   refine done_ (done_of HT_.out (by kernel_rfl)) ?_
   try go_wp2
   refine bodyPost_ret (results_ctt rfl _ _ gb252 32 #[.int .i64 t254, .string t255, .slice Ao257 t256.length co257] (0, 0) _ rfl xB Tryd.underlying32 rfl (by kernel_rfl)) rfl ?_
   exact ⟨_, y0_11, rR HO258, UpW.out⟩
  replace c15 := Bool.eq_false_iff.mpr c15; subst c15
  rw [if_neg (show ¬ (false = true) by decide)] at H
  simp only [Option.some.injEq, Prod.mk.injEq] at H
  obtain ⟨rfl, rfl, rfl, rfl, rfl⟩ := H
  go_wp2
  refine bodyPost_ret (results_ctt rfl _ _ gb252 32 #[.int .i64 0, .string (⟨#[]⟩ : ByteArray), .slice none 0 0] (0, 0) _ rfl xB Tryd.underlying32 rfl (by kernel_rfl)) rfl ?_
  exact ⟨_, y0_11, Kd.R_nil _ _ _ _ _, UpW.out⟩
 replace c12 := Bool.eq_false_iff.mpr c12; subst c12
 rw [if_neg (show ¬ (false = true) by decide)] at H
 have H' := Aside0.mk H; clear H
 go_upto_if 27 with fail
 have H := H'.out; clear H'
 simp only [Option.some.injEq, Prod.mk.injEq] at H
 obtain ⟨rfl, rfl, rfl, rfl, rfl⟩ := H
 go_wp2
 refine bodyPost_ret (results_ctt rfl _ _ gb252 32 #[.int .i64 0, .string (⟨#[]⟩ : ByteArray), .slice none 0 0] (0, 0) _ rfl xB Tryd.underlying32 rfl (by kernel_rfl)) rfl ?_
 exact ⟨_, y0_11, Kd.R_nil _ _ _ _ _, UpW.out⟩

/-! ### laws_toConf: function 12 -/
def laws_toConf.f (a0_0 : Int) (a0_1 : Int) : Option (Int × Int) := some (a0_0, a0_1)
set_option maxHeartbeats 8000000 in
set_option maxRecDepth 100000 in
theorem laws_toConf.calls (a0_0 : Int) (a0_1 : Int) (r1 : Int) (r2 : Int) (w : World) (h : laws_toConf.f a0_0 a0_1 = some (r1, r2)) :
  Calls Tryd.prog 12 #[.agg #[.int .i64 a0_0, .int .i64 a0_1]] w fun e w' => e = .returned (.agg #[.int .i64 r1, .int .i64 r2]) ∧ Below w.heap.size w w' := by
 have hu35 := Tryd.underlying35; have hu25 := Tryd.underlying25; have HB := Aside0.mk (Below.refl w.heap.size w); have H := h; unfold laws_toConf.f at H; clear h
 simp only [Option.some.injEq, Prod.mk.injEq] at H
 obtain ⟨rfl, rfl⟩ := H
 go_enter Tryd.func12, Tryd.ntmps12
 go_wp2_with (first | ((with_reducible refine gd 1 ?_); refine bL 1 #[.int .i64 a0_0, .int .i64 a0_1] 35 ?_; intro gb263 w2 _ _ _) | ((with_reducible refine gd 2 ?_); refine bL 2 #[.int .i64 0, .int .i64 0] 25 ?_; intro gb264 w3 _ _ _) | ((with_reducible refine gd 3 ?_); refine bL 3 #[.int .i64 0, .int .i64 0] 25 ?_; intro gb265 w4 _ _ _))
 refine bodyPost_ret (results_cell_row rfl _ _ gb264 25 #[.int .i64 a0_0, .int .i64 a0_1] (0, 0) _ rfl xB Tryd.underlying25 rfl (by kernel_rfl)) rfl ?_
 exact ⟨y0_11, UpW.out⟩

/-! ### laws_toByteS: function 13 -/
def laws_toByteS.l0 : Nat → List Int → List Int → Int → Option (List Int)
 | 0, _, _, _ => none
 | k + 1, x0, x3, x4 => if x4 < (x0.length : Int) then (if 0 ≤ x4 then (if x4 < (x3.length : Int) then (laws_toByteS.l0 k x0 (x3.set (x4 : Int).toNat (rd x0 x4)) (wrap64 (x4 + 1))) else (none)) else (none)) else (some x3)
def laws_toByteS.f (k : Nat) (l0 : List Int) : Option (List Int) := if 0 ≤ (l0.length : Int) then (if ((l0.length : Int) : Int).toNat ≤ 281474976710656 then (laws_toByteS.l0 k l0 (List.replicate ((l0.length : Int) : Int).toNat 0) 0) else (none)) else (none)
theorem laws_toByteS.mono_l : ∀ k, (∀ y0 y1 y2, LeO (laws_toByteS.l0 k y0 y1 y2) (laws_toByteS.l0 (k + 1) y0 y1 y2))
 | 0 => fun _ _ _ r h => by simp [laws_toByteS.l0] at h
 | k + 1 => by
  have ih0 := laws_toByteS.mono_l k
  intro y0 y1 y2
  unfold laws_toByteS.l0
  repeat' first | (with_reducible exact ih0 _ _ _) | (with_reducible exact LeO.refl _) | (with_reducible exact LeO.none _) | (with_reducible refine LeO.ite ?_ ?_) | (with_reducible refine LeO.bind ?_ (fun _ => ?_))
theorem laws_toByteS.mono : ∀ a0 k, LeO (laws_toByteS.f k a0) (laws_toByteS.f (k + 1) a0) := by
 intro a0 k
 have ih0 := laws_toByteS.mono_l k
 unfold laws_toByteS.f
 repeat' first | (with_reducible exact ih0 _ _ _) | (with_reducible exact LeO.refl _) | (with_reducible exact LeO.none _) | (with_reducible refine LeO.ite ?_ ?_) | (with_reducible refine LeO.bind ?_ (fun _ => ?_))
set_option maxHeartbeats 8000000 in
set_option maxRecDepth 100000 in
theorem laws_toByteS.calls (k : Nat) (A0 : Option Addr) (c0 : Nat) (l0 : List Int) (r : List Int) (w : World) (hr0 : Kd.C (Kd.int .u8) w A0 l0.length l0) (hc0 : l0.length ≤ c0) (h : laws_toByteS.f k l0 = some r) :
  Calls Tryd.prog 13 #[.slice A0 l0.length c0] w fun e w' => ∃ v0_ : Value, e = .returned (v0_) ∧ Kd.R (Kd.int .u8) 5 w' w.heap.size (fun _ => True) v0_ r ∧ Below w.heap.size w w' := by
 have HR0 := Aside0.mk hr0; have HC0 := Aside0.mk hc0; clear hr0 hc0; have HB := Aside0.mk (Below.refl w.heap.size w); have H := h; unfold laws_toByteS.f at H; clear h
 by_cases c2 : 0 ≤ (l0.length : Int)
 ·
  rw [if_pos c2] at H
  have c2b0 := eq_true c2; have c2b1 : decide (0 ≤ (l0.length : Int)) = true := decide_eq_true c2; clear c2
  by_cases c3 : ((l0.length : Int) : Int).toNat ≤ 281474976710656
  rotate_left
  ·
   rw [if_neg c3] at H
   exact absurd H (by simp)
  rw [if_pos c3] at H
  have c3b0 := eq_true c3; have c3b1 : decide (((l0.length : Int) : Int).toNat ≤ 281474976710656) = true := decide_eq_true c3; clear c3; obtain ⟨y266, hy266⟩ : ∃ y_ : List Int, y_ = (List.replicate ((l0.length : Int) : Int).toNat 0) := ⟨_, rfl⟩
  replace H : (laws_toByteS.l0 k l0 y266 0) = some r := by first | (rw [hy266]; with_reducible exact H) | (have H2_ := (Option.bind_some _ _).symm.trans H; rw [hy266]; with_reducible exact H2_) | (have H2_ := (Option.bind_some _ _).symm.trans H; with_reducible exact H2_) | with_reducible exact H | (rw [hy266]; exact H) | exact H
  have Ny266 := Aside0.mk hy266; clear hy266; have H' := Aside0.mk H; clear H
  go_enter Tryd.func13, Tryd.ntmps13
  go_wp2_with (first | ((with_reducible refine gate_dst (N := 7) rfl ?_); refine Kd.R_make (Kd.int .u8) _ 5 rfl (N := 7) rfl 22 _ _ rfl (l0.length : Int) rfl rfl Tryd.underlying22 (.int .u8 0) 1 info5 rfl (by decide) (by omega) 0 (ok := fun _ => True) (okp := fun _ => True) rfl (fun _ hk => hk) trivial (of_decide_eq_true y0_10) (Nat.le_trans (Nat.mul_le_mul_right _ (of_decide_eq_true y0_10 : (l0.length : Int).toNat ≤ 281474976710656)) (by omega)) (Below.refl _ _) (Nat.le_refl _) ?_; intro v267 w4 ho5 hb hg_ hnew_; clear hg_ hnew_; (first | rw [← Ny266.out] at ho5 | (simp only [Int.reduceToNat] at ho5; rw [← Ny266.out] at ho5)); have HO268 := Aside0.mk (Kd.R_lower ho5 (below_size (bI HB.out))); replace HB := bs HB hb; clear hb ho5))
  go_loopg [4] k (fun kq v4 w' => ∃ (x3_1 : List Int) (x4_1 : Int), v4 = .int .i64 x4_1 ∧ Aside0 (laws_toByteS.l0 kq l0 x3_1 x4_1 = some r) ∧ Aside0 (kq ≤ k) ∧ Aside0 (Kd.R (Kd.int .u8) 5 w' w.heap.size (fun _ => True) v267 x3_1) ∧ Aside0 (Below w.heap.size w w'))
  case atStart => exact ⟨(y266), (0), y0_11, H', ⟨Nat.le_refl _⟩, ⟨by (with_reducible repeat (first | apply Kd.R_alloc | apply Kd.R_drewN | apply Kd.R_drew)); exact HO268.out⟩, ⟨bI HB.out⟩⟩
  case round =>
   clear H'
   try clear c1
   try clear c2
   try clear c2b0
   try clear c2b1
   try clear p2
   try clear c3
   try clear c3b0
   try clear c3b1
   obtain ⟨x3_1, x4_1, rfl, HA, HK1, HO_3, HB⟩ := hrel; cases gk with
   | zero => exact absurd HA.out (by simp [laws_toByteS.l0])
   | succ k1 =>
    have H := HA.out; clear HA
    simp only [laws_toByteS.l0] at H
    by_cases c6 : x4_1 < (l0.length : Int)
    ·
     rw [if_pos c6] at H
     have c6b0 : decide (x4_1 < (l0.length : Int)) = true := decide_eq_true c6; clear c6
     by_cases c7 : 0 ≤ x4_1
     rotate_left
     ·
      rw [if_neg c7] at H
      exact absurd H (by simp)
     rw [if_pos c7] at H
     have c7b0 : decide (0 ≤ x4_1) = true := decide_eq_true c7; clear c7
     by_cases c8 : x4_1 < (x3_1.length : Int)
     rotate_left
     ·
      rw [if_neg c8] at H
      exact absurd H (by simp)
     rw [if_pos c8] at H
     have c8b0 : decide (x4_1 < (x3_1.length : Int)) = true := decide_eq_true c8; clear c8; obtain ⟨y270, hy270⟩ : ∃ y_ : List Int, y_ = (x3_1.set (x4_1 : Int).toNat (rd l0 x4_1)) := ⟨_, rfl⟩
     replace H : (laws_toByteS.l0 k1 l0 y270 (wrap64 (x4_1 + 1))) = some r := by first | (rw [hy270]; with_reducible exact H) | (have H2_ := (Option.bind_some _ _).symm.trans H; rw [hy270]; with_reducible exact H2_) | (have H2_ := (Option.bind_some _ _).symm.trans H; with_reducible exact H2_) | with_reducible exact H | (rw [hy270]; exact H) | exact H
     have Ny270 := Aside0.mk hy270; clear hy270; have H' := Aside0.mk H; clear H; have p269 : 0 ≤ (x4_1 : Int) := of_decide_eq_true y0_10; have q269 : x4_1 < (l0.length : Int) := of_decide_eq_true y0_10; obtain ⟨ad269, e269, hx269_0⟩ := Kd.at_int HR0.out x4_1 p269 q269; cases e269; replace hx269_0 := bx HB hx269_0; replace p269 := eq_true p269; replace q269 := eq_true q269; have p9 : 0 ≤ (x4_1 : Int) := of_decide_eq_true y0_10; have q9 : (x4_1 : Int) < ((x3_1.length : Int) : Int) := of_decide_eq_true y0_10
     obtain ⟨go9, co9, eo9, gb9, gl9, cl9, HG9⟩ := Kd.R_form HO_3.out (by omega)
     (first | cases eo9 | (injection eo9 with ea_ en_ ec_; (first | subst ea_ | (injection ea_ with ea_; subst ea_)); subst ec_; clear en_))
     have GB9 := Aside0.mk gb9; have GG9 := Aside0.mk HG9; clear gb9 gl9 HG9; obtain ⟨hx9_0, hf9_0⟩ := Kd.R_celln 0 HO_3.out (x4_1 : Int) p9 q9; replace p9 := eq_true p9; replace q9 := eq_true q9; have HP10 := Kd.R_putg HO_3.out (x4_1 : Int) (rd l0 x4_1)
     go_wp2_with (first | ((with_reducible refine gate_store (t := 5) (p := 20) rfl ?_); refine store_event (t := 5) (p := 20) (v := ?vo_w11) (w1 := (wr.setCell ⟨go9, (x4_1 : Int).toNat, none⟩ (.int .u8 (rd l0 x4_1)))) ?hg ?ho ?hn ?hr ?_; (case ho => rfl); (case hg => rfl); (case hn => rfl); (case hr => first | (go_simp; done) | (go_simp; rfl)); intro w11 hw; have hg : wr.grownBy w11 (some go9) := (by rw [hw]; exact HP10.2); have hp_ : Kd.R (Kd.int .u8) 5 w11 w.heap.size (fun _ => True) (.slice (some ⟨go9, 0, none⟩) x3_1.length co9) y270 := (by rw [hw, Ny270.out]; exact HP10.1); clear HP10; replace HO_3 := Aside0.mk (hp_); replace HB := Aside0.mk ((by rw [hw]; exact below_set (HB.out) GB9.out : Below w.heap.size w w11)); clear hg hw hp_))
     go_roundg k1
     case measure => have := HK1.out; omega
     case rel => exact ⟨(y270), (wrap64 (x4_1 + 1)), y0_11, H', ⟨y0_13⟩, ⟨by (with_reducible repeat (first | apply Kd.R_alloc | apply Kd.R_drewN | apply Kd.R_drew)); exact HO_3.out⟩, ⟨bI HB.out⟩⟩
    rw [if_neg c6] at H
    have c6b0 : decide (x4_1 < (l0.length : Int)) = false := decide_eq_false c6; clear c6; obtain rfl := Option.some.inj H
    go_wp2
    go_ret
    exact ⟨_, y0_7, by (with_reducible repeat (first | apply Kd.R_alloc | apply Kd.R_drewN | apply Kd.R_drew)); exact HO_3.out, bI HB.out⟩
 rw [if_neg c2] at H
 exact absurd H (by simp)

end Go.Proofs.YtnpbopadajbopaaDoor.PFnExactQcOf
