-- By a program of this session, out of the translation (the print of the kit, with turns of its own). Lean checks it.
import Derived.Test.YtagpeafaiofkjaaGreatDoorPFnQuorumsx0
import Derived.Test.YtagpeafaiofkjaaGreatDoorPFnQuorumsx12
namespace Go.Proofs.YtagpeafaiofkjaaGreatDoor.PFnQuorums
open Go.RowKit Go.Proofs.YtagpeafaiofkjaaGreatDoorW.PrintWords Go.Proofs.YtagpeafaiofkjaaGreatDoorW.PrintLast Go.Proofs.YtagpeafaiofkjaaGreatDoorW.PrintMore
attribute [local go_sem] max2_int min2_int max_two min_two max_three min_three max_four min_four   -- for this text's walks alone
attribute [local go_sem] cell_in frozen_in
set_option synthInstance.maxSize 1000000
set_option synthInstance.maxHeartbeats 2000000
set_option linter.unusedVariables false
set_option linter.unusedSimpArgs false

/-! ### impl_Common: function 20 -/
def impl_Common.l0 : Nat → List Int → Int → List Int → Int → Int → Option (Int)
 | 0, _, _, _, _, _ => none
 | k + 1, x1, x5, x8, x9, x10 => if x10 < x9 then (if 0 ≤ x10 then (if x10 < (x8.length : Int) then ((impl_SetHas.f k x1 (rd x8 x10)).bind fun t677 => (if t677 = true then (impl_Common.l0 k x1 (wrap64 (x5 + 1)) x8 x9 (wrap64 (x10 + 1))) else (impl_Common.l0 k x1 x5 x8 x9 (wrap64 (x10 + 1))))) else (none)) else (none)) else (some x5)
def impl_Common.f (k : Nat) (l0 : List Int) (l1 : List Int) : Option (Int) := impl_Common.l0 k l1 0 l0 (l0.length : Int) 0
theorem impl_Common.mono_l : ∀ k, (∀ y0 y1 y2 y3 y4, LeO (impl_Common.l0 k y0 y1 y2 y3 y4) (impl_Common.l0 (k + 1) y0 y1 y2 y3 y4))
 | 0 => fun _ _ _ _ _ r h => by simp [impl_Common.l0] at h
 | k + 1 => by
  have ih0 := impl_Common.mono_l k
  intro y0 y1 y2 y3 y4
  unfold impl_Common.l0
  repeat' first | (with_reducible exact ih0 _ _ _ _ _) | (with_reducible exact impl_SetHas.mono _ _ _) | (with_reducible exact LeO.refl _) | (with_reducible exact LeO.none _) | (with_reducible refine LeO.ite ?_ ?_) | (with_reducible refine LeO.bind ?_ (fun _ => ?_))
theorem impl_Common.mono : ∀ a0 a1 k, LeO (impl_Common.f k a0 a1) (impl_Common.f (k + 1) a0 a1) := by
 intro a0 a1 k
 have ih0 := impl_Common.mono_l k
 unfold impl_Common.f
 repeat' first | (with_reducible exact ih0 _ _ _ _ _) | (with_reducible exact impl_SetHas.mono _ _ _) | (with_reducible exact LeO.refl _) | (with_reducible exact LeO.none _) | (with_reducible refine LeO.ite ?_ ?_) | (with_reducible refine LeO.bind ?_ (fun _ => ?_))
set_option maxHeartbeats 8000000 in
set_option maxRecDepth 100000 in
theorem impl_Common.calls (k : Nat) (A0 : Option Addr) (c0 : Nat) (l0 : List Int) (A1 : Option Addr) (c1 : Nat) (l1 : List Int) (r : Int) (w : World) (hr0 : Kd.C (Kd.int .i64) w A0 l0.length l0) (hc0 : l0.length ≤ c0) (hr1 : Kd.C (Kd.int .i64) w A1 l1.length l1) (hc1 : l1.length ≤ c1) (h : impl_Common.f k l0 l1 = some r) :
  Calls Tryz.prog 20 #[.slice A0 l0.length c0, .slice A1 l1.length c1] w fun e w' => e = .returned (.int .i64 r) ∧ Drawn0 w w' := by
 have HR0 := Aside0.mk hr0; have HC0 := Aside0.mk hc0; clear hr0 hc0; have HR1 := Aside0.mk hr1; have HC1 := Aside0.mk hc1; clear hr1 hc1; have H := h; unfold impl_Common.f at H; clear h; have H' := Aside0.mk H; clear H
 go_enter Tryz.func20, Tryz.ntmps20
 go_wp2
 go_loopg [5, 10] k (fun kq v5 v10 w' => ∃ (x5_1 : Int) (x10_1 : Int), v5 = .int .i64 x5_1 ∧ v10 = .int .i64 x10_1 ∧ Aside0 (impl_Common.l0 kq l1 x5_1 l0 (l0.length : Int) x10_1 = some r) ∧ Aside0 (kq ≤ k) ∧ Drawn0 w w')
 case atStart => exact ⟨(0), (0), y0_15, y0_15, H', ⟨Nat.le_refl _⟩, y0_13⟩
 case round =>
  clear H'
  try clear c1
  try clear c2
  try clear p2
  obtain ⟨x5_1, x10_1, rfl, rfl, HA, HK1, ⟨m1, rfl⟩⟩ := hrel; cases gk with
  | zero => exact absurd HA.out (by simp [impl_Common.l0])
  | succ k1 =>
   have H := HA.out; clear HA
   simp only [impl_Common.l0] at H
   by_cases c3 : x10_1 < (l0.length : Int)
   ·
    rw [if_pos c3] at H
    have c3b0 : decide (x10_1 < (l0.length : Int)) = true := decide_eq_true c3; clear c3
    by_cases c4 : 0 ≤ x10_1
    rotate_left
    ·
     rw [if_neg c4] at H
     exact absurd H (by simp)
    rw [if_pos c4] at H
    have c4b0 : decide (0 ≤ x10_1) = true := decide_eq_true c4; clear c4
    by_cases c5 : x10_1 < (l0.length : Int)
    rotate_left
    ·
     rw [if_neg c5] at H
     exact absurd H (by simp)
    rw [if_pos c5] at H
    have c5b0 : decide (x10_1 < (l0.length : Int)) = true := decide_eq_true c5; clear c5; obtain ⟨t677, A6, H⟩ := oB H; (try dsimp only at H)
    by_cases c7 : t677 = true
    ·
     subst c7
     rw [if_pos rfl] at H
     have H' := Aside0.mk H; clear H; have p676 : 0 ≤ (x10_1 : Int) := of_decide_eq_true y0_14; have q676 : x10_1 < (l0.length : Int) := of_decide_eq_true y0_14; obtain ⟨ad676, e676, hx676_0⟩ := Kd.at_int HR0.out x10_1 p676 q676; cases e676; replace p676 := eq_true p676; replace q676 := eq_true q676
     go_wp2_with (first | ((with_reducible refine gate_callee (f := 38) rfl ?_); refine gB (some 16) Tryz.func38 #[.slice A1 l1.length c1, .int .i64 (rd l0 x10_1)] ?_; (with_reducible refine (impl_SetHas.calls k1 _ _ l1 (rd l0 x10_1) true _ ?side1 ?side2 A6.out).mono ?_); (case side1 => exact cI HR1.out); (case side2 => exact HC1.out); rintro e w' ⟨rfl, ⟨nd, rfl⟩⟩; refine ⟨_, rfl, ?_⟩))
     go_roundg k1
     case measure => have := HK1.out; omega
     case rel => exact ⟨(wrap64 (x5_1 + 1)), (wrap64 (x10_1 + 1)), y0_15, y0_15, H', ⟨y0_17⟩, y0_13⟩
    replace c7 := Bool.eq_false_iff.mpr c7; subst c7
    rw [if_neg (show ¬ (false = true) by decide)] at H
    have H' := Aside0.mk H; clear H; have p676 : 0 ≤ (x10_1 : Int) := of_decide_eq_true y0_14; have q676 : x10_1 < (l0.length : Int) := of_decide_eq_true y0_14; obtain ⟨ad676, e676, hx676_0⟩ := Kd.at_int HR0.out x10_1 p676 q676; cases e676; replace p676 := eq_true p676; replace q676 := eq_true q676
    go_wp2_with (first | ((with_reducible refine gate_callee (f := 38) rfl ?_); refine gB (some 16) Tryz.func38 #[.slice A1 l1.length c1, .int .i64 (rd l0 x10_1)] ?_; (with_reducible refine (impl_SetHas.calls k1 _ _ l1 (rd l0 x10_1) false _ ?side1 ?side2 A6.out).mono ?_); (case side1 => exact cI HR1.out); (case side2 => exact HC1.out); rintro e w' ⟨rfl, ⟨nd, rfl⟩⟩; refine ⟨_, rfl, ?_⟩))
    go_roundg k1
    case measure => have := HK1.out; omega
    case rel => exact ⟨(x5_1), (wrap64 (x10_1 + 1)), y0_15, y0_15, H', ⟨y0_17⟩, y0_13⟩
   rw [if_neg c3] at H
   have c3b0 : decide (x10_1 < (l0.length : Int)) = false := decide_eq_false c3; clear c3; obtain rfl := Option.some.inj H
   go_wp2
   go_ret
   exact ⟨y0_15, y0_13⟩

end Go.Proofs.YtagpeafaiofkjaaGreatDoor.PFnQuorums
