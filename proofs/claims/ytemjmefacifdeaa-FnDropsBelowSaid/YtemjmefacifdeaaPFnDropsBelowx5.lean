-- By a program of this session, out of the translation (the print of the kit, with turns of its own). Lean checks it.
import Derived.Test.YtemjmefacifdeaaPFnDropsBelowx0
import Derived.Test.YtemjmefacifdeaaPFnDropsBelowx4
namespace Go.Proofs.Ytemjmefacifdeaa.PFnDropsBelow
open Go.RowKit Go.Proofs.YtemjmefacifdeaaW.PrintWords Go.Proofs.YtemjmefacifdeaaW.PrintLast Go.Proofs.YtemjmefacifdeaaW.PrintMore
attribute [local go_sem] max2_int min2_int max_two min_two max_three min_three max_four min_four   -- for this text's walks alone
set_option linter.unusedVariables false
set_option linter.unusedSimpArgs false

/-! ### spec_SetOk: function 73 -/
def spec_SetOk.l0 : Nat → Int → List Int → Int → Option (Bool)
 | 0, _, _, _ => none
 | k + 1, x0, x1, x5 => if x5 < (x1.length : Int) then (if 0 ≤ x5 then (if (rd x1 x5) < 0 then (some false) else (if (rd x1 x5) ≥ x0 then (some false) else (if x5 > 0 then (if 0 ≤ (wrap64 (x5 - 1)) then (if (wrap64 (x5 - 1)) < (x1.length : Int) then (if (rd x1 (wrap64 (x5 - 1))) ≥ (rd x1 x5) then (some false) else (spec_SetOk.l0 k x0 x1 (wrap64 (x5 + 1)))) else (none)) else (none)) else (spec_SetOk.l0 k x0 x1 (wrap64 (x5 + 1)))))) else (none)) else (some true)
def spec_SetOk.f (k : Nat) (a0 : Int) (l1 : List Int) : Option (Bool) := spec_SetOk.l0 k a0 l1 0
theorem spec_SetOk.mono_l : ∀ k, (∀ y0 y1 y2, LeO (spec_SetOk.l0 k y0 y1 y2) (spec_SetOk.l0 (k + 1) y0 y1 y2))
 | 0 => fun _ _ _ r h => by simp [spec_SetOk.l0] at h
 | k + 1 => by
  have ih0 := spec_SetOk.mono_l k
  intro y0 y1 y2
  unfold spec_SetOk.l0
  repeat' first | (with_reducible exact ih0 _ _ _) | (with_reducible exact LeO.refl _) | (with_reducible exact LeO.none _) | (with_reducible refine LeO.ite ?_ ?_) | (with_reducible refine LeO.bind ?_ (fun _ => ?_))
theorem spec_SetOk.mono : ∀ a0 a1 k, LeO (spec_SetOk.f k a0 a1) (spec_SetOk.f (k + 1) a0 a1) := by
 intro a0 a1 k
 have ih0 := spec_SetOk.mono_l k
 unfold spec_SetOk.f
 repeat' first | (with_reducible exact ih0 _ _ _) | (with_reducible exact LeO.refl _) | (with_reducible exact LeO.none _) | (with_reducible refine LeO.ite ?_ ?_) | (with_reducible refine LeO.bind ?_ (fun _ => ?_))
set_option maxHeartbeats 8000000 in
set_option maxRecDepth 100000 in
theorem spec_SetOk.calls (k : Nat) (a0 : Int) (A1 : Option Addr) (c1 : Nat) (l1 : List Int) (r : Bool) (w : World) (hr1 : Kd.C (Kd.int .i64) w A1 l1.length l1) (hc1 : l1.length ≤ c1) (h : spec_SetOk.f k a0 l1 = some r) :
  Calls Try.prog 73 #[.int .i64 a0, .slice A1 l1.length c1] w fun e w' => e = .returned (.bool r) ∧ Drawn0 w w' := by
 have HR1 := Aside0.mk hr1; have HC1 := Aside0.mk hc1; clear hr1 hc1; have H : (spec_SetOk.l0 k a0 l1 0) = some r := h; clear h; have H' := Aside0.mk H; clear H
 go_enter Try.func73, Try.ntmps73
 go_wp2
 repeat (go_quiet (fail); try go_wp2)
 go_loopg [5] k (fun kq v5 w' => ∃ (x5_1 : Int), v5 = .int .i64 x5_1 ∧ Aside0 (spec_SetOk.l0 kq a0 l1 x5_1 = some r) ∧ Aside0 (kq ≤ k) ∧ Drawn0 w w')
 case atStart => exact ⟨(0), y0_21, H', ⟨Nat.le_refl _⟩, y0_18⟩
 case round =>
  clear H'
  try clear c1
  try clear p2
  obtain ⟨x5_1, rfl, HA, HK1, ⟨m1, rfl⟩⟩ := hrel; cases gk with
  | zero => exact absurd HA.out (by simp [spec_SetOk.l0])
  | succ k1 =>
   have H := HA.out; clear HA
   simp only [spec_SetOk.l0] at H
   by_cases c3 : x5_1 < (l1.length : Int)
   ·
    rw [if_pos c3] at H
    have c3b0 : decide (x5_1 < (l1.length : Int)) = true := decide_eq_true c3; clear c3
    by_cases c4 : 0 ≤ x5_1
    rotate_left
    ·
     rw [if_neg c4] at H
     exact absurd H (by simp)
    rw [if_pos c4] at H
    have c4b0 : decide (0 ≤ x5_1) = true := decide_eq_true c4; clear c4
    by_cases c5 : (rd l1 x5_1) < 0
    ·
     rw [if_pos c5] at H
     have c5b0 : decide ((rd l1 x5_1) < 0) = true := decide_eq_true c5; clear c5; obtain rfl := Option.some.inj H; have p281 : 0 ≤ (x5_1 : Int) := of_decide_eq_true y0_20; have q281 : x5_1 < (l1.length : Int) := of_decide_eq_true y0_20; obtain ⟨ad281, e281, hx281_0⟩ := Kd.at_int HR1.out x5_1 p281 q281; cases e281; replace p281 := eq_true p281; replace q281 := eq_true q281
     go_wp2
     repeat (go_quiet (fail); try go_wp2)
     go_ret
     exact ⟨y0_21, y0_18⟩
    rw [if_neg c5] at H
    have c5b0 : decide ((rd l1 x5_1) < 0) = false := decide_eq_false c5; clear c5
    by_cases c6 : (rd l1 x5_1) ≥ a0
    ·
     rw [if_pos c6] at H
     have c6b0 : decide (a0 ≤ (rd l1 x5_1)) = true := decide_eq_true c6; clear c6; obtain rfl := Option.some.inj H; have p281 : 0 ≤ (x5_1 : Int) := of_decide_eq_true y0_20; have q281 : x5_1 < (l1.length : Int) := of_decide_eq_true y0_20; obtain ⟨ad281, e281, hx281_0⟩ := Kd.at_int HR1.out x5_1 p281 q281; cases e281; replace p281 := eq_true p281; replace q281 := eq_true q281; have p282 : 0 ≤ (x5_1 : Int) := of_decide_eq_true y0_20; have q282 : x5_1 < (l1.length : Int) := of_decide_eq_true y0_20; obtain ⟨ad282, e282, hx282_0⟩ := Kd.at_int HR1.out x5_1 p282 q282
     obtain rfl : ad281 = ad282 := (by injection e282)
     replace p282 := eq_true p282; replace q282 := eq_true q282
     go_wp2
     repeat (go_quiet (fail); try go_wp2)
     go_ret
     exact ⟨y0_21, y0_18⟩
    rw [if_neg c6] at H
    have c6b0 : decide (a0 ≤ (rd l1 x5_1)) = false := decide_eq_false c6; clear c6
    by_cases c7 : x5_1 > 0
    ·
     rw [if_pos c7] at H
     have c7b0 : decide (0 < x5_1) = true := decide_eq_true c7; clear c7; obtain ⟨ji8, hji8⟩ : ∃ j_ : Int, (wrap64 (x5_1 - 1)) = j_ := ⟨_, rfl⟩
     replace H : (if 0 ≤ (ji8) then (if (ji8) < (l1.length : Int) then (if (rd l1 (ji8)) ≥ (rd l1 x5_1) then (some false) else (spec_SetOk.l0 k1 a0 l1 (wrap64 (x5_1 + 1)))) else (none)) else (none)) = some r := by first | (rw [hji8] at H; exact H) | (simp only [hji8] at H ⊢; exact H)
     have hji8w : (IntKind.i64.wrap (x5_1 - 1)) = ji8 := (i64_w _).trans hji8
     by_cases c9 : 0 ≤ (ji8)
     rotate_left
     ·
      rw [if_neg c9] at H
      exact absurd H (by simp)
     rw [if_pos c9] at H
     have c9b0 : decide (0 ≤ (ji8)) = true := decide_eq_true c9; clear c9
     by_cases c10 : (ji8) < (l1.length : Int)
     rotate_left
     ·
      rw [if_neg c10] at H
      exact absurd H (by simp)
     rw [if_pos c10] at H
     have c10b0 : decide ((ji8) < (l1.length : Int)) = true := decide_eq_true c10; clear c10
     by_cases c11 : (rd l1 (ji8)) ≥ (rd l1 x5_1)
     ·
      rw [if_pos c11] at H
      have c11b0 : decide ((rd l1 x5_1) ≤ (rd l1 (ji8))) = true := decide_eq_true c11; clear c11; obtain rfl := Option.some.inj H; have p281 : 0 ≤ (x5_1 : Int) := of_decide_eq_true y0_20; have q281 : x5_1 < (l1.length : Int) := of_decide_eq_true y0_20; obtain ⟨ad281, e281, hx281_0⟩ := Kd.at_int HR1.out x5_1 p281 q281; cases e281; replace p281 := eq_true p281; replace q281 := eq_true q281; have p282 : 0 ≤ (x5_1 : Int) := of_decide_eq_true y0_20; have q282 : x5_1 < (l1.length : Int) := of_decide_eq_true y0_20; obtain ⟨ad282, e282, hx282_0⟩ := Kd.at_int HR1.out x5_1 p282 q282
      obtain rfl : ad281 = ad282 := (by injection e282)
      replace p282 := eq_true p282; replace q282 := eq_true q282; have p283 : 0 ≤ ((ji8) : Int) := of_decide_eq_true y0_20; have q283 : (ji8) < (l1.length : Int) := of_decide_eq_true y0_20; obtain ⟨ad283, e283, hx283_0⟩ := Kd.at_int HR1.out (ji8) p283 q283
      obtain rfl : ad281 = ad283 := (by injection e283)
      replace p283 := eq_true p283; replace q283 := eq_true q283; have p284 : 0 ≤ (x5_1 : Int) := of_decide_eq_true y0_20; have q284 : x5_1 < (l1.length : Int) := of_decide_eq_true y0_20; obtain ⟨ad284, e284, hx284_0⟩ := Kd.at_int HR1.out x5_1 p284 q284
      obtain rfl : ad281 = ad284 := (by injection e284)
      replace p284 := eq_true p284; replace q284 := eq_true q284
      go_wp2
      repeat (go_quiet (fail); try go_wp2)
      go_ret
      exact ⟨by first | rfl | (simp; done) | (simp only [← hji8] <;> (first | rfl | simp)) | (simp [*]; done), y0_18⟩
     rw [if_neg c11] at H
     have c11b0 : decide ((rd l1 x5_1) ≤ (rd l1 (ji8))) = false := decide_eq_false c11; clear c11; have H' := Aside0.mk H; clear H; have p281 : 0 ≤ (x5_1 : Int) := of_decide_eq_true y0_20; have q281 : x5_1 < (l1.length : Int) := of_decide_eq_true y0_20; obtain ⟨ad281, e281, hx281_0⟩ := Kd.at_int HR1.out x5_1 p281 q281; cases e281; replace p281 := eq_true p281; replace q281 := eq_true q281; have p282 : 0 ≤ (x5_1 : Int) := of_decide_eq_true y0_20; have q282 : x5_1 < (l1.length : Int) := of_decide_eq_true y0_20; obtain ⟨ad282, e282, hx282_0⟩ := Kd.at_int HR1.out x5_1 p282 q282
     obtain rfl : ad281 = ad282 := (by injection e282)
     replace p282 := eq_true p282; replace q282 := eq_true q282; have p283 : 0 ≤ ((ji8) : Int) := of_decide_eq_true y0_20; have q283 : (ji8) < (l1.length : Int) := of_decide_eq_true y0_20; obtain ⟨ad283, e283, hx283_0⟩ := Kd.at_int HR1.out (ji8) p283 q283
     obtain rfl : ad281 = ad283 := (by injection e283)
     replace p283 := eq_true p283; replace q283 := eq_true q283; have p284 : 0 ≤ (x5_1 : Int) := of_decide_eq_true y0_20; have q284 : x5_1 < (l1.length : Int) := of_decide_eq_true y0_20; obtain ⟨ad284, e284, hx284_0⟩ := Kd.at_int HR1.out x5_1 p284 q284
     obtain rfl : ad281 = ad284 := (by injection e284)
     replace p284 := eq_true p284; replace q284 := eq_true q284
     go_wp2
     repeat (go_quiet (fail); try go_wp2)
     go_roundg k1
     case measure => have := HK1.out; omega
     case rel => exact ⟨(wrap64 (x5_1 + 1)), y0_21, H', ⟨y0_25⟩, y0_18⟩
    rw [if_neg c7] at H
    have c7b0 : decide (0 < x5_1) = false := decide_eq_false c7; clear c7; have H' := Aside0.mk H; clear H; have p281 : 0 ≤ (x5_1 : Int) := of_decide_eq_true y0_20; have q281 : x5_1 < (l1.length : Int) := of_decide_eq_true y0_20; obtain ⟨ad281, e281, hx281_0⟩ := Kd.at_int HR1.out x5_1 p281 q281; cases e281; replace p281 := eq_true p281; replace q281 := eq_true q281; have p282 : 0 ≤ (x5_1 : Int) := of_decide_eq_true y0_20; have q282 : x5_1 < (l1.length : Int) := of_decide_eq_true y0_20; obtain ⟨ad282, e282, hx282_0⟩ := Kd.at_int HR1.out x5_1 p282 q282
    obtain rfl : ad281 = ad282 := (by injection e282)
    replace p282 := eq_true p282; replace q282 := eq_true q282
    go_wp2
    repeat (go_quiet (fail); try go_wp2)
    go_roundg k1
    case measure => have := HK1.out; omega
    case rel => exact ⟨(wrap64 (x5_1 + 1)), y0_21, H', ⟨y0_25⟩, y0_18⟩
   rw [if_neg c3] at H
   have c3b0 : decide (x5_1 < (l1.length : Int)) = false := decide_eq_false c3; clear c3; obtain rfl := Option.some.inj H
   go_wp2
   repeat (go_quiet (fail); try go_wp2)
   go_ret
   exact ⟨y0_21, y0_18⟩

/-! ### spec_NameOk: function 74 -/
def spec_NameOk.f (k : Nat) (a0 : ByteArray) : Option (Bool) := (spec_Steps.f k a0).bind fun bt285 => (some bt285.2)
theorem spec_NameOk.mono : ∀ a0 k, LeO (spec_NameOk.f k a0) (spec_NameOk.f (k + 1) a0) := by
 intro a0 k
 unfold spec_NameOk.f
 repeat' first | (with_reducible exact spec_Steps.mono _ _) | (with_reducible exact LeO.refl _) | (with_reducible exact LeO.none _) | (with_reducible refine LeO.ite ?_ ?_) | (with_reducible refine LeO.bind ?_ (fun _ => ?_))
set_option maxHeartbeats 8000000 in
set_option maxRecDepth 100000 in
theorem spec_NameOk.calls (k : Nat) (a0 : ByteArray) (r : Bool) (w : World) (h : spec_NameOk.f k a0 = some r) :
  Calls Try.prog 74 #[.string a0] w fun e w' => e = .returned (.bool r) ∧ Below w.heap.size w w' := by
 have HB := Aside0.mk (Below.refl w.heap.size w)
 have H : ((spec_Steps.f k a0).bind fun bt285 => (some bt285.2)) = some r := h
 clear h; obtain ⟨⟨t285, t286⟩, A20, H⟩ := Option.bind_eq_some_iff.mp H
 try dsimp only at H
 have A2 := Aside0.mk A20; clear A20; obtain rfl := Option.some.inj H
 go_enter Try.func74, Try.ntmps74
 go_wp2_with (first | ((with_reducible refine gate_callee (f := 77) rfl ?_); refine gB (some 7) Try.func77 #[.string a0] ?_; (with_reducible refine (spec_Steps.calls k a0 t285 t286 _ A2.out).mono ?_); rintro e w3 ⟨v287, rfl, ho0, hb⟩; refine ⟨_, rfl, ?_⟩; have HO288 := Aside0.mk (Kd.S_lower ho0 (below_size (bI HB.out))); replace HB := bs HB hb; (try clear hb); (try clear ho0)))
 go_ret
 exact ⟨y0_16, bI HB.out⟩

end Go.Proofs.Ytemjmefacifdeaa.PFnDropsBelow
