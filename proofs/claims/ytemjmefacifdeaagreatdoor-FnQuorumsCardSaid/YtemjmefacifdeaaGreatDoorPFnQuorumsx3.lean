-- By a program of this session, out of the translation (the print of the kit, with turns of its own). Lean checks it.
import Derived.Test.YtemjmefacifdeaaGreatDoorPFnQuorumsx0
import Derived.Test.YtemjmefacifdeaaGreatDoorPFnQuorumsx2
namespace Go.Proofs.YtemjmefacifdeaaGreatDoor.PFnQuorums
open Go.RowKit Go.Proofs.YtemjmefacifdeaaGreatDoorW.PrintWords Go.Proofs.YtemjmefacifdeaaGreatDoorW.PrintLast Go.Proofs.YtemjmefacifdeaaGreatDoorW.PrintMore
attribute [local go_sem] max2_int min2_int max_two min_two max_three min_three max_four min_four   -- for this text's walks alone
attribute [local go_sem] cell_in frozen_in
set_option synthInstance.maxSize 1000000
set_option synthInstance.maxHeartbeats 2000000
set_option linter.unusedVariables false
set_option linter.unusedSimpArgs false

/-! ### spec_l2Cut: function 128 -/
def spec_l2Cut.l0 : Nat → ByteArray → Int → Int → Option (ByteArray × ByteArray × Bool)
 | 0, _, _, _ => none
 | k + 1, x0, x1, x7 => if x7 < (x0.size : Int) then (if 0 ≤ x7 then (if (bt x0 x7) = x1 then (if x7 ≤ (x0.size : Int) then (if 0 ≤ (wrap64 (x7 + 1)) then (if (wrap64 (x7 + 1)) ≤ (x0.size : Int) then (some (x0.extract 0 (x7 : Int).toNat, x0.extract ((wrap64 (x7 + 1)) : Int).toNat x0.size, true)) else (none)) else (none)) else (none)) else (spec_l2Cut.l0 k x0 x1 (wrap64 (x7 + 1)))) else (none)) else (some ((⟨#[]⟩ : ByteArray), (⟨#[]⟩ : ByteArray), false))
def spec_l2Cut.f (k : Nat) (a0 : ByteArray) (a1 : Int) : Option (ByteArray × ByteArray × Bool) := spec_l2Cut.l0 k a0 a1 0
theorem spec_l2Cut.mono_l : ∀ k, (∀ y0 y1 y2, LeO (spec_l2Cut.l0 k y0 y1 y2) (spec_l2Cut.l0 (k + 1) y0 y1 y2))
 | 0 => fun _ _ _ r h => by simp [spec_l2Cut.l0] at h
 | k + 1 => by
  have ih0 := spec_l2Cut.mono_l k
  intro y0 y1 y2
  unfold spec_l2Cut.l0
  repeat' first | (with_reducible exact ih0 _ _ _) | (with_reducible exact LeO.refl _) | (with_reducible exact LeO.none _) | (with_reducible refine LeO.ite ?_ ?_) | (with_reducible refine LeO.bind ?_ (fun _ => ?_))
theorem spec_l2Cut.mono : ∀ a0 a1 k, LeO (spec_l2Cut.f k a0 a1) (spec_l2Cut.f (k + 1) a0 a1) := by
 intro a0 a1 k
 have ih0 := spec_l2Cut.mono_l k
 unfold spec_l2Cut.f
 repeat' first | (with_reducible exact ih0 _ _ _) | (with_reducible exact LeO.refl _) | (with_reducible exact LeO.none _) | (with_reducible refine LeO.ite ?_ ?_) | (with_reducible refine LeO.bind ?_ (fun _ => ?_))
set_option maxHeartbeats 8000000 in
set_option maxRecDepth 100000 in
theorem spec_l2Cut.calls (k : Nat) (a0 : ByteArray) (a1 : Int) (r1 : ByteArray) (r2 : ByteArray) (r3 : Bool) (w : World) (h : spec_l2Cut.f k a0 a1 = some (r1, r2, r3)) :
  Calls Tryz.prog 128 #[.string a0, .int .u8 a1] w fun e w' => e = .returned (.tuple #[.string r1, .string r2, .bool r3]) ∧ Drawn0 w w' := by
 have H := h; unfold spec_l2Cut.f at H; clear h; have H' := Aside0.mk H; clear H
 go_enter Tryz.func128, Tryz.ntmps128
 go_wp2
 repeat (go_quiet (fail); try go_wp2)
 go_loopg [7] k (fun kq v7 w' => ∃ (x7_1 : Int), v7 = .int .i64 x7_1 ∧ Aside0 (spec_l2Cut.l0 kq a0 a1 x7_1 = some (r1, r2, r3)) ∧ Aside0 (kq ≤ k) ∧ Drawn0 w w')
 case atStart => exact ⟨(0), y0_15, H', ⟨Nat.le_refl _⟩, y0_13⟩
 case round =>
  clear H'
  try clear c1
  try clear p2
  obtain ⟨x7_1, rfl, HA, HK1, ⟨m1, rfl⟩⟩ := hrel; cases gk with
  | zero => exact absurd HA.out (by simp [spec_l2Cut.l0])
  | succ k1 =>
   have H := HA.out; clear HA
   simp only [spec_l2Cut.l0] at H
   by_cases c3 : x7_1 < (a0.size : Int)
   ·
    rw [if_pos c3] at H
    have c3b0 : decide (x7_1 < (a0.size : Int)) = true := decide_eq_true c3; clear c3
    by_cases c4 : 0 ≤ x7_1
    rotate_left
    ·
     rw [if_neg c4] at H
     exact absurd H (by simp)
    rw [if_pos c4] at H
    have c4b0 : decide (0 ≤ x7_1) = true := decide_eq_true c4; clear c4
    by_cases c6 : (bt a0 x7_1) = a1
    ·
     rw [if_pos c6] at H
     have c6b0 : ((bt a0 x7_1) == a1) = true := beq_iff_eq.mpr c6; have c6b1 : ((bt a0 x7_1) != a1) = false := bne_eq_false_iff_eq.mpr c6; clear c6; have c7b0 := eq_true (of_decide_eq_true y0_14 : 0 ≤ x7_1)
     by_cases c8 : x7_1 ≤ (a0.size : Int)
     rotate_left
     ·
      rw [if_neg c8] at H
      exact absurd H (by simp)
     rw [if_pos c8] at H
     have c8b0 := eq_true c8; have c8b1 : decide (x7_1 ≤ (a0.size : Int)) = true := decide_eq_true c8; clear c8; obtain ⟨ji9, hji9⟩ : ∃ j_ : Int, (wrap64 (x7_1 + 1)) = j_ := ⟨_, rfl⟩
     replace H : (if 0 ≤ (ji9) then (if (ji9) ≤ (a0.size : Int) then (some (a0.extract 0 (x7_1 : Int).toNat, a0.extract ((ji9) : Int).toNat a0.size, true)) else (none)) else (none)) = some (r1, r2, r3) := by first | (rw [hji9] at H; exact H) | (simp only [hji9] at H ⊢; exact H)
     have hji9w : (IntKind.i64.wrap (x7_1 + 1)) = ji9 := (i64_w _).trans hji9
     by_cases c10 : 0 ≤ (ji9)
     rotate_left
     ·
      rw [if_neg c10] at H
      exact absurd H (by simp)
     rw [if_pos c10] at H
     have c10b0 := eq_true c10; have c10b1 : decide (0 ≤ (ji9)) = true := decide_eq_true c10; clear c10
     by_cases c11 : (ji9) ≤ (a0.size : Int)
     rotate_left
     ·
      rw [if_neg c11] at H
      exact absurd H (by simp)
     rw [if_pos c11] at H
     have c11b0 := eq_true c11; have c11b1 : decide ((ji9) ≤ (a0.size : Int)) = true := decide_eq_true c11; clear c11
     simp only [Option.some.injEq, Prod.mk.injEq] at H
     obtain ⟨rfl, rfl, rfl⟩ := H; have p5 : 0 ≤ (x7_1 : Int) := of_decide_eq_true y0_14; have q5 : x7_1 < (a0.size : Int) := of_decide_eq_true y0_14; have hx5 := bt_at a0 x7_1; replace p5 := eq_true p5; replace q5 := eq_true q5
     go_wp2
     repeat (go_quiet (fail); try go_wp2)
     go_ret3
     exact ⟨by first | rfl | (simp; done) | (simp only [← hji9] <;> (first | rfl | simp)) | (simp [*]; done), y0_13⟩
    rw [if_neg c6] at H
    have c6b0 : ((bt a0 x7_1) == a1) = false := beq_eq_false_iff_ne.mpr c6; have c6b1 : ((bt a0 x7_1) != a1) = true := bne_iff_ne.mpr c6; have H' := Aside0.mk H; clear H; have p5 : 0 ≤ (x7_1 : Int) := of_decide_eq_true y0_14; have q5 : x7_1 < (a0.size : Int) := of_decide_eq_true y0_14; have hx5 := bt_at a0 x7_1; replace p5 := eq_true p5; replace q5 := eq_true q5
    go_wp2
    repeat (go_quiet (fail); try go_wp2)
    go_roundg k1
    case measure => have := HK1.out; omega
    case rel => exact ⟨(wrap64 (x7_1 + 1)), y0_15, H', ⟨y0_17⟩, y0_13⟩
   rw [if_neg c3] at H
   have c3b0 : decide (x7_1 < (a0.size : Int)) = false := decide_eq_false c3; clear c3
   simp only [Option.some.injEq, Prod.mk.injEq] at H
   obtain ⟨rfl, rfl, rfl⟩ := H
   go_wp2
   repeat (go_quiet (fail); try go_wp2)
   go_ret3
   exact ⟨y0_15, y0_13⟩

/-! ### spec_Number: function 129 -/
mutual
def spec_Number.j0 : Nat → ByteArray → Bool → Option (Int × Bool)
 | 0, _, _ => none
 | k + 1, x0, x13 => if x13 = true then (some (0, false)) else (spec_Number.l0 k x0 0 0)
def spec_Number.l0 : Nat → ByteArray → Int → Int → Option (Int × Bool)
 | 0, _, _, _ => none
 | k + 1, x0, x4, x5 => if x5 < (x0.size : Int) then (if 0 ≤ x5 then (if (bt x0 x5) < 48 then (some (0, false)) else (if (bt x0 x5) > 57 then (some (0, false)) else (spec_Number.l0 k x0 (wrap64 ((wrap64 ((wrap64 (10 * x4)) + (wrap64 (bt x0 x5)))) - 48)) (wrap64 (x5 + 1))))) else (none)) else ((spec_Digits.f k x4).bind fun t154 => (if t154.toList = x0.toList then (some (x4, true)) else (some (0, false))))
end
def spec_Number.f (k : Nat) (a0 : ByteArray) : Option (Int × Bool) := if (a0.size : Int) < 1 then (spec_Number.j0 k a0 true) else (spec_Number.j0 k a0 (decide ((a0.size : Int) > 6)))
theorem spec_Number.mono_l : ∀ k, (∀ y0 y1, LeO (spec_Number.j0 k y0 y1) (spec_Number.j0 (k + 1) y0 y1)) ∧ (∀ y0 y1 y2, LeO (spec_Number.l0 k y0 y1 y2) (spec_Number.l0 (k + 1) y0 y1 y2))
 | 0 => ⟨fun _ _ r h => by simp [spec_Number.j0] at h, fun _ _ _ r h => by simp [spec_Number.l0] at h⟩
 | k + 1 => by
  obtain ⟨ih0, ih1⟩ := spec_Number.mono_l k
  refine ⟨?_, ?_⟩
  ·
   intro y0 y1
   unfold spec_Number.j0
   repeat' first | (with_reducible exact ih0 _ _) | (with_reducible exact ih1 _ _ _) | (with_reducible exact spec_Digits.mono _ _) | (with_reducible exact LeO.refl _) | (with_reducible exact LeO.none _) | (with_reducible refine LeO.ite ?_ ?_) | (with_reducible refine LeO.bind ?_ (fun _ => ?_))
  intro y0 y1 y2
  unfold spec_Number.l0
  repeat' first | (with_reducible exact ih0 _ _) | (with_reducible exact ih1 _ _ _) | (with_reducible exact spec_Digits.mono _ _) | (with_reducible exact LeO.refl _) | (with_reducible exact LeO.none _) | (with_reducible refine LeO.ite ?_ ?_) | (with_reducible refine LeO.bind ?_ (fun _ => ?_))
theorem spec_Number.mono : ∀ a0 k, LeO (spec_Number.f k a0) (spec_Number.f (k + 1) a0) := by
 intro a0 k
 obtain ⟨ih0, ih1⟩ := spec_Number.mono_l k
 unfold spec_Number.f
 repeat' first | (with_reducible exact ih0 _ _) | (with_reducible exact ih1 _ _ _) | (with_reducible exact spec_Digits.mono _ _) | (with_reducible exact LeO.refl _) | (with_reducible exact LeO.none _) | (with_reducible refine LeO.ite ?_ ?_) | (with_reducible refine LeO.bind ?_ (fun _ => ?_))
set_option maxHeartbeats 8000000 in
set_option maxRecDepth 100000 in
theorem spec_Number.calls (k : Nat) (a0 : ByteArray) (r1 : Int) (r2 : Bool) (w : World) (h : spec_Number.f k a0 = some (r1, r2)) :
  Calls Tryz.prog 129 #[.string a0] w fun e w' => e = .returned (.tuple #[.int .i64 r1, .bool r2]) ∧ Below w.heap.size w w' := by
 have HB := Aside0.mk (Below.refl w.heap.size w); have H := h; unfold spec_Number.f at H; clear h; have HC2 := Aside0.mk H; clear H
 go_enter Tryz.func129, Tryz.ntmps129
 go_upto_region 1 with (fail)
 go_cut [13] (fun v13 wc => ∃ (kq : Nat) (x13_1 : Bool), v13 = .bool x13_1 ∧ Aside0 (spec_Number.j0 kq a0 x13_1 = some (r1, r2)) ∧ Aside0 (kq ≤ k) ∧ Aside0 (Below w.heap.size w wc))
 case first =>
  have H := HC2.out; clear HC2
  by_cases c3 : (a0.size : Int) < 1
  ·
   rw [if_pos c3] at H
   have c3b0 : decide ((a0.size : Int) < 1) = true := decide_eq_true c3
   have c3b1 : decide (a0.size < 1) = true := decide_eq_true (by omega)
   clear c3
   (first | rw [c3b0] | (simp only [i64_w, i32_w]; rw [c3b0]) | skip)
   have H' := Aside0.mk H; clear H
   go_wp2
   go_meet
   case rel => exact ⟨_, (true), y0_15, H', ⟨y0_16⟩, ⟨bI HB.out⟩⟩
  rw [if_neg c3] at H
  have c3b0 : decide ((a0.size : Int) < 1) = false := decide_eq_false c3
  have c3b1 : decide (a0.size < 1) = false := decide_eq_false (by omega)
  clear c3
  (first | rw [c3b0] | (simp only [i64_w, i32_w]; rw [c3b0]) | skip)
  have H' := Aside0.mk H; clear H
  go_wp2
  go_meet
  case rel => exact ⟨_, (decide ((a0.size : Int) > 6)), y0_15, H', ⟨y0_16⟩, ⟨bI HB.out⟩⟩
 case rest =>
  clear HC2
  try clear c1
  try clear p2
  try clear c3
  try clear c3b0
  try clear c3b1
  obtain ⟨kq, x13_1, rfl, HA, HJ1, HB⟩ := hcut; cases kq with
  | zero => exact absurd HA.out (by simp [spec_Number.j0])
  | succ kj1 =>
   have H := HA.out; clear HA
   simp only [spec_Number.j0] at H
   by_cases c4 : x13_1 = true
   ·
    subst c4
    rw [if_pos rfl] at H
    simp only [Option.some.injEq, Prod.mk.injEq] at H
    obtain ⟨rfl, rfl⟩ := H
    go_wp2
    go_ret2
    exact ⟨y0_11, bI HB.out⟩
   replace c4 := Bool.eq_false_iff.mpr c4; subst c4
   rw [if_neg (show ¬ (false = true) by decide)] at H
   have H' := Aside0.mk H; clear H
   go_wp2
   go_loopg [4, 5] kj1 (fun kq v4 v5 w' => ∃ (x4_2 : Int) (x5_2 : Int), v4 = .int .i64 x4_2 ∧ v5 = .int .i64 x5_2 ∧ Aside0 (spec_Number.l0 kq a0 x4_2 x5_2 = some (r1, r2)) ∧ Aside0 (kq ≤ kj1) ∧ Aside0 (Below w.heap.size w w'))
   case atStart => exact ⟨(0), (0), y0_15, y0_15, H', ⟨Nat.le_refl _⟩, ⟨bI HB.out⟩⟩
   case round =>
    clear H'
    try clear c1
    try clear p2
    try clear c3
    try clear c3b0
    try clear c3b1
    try clear c4
    try clear p2
    obtain ⟨x4_2, x5_2, rfl, rfl, HA, HK2, HB⟩ := hrel; cases gk with
    | zero => exact absurd HA.out (by simp [spec_Number.l0])
    | succ k2 =>
     have H := HA.out; clear HA
     simp only [spec_Number.l0] at H
     by_cases c5 : x5_2 < (a0.size : Int)
     ·
      rw [if_pos c5] at H
      have c5b0 : decide (x5_2 < (a0.size : Int)) = true := decide_eq_true c5; clear c5
      by_cases c6 : 0 ≤ x5_2
      rotate_left
      ·
       rw [if_neg c6] at H
       exact absurd H (by simp)
      rw [if_pos c6] at H
      have c6b0 : decide (0 ≤ x5_2) = true := decide_eq_true c6; clear c6
      by_cases c8 : (bt a0 x5_2) < 48
      ·
       rw [if_pos c8] at H
       have c8b0 : decide ((bt a0 x5_2) < 48) = true := decide_eq_true c8; clear c8
       simp only [Option.some.injEq, Prod.mk.injEq] at H
       obtain ⟨rfl, rfl⟩ := H; have p7 : 0 ≤ (x5_2 : Int) := of_decide_eq_true y0_14; have q7 : x5_2 < (a0.size : Int) := of_decide_eq_true y0_14; have hx7 := bt_at a0 x5_2; replace p7 := eq_true p7; replace q7 := eq_true q7
       go_wp2
       go_ret2
       exact ⟨y0_11, bI HB.out⟩
      rw [if_neg c8] at H
      have c8b0 : decide ((bt a0 x5_2) < 48) = false := decide_eq_false c8; clear c8
      by_cases c10 : (bt a0 x5_2) > 57
      ·
       rw [if_pos c10] at H
       have c10b0 : decide (57 < (bt a0 x5_2)) = true := decide_eq_true c10; clear c10
       simp only [Option.some.injEq, Prod.mk.injEq] at H
       obtain ⟨rfl, rfl⟩ := H; have p7 : 0 ≤ (x5_2 : Int) := of_decide_eq_true y0_14; have q7 : x5_2 < (a0.size : Int) := of_decide_eq_true y0_14; have hx7 := bt_at a0 x5_2; replace p7 := eq_true p7; replace q7 := eq_true q7; have p9 : 0 ≤ (x5_2 : Int) := of_decide_eq_true y0_14; have q9 : x5_2 < (a0.size : Int) := of_decide_eq_true y0_14; have hx9 := bt_at a0 x5_2; replace p9 := eq_true p9; replace q9 := eq_true q9
       go_wp2
       go_ret2
       exact ⟨y0_11, bI HB.out⟩
      rw [if_neg c10] at H
      have c10b0 : decide (57 < (bt a0 x5_2)) = false := decide_eq_false c10; clear c10; have H' := Aside0.mk H; clear H; have p7 : 0 ≤ (x5_2 : Int) := of_decide_eq_true y0_14; have q7 : x5_2 < (a0.size : Int) := of_decide_eq_true y0_14; have hx7 := bt_at a0 x5_2; replace p7 := eq_true p7; replace q7 := eq_true q7; have p9 : 0 ≤ (x5_2 : Int) := of_decide_eq_true y0_14; have q9 : x5_2 < (a0.size : Int) := of_decide_eq_true y0_14; have hx9 := bt_at a0 x5_2; replace p9 := eq_true p9; replace q9 := eq_true q9; have p11 : 0 ≤ (x5_2 : Int) := of_decide_eq_true y0_14; have q11 : x5_2 < (a0.size : Int) := of_decide_eq_true y0_14; have hx11 := bt_at a0 x5_2; replace p11 := eq_true p11; replace q11 := eq_true q11
      go_wp2
      go_roundg k2
      case measure => have := HJ1.out; have := HK2.out; omega
      case rel => exact ⟨(wrap64 ((wrap64 ((wrap64 (10 * x4_2)) + (wrap64 (bt a0 x5_2)))) - 48)), (wrap64 (x5_2 + 1)), y0_15, y0_15, H', ⟨by have := HJ1.out; have := HK2.out; omega⟩, ⟨bI HB.out⟩⟩
     rw [if_neg c5] at H
     have c5b0 : decide (x5_2 < (a0.size : Int)) = false := decide_eq_false c5; clear c5; obtain ⟨t154, A12, H⟩ := oB H; (try dsimp only at H)
     by_cases c13 : t154.toList = a0.toList
     ·
      rw [if_pos c13] at H
      have c13b0 : (t154.toList == a0.toList) = true := beq_iff_eq.mpr c13; have c13b1 : (t154.toList != a0.toList) = false := bne_eq_false_iff_eq.mpr c13; clear c13
      simp only [Option.some.injEq, Prod.mk.injEq] at H
      obtain ⟨rfl, rfl⟩ := H
      go_wp2_with (first | ((with_reducible refine gate_callee (f := 108) rfl ?_); refine gB (some 39) Tryz.func108 #[.int .i64 x4_2] ?_; (with_reducible refine (spec_Digits.calls k2 x4_2 t154 _ A12.out).mono ?_); rintro e w14 ⟨rfl, hb⟩; refine ⟨_, rfl, ?_⟩; replace HB := bs HB hb; (try clear hb); (try clear hb2); (try clear hk); (try clear hi)))
      go_ret2
      exact ⟨y0_11, bI HB.out⟩
     rw [if_neg c13] at H
     have c13b0 : (t154.toList == a0.toList) = false := beq_eq_false_iff_ne.mpr c13; have c13b1 : (t154.toList != a0.toList) = true := bne_iff_ne.mpr c13
     simp only [Option.some.injEq, Prod.mk.injEq] at H
     obtain ⟨rfl, rfl⟩ := H
     go_wp2_with (first | ((with_reducible refine gate_callee (f := 108) rfl ?_); refine gB (some 39) Tryz.func108 #[.int .i64 x4_2] ?_; (with_reducible refine (spec_Digits.calls k2 x4_2 t154 _ A12.out).mono ?_); rintro e w15 ⟨rfl, hb⟩; refine ⟨_, rfl, ?_⟩; replace HB := bs HB hb; (try clear hb); (try clear hb2); (try clear hk); (try clear hi)))
     go_ret2
     exact ⟨y0_11, bI HB.out⟩

/-! ### spec_l1In: function 100 -/
def spec_l1In.f (a0 : Int) (a1 : Int) (a2 : Int) : Option (Bool) := if a0 ≥ a1 then (some (decide (a0 ≤ a2))) else (some false)
set_option maxHeartbeats 8000000 in
set_option maxRecDepth 100000 in
theorem spec_l1In.calls (a0 : Int) (a1 : Int) (a2 : Int) (r : Bool) (w : World) (h : spec_l1In.f a0 a1 a2 = some r) :
  Calls Tryz.prog 100 #[.int .i64 a0, .int .i64 a1, .int .i64 a2] w fun e w' => e = .returned (.bool r) ∧ Drawn0 w w' := by
 have H := h; unfold spec_l1In.f at H; clear h
 by_cases c4 : a0 ≥ a1
 ·
  rw [if_pos c4] at H
  have c4b0 : decide (a1 ≤ a0) = true := decide_eq_true c4; clear c4; obtain rfl := Option.some.inj H
  go_enter Tryz.func100, Tryz.ntmps100
  go_wp2
  go_ret
  exact ⟨y0_15, y0_13⟩
 rw [if_neg c4] at H
 have c4b0 : decide (a1 ≤ a0) = false := decide_eq_false c4; clear c4; obtain rfl := Option.some.inj H
 go_enter Tryz.func100, Tryz.ntmps100
 go_wp2
 go_ret
 exact ⟨y0_15, y0_13⟩

/-! ### spec_TxOk: function 107 -/
def spec_TxOk.f (a0_0 : Int) (a0_1 : Int) (a0_2 : Int) (a0_3 : Int) : Option (Bool) := (spec_l1In.f a0_0 0 3).bind fun t156 => (if t156 = true then ((spec_l1In.f a0_1 0 3).bind fun t157 => (if t157 = true then ((spec_l1In.f a0_2 0 1000).bind fun t158 => (if t158 = true then ((spec_l1In.f a0_3 0 99).bind fun t159 => (some t159)) else (some false))) else (some false))) else (some false))
set_option maxHeartbeats 8000000 in
set_option maxRecDepth 100000 in
theorem spec_TxOk.calls (a0_0 : Int) (a0_1 : Int) (a0_2 : Int) (a0_3 : Int) (r : Bool) (w : World) (h : spec_TxOk.f a0_0 a0_1 a0_2 a0_3 = some r) :
  Calls Tryz.prog 107 #[.agg #[.int .i64 a0_0, .int .i64 a0_1, .int .i64 a0_2, .int .i64 a0_3]] w fun e w' => e = .returned (.bool r) ∧ Below w.heap.size w w' := by
 have hu99 := Tryz.underlying99; have HB := Aside0.mk (Below.refl w.heap.size w)
 have H := h; unfold spec_TxOk.f at H
 clear h
 go_enter Tryz.func107, Tryz.ntmps107
 have H' := Aside0.mk H; clear H
 go_upto_region 1 with (first | ((with_reducible refine gd 1 ?_); refine bL 1 #[.int .i64 a0_0, .int .i64 a0_1, .int .i64 a0_2, .int .i64 a0_3] 99 ?_; intro gb155 w2 _ _ _))
 have H := H'.out; clear H'; obtain ⟨t156, A3, H⟩ := oB H; (try dsimp only at H)
 by_cases c4 : t156 = true
 ·
  subst c4
  rw [if_pos rfl] at H
  obtain ⟨t157, A5, H⟩ := oB H; (try dsimp only at H)
  by_cases c6 : t157 = true
  ·
   subst c6
   rw [if_pos rfl] at H
   obtain ⟨t158, A7, H⟩ := oB H; (try dsimp only at H)
   by_cases c8 : t158 = true
   ·
    subst c8
    rw [if_pos rfl] at H
    obtain ⟨t159, A9, H⟩ := oB H; (try dsimp only at H); obtain rfl := Option.some.inj H
    go_wp2_with (first | ((with_reducible refine gate_callee (f := 100) rfl ?_); refine gD (some 5) Tryz.func100 (spec_l1In.calls (w := _) (h := A3.out)) ?_; intro w10 _) | (go_at_call 100; refine aD (spec_l1In.calls (w := _) (h := A5.out)) ?_; intro w11 _) | (go_at_call 100; refine aD (spec_l1In.calls (w := _) (h := A7.out)) ?_; intro w12 _) | (go_at_call 100; refine aD (spec_l1In.calls (w := _) (h := A9.out)) ?_; intro w13 _))
    go_ret
    exact ⟨y0_15, UpW.out⟩
   replace c8 := Bool.eq_false_iff.mpr c8; subst c8
   rw [if_neg (show ¬ (false = true) by decide)] at H
   obtain rfl := Option.some.inj H
   go_wp2_with (first | ((with_reducible refine gate_callee (f := 100) rfl ?_); refine gD (some 5) Tryz.func100 (spec_l1In.calls (w := _) (h := A3.out)) ?_; intro w14 _) | (go_at_call 100; refine aD (spec_l1In.calls (w := _) (h := A5.out)) ?_; intro w15 _) | (go_at_call 100; refine aD (spec_l1In.calls (w := _) (h := A7.out)) ?_; intro w16 _))
   go_ret
   exact ⟨y0_15, UpW.out⟩
  replace c6 := Bool.eq_false_iff.mpr c6; subst c6
  rw [if_neg (show ¬ (false = true) by decide)] at H
  obtain rfl := Option.some.inj H
  go_wp2_with (first | ((with_reducible refine gate_callee (f := 100) rfl ?_); refine gD (some 5) Tryz.func100 (spec_l1In.calls (w := _) (h := A3.out)) ?_; intro w17 _) | (go_at_call 100; refine aD (spec_l1In.calls (w := _) (h := A5.out)) ?_; intro w18 _))
  go_ret
  exact ⟨y0_15, UpW.out⟩
 replace c4 := Bool.eq_false_iff.mpr c4; subst c4
 rw [if_neg (show ¬ (false = true) by decide)] at H
 obtain rfl := Option.some.inj H
 go_wp2_with (first | ((with_reducible refine gate_callee (f := 100) rfl ?_); refine gD (some 5) Tryz.func100 (spec_l1In.calls (w := _) (h := A3.out)) ?_; intro w19 _))
 go_ret
 exact ⟨y0_15, UpW.out⟩

/-! ### spec_TxText: function 133 -/
def spec_TxText.f (k : Nat) (a0_0 : Int) (a0_1 : Int) (a0_2 : Int) (a0_3 : Int) : Option (ByteArray) := (spec_TxOk.f a0_0 a0_1 a0_2 a0_3).bind fun t161 => (if t161 = true then ((spec_Digits.f k a0_0).bind fun t162 => (if t162.size + 1 ≤ 9223372036854775807 then ((spec_Digits.f k a0_1).bind fun t163 => (if (t162 ++ (⟨#[62]⟩ : ByteArray)).size + t163.size ≤ 9223372036854775807 then (if ((t162 ++ (⟨#[62]⟩ : ByteArray)) ++ t163).size + 1 ≤ 9223372036854775807 then ((spec_Digits.f k a0_2).bind fun t164 => (if (((t162 ++ (⟨#[62]⟩ : ByteArray)) ++ t163) ++ (⟨#[58]⟩ : ByteArray)).size + t164.size ≤ 9223372036854775807 then (if ((((t162 ++ (⟨#[62]⟩ : ByteArray)) ++ t163) ++ (⟨#[58]⟩ : ByteArray)) ++ t164).size + 1 ≤ 9223372036854775807 then ((spec_Digits.f k a0_3).bind fun t165 => (if (((((t162 ++ (⟨#[62]⟩ : ByteArray)) ++ t163) ++ (⟨#[58]⟩ : ByteArray)) ++ t164) ++ (⟨#[35]⟩ : ByteArray)).size + t165.size ≤ 9223372036854775807 then (some ((((((t162 ++ (⟨#[62]⟩ : ByteArray)) ++ t163) ++ (⟨#[58]⟩ : ByteArray)) ++ t164) ++ (⟨#[35]⟩ : ByteArray)) ++ t165)) else (none))) else (none)) else (none))) else (none)) else (none))) else (none))) else (some (⟨#[]⟩ : ByteArray)))
theorem spec_TxText.mono : ∀ a0 a1 a2 a3 k, LeO (spec_TxText.f k a0 a1 a2 a3) (spec_TxText.f (k + 1) a0 a1 a2 a3) := by
 intro a0 a1 a2 a3 k
 unfold spec_TxText.f
 repeat' first | (with_reducible exact spec_Digits.mono _ _) | (with_reducible exact LeO.refl _) | (with_reducible exact LeO.none _) | (with_reducible refine LeO.ite ?_ ?_) | (with_reducible refine LeO.bind ?_ (fun _ => ?_))
def spec_TxText.T3 : Bool × List (List Nat × List Nat) := (true, [([], []), ([0], [0]), ([1], [1]), ([2], [2]), ([], []), ([4], [4]), ([5, 2], [5]), ([3, 6], [3, 6]), ([7], [7]), ([], []), ([9], [9]), ([10, 6], [10]), ([8, 11], [8, 11]), ([12], [12]), ([], []), ([14], [14]), ([15, 11], [15]), ([13, 16], [13, 16]), ([17, 16, 0, 1, 2, 3, 4, 5, 6, 7, 8, 9, 10, 11, 12, 13, 14, 15, 16, 17], [17])])
def spec_TxText.B3 : List Nat := [0, 1, 3, 7, 0, 16, 55, 127, 255, 0, 512, 1655, 4095, 8191, 0, 16384, 52855, 131071, 262143]
theorem spec_TxText.tab3 : rtab .any (opsOf Tryz.f133 3) = spec_TxText.T3 := by kernel_rfl
theorem spec_TxText.bits3 : waitsOk spec_TxText.T3.2 spec_TxText.B3 = true := by kernel_rfl
set_option maxHeartbeats 8000000 in
set_option maxRecDepth 100000 in
theorem spec_TxText.calls (k : Nat) (a0_0 : Int) (a0_1 : Int) (a0_2 : Int) (a0_3 : Int) (r : ByteArray) (w : World) (h : spec_TxText.f k a0_0 a0_1 a0_2 a0_3 = some r) :
  Calls Tryz.prog 133 #[.agg #[.int .i64 a0_0, .int .i64 a0_1, .int .i64 a0_2, .int .i64 a0_3]] w fun e w' => e = .returned (.string r) ∧ Below w.heap.size w w' := by
 have hu99 := Tryz.underlying99; have HB := Aside0.mk (Below.refl w.heap.size w)
 have H := h; unfold spec_TxText.f at H
 clear h; obtain ⟨t161, A2, H⟩ := oB H; (try dsimp only at H)
 go_enter Tryz.func133, Tryz.ntmps133
 have H' := Aside0.mk H; clear H
 go_upto_if 5 with (first | ((with_reducible refine gd 1 ?_); refine bL 1 #[.int .i64 a0_0, .int .i64 a0_1, .int .i64 a0_2, .int .i64 a0_3] 99 ?_; intro gb160 w3 _ _ _) | ((with_reducible refine gate_callee (f := 107) rfl ?_); refine gC (some 4) Tryz.func107 (spec_TxOk.calls (w := _) (h := A2.out)) ?_; intro w4 _))
 have H := H'.out; clear H'
 by_cases c5 : t161 = true
 ·
  subst c5
  rw [if_pos rfl] at H
  obtain ⟨t162, A6, H⟩ := oB H; (try dsimp only at H)
  by_cases c7 : t162.size + 1 ≤ 9223372036854775807
  rotate_left
  ·
   rw [if_neg c7] at H
   exact absurd H (by simp)
  rw [if_pos c7] at H
  have c7b0 := eq_true c7; have c7b1 : decide (t162.size + 1 ≤ 9223372036854775807) = true := decide_eq_true c7
  try have c7b2 : (9223372036854775807 < t162.size + 1) = False := eq_false (Nat.not_lt.2 c7)
  obtain ⟨t163, A8, H⟩ := oB H; (try dsimp only at H)
  by_cases c9 : (t162 ++ (⟨#[62]⟩ : ByteArray)).size + t163.size ≤ 9223372036854775807
  rotate_left
  ·
   rw [if_neg c9] at H
   exact absurd H (by simp)
  rw [if_pos c9] at H
  have c9b0 := eq_true c9; have c9b1 : decide ((t162 ++ (⟨#[62]⟩ : ByteArray)).size + t163.size ≤ 9223372036854775807) = true := decide_eq_true c9
  try have c9b2 : (9223372036854775807 < (t162 ++ (⟨#[62]⟩ : ByteArray)).size + t163.size) = False := eq_false (Nat.not_lt.2 c9)
  (try have c9b3 : (9223372036854775807 < t162.size + 1 + t163.size) = False := eq_false (by have h_ := c9; simp only [ByteArray.size_append, ByteArray.size_extract, show (⟨#[62]⟩ : ByteArray).size = 1 from rfl] at h_; omega))
  by_cases c10 : ((t162 ++ (⟨#[62]⟩ : ByteArray)) ++ t163).size + 1 ≤ 9223372036854775807
  rotate_left
  ·
   rw [if_neg c10] at H
   exact absurd H (by simp)
  rw [if_pos c10] at H
  have c10b0 := eq_true c10; have c10b1 : decide (((t162 ++ (⟨#[62]⟩ : ByteArray)) ++ t163).size + 1 ≤ 9223372036854775807) = true := decide_eq_true c10
  try have c10b2 : (9223372036854775807 < ((t162 ++ (⟨#[62]⟩ : ByteArray)) ++ t163).size + 1) = False := eq_false (Nat.not_lt.2 c10)
  (try have c10b3 : (9223372036854775807 < t162.size + 1 + t163.size + 1) = False := eq_false (by have h_ := c10; simp only [ByteArray.size_append, ByteArray.size_extract, show (⟨#[62]⟩ : ByteArray).size = 1 from rfl] at h_; omega))
  obtain ⟨t164, A11, H⟩ := oB H; (try dsimp only at H)
  by_cases c12 : (((t162 ++ (⟨#[62]⟩ : ByteArray)) ++ t163) ++ (⟨#[58]⟩ : ByteArray)).size + t164.size ≤ 9223372036854775807
  rotate_left
  ·
   rw [if_neg c12] at H
   exact absurd H (by simp)
  rw [if_pos c12] at H
  have c12b0 := eq_true c12; have c12b1 : decide ((((t162 ++ (⟨#[62]⟩ : ByteArray)) ++ t163) ++ (⟨#[58]⟩ : ByteArray)).size + t164.size ≤ 9223372036854775807) = true := decide_eq_true c12
  try have c12b2 : (9223372036854775807 < (((t162 ++ (⟨#[62]⟩ : ByteArray)) ++ t163) ++ (⟨#[58]⟩ : ByteArray)).size + t164.size) = False := eq_false (Nat.not_lt.2 c12)
  (try have c12b3 : (9223372036854775807 < t162.size + 1 + t163.size + 1 + t164.size) = False := eq_false (by have h_ := c12; simp only [ByteArray.size_append, ByteArray.size_extract, show (⟨#[58]⟩ : ByteArray).size = 1 from rfl, show (⟨#[62]⟩ : ByteArray).size = 1 from rfl] at h_; omega))
  by_cases c13 : ((((t162 ++ (⟨#[62]⟩ : ByteArray)) ++ t163) ++ (⟨#[58]⟩ : ByteArray)) ++ t164).size + 1 ≤ 9223372036854775807
  rotate_left
  ·
   rw [if_neg c13] at H
   exact absurd H (by simp)
  rw [if_pos c13] at H
  have c13b0 := eq_true c13; have c13b1 : decide (((((t162 ++ (⟨#[62]⟩ : ByteArray)) ++ t163) ++ (⟨#[58]⟩ : ByteArray)) ++ t164).size + 1 ≤ 9223372036854775807) = true := decide_eq_true c13
  try have c13b2 : (9223372036854775807 < ((((t162 ++ (⟨#[62]⟩ : ByteArray)) ++ t163) ++ (⟨#[58]⟩ : ByteArray)) ++ t164).size + 1) = False := eq_false (Nat.not_lt.2 c13)
  (try have c13b3 : (9223372036854775807 < t162.size + 1 + t163.size + 1 + t164.size + 1) = False := eq_false (by have h_ := c13; simp only [ByteArray.size_append, ByteArray.size_extract, show (⟨#[58]⟩ : ByteArray).size = 1 from rfl, show (⟨#[62]⟩ : ByteArray).size = 1 from rfl] at h_; omega))
  obtain ⟨t165, A14, H⟩ := oB H; (try dsimp only at H)
  by_cases c15 : (((((t162 ++ (⟨#[62]⟩ : ByteArray)) ++ t163) ++ (⟨#[58]⟩ : ByteArray)) ++ t164) ++ (⟨#[35]⟩ : ByteArray)).size + t165.size ≤ 9223372036854775807
  rotate_left
  ·
   rw [if_neg c15] at H
   exact absurd H (by simp)
  rw [if_pos c15] at H
  have c15b0 := eq_true c15; have c15b1 : decide ((((((t162 ++ (⟨#[62]⟩ : ByteArray)) ++ t163) ++ (⟨#[58]⟩ : ByteArray)) ++ t164) ++ (⟨#[35]⟩ : ByteArray)).size + t165.size ≤ 9223372036854775807) = true := decide_eq_true c15
  try have c15b2 : (9223372036854775807 < (((((t162 ++ (⟨#[62]⟩ : ByteArray)) ++ t163) ++ (⟨#[58]⟩ : ByteArray)) ++ t164) ++ (⟨#[35]⟩ : ByteArray)).size + t165.size) = False := eq_false (Nat.not_lt.2 c15)
  (try have c15b3 : (9223372036854775807 < t162.size + 1 + t163.size + 1 + t164.size + 1 + t165.size) = False := eq_false (by have h_ := c15; simp only [ByteArray.size_append, ByteArray.size_extract, show (⟨#[35]⟩ : ByteArray).size = 1 from rfl, show (⟨#[58]⟩ : ByteArray).size = 1 from rfl, show (⟨#[62]⟩ : ByteArray).size = 1 from rfl] at h_; omega))
  obtain rfl := Option.some.inj H
  try go_wp2
  refine sB [] spec_TxText.tab3 spec_TxText.bits3 ?_; intro w16 _ HT_ HW_
  refine pA 0 (some 6) (bz 19 1) HT_ ?_
  refine tB 1 (some 7) (bz 19 3) HT_ HW_ ?_
  refine pA 4 (some 10) (bz 19 19) HT_ ?_
  refine tB 5 (some 11) (bz 19 51) HT_ HW_ ?_
  refine pA 9 (some 15) (bz 19 563) HT_ ?_
  refine tB 10 (some 16) (bz 19 1587) HT_ HW_ ?_
  refine pA 14 (some 20) (bz 19 0x4633) HT_ ?_
  refine tB 15 (some 21) (bz 19 0xc633) HT_ HW_ ?_
  refine o1 2 (some 8) (bz 19 0xc637) HT_ rfl (kC Tryz.func108 (spec_Digits.calls (w := _) (h := A6.out)) ?_); intro w17 _
  refine nA (some 8) ?_
  refine pA 3 (some 9) (bz 19 0xc63f) HT_ ?_
  refine o1 6 (some 12) (bz 19 0xc67f) HT_ rfl (kC Tryz.func108 (spec_Digits.calls (w := _) (h := A8.out)) ?_); intro w18 _
  refine nA (some 12) ?_
  refine pA 7 (some 13) (bz 19 0xc6ff) HT_ ?_
  refine pA 8 (some 14) (bz 19 0xc7ff) HT_ ?_
  refine o1 11 (some 17) (bz 19 0xcfff) HT_ rfl (kC Tryz.func108 (spec_Digits.calls (w := _) (h := A11.out)) ?_); intro w19 _
  refine nA (some 17) ?_
  refine pA 12 (some 18) (bz 19 0xdfff) HT_ ?_
  refine pA 13 (some 19) (bz 19 0xffff) HT_ ?_
  refine o1 16 (some 22) (bz 19 0x1ffff) HT_ rfl (kC Tryz.func108 (spec_Digits.calls (w := _) (h := A14.out)) ?_); intro w20 _
  refine nA (some 22) ?_
  refine pA 17 (some 23) (bz 19 0x3ffff) HT_ ?_
  refine pA 18 (some 2) (bz 19 0x7ffff) HT_ ?_
  refine done_ (done_of HT_.out (by kernel_rfl)) ?_
  try go_wp2
  go_ret
  exact ⟨y0_15, UpW.out⟩
 replace c5 := Bool.eq_false_iff.mpr c5; subst c5
 rw [if_neg (show ¬ (false = true) by decide)] at H
 obtain rfl := Option.some.inj H
 go_wp2
 go_ret
 exact ⟨y0_15, UpW.out⟩

/-! ### spec_TxOf: function 146 -/
def spec_TxOf.f (k : Nat) (a0 : ByteArray) : Option (Int × Int × Int × Int × Bool) := (spec_l2Cut.f k a0 62).bind fun bt167 => ((spec_l2Cut.f k bt167.2.1 58).bind fun bt170 => ((spec_l2Cut.f k bt170.2.1 35).bind fun bt173 => ((spec_Number.f k bt167.1).bind fun bt177 => ((spec_Number.f k bt170.1).bind fun bt179 => ((spec_Number.f k bt173.1).bind fun bt181 => ((spec_Number.f k bt173.2.1).bind fun bt183 => (if a0.toList = ([] : List UInt8) then (some (0, 0, 0, 0, false)) else ((spec_TxText.f k bt177.1 bt179.1 bt181.1 bt183.1).bind fun t185 => (if t185.toList = a0.toList then (some (bt177.1, bt179.1, bt181.1, bt183.1, true)) else (some (0, 0, 0, 0, false)))))))))))
theorem spec_TxOf.mono : ∀ a0 k, LeO (spec_TxOf.f k a0) (spec_TxOf.f (k + 1) a0) := by
 intro a0 k
 unfold spec_TxOf.f
 repeat' first | (with_reducible exact spec_Number.mono _ _) | (with_reducible exact spec_TxText.mono _ _ _ _ _) | (with_reducible exact spec_l2Cut.mono _ _ _) | (with_reducible exact LeO.refl _) | (with_reducible exact LeO.none _) | (with_reducible refine LeO.ite ?_ ?_) | (with_reducible refine LeO.bind ?_ (fun _ => ?_))
set_option maxHeartbeats 8000000 in
set_option maxRecDepth 100000 in
theorem spec_TxOf.calls (k : Nat) (a0 : ByteArray) (r1 : Int) (r2 : Int) (r3 : Int) (r4 : Int) (r5 : Bool) (w : World) (h : spec_TxOf.f k a0 = some (r1, r2, r3, r4, r5)) :
  Calls Tryz.prog 146 #[.string a0] w fun e w' => e = .returned (.tuple #[.agg #[.int .i64 r1, .int .i64 r2, .int .i64 r3, .int .i64 r4], .bool r5]) ∧ Below w.heap.size w w' := by
 have hu99 := Tryz.underlying99; have HB := Aside0.mk (Below.refl w.heap.size w)
 have H := h; unfold spec_TxOf.f at H
 clear h; obtain ⟨⟨t167, t168, t169⟩, A2, H⟩ := oB H; (try dsimp only at H); obtain ⟨⟨t170, t171, t172⟩, A3, H⟩ := oB H; (try dsimp only at H); obtain ⟨⟨t173, t174, t175⟩, A4, H⟩ := oB H; (try dsimp only at H); obtain ⟨⟨t177, t178⟩, A5, H⟩ := oB H; (try dsimp only at H); obtain ⟨⟨t179, t180⟩, A6, H⟩ := oB H; (try dsimp only at H); obtain ⟨⟨t181, t182⟩, A7, H⟩ := oB H; (try dsimp only at H); obtain ⟨⟨t183, t184⟩, A8, H⟩ := oB H; (try dsimp only at H)
 go_enter Tryz.func146, Tryz.ntmps146
 have H' := Aside0.mk H; clear H
 go_upto_region 9 with (first | ((with_reducible refine gd 2 ?_); refine bL 2 #[.int .i64 0, .int .i64 0, .int .i64 0, .int .i64 0] 99 ?_; intro gb166 w9 _ _ _) | ((with_reducible refine gate_callee (f := 128) rfl ?_); refine gD (some 16) Tryz.func128 (spec_l2Cut.calls (w := _) (h := A2.out)) ?_; intro w10 _) | ((with_reducible refine gate_callee (f := 128) rfl ?_); refine gD (some 22) Tryz.func128 (spec_l2Cut.calls (w := _) (h := A3.out)) ?_; intro w11 _) | ((with_reducible refine gate_callee (f := 128) rfl ?_); refine gD (some 28) Tryz.func128 (spec_l2Cut.calls (w := _) (h := A4.out)) ?_; intro w12 _) | ((with_reducible refine gd 13 ?_); refine bL 13 #[.int .i64 0, .int .i64 0, .int .i64 0, .int .i64 0] 99 ?_; intro gb176 w13 _ _ _) | ((with_reducible refine gate_callee (f := 129) rfl ?_); refine gC (some 35) Tryz.func129 (spec_Number.calls (w := _) (h := A5.out)) ?_; intro w14 _) | ((with_reducible refine gate_callee (f := 129) rfl ?_); refine gC (some 41) Tryz.func129 (spec_Number.calls (w := _) (h := A6.out)) ?_; intro w15 _) | ((with_reducible refine gate_callee (f := 129) rfl ?_); refine gC (some 47) Tryz.func129 (spec_Number.calls (w := _) (h := A7.out)) ?_; intro w16 _) | ((with_reducible refine gate_callee (f := 129) rfl ?_); refine gC (some 53) Tryz.func129 (spec_Number.calls (w := _) (h := A8.out)) ?_; intro w17 _))
 have H := H'.out; clear H'
 by_cases c18 : a0.toList = ([] : List UInt8)
 ·
  rw [if_pos c18] at H
  have c18b0 : (a0.toList == ([] : List UInt8)) = true := beq_iff_eq.mpr c18; have c18b1 : (a0.toList != ([] : List UInt8)) = false := bne_eq_false_iff_eq.mpr c18; clear c18
  (first | rw [c18b0] | (simp only [i64_w, i32_w]; rw [c18b0]) | rw [show List.isEmpty (a0.toList) = true from by simpa using c18b0] | skip)
  simp only [Option.some.injEq, Prod.mk.injEq] at H
  obtain ⟨rfl, rfl, rfl, rfl, rfl⟩ := H
  go_wp2
  refine bodyPost_ret (results_ct rfl _ _ gb166 99 #[.int .i64 0, .int .i64 0, .int .i64 0, .int .i64 0] (0, 0) _ rfl xB Tryz.underlying99 rfl (by kernel_rfl)) rfl ?_
  exact ⟨y0_15, UpW.out⟩
 rw [if_neg c18] at H
 have c18b0 : (a0.toList == ([] : List UInt8)) = false := beq_eq_false_iff_ne.mpr c18; have c18b1 : (a0.toList != ([] : List UInt8)) = true := bne_iff_ne.mpr c18
 (first | rw [c18b0] | (simp only [i64_w, i32_w]; rw [c18b0]) | rw [show List.isEmpty (a0.toList) = false from by simpa using c18b0] | skip)
 obtain ⟨t185, A19, H⟩ := oB H; (try dsimp only at H); have H' := Aside0.mk H; clear H
 go_upto_if 64 with (first | (go_at_call 133; refine aC (spec_TxText.calls (w := _) (h := A19.out)) ?_; intro w20 _))
 have H := H'.out; clear H'
 by_cases c21 : t185.toList = a0.toList
 ·
  rw [if_pos c21] at H
  have c21b0 : (t185.toList == a0.toList) = true := beq_iff_eq.mpr c21; have c21b1 : (t185.toList != a0.toList) = false := bne_eq_false_iff_eq.mpr c21; clear c21
  (first | rw [c21b0] | (simp only [i64_w, i32_w]; rw [c21b0]) | skip)
  simp only [Option.some.injEq, Prod.mk.injEq] at H
  obtain ⟨rfl, rfl, rfl, rfl, rfl⟩ := H
  go_wp2
  refine bodyPost_ret (results_ct rfl _ _ gb166 99 #[.int .i64 t177, .int .i64 t179, .int .i64 t181, .int .i64 t183] (0, 0) _ rfl xB Tryz.underlying99 rfl (by kernel_rfl)) rfl ?_
  exact ⟨y0_15, UpW.out⟩
 rw [if_neg c21] at H
 have c21b0 : (t185.toList == a0.toList) = false := beq_eq_false_iff_ne.mpr c21; have c21b1 : (t185.toList != a0.toList) = true := bne_iff_ne.mpr c21
 (first | rw [c21b0] | (simp only [i64_w, i32_w]; rw [c21b0]) | skip)
 simp only [Option.some.injEq, Prod.mk.injEq] at H
 obtain ⟨rfl, rfl, rfl, rfl, rfl⟩ := H
 go_wp2
 refine bodyPost_ret (results_ct rfl _ _ gb166 99 #[.int .i64 0, .int .i64 0, .int .i64 0, .int .i64 0] (0, 0) _ rfl xB Tryz.underlying99 rfl (by kernel_rfl)) rfl ?_
 exact ⟨y0_15, UpW.out⟩

end Go.Proofs.YtemjmefacifdeaaGreatDoor.PFnQuorums
