-- By a program of this session, out of the translation (the print of the kit, with turns of its own). Lean checks it.
import Derived.Test.YtdmjhgogljhfkaaGreatDoorPFnExactLastNotex0
namespace Go.Proofs.YtdmjhgogljhfkaaGreatDoor.PFnExactLastNote
open Go.RowKit Go.Proofs.YtdmjhgogljhfkaaGreatDoorW.PrintWords Go.Proofs.YtdmjhgogljhfkaaGreatDoorW.PrintLast Go.Proofs.YtdmjhgogljhfkaaGreatDoorW.PrintMore
attribute [local go_sem] max2_int min2_int max_two min_two max_three min_three max_four min_four   -- for this text's walks alone
attribute [local go_sem] cell_in frozen_in
set_option synthInstance.maxSize 1000000
set_option synthInstance.maxHeartbeats 2000000
set_option linter.unusedVariables false
set_option linter.unusedSimpArgs false

/-! ### spec_GetNum: function 72 -/
mutual
def spec_GetNum.l0 : Nat → List Int → Int → Int → Int → Option (Int × Int × Bool)
 | 0, _, _, _, _ => none
 | k + 1, x0, x1, x7, x8 => if x8 < 5 then (if x1 < 0 then (spec_GetNum.j1 k x0 x1 x7 x8 true) else (spec_GetNum.j1 k x0 x1 x7 x8 (decide (x1 ≥ (wrap64 ((x0.length : Int) - x8)))))) else (some (0, 0, false))
def spec_GetNum.j1 : Nat → List Int → Int → Int → Int → Bool → Option (Int × Int × Bool)
 | 0, _, _, _, _, _ => none
 | k + 1, x0, x1, x7, x8, x23 => if x23 = true then (some (0, 0, false)) else (if 0 ≤ (wrap64 (x1 + x8)) then (if (wrap64 (x1 + x8)) < (x0.length : Int) then (if 0 ≤ (wrap64 (7 * x8)) then (if (wrap64 (rd x0 (wrap64 (x1 + x8)))) < 128 then (if x8 > 0 then (if (wrap64 (rd x0 (wrap64 (x1 + x8)))) = 0 then (some (0, 0, false)) else (if (Go.bits .or .i64 x7 (shl .i64 (Int.tmod (wrap64 (rd x0 (wrap64 (x1 + x8)))) 128) (wrap64 (7 * x8)))) > 2147483647 then (some (0, 0, false)) else (some (Go.bits .or .i64 x7 (shl .i64 (Int.tmod (wrap64 (rd x0 (wrap64 (x1 + x8)))) 128) (wrap64 (7 * x8))), wrap64 ((wrap64 (x1 + x8)) + 1), true)))) else (if (Go.bits .or .i64 x7 (shl .i64 (Int.tmod (wrap64 (rd x0 (wrap64 (x1 + x8)))) 128) (wrap64 (7 * x8)))) > 2147483647 then (some (0, 0, false)) else (some (Go.bits .or .i64 x7 (shl .i64 (Int.tmod (wrap64 (rd x0 (wrap64 (x1 + x8)))) 128) (wrap64 (7 * x8))), wrap64 ((wrap64 (x1 + x8)) + 1), true)))) else (spec_GetNum.l0 k x0 x1 (Go.bits .or .i64 x7 (shl .i64 (Int.tmod (wrap64 (rd x0 (wrap64 (x1 + x8)))) 128) (wrap64 (7 * x8)))) (wrap64 (x8 + 1)))) else (none)) else (none)) else (none))
end
def spec_GetNum.f (k : Nat) (l0 : List Int) (a1 : Int) : Option (Int × Int × Bool) := spec_GetNum.l0 k l0 a1 0 0
theorem spec_GetNum.mono_l : ∀ k, (∀ y0 y1 y2 y3, LeO (spec_GetNum.l0 k y0 y1 y2 y3) (spec_GetNum.l0 (k + 1) y0 y1 y2 y3)) ∧ (∀ y0 y1 y2 y3 y4, LeO (spec_GetNum.j1 k y0 y1 y2 y3 y4) (spec_GetNum.j1 (k + 1) y0 y1 y2 y3 y4))
 | 0 => ⟨fun _ _ _ _ r h => by simp [spec_GetNum.l0] at h, fun _ _ _ _ _ r h => by simp [spec_GetNum.j1] at h⟩
 | k + 1 => by
  obtain ⟨ih0, ih1⟩ := spec_GetNum.mono_l k
  refine ⟨?_, ?_⟩
  ·
   intro y0 y1 y2 y3
   unfold spec_GetNum.l0
   repeat' first | (with_reducible exact ih0 _ _ _ _) | (with_reducible exact ih1 _ _ _ _ _) | (with_reducible exact LeO.refl _) | (with_reducible exact LeO.none _) | (with_reducible refine LeO.ite ?_ ?_) | (with_reducible refine LeO.bind ?_ (fun _ => ?_))
  intro y0 y1 y2 y3 y4
  unfold spec_GetNum.j1
  repeat' first | (with_reducible exact ih0 _ _ _ _) | (with_reducible exact ih1 _ _ _ _ _) | (with_reducible exact LeO.refl _) | (with_reducible exact LeO.none _) | (with_reducible refine LeO.ite ?_ ?_) | (with_reducible refine LeO.bind ?_ (fun _ => ?_))
theorem spec_GetNum.mono : ∀ a0 a1 k, LeO (spec_GetNum.f k a0 a1) (spec_GetNum.f (k + 1) a0 a1) := by
 intro a0 a1 k
 obtain ⟨ih0, ih1⟩ := spec_GetNum.mono_l k
 unfold spec_GetNum.f
 repeat' first | (with_reducible exact ih0 _ _ _ _) | (with_reducible exact ih1 _ _ _ _ _) | (with_reducible exact LeO.refl _) | (with_reducible exact LeO.none _) | (with_reducible refine LeO.ite ?_ ?_) | (with_reducible refine LeO.bind ?_ (fun _ => ?_))
set_option maxHeartbeats 8000000 in
set_option maxRecDepth 100000 in
theorem spec_GetNum.calls (k : Nat) (A0 : Option Addr) (c0 : Nat) (l0 : List Int) (a1 : Int) (r1 : Int) (r2 : Int) (r3 : Bool) (w : World) (hr0 : Kd.C (Kd.int .u8) w A0 l0.length l0) (hc0 : l0.length ≤ c0) (h : spec_GetNum.f k l0 a1 = some (r1, r2, r3)) :
  Calls Tryz.prog 72 #[.slice A0 l0.length c0, .int .i64 a1] w fun e w' => e = .returned (.tuple #[.int .i64 r1, .int .i64 r2, .bool r3]) ∧ Drawn0 w w' := by
 have HR0 := Aside0.mk hr0; have HC0 := Aside0.mk hc0; clear hr0 hc0; have H := h; unfold spec_GetNum.f at H; clear h; have H' := Aside0.mk H; clear H
 go_enter Tryz.func72, Tryz.ntmps72
 go_wp2
 go_loopg [7, 8] k (fun kq v7 v8 w' => ∃ (x7_1 : Int) (x8_1 : Int), v7 = .int .i64 x7_1 ∧ v8 = .int .i64 x8_1 ∧ Aside0 (spec_GetNum.l0 kq l0 a1 x7_1 x8_1 = some (r1, r2, r3)) ∧ Aside0 (kq ≤ k) ∧ Drawn0 w w')
 case atStart => exact ⟨(0), (0), y0_17, y0_17, H', ⟨Nat.le_refl _⟩, y0_14⟩
 case round =>
  clear H'
  try clear p2
  obtain ⟨x7_1, x8_1, rfl, rfl, HA, HK1, ⟨m1, rfl⟩⟩ := hrel; cases gk with
  | zero => exact absurd HA.out (by simp [spec_GetNum.l0])
  | succ k1 =>
   have H := HA.out; clear HA
   simp only [spec_GetNum.l0] at H
   by_cases c3 : x8_1 < 5
   ·
    rw [if_pos c3] at H
    have c3b0 : decide (x8_1 < 5) = true := decide_eq_true c3; clear c3; have HC4 := Aside0.mk H; clear H
    go_upto_region 5 with (fail)
    go_cut [23] (fun v23 wc => ∃ (kq : Nat) (x23_3 : Bool), v23 = .bool x23_3 ∧ Aside0 (spec_GetNum.j1 kq l0 a1 x7_1 x8_1 x23_3 = some (r1, r2, r3)) ∧ Aside0 (kq ≤ k1) ∧ Drawn0 w wc)
    case first =>
     have H := HC4.out; clear HC4
     by_cases c5 : a1 < 0
     ·
      rw [if_pos c5] at H
      have c5b0 : decide (a1 < 0) = true := decide_eq_true c5; clear c5
      (first | rw [c5b0] | (simp only [i64_w, i32_w]; rw [c5b0]) | skip)
      have H' := Aside0.mk H; clear H
      go_wp2
      go_meet
      case rel => exact ⟨_, (true), y0_17, H', ⟨y0_15⟩, y0_14⟩
     rw [if_neg c5] at H
     have c5b0 : decide (a1 < 0) = false := decide_eq_false c5; clear c5
     (first | rw [c5b0] | (simp only [i64_w, i32_w]; rw [c5b0]) | skip)
     have H' := Aside0.mk H; clear H
     go_wp2
     go_meet
     case rel => exact ⟨_, (decide (a1 ≥ (wrap64 ((l0.length : Int) - x8_1)))), y0_17, H', ⟨y0_15⟩, y0_14⟩
    case rest =>
     clear HC4
     try clear p2
     try clear c3
     try clear c3b0
     try clear c5
     try clear c5b0
     try clear p2
     obtain ⟨kq, x23_3, rfl, HA, HJ3, ⟨mc3, rfl⟩⟩ := hcut; cases kq with
     | zero => exact absurd HA.out (by simp [spec_GetNum.j1])
     | succ kj3 =>
      have H := HA.out; clear HA
      simp only [spec_GetNum.j1] at H
      by_cases c6 : x23_3 = true
      ·
       subst c6
       rw [if_pos rfl] at H
       simp only [Option.some.injEq, Prod.mk.injEq] at H
       obtain ⟨rfl, rfl, rfl⟩ := H
       go_wp2
       go_ret3
       exact ⟨y0_17, y0_14⟩
      replace c6 := Bool.eq_false_iff.mpr c6; subst c6
      rw [if_neg (show ¬ (false = true) by decide)] at H
      obtain ⟨ji7, hji7⟩ : ∃ j_ : Int, (wrap64 (a1 + x8_1)) = j_ := ⟨_, rfl⟩
      replace H : (if 0 ≤ (ji7) then (if (ji7) < (l0.length : Int) then (if 0 ≤ (wrap64 (7 * x8_1)) then (if (wrap64 (rd l0 (ji7))) < 128 then (if x8_1 > 0 then (if (wrap64 (rd l0 (ji7))) = 0 then (some (0, 0, false)) else (if (Go.bits .or .i64 x7_1 (shl .i64 (Int.tmod (wrap64 (rd l0 (ji7))) 128) (wrap64 (7 * x8_1)))) > 2147483647 then (some (0, 0, false)) else (some (Go.bits .or .i64 x7_1 (shl .i64 (Int.tmod (wrap64 (rd l0 (ji7))) 128) (wrap64 (7 * x8_1))), wrap64 ((ji7) + 1), true)))) else (if (Go.bits .or .i64 x7_1 (shl .i64 (Int.tmod (wrap64 (rd l0 (ji7))) 128) (wrap64 (7 * x8_1)))) > 2147483647 then (some (0, 0, false)) else (some (Go.bits .or .i64 x7_1 (shl .i64 (Int.tmod (wrap64 (rd l0 (ji7))) 128) (wrap64 (7 * x8_1))), wrap64 ((ji7) + 1), true)))) else (spec_GetNum.l0 kj3 l0 a1 (Go.bits .or .i64 x7_1 (shl .i64 (Int.tmod (wrap64 (rd l0 (ji7))) 128) (wrap64 (7 * x8_1)))) (wrap64 (x8_1 + 1)))) else (none)) else (none)) else (none)) = some (r1, r2, r3) := by first | (rw [hji7] at H; exact H) | (simp only [hji7] at H ⊢; exact H)
      have hji7w : (IntKind.i64.wrap (a1 + x8_1)) = ji7 := (i64_w _).trans hji7
      by_cases c8 : 0 ≤ (ji7)
      rotate_left
      ·
       rw [if_neg c8] at H
       exact absurd H (by simp)
      rw [if_pos c8] at H
      have c8b0 : decide (0 ≤ (ji7)) = true := decide_eq_true c8; clear c8
      by_cases c9 : (ji7) < (l0.length : Int)
      rotate_left
      ·
       rw [if_neg c9] at H
       exact absurd H (by simp)
      rw [if_pos c9] at H
      have c9b0 : decide ((ji7) < (l0.length : Int)) = true := decide_eq_true c9; clear c9; obtain ⟨ji10, hji10⟩ : ∃ j_ : Int, (wrap64 (7 * x8_1)) = j_ := ⟨_, rfl⟩
      replace H : (if 0 ≤ (ji10) then (if (wrap64 (rd l0 (ji7))) < 128 then (if x8_1 > 0 then (if (wrap64 (rd l0 (ji7))) = 0 then (some (0, 0, false)) else (if (Go.bits .or .i64 x7_1 (shl .i64 (Int.tmod (wrap64 (rd l0 (ji7))) 128) (ji10))) > 2147483647 then (some (0, 0, false)) else (some (Go.bits .or .i64 x7_1 (shl .i64 (Int.tmod (wrap64 (rd l0 (ji7))) 128) (ji10)), wrap64 ((ji7) + 1), true)))) else (if (Go.bits .or .i64 x7_1 (shl .i64 (Int.tmod (wrap64 (rd l0 (ji7))) 128) (ji10))) > 2147483647 then (some (0, 0, false)) else (some (Go.bits .or .i64 x7_1 (shl .i64 (Int.tmod (wrap64 (rd l0 (ji7))) 128) (ji10)), wrap64 ((ji7) + 1), true)))) else (spec_GetNum.l0 kj3 l0 a1 (Go.bits .or .i64 x7_1 (shl .i64 (Int.tmod (wrap64 (rd l0 (ji7))) 128) (ji10))) (wrap64 (x8_1 + 1)))) else (none)) = some (r1, r2, r3) := by first | (rw [hji10] at H; exact H) | (simp only [hji10] at H ⊢; exact H)
      have hji10w : (IntKind.i64.wrap (7 * x8_1)) = ji10 := (i64_w _).trans hji10
      by_cases c11 : 0 ≤ (ji10)
      rotate_left
      ·
       rw [if_neg c11] at H
       exact absurd H (by simp)
      rw [if_pos c11] at H
      have c11b0 := eq_true c11; have c11b1 : decide (0 ≤ (ji10)) = true := decide_eq_true c11; clear c11; obtain ⟨ji12, hji12⟩ : ∃ j_ : Int, (shl .i64 (Int.tmod (wrap64 (rd l0 (ji7))) 128) (ji10)) = j_ := ⟨_, rfl⟩
      replace H : (if (wrap64 (rd l0 (ji7))) < 128 then (if x8_1 > 0 then (if (wrap64 (rd l0 (ji7))) = 0 then (some (0, 0, false)) else (if (Go.bits .or .i64 x7_1 (ji12)) > 2147483647 then (some (0, 0, false)) else (some (Go.bits .or .i64 x7_1 (ji12), wrap64 ((ji7) + 1), true)))) else (if (Go.bits .or .i64 x7_1 (ji12)) > 2147483647 then (some (0, 0, false)) else (some (Go.bits .or .i64 x7_1 (ji12), wrap64 ((ji7) + 1), true)))) else (spec_GetNum.l0 kj3 l0 a1 (Go.bits .or .i64 x7_1 (ji12)) (wrap64 (x8_1 + 1)))) = some (r1, r2, r3) := by first | (rw [hji12] at H; exact H) | (simp only [hji12] at H ⊢; exact H)
      have hji12_ : (IntKind.i64.wrap ((Int.tmod (wrap64 (rd l0 (ji7))) 128) * 2 ^ min (ji10).toNat 64)) = ji12 := hji12; have hji12z : (ji10) ≤ 64 → (IntKind.i64.wrap ((Int.tmod (wrap64 (rd l0 (ji7))) 128) * 2 ^ (ji10).toNat)) = ji12 := shl_small hji12; have hji12y : (wrap64 ((Int.tmod (wrap64 (rd l0 (ji7))) 128) * 2 ^ min (ji10).toNat 64)) = ji12 := (i64_w _).symm.trans hji12_
      have hji12x : (ji10) ≤ 64 → (wrap64 ((Int.tmod (wrap64 (rd l0 (ji7))) 128) * 2 ^ (ji10).toNat)) = ji12 := fun h_ => (i64_w _).symm.trans (hji12z h_)
      by_cases c13 : (wrap64 (rd l0 (ji7))) < 128
      ·
       rw [if_pos c13] at H
       have c13b0 : decide ((wrap64 (rd l0 (ji7))) < 128) = true := decide_eq_true c13; clear c13
       by_cases c14 : x8_1 > 0
       ·
        rw [if_pos c14] at H
        have c14b0 : decide (0 < x8_1) = true := decide_eq_true c14; clear c14
        by_cases c15 : (wrap64 (rd l0 (ji7))) = 0
        ·
         rw [if_pos c15] at H
         have c15b0 : ((wrap64 (rd l0 (ji7))) == 0) = true := beq_iff_eq.mpr c15; have c15b1 : ((wrap64 (rd l0 (ji7))) != 0) = false := bne_eq_false_iff_eq.mpr c15; clear c15
         simp only [Option.some.injEq, Prod.mk.injEq] at H
         obtain ⟨rfl, rfl, rfl⟩ := H; have p101 : 0 ≤ ((ji7) : Int) := of_decide_eq_true y0_16; have q101 : (ji7) < (l0.length : Int) := of_decide_eq_true y0_16; obtain ⟨ad101, e101, hx101_0⟩ := Kd.at_int HR0.out (ji7) p101 q101; cases e101; replace p101 := eq_true p101; replace q101 := eq_true q101
         go_wp2
         go_ret3
         exact ⟨y0_6, y0_14⟩
        rw [if_neg c15] at H
        have c15b0 : ((wrap64 (rd l0 (ji7))) == 0) = false := beq_eq_false_iff_ne.mpr c15; have c15b1 : ((wrap64 (rd l0 (ji7))) != 0) = true := bne_iff_ne.mpr c15
        by_cases c16 : (Go.bits .or .i64 x7_1 (ji12)) > 2147483647
        ·
         rw [if_pos c16] at H
         have c16b0 : decide (2147483647 < (Go.bits .or .i64 x7_1 (ji12))) = true := decide_eq_true c16; clear c16
         simp only [Option.some.injEq, Prod.mk.injEq] at H
         obtain ⟨rfl, rfl, rfl⟩ := H; have p101 : 0 ≤ ((ji7) : Int) := of_decide_eq_true y0_16; have q101 : (ji7) < (l0.length : Int) := of_decide_eq_true y0_16; obtain ⟨ad101, e101, hx101_0⟩ := Kd.at_int HR0.out (ji7) p101 q101; cases e101; replace p101 := eq_true p101; replace q101 := eq_true q101
         go_wp2
         go_ret3
         exact ⟨y0_6, y0_14⟩
        rw [if_neg c16] at H
        have c16b0 : decide (2147483647 < (Go.bits .or .i64 x7_1 (ji12))) = false := decide_eq_false c16; clear c16
        simp only [Option.some.injEq, Prod.mk.injEq] at H
        obtain ⟨rfl, rfl, rfl⟩ := H; have p101 : 0 ≤ ((ji7) : Int) := of_decide_eq_true y0_16; have q101 : (ji7) < (l0.length : Int) := of_decide_eq_true y0_16; obtain ⟨ad101, e101, hx101_0⟩ := Kd.at_int HR0.out (ji7) p101 q101; cases e101; replace p101 := eq_true p101; replace q101 := eq_true q101
        go_wp2
        go_ret3
        exact ⟨y0_6, y0_14⟩
       rw [if_neg c14] at H
       have c14b0 : decide (0 < x8_1) = false := decide_eq_false c14; clear c14
       by_cases c17 : (Go.bits .or .i64 x7_1 (ji12)) > 2147483647
       ·
        rw [if_pos c17] at H
        have c17b0 : decide (2147483647 < (Go.bits .or .i64 x7_1 (ji12))) = true := decide_eq_true c17; clear c17
        simp only [Option.some.injEq, Prod.mk.injEq] at H
        obtain ⟨rfl, rfl, rfl⟩ := H; have p101 : 0 ≤ ((ji7) : Int) := of_decide_eq_true y0_16; have q101 : (ji7) < (l0.length : Int) := of_decide_eq_true y0_16; obtain ⟨ad101, e101, hx101_0⟩ := Kd.at_int HR0.out (ji7) p101 q101; cases e101; replace p101 := eq_true p101; replace q101 := eq_true q101
        go_wp2
        go_ret3
        exact ⟨y0_6, y0_14⟩
       rw [if_neg c17] at H
       have c17b0 : decide (2147483647 < (Go.bits .or .i64 x7_1 (ji12))) = false := decide_eq_false c17; clear c17
       simp only [Option.some.injEq, Prod.mk.injEq] at H
       obtain ⟨rfl, rfl, rfl⟩ := H; have p101 : 0 ≤ ((ji7) : Int) := of_decide_eq_true y0_16; have q101 : (ji7) < (l0.length : Int) := of_decide_eq_true y0_16; obtain ⟨ad101, e101, hx101_0⟩ := Kd.at_int HR0.out (ji7) p101 q101; cases e101; replace p101 := eq_true p101; replace q101 := eq_true q101
       go_wp2
       go_ret3
       exact ⟨y0_6, y0_14⟩
      rw [if_neg c13] at H
      have c13b0 : decide ((wrap64 (rd l0 (ji7))) < 128) = false := decide_eq_false c13; clear c13; have H' := Aside0.mk H; clear H; have p101 : 0 ≤ ((ji7) : Int) := of_decide_eq_true y0_16; have q101 : (ji7) < (l0.length : Int) := of_decide_eq_true y0_16; obtain ⟨ad101, e101, hx101_0⟩ := Kd.at_int HR0.out (ji7) p101 q101; cases e101; replace p101 := eq_true p101; replace q101 := eq_true q101
      go_wp2
      go_roundg kj3
      case measure => have := HK1.out; have := HJ3.out; omega
      case rel => exact ⟨(Go.bits .or .i64 x7_1 (ji12)), (wrap64 (x8_1 + 1)), (by first | rfl | (simp; done) | (simp only [← hji12] <;> (first | rfl | simp)) | (simp [*]; done)), y0_17, H', ⟨by have := HK1.out; have := HJ3.out; omega⟩, y0_14⟩
   rw [if_neg c3] at H
   have c3b0 : decide (x8_1 < 5) = false := decide_eq_false c3; clear c3
   simp only [Option.some.injEq, Prod.mk.injEq] at H
   obtain ⟨rfl, rfl, rfl⟩ := H
   go_wp2
   go_ret3
   exact ⟨y0_17, y0_14⟩

/-- A state of type 139 at block g of W; what its slices lead to came in by w0. -/
def IsS139 (w0 W : World) (g : Nat) (f0 : List Int) (f1 : Int) (f2 : Bool) : Prop := ∃ A0 c0, W.heap[g]? = some (.cells #[.slice A0 f0.length c0, .int .i64 f1, .bool f2] 139 (0, 0)) ∧ w0.heap.size ≤ g ∧ Kd.C (Kd.int .u8) w0 A0 f0.length f0 ∧ f0.length ≤ c0
theorem IsS139.grown {w0 W : World} {g : Nat} {f0 : List Int} {f1 : Int} {f2 : Bool} {W1 : World} {row : Option Nat} (h : IsS139 w0 W g f0 f1 f2) (hw : W.grownBy W1 row) (hne : some g ≠ row) : IsS139 w0 W1 g f0 f1 f2 := by
 obtain ⟨A0, c0, hb, hg, hr0, hl0⟩ := h
 exact ⟨A0, c0, blk_grown hb hw hne, hg, hr0, hl0⟩
theorem IsS139.own_neN {w0 W : World} {g : Nat} {f0 : List Int} {f1 : Int} {f2 : Bool} {α : Type} {d : Kd α} {e : Nat} {base : Nat} {ok : Nat → Prop} {v : Value} {xs : List α} (h : IsS139 w0 W g f0 f1 f2) (ho : Kd.N d e W base ok v xs) (ht : e ≠ 139) : some g ≠ v.ownBlock := by
 obtain ⟨A0, c0, hb, hg, hr0, hl0⟩ := h
 exact Kd.N_ne ho hb ht
theorem IsS139.fresh {w0 W : World} {g : Nat} {f0 : List Int} {f1 : Int} {f2 : Bool} (h : IsS139 w0 W g f0 f1 f2) : ∀ k, W.heap.size ≤ k → k ≠ g := by
 obtain ⟨A0, c0, hb, hg, hr0, hl0⟩ := h
 exact Kd.freshB hb
theorem IsS139.kept {w0 W : World} {g : Nat} {f0 : List Int} {f1 : Int} {f2 : Bool} {W1 : World} {S : Nat → Prop} (h : IsS139 w0 W g f0 f1 f2) (hk : Kept W W1 S) (hne : ¬ S g) : IsS139 w0 W1 g f0 f1 f2 := by
 obtain ⟨A0, c0, hb, hg, hr0, hl0⟩ := h
 exact ⟨A0, c0, blk_kept hb hk hne, hg, hr0, hl0⟩
theorem IsS139.below {w0 W : World} {g : Nat} {f0 : List Int} {f1 : Int} {f2 : Bool} {W1 : World} (h : IsS139 w0 W g f0 f1 f2) (hw : Below W.heap.size W W1) : IsS139 w0 W1 g f0 f1 f2 := h.grown (grown_of_below hw none) (by simp)
theorem IsS139.alloc {w0 W : World} {g : Nat} {f0 : List Int} {f1 : Int} {f2 : Bool} (h : IsS139 w0 W g f0 f1 f2) (o : Obj) : IsS139 w0 (W.alloc o) g f0 f1 f2 := h.below (below_alloc (Below.refl _ _) o)
theorem IsS139.drewN {w0 W : World} {g : Nat} {f0 : List Int} {f1 : Int} {f2 : Bool} (h : IsS139 w0 W g f0 f1 f2) (m : Nat) : IsS139 w0 (W.drewN m) g f0 f1 f2 := h
theorem IsS139.drew {w0 W : World} {g : Nat} {f0 : List Int} {f1 : Int} {f2 : Bool} (h : IsS139 w0 W g f0 f1 f2) : IsS139 w0 W.drew g f0 f1 f2 := h
theorem IsS139.at_ {w0 W : World} {g : Nat} {f0 : List Int} {f1 : Int} {f2 : Bool} {w' : World} {m : Nat} (hq : W.drewN m = w') (h : IsS139 w0 W g f0 f1 f2) : IsS139 w0 w' g f0 f1 f2 := by subst hq; exact IsS139.drewN h m
theorem IsS139.apart {w0 W : World} {g : Nat} {f0 : List Int} {f1 : Int} {f2 : Bool} {α : Type} {d : Kd α} {e : Nat} {base : Nat} {ok : Nat → Prop} {v : Value} {xs : List α} (h : IsS139 w0 W g f0 f1 f2) (ho : d.R e W base ok v xs) (ht : ∀ q, q ∈ e :: d.E → q ≠ 139) : d.R e W base (fun k => ok k ∧ k ≠ g) v xs := by
 obtain ⟨A0, c0, hb, hg, hr0, hl0⟩ := h
 exact Kd.R_types ho hb ht
theorem IsS139.own_ne {w0 W : World} {g : Nat} {f0 : List Int} {f1 : Int} {f2 : Bool} {α : Type} {d : Kd α} {e : Nat} {base : Nat} {ok : Nat → Prop} {v : Value} {xs : List α} (h : IsS139 w0 W g f0 f1 f2) (ho : d.R e W base ok v xs) (ht : e ≠ 139) : some g ≠ v.ownBlock := by
 obtain ⟨A0, c0, hb, hg, hr0, hl0⟩ := h
 exact Kd.R_ne ho hb ht
theorem IsS139.apartQ {w0 W : World} {g : Nat} {f0 : List Int} {f1 : Int} {f2 : Bool} {α : Type} {d : Kd α} {e : Nat} {base : Nat} {ok : Nat → Prop} {v : Value} {xs : List α} (h : IsS139 w0 W g f0 f1 f2) (ho : d.Q e W base ok v xs) (ht : ∀ q, q ∈ e :: d.E → q ≠ 139) : d.Q e W base (fun k => ok k ∧ k ≠ g) v xs := by
 obtain ⟨A0, c0, hb, hg, hr0, hl0⟩ := h
 exact Kd.Q_types ho hb ht
theorem IsS139.own_neQ {w0 W : World} {g : Nat} {f0 : List Int} {f1 : Int} {f2 : Bool} {α : Type} {d : Kd α} {e : Nat} {base : Nat} {ok : Nat → Prop} {v : Value} {xs : List α} (h : IsS139 w0 W g f0 f1 f2) (ho : d.Q e W base ok v xs) (ht : e ≠ 139) : some g ≠ v.ownBlock := by
 obtain ⟨A0, c0, hb, hg, hr0, hl0⟩ := h
 exact Kd.Q_ne ho hb ht
theorem IsS139.apartS {w0 W : World} {g : Nat} {f0 : List Int} {f1 : Int} {f2 : Bool} {α : Type} {d : Kd α} {e : Nat} {base : Nat} {ok : Nat → Prop} {v : Value} {xs : List α} (h : IsS139 w0 W g f0 f1 f2) (ho : d.S e W base ok v xs) (ht : ∀ q, q ∈ e :: d.E → q ≠ 139) : d.S e W base (fun k => ok k ∧ k ≠ g) v xs := by
 obtain ⟨A0, c0, hb, hg, hr0, hl0⟩ := h
 exact Kd.S_types ho hb ht
theorem IsS139.own_neS {w0 W : World} {g : Nat} {f0 : List Int} {f1 : Int} {f2 : Bool} {α : Type} {d : Kd α} {e : Nat} {base : Nat} {ok : Nat → Prop} {v : Value} {xs : List α} (h : IsS139 w0 W g f0 f1 f2) (ho : d.S e W base ok v xs) (ht : e ≠ 139) : some g ≠ v.ownBlock := by
 obtain ⟨A0, c0, hb, hg, hr0, hl0⟩ := h
 exact Kd.S_ne ho hb ht
theorem IsS139.lt {w0 W : World} {g : Nat} {f0 : List Int} {f1 : Int} {f2 : Bool} (h : IsS139 w0 W g f0 f1 f2) : g < W.heap.size := by
 obtain ⟨A0, c0, hb, hg, hr0, hl0⟩ := h
 exact blk_lt hb
theorem IsS139.ge {w0 W : World} {g : Nat} {f0 : List Int} {f1 : Int} {f2 : Bool} (h : IsS139 w0 W g f0 f1 f2) : w0.heap.size ≤ g := by
 obtain ⟨A0, c0, hb, hg, hr0, hl0⟩ := h
 exact hg
theorem IsS139.ne_blk {w0 W : World} {g : Nat} {f0 : List Int} {f1 : Int} {f2 : Bool} {a : Nat} {cs : Array Value} {t : TypeId} {fr : Nat × Nat} (h : IsS139 w0 W g f0 f1 f2) (hb2 : W.heap[a]? = some (.cells cs t fr)) (ht : t ≠ 139) : g ≠ a := by
 obtain ⟨A0, c0, hb, hg, hr0, hl0⟩ := h
 rintro rfl
 rw [hb] at hb2
 injection hb2 with hb2
 injection hb2 with _ ht2
 exact ht ht2.symm
theorem IsS139.far {w0 W : World} {g : Nat} {f0 : List Int} {f1 : Int} {f2 : Bool} {p : Addr} (h : IsS139 w0 W g f0 f1 f2) (hne : g ≠ p.block) (u : Value) : IsS139 w0 (W.setCell p u) g f0 f1 f2 := by
 obtain ⟨A0, c0, hb, hg, hr0, hl0⟩ := h
 exact ⟨A0, c0, blk_far hb hne u, hg, hr0, hl0⟩
theorem cellS139_0 {W : World} {g : Nat} {A0 : Option Addr} {c0 : Nat} {f0 : List Int} {f1 : Int} {f2 : Bool} (h : W.heap[g]? = some (.cells #[.slice A0 f0.length c0, .int .i64 f1, .bool f2] 139 (0, 0))) : W.cell? ⟨g, 0, none⟩ = some (.slice A0 f0.length c0) := (blk_cell h 0).trans rfl
theorem cellS139_1 {W : World} {g : Nat} {A0 : Option Addr} {c0 : Nat} {f0 : List Int} {f1 : Int} {f2 : Bool} (h : W.heap[g]? = some (.cells #[.slice A0 f0.length c0, .int .i64 f1, .bool f2] 139 (0, 0))) : W.cell? ⟨g, 1, none⟩ = some (.int .i64 f1) := (blk_cell h 1).trans rfl
theorem IsS139.set_1 {w0 W : World} {g : Nat} {f0 : List Int} {f1 : Int} {f2 : Bool} (h : IsS139 w0 W g f0 f1 f2) (x : Int) : IsS139 w0 (W.setCell ⟨g, 1, none⟩ (.int .i64 x)) g f0 x f2 := by
 obtain ⟨A0, c0, hb, hg, hr0, hl0⟩ := h
 exact ⟨A0, c0, by simpa using blk_set hb 1 (.int .i64 x), hg, hr0, hl0⟩
theorem cellS139_2 {W : World} {g : Nat} {A0 : Option Addr} {c0 : Nat} {f0 : List Int} {f1 : Int} {f2 : Bool} (h : W.heap[g]? = some (.cells #[.slice A0 f0.length c0, .int .i64 f1, .bool f2] 139 (0, 0))) : W.cell? ⟨g, 2, none⟩ = some (.bool f2) := (blk_cell h 2).trans rfl
theorem IsS139.set_2 {w0 W : World} {g : Nat} {f0 : List Int} {f1 : Int} {f2 : Bool} (h : IsS139 w0 W g f0 f1 f2) (x : Bool) : IsS139 w0 (W.setCell ⟨g, 2, none⟩ (.bool x)) g f0 f1 x := by
 obtain ⟨A0, c0, hb, hg, hr0, hl0⟩ := h
 exact ⟨A0, c0, by simpa using blk_set hb 2 (.bool x), hg, hr0, hl0⟩
theorem IsS139.new (w0 W : World) (A0 : Option Addr) (c0 : Nat) (f0 : List Int) (f1 : Int) (f2 : Bool) (hB : Below w0.heap.size w0 W) (hr0 : Kd.C (Kd.int .u8) w0 A0 f0.length f0) (hl0 : f0.length ≤ c0) : IsS139 w0 (W.alloc (.cells #[.slice A0 f0.length c0, .int .i64 f1, .bool f2] 139)) W.heap.size f0 f1 f2 := ⟨A0, c0, by simpa using heap_alloc_new W _, hB.size, hr0, hl0⟩
theorem iS139 {w0 w W : World} {g : Nat} {f0 : List Int} {f1 : Int} {f2 : Bool} (h : Aside0 (IsS139 w0 w g f0 f1 f2)) [u : UpG g w W] : IsS139 w0 W g f0 f1 f2 := by obtain ⟨_, _, hb, r⟩ := h.out; exact ⟨_, _, u.out _ _ hb, r⟩
theorem oS139 {w0 w : World} {g : Nat} {f0 : List Int} {f1 : Int} {f2 : Bool} (h : Aside0 (IsS139 w0 w g f0 f1 f2)) : ∃ (A0 : Option Addr) (c0 : Nat), BkI g w #[.slice A0 f0.length c0, .int .i64 f1, .bool f2] 139 ∧ GeI w0.heap.size g ∧ Aside0 (Kd.C (Kd.int .u8) w0 A0 f0.length f0) ∧ Aside0 (f0.length ≤ c0) := by obtain ⟨A0, c0, hb, hg, hr0, hl0⟩ := h.out; exact ⟨A0, c0, ⟨hb⟩, ⟨hg⟩, ⟨hr0⟩, ⟨hl0⟩⟩
theorem nS139 {w0 W : World} {g : Nat} {A0 : Option Addr} {c0 : Nat} {f0 : List Int} {f1 : Int} {f2 : Bool} (hb : W.heap[g]? = some (.cells #[.slice A0 f0.length c0, .int .i64 f1, .bool f2] 139 (0, 0))) (hr0 : Aside0 (Kd.C (Kd.int .u8) w0 A0 f0.length f0)) (hl0 : Aside0 (f0.length ≤ c0)) [hg : GeI w0.heap.size g] : IsS139 w0 W g f0 f1 f2 := ⟨A0, c0, hb, hg.out, hr0.out, hl0.out⟩
theorem iB139 {w0 w : World} {g : Nat} {f0 : List Int} {f1 : Int} {f2 : Bool} (h : Aside0 (IsS139 w0 w g f0 f1 f2)) : StB g w 139 := ⟨by obtain ⟨_, _, hb, r⟩ := h.out; exact ⟨_, hb⟩⟩
instance (w0 : World) (g : Nat) (f0 : List Int) (f1 : Int) (f2 : Bool) : StP (fun w => IsS139 w0 w g f0 f1 f2) g 139 := ⟨fun w h => (iB139 ⟨h⟩).out⟩
instance (w0 : World) (f0 : List Int) (f1 : Int) (f2 : Bool) : StN (fun g w => IsS139 w0 w g f0 f1 f2) w0 139 := ⟨fun g w h => (iB139 ⟨h⟩).out, fun g w h => IsS139.ge h⟩

/-! ### spec_l12Num: function 126 -/
def spec_l12Num.f (k : Nat) (s0_0 : List Int) (s0_1 : Int) (s0_2 : Bool) : Option (Int × Int × Bool) := (spec_GetNum.f k s0_0 s0_1).bind fun bt102 => (if bt102.2.2 = true then (if s0_2 = true then (some (bt102.1, bt102.2.1, s0_2)) else (some (0, s0_1, false))) else (some (0, s0_1, false)))
theorem spec_l12Num.mono : ∀ a0 a1 a2 k, LeO (spec_l12Num.f k a0 a1 a2) (spec_l12Num.f (k + 1) a0 a1 a2) := by
 intro a0 a1 a2 k
 unfold spec_l12Num.f
 repeat' first | (with_reducible exact spec_GetNum.mono _ _ _) | (with_reducible exact LeO.refl _) | (with_reducible exact LeO.none _) | (with_reducible refine LeO.ite ?_ ?_) | (with_reducible refine LeO.bind ?_ (fun _ => ?_))
def spec_l12Num.T1 : Bool × List (List Nat × List Nat) := (true, [([], []), ([0], [0]), ([1], [1]), ([2], [2]), ([], []), ([4], [4]), ([5], [5]), ([6], [6]), ([3, 7], [3, 7]), ([8], [8]), ([9], [9]), ([9], [9]), ([9], [9]), ([10, 8, 0, 1, 2, 3, 4, 5, 6, 7, 8, 9, 10], [10]), ([11, 13, 0, 1, 2, 3, 4, 5, 6, 7, 8, 9, 10, 11, 13], [11]), ([12, 14, 0, 1, 2, 3, 4, 5, 6, 7, 8, 9, 10, 11, 12, 13, 14], [12])])
def spec_l12Num.B1 : List Nat := [0, 1, 3, 7, 0, 16, 48, 112, 255, 511, 1023, 1023, 1023, 2047, 12287, 32767]
theorem spec_l12Num.tab1 : rtab .any (opsOf Tryz.f126 1) = spec_l12Num.T1 := by kernel_rfl
theorem spec_l12Num.bits1 : waitsOk spec_l12Num.T1.2 spec_l12Num.B1 = true := by kernel_rfl
set_option maxHeartbeats 8000000 in
set_option maxRecDepth 100000 in
theorem spec_l12Num.calls (k : Nat) (g : Nat) (s0_0 : List Int) (s0_1 : Int) (s0_2 : Bool) (r1 : Int) (r2 : Int) (r3 : Bool) (w0 w : World) (hI : IsS139 w0 w g s0_0 s0_1 s0_2) (hB : Below w0.heap.size w0 w) (h : spec_l12Num.f k s0_0 s0_1 s0_2 = some (r1, r2, r3)) :
  Calls Tryz.prog 126 #[.pointer (some ⟨g, 0, none⟩)] w fun e w' => e = .returned (.int .i64 r1) ∧ IsS139 w0 w' g s0_0 r2 r3 ∧ Below w0.heap.size w0 w' ∧ KeepBut w w' g none := by
 have HI0 := Aside0.mk hI; have HK := Aside0.mk (KeepBut.refl w g none); have HL := Aside0.mk hB.size; clear hI; have HW0 := Aside0.mk hB.size; have HB := Aside0.mk hB; clear hB
 have H := h; unfold spec_l12Num.f at H
 clear h; obtain ⟨⟨t102, t103, t104⟩, A2, H⟩ := oB H; (try dsimp only at H); have i0_ := iB139 HI0; have i1_ : LB w0 w := ⟨HB.out⟩; obtain ⟨AS3_0, cS3_0, bk3, HG3, HS3_0, HL3_0⟩ := oS139 HI0
 go_enter Tryz.func126, Tryz.ntmps126
 have H' := Aside0.mk H; clear H
 try go_wp2
 refine sB [] spec_l12Num.tab1 spec_l12Num.bits1 ?_; intro w4 _ HT_ HW_
 refine pA 0 (some 7) (bz 16 1) HT_ ?_
 refine pA 1 (some 8) (bz 16 3) HT_ ?_
 refine pA 2 (some 9) (bz 16 7) HT_ ?_
 refine tB 3 (some 10) (bz 16 15) HT_ HW_ ?_
 refine pA 4 (some 11) (bz 16 31) HT_ ?_
 refine pA 5 (some 12) (bz 16 63) HT_ ?_
 refine pA 6 (some 13) (bz 16 127) HT_ ?_
 refine tB 7 (some 14) (bz 16 255) HT_ HW_ ?_
 refine o1 8 (some 15) (bz 16 511) HT_ rfl (kD Tryz.func72 (spec_GetNum.calls (hr0 := pC HS3_0) (hc0 := HL3_0.out) (w := _) (h := A2.out)) ?_); intro w5 _
 refine nA (some 15) ?_
 refine pA 9 (some 6) (bz 16 1023) HT_ ?_
 refine pA 10 (some 16) (bz 16 2047) HT_ ?_
 refine pA 11 (some 17) (bz 16 4095) HT_ ?_
 refine pA 12 (some 18) (bz 16 0x1fff) HT_ ?_
 refine pA 13 (some 3) (bz 16 0x3fff) HT_ ?_
 refine pA 14 (some 4) (bz 16 0x7fff) HT_ ?_
 refine pA 15 (some 5) (bz 16 0xffff) HT_ ?_
 refine done_ (done_of HT_.out (by kernel_rfl)) ?_
 go_upto_region 2 with fail
 have H := H'.out; clear H'
 by_cases c6 : t104 = true
 ·
  subst c6
  rw [if_pos rfl] at H
  have H' := Aside0.mk H; clear H
  go_upto_if 27 with fail
  have H := H'.out; clear H'
  by_cases c7 : s0_2 = true
  ·
   subst c7
   rw [if_pos rfl] at H
   simp only [Option.some.injEq, Prod.mk.injEq] at H
   obtain ⟨rfl, rfl, rfl⟩ := H
   go_wp2
   go_ret
   exact ⟨y0_17, (nS139 xB HS3_0 HL3_0), UpW.out, UpB.out⟩
  replace c7 := Bool.eq_false_iff.mpr c7; subst c7
  rw [if_neg (show ¬ (false = true) by decide)] at H
  simp only [Option.some.injEq, Prod.mk.injEq] at H
  obtain ⟨rfl, rfl, rfl⟩ := H
  go_wp2
  go_ret
  exact ⟨y0_17, (nS139 xB HS3_0 HL3_0), UpW.out, UpB.out⟩
 replace c6 := Bool.eq_false_iff.mpr c6; subst c6
 rw [if_neg (show ¬ (false = true) by decide)] at H
 simp only [Option.some.injEq, Prod.mk.injEq] at H
 obtain ⟨rfl, rfl, rfl⟩ := H
 go_wp2
 go_ret
 exact ⟨y0_17, (nS139 xB HS3_0 HL3_0), UpW.out, UpB.out⟩

/-! ### spec_GetText: function 161 -/
def spec_GetText.f (k : Nat) (l0 : List Int) (a1 : Int) : Option (ByteArray × Int × Bool) := (spec_GetNum.f k l0 a1).bind fun bt105 => (if bt105.2.2 = true then (if bt105.1 > (wrap64 ((l0.length : Int) - bt105.2.1)) then (some ((⟨#[]⟩ : ByteArray), 0, false)) else (if 0 ≤ bt105.2.1 then (if bt105.2.1 ≤ (wrap64 (bt105.2.1 + bt105.1)) then (if (wrap64 (bt105.2.1 + bt105.1)) ≤ (l0.length : Int) then (some (strOfNums ((l0.take ((wrap64 (bt105.2.1 + bt105.1)) : Int).toNat).drop (bt105.2.1 : Int).toNat), wrap64 (bt105.2.1 + bt105.1), true)) else (none)) else (none)) else (none))) else (some ((⟨#[]⟩ : ByteArray), 0, false)))
theorem spec_GetText.mono : ∀ a0 a1 k, LeO (spec_GetText.f k a0 a1) (spec_GetText.f (k + 1) a0 a1) := by
 intro a0 a1 k
 unfold spec_GetText.f
 repeat' first | (with_reducible exact spec_GetNum.mono _ _ _) | (with_reducible exact LeO.refl _) | (with_reducible exact LeO.none _) | (with_reducible refine LeO.ite ?_ ?_) | (with_reducible refine LeO.bind ?_ (fun _ => ?_))
set_option maxHeartbeats 8000000 in
set_option maxRecDepth 100000 in
theorem spec_GetText.calls (k : Nat) (A0 : Option Addr) (c0 : Nat) (l0 : List Int) (a1 : Int) (r1 : ByteArray) (r2 : Int) (r3 : Bool) (w : World) (hr0 : Kd.C (Kd.int .u8) w A0 l0.length l0) (hc0 : l0.length ≤ c0) (h : spec_GetText.f k l0 a1 = some (r1, r2, r3)) :
  Calls Tryz.prog 161 #[.slice A0 l0.length c0, .int .i64 a1] w fun e w' => e = .returned (.tuple #[.string r1, .int .i64 r2, .bool r3]) ∧ Drawn0 w w' := by
 have HR0 := Aside0.mk hr0; have HC0 := Aside0.mk hc0; clear hr0 hc0
 have H := h; unfold spec_GetText.f at H
 clear h; obtain ⟨⟨t105, t106, t107⟩, A3, H⟩ := oB H; (try dsimp only at H)
 by_cases c4 : t107 = true
 ·
  subst c4
  rw [if_pos rfl] at H
  by_cases c5 : t105 > (wrap64 ((l0.length : Int) - t106))
  ·
   rw [if_pos c5] at H
   have c5b0 : decide ((wrap64 ((l0.length : Int) - t106)) < t105) = true := decide_eq_true c5; clear c5
   simp only [Option.some.injEq, Prod.mk.injEq] at H
   obtain ⟨rfl, rfl, rfl⟩ := H
   go_enter Tryz.func161, Tryz.ntmps161
   go_wp2_with (first | ((with_reducible refine gate_callee (f := 72) rfl ?_); refine gB (some 13) Tryz.func72 #[.slice A0 l0.length c0, .int .i64 a1] ?_; (with_reducible refine (spec_GetNum.calls k _ _ l0 a1 t105 t106 true _ ?side1 ?side2 A3.out).mono ?_); (case side1 => exact cI HR0.out); (case side2 => exact HC0.out); rintro e w' ⟨rfl, ⟨nd, rfl⟩⟩; refine ⟨_, rfl, ?_⟩))
   go_ret3
   exact ⟨y0_17, y0_14⟩
  rw [if_neg c5] at H
  have c5b0 : decide ((wrap64 ((l0.length : Int) - t106)) < t105) = false := decide_eq_false c5; clear c5
  by_cases c6 : 0 ≤ t106
  rotate_left
  ·
   rw [if_neg c6] at H
   exact absurd H (by simp)
  rw [if_pos c6] at H
  have c6b0 := eq_true c6; have c6b1 : decide (0 ≤ t106) = true := decide_eq_true c6; clear c6
  by_cases c7 : t106 ≤ (wrap64 (t106 + t105))
  rotate_left
  ·
   rw [if_neg c7] at H
   exact absurd H (by simp)
  rw [if_pos c7] at H
  have c7b0 := eq_true c7; have c7b1 : decide (t106 ≤ (wrap64 (t106 + t105))) = true := decide_eq_true c7
  by_cases c8 : (wrap64 (t106 + t105)) ≤ (l0.length : Int)
  rotate_left
  ·
   rw [if_neg c8] at H
   exact absurd H (by simp)
  rw [if_pos c8] at H
  have c8b0 := eq_true c8; have c8b1 : decide ((wrap64 (t106 + t105)) ≤ (l0.length : Int)) = true := decide_eq_true c8
  simp only [Option.some.injEq, Prod.mk.injEq] at H
  obtain ⟨rfl, rfl, rfl⟩ := H
  go_enter Tryz.func161, Tryz.ntmps161
  go_wp2_with (first | ((with_reducible refine gate_callee (f := 72) rfl ?_); refine gB (some 13) Tryz.func72 #[.slice A0 l0.length c0, .int .i64 a1] ?_; (with_reducible refine (spec_GetNum.calls k _ _ l0 a1 t105 t106 true _ ?side1 ?side2 A3.out).mono ?_); (case side1 => exact cI HR0.out); (case side2 => exact HC0.out); rintro e w' ⟨rfl, ⟨nd, rfl⟩⟩; refine ⟨_, rfl, ?_⟩; obtain ⟨i09, hi09, _, hsz9, _⟩ := info_parts info5; obtain ⟨A9, hcut9, hA9, hC9⟩ := print_mid_of (P := Tryz.prog) (Value.int .u8) 0 24 5 .i64 .i64 Tryz.underlying24 hi09 hsz9 A0 c0 l0 t106 (wrap64 (t106 + t105)) (of_decide_eq_true y0_16) y0_12 (of_decide_eq_true y0_16) HC0.out; have HR108 := Aside0.mk (Kd.C_of_reads (h1 := fun _ => rfl) (hA9 _ (Kd.reads_of_C HR0.out))); have HC108 := Aside0.mk hC9; clear hA9 hC9 hi09 hsz9; have hcv10 := Kd.C_string (P := Tryz.prog) (A := A9) (c := (c0 - t106.toNat)) Tryz.underlying24 Tryz.underlying5 Tryz.underlying9 (Kd.C_drewN HR108.out nd); rw [show (List.drop t106.toNat (List.take (wrap64 (t106 + t105)).toNat l0)).length = (wrap64 (t106 + t105)).toNat - t106.toNat from (by have h_ : (wrap64 (t106 + t105)) ≤ (l0.length : Int) := of_decide_eq_true (by first | (with_reducible assumption) | assumption); rw [List.length_drop, List.length_take, Nat.min_eq_left (by omega)])] at hcv10))
  go_ret3
  exact ⟨y0_17, y0_14⟩
 replace c4 := Bool.eq_false_iff.mpr c4; subst c4
 rw [if_neg (show ¬ (false = true) by decide)] at H
 simp only [Option.some.injEq, Prod.mk.injEq] at H
 obtain ⟨rfl, rfl, rfl⟩ := H
 go_enter Tryz.func161, Tryz.ntmps161
 go_wp2_with (first | ((with_reducible refine gate_callee (f := 72) rfl ?_); refine gB (some 13) Tryz.func72 #[.slice A0 l0.length c0, .int .i64 a1] ?_; (with_reducible refine (spec_GetNum.calls k _ _ l0 a1 t105 t106 false _ ?side1 ?side2 A3.out).mono ?_); (case side1 => exact cI HR0.out); (case side2 => exact HC0.out); rintro e w' ⟨rfl, ⟨nd, rfl⟩⟩; refine ⟨_, rfl, ?_⟩))
 go_ret3
 exact ⟨y0_17, y0_14⟩

/-! ### spec_l12Text: function 128 -/
def spec_l12Text.f (k : Nat) (s0_0 : List Int) (s0_1 : Int) (s0_2 : Bool) : Option (ByteArray × Int × Bool) := (spec_GetText.f k s0_0 s0_1).bind fun bt109 => (if bt109.2.2 = true then (if s0_2 = true then (some (bt109.1, bt109.2.1, s0_2)) else (some ((⟨#[]⟩ : ByteArray), s0_1, false))) else (some ((⟨#[]⟩ : ByteArray), s0_1, false)))
theorem spec_l12Text.mono : ∀ a0 a1 a2 k, LeO (spec_l12Text.f k a0 a1 a2) (spec_l12Text.f (k + 1) a0 a1 a2) := by
 intro a0 a1 a2 k
 unfold spec_l12Text.f
 repeat' first | (with_reducible exact spec_GetText.mono _ _ _) | (with_reducible exact LeO.refl _) | (with_reducible exact LeO.none _) | (with_reducible refine LeO.ite ?_ ?_) | (with_reducible refine LeO.bind ?_ (fun _ => ?_))
def spec_l12Text.T1 : Bool × List (List Nat × List Nat) := (true, [([], []), ([0], [0]), ([1], [1]), ([2], [2]), ([], []), ([4], [4]), ([5], [5]), ([6], [6]), ([3, 7], [3, 7]), ([8], [8]), ([9], [9]), ([9], [9]), ([9], [9]), ([10, 8, 0, 1, 2, 3, 4, 5, 6, 7, 8, 9, 10], [10]), ([11, 13, 0, 1, 2, 3, 4, 5, 6, 7, 8, 9, 10, 11, 13], [11]), ([12, 14, 0, 1, 2, 3, 4, 5, 6, 7, 8, 9, 10, 11, 12, 13, 14], [12])])
def spec_l12Text.B1 : List Nat := [0, 1, 3, 7, 0, 16, 48, 112, 255, 511, 1023, 1023, 1023, 2047, 12287, 32767]
theorem spec_l12Text.tab1 : rtab .any (opsOf Tryz.f128 1) = spec_l12Text.T1 := by kernel_rfl
theorem spec_l12Text.bits1 : waitsOk spec_l12Text.T1.2 spec_l12Text.B1 = true := by kernel_rfl
set_option maxHeartbeats 8000000 in
set_option maxRecDepth 100000 in
theorem spec_l12Text.calls (k : Nat) (g : Nat) (s0_0 : List Int) (s0_1 : Int) (s0_2 : Bool) (r1 : ByteArray) (r2 : Int) (r3 : Bool) (w0 w : World) (hI : IsS139 w0 w g s0_0 s0_1 s0_2) (hB : Below w0.heap.size w0 w) (h : spec_l12Text.f k s0_0 s0_1 s0_2 = some (r1, r2, r3)) :
  Calls Tryz.prog 128 #[.pointer (some ⟨g, 0, none⟩)] w fun e w' => e = .returned (.string r1) ∧ IsS139 w0 w' g s0_0 r2 r3 ∧ Below w0.heap.size w0 w' ∧ KeepBut w w' g none := by
 have HI0 := Aside0.mk hI; have HK := Aside0.mk (KeepBut.refl w g none); have HL := Aside0.mk hB.size; clear hI; have HW0 := Aside0.mk hB.size; have HB := Aside0.mk hB; clear hB
 have H := h; unfold spec_l12Text.f at H
 clear h; obtain ⟨⟨t109, t110, t111⟩, A2, H⟩ := oB H; (try dsimp only at H); have i0_ := iB139 HI0; have i1_ : LB w0 w := ⟨HB.out⟩; obtain ⟨AS3_0, cS3_0, bk3, HG3, HS3_0, HL3_0⟩ := oS139 HI0
 go_enter Tryz.func128, Tryz.ntmps128
 have H' := Aside0.mk H; clear H
 try go_wp2
 refine sB [] spec_l12Text.tab1 spec_l12Text.bits1 ?_; intro w4 _ HT_ HW_
 refine pA 0 (some 7) (bz 16 1) HT_ ?_
 refine pA 1 (some 8) (bz 16 3) HT_ ?_
 refine pA 2 (some 9) (bz 16 7) HT_ ?_
 refine tB 3 (some 10) (bz 16 15) HT_ HW_ ?_
 refine pA 4 (some 11) (bz 16 31) HT_ ?_
 refine pA 5 (some 12) (bz 16 63) HT_ ?_
 refine pA 6 (some 13) (bz 16 127) HT_ ?_
 refine tB 7 (some 14) (bz 16 255) HT_ HW_ ?_
 refine o1 8 (some 15) (bz 16 511) HT_ rfl (kD Tryz.func161 (spec_GetText.calls (hr0 := pC HS3_0) (hc0 := HL3_0.out) (w := _) (h := A2.out)) ?_); intro w5 _
 refine nA (some 15) ?_
 refine pA 9 (some 6) (bz 16 1023) HT_ ?_
 refine pA 10 (some 16) (bz 16 2047) HT_ ?_
 refine pA 11 (some 17) (bz 16 4095) HT_ ?_
 refine pA 12 (some 18) (bz 16 0x1fff) HT_ ?_
 refine pA 13 (some 3) (bz 16 0x3fff) HT_ ?_
 refine pA 14 (some 4) (bz 16 0x7fff) HT_ ?_
 refine pA 15 (some 5) (bz 16 0xffff) HT_ ?_
 refine done_ (done_of HT_.out (by kernel_rfl)) ?_
 go_upto_region 2 with fail
 have H := H'.out; clear H'
 by_cases c6 : t111 = true
 ·
  subst c6
  rw [if_pos rfl] at H
  have H' := Aside0.mk H; clear H
  go_upto_if 27 with fail
  have H := H'.out; clear H'
  by_cases c7 : s0_2 = true
  ·
   subst c7
   rw [if_pos rfl] at H
   simp only [Option.some.injEq, Prod.mk.injEq] at H
   obtain ⟨rfl, rfl, rfl⟩ := H
   go_wp2
   go_ret
   exact ⟨y0_17, (nS139 xB HS3_0 HL3_0), UpW.out, UpB.out⟩
  replace c7 := Bool.eq_false_iff.mpr c7; subst c7
  rw [if_neg (show ¬ (false = true) by decide)] at H
  simp only [Option.some.injEq, Prod.mk.injEq] at H
  obtain ⟨rfl, rfl, rfl⟩ := H
  go_wp2
  go_ret
  exact ⟨y0_17, (nS139 xB HS3_0 HL3_0), UpW.out, UpB.out⟩
 replace c6 := Bool.eq_false_iff.mpr c6; subst c6
 rw [if_neg (show ¬ (false = true) by decide)] at H
 simp only [Option.some.injEq, Prod.mk.injEq] at H
 obtain ⟨rfl, rfl, rfl⟩ := H
 go_wp2
 go_ret
 exact ⟨y0_17, (nS139 xB HS3_0 HL3_0), UpW.out, UpB.out⟩

/-! ### spec_l12Who: function 160 -/
def spec_l12Who.l0 : Nat → List Int → Int → Int → List Int → Int → Bool → Option (List Int × Int × Bool)
 | 0, _, _, _, _, _, _ => none
 | k + 1, x3, x4, x5, x1000, x1001, x1002 => if x5 < x4 then (if x1002 = true then ((spec_l12Num.f k x1000 x1001 x1002).bind fun bt118 => (if x3.length < 17592186044416 then (spec_l12Who.l0 k (x3 ++ [bt118.1]) x4 (wrap64 (x5 + 1)) x1000 bt118.2.1 bt118.2.2) else (none))) else (some (x3, x1001, x1002))) else (some (x3, x1001, x1002))
def spec_l12Who.f (k : Nat) (s0_0 : List Int) (s0_1 : Int) (s0_2 : Bool) : Option (List Int × Int × Bool) := (spec_l12Num.f k s0_0 s0_1 s0_2).bind fun bt115 => (spec_l12Who.l0 k (([] : List Int)) bt115.1 0 s0_0 bt115.2.1 bt115.2.2)
theorem spec_l12Who.mono_l : ∀ k, (∀ y0 y1 y2 y3 y4 y5, LeO (spec_l12Who.l0 k y0 y1 y2 y3 y4 y5) (spec_l12Who.l0 (k + 1) y0 y1 y2 y3 y4 y5))
 | 0 => fun _ _ _ _ _ _ r h => by simp [spec_l12Who.l0] at h
 | k + 1 => by
  have ih0 := spec_l12Who.mono_l k
  intro y0 y1 y2 y3 y4 y5
  unfold spec_l12Who.l0
  repeat' first | (with_reducible exact ih0 _ _ _ _ _ _) | (with_reducible exact spec_l12Num.mono _ _ _ _) | (with_reducible exact LeO.refl _) | (with_reducible exact LeO.none _) | (with_reducible refine LeO.ite ?_ ?_) | (with_reducible refine LeO.bind ?_ (fun _ => ?_))
theorem spec_l12Who.mono : ∀ a0 a1 a2 k, LeO (spec_l12Who.f k a0 a1 a2) (spec_l12Who.f (k + 1) a0 a1 a2) := by
 intro a0 a1 a2 k
 have ih0 := spec_l12Who.mono_l k
 unfold spec_l12Who.f
 repeat' first | (with_reducible exact ih0 _ _ _ _ _ _) | (with_reducible exact spec_l12Num.mono _ _ _ _) | (with_reducible exact LeO.refl _) | (with_reducible exact LeO.none _) | (with_reducible refine LeO.ite ?_ ?_) | (with_reducible refine LeO.bind ?_ (fun _ => ?_))
set_option maxHeartbeats 8000000 in
set_option maxRecDepth 100000 in
theorem spec_l12Who.calls (k : Nat) (g : Nat) (s0_0 : List Int) (s0_1 : Int) (s0_2 : Bool) (r1 : List Int) (r2 : Int) (r3 : Bool) (w0 w : World) (hI : IsS139 w0 w g s0_0 s0_1 s0_2) (hB : Below w0.heap.size w0 w) (h : spec_l12Who.f k s0_0 s0_1 s0_2 = some (r1, r2, r3)) :
  Calls Tryz.prog 160 #[.pointer (some ⟨g, 0, none⟩)] w fun e w' => ∃ v0_ : Value, e = .returned (v0_) ∧ Kd.R (Kd.int .i64) 3 w' w.heap.size (fun _ => True) v0_ r1 ∧ IsS139 w0 w' g s0_0 r2 r3 ∧ Below w0.heap.size w0 w' ∧ KeepBut w w' g none := by
 have HI0 := Aside0.mk hI; have HK := Aside0.mk (KeepBut.refl w g none); have HL := Aside0.mk hB.size; clear hI; have HW0 := Aside0.mk hB.size; have HB := Aside0.mk hB; clear hB
 have H := h; unfold spec_l12Who.f at H
 clear h; obtain ⟨y112, hy112⟩ : ∃ y_ : List Int, y_ = (([] : List Int)) := ⟨_, rfl⟩
 replace H : ((spec_l12Num.f k s0_0 s0_1 s0_2).bind fun bt115 => (spec_l12Who.l0 k y112 bt115.1 0 s0_0 bt115.2.1 bt115.2.2)) = some (r1, r2, r3) := by first | (rw [hy112]; with_reducible exact H) | (have H2_ := (Option.bind_some _ _).symm.trans H; rw [hy112]; with_reducible exact H2_) | (have H2_ := (Option.bind_some _ _).symm.trans H; with_reducible exact H2_) | with_reducible exact H | (rw [hy112]; exact H) | exact H
 have Ny112 := Aside0.mk hy112; clear hy112; obtain ⟨⟨t115, t116, t117⟩, A2, H⟩ := oB H; (try dsimp only at H); have i0_ := iB139 HI0; have i1_ : LB w0 w := ⟨HB.out⟩; obtain ⟨AS3_0, cS3_0, bk3, HG3, HS3_0, HL3_0⟩ := oS139 HI0
 go_enter Tryz.func160, Tryz.ntmps160
 have H' := Aside0.mk H; clear H
 go_wp2_with (first | ((with_reducible refine gate_dst (N := 7) rfl ?_); refine lL 7 3 (Kd.int .i64) rfl Ny112 ?_; intro Ao113 co113 w4 _ HO114) | ((with_reducible refine gate_callee (f := 126) rfl ?_); refine gK (some 9) Tryz.func126 (spec_l12Num.calls (hI := (nS139 xB HS3_0 HL3_0)) (hB := UpW.out) (w := _) (h := A2.out)) ?_; intro w5 _ _ _ HI6; obtain ⟨AS7_0, cS7_0, bk7, HG7, HS7_0, HL7_0⟩ := oS139 HI6; clear bk3))
 refine wC ?_; intro w8 _
 go_loopg [3, 5] k (fun kq v3 v5 w' => ∃ (x3_1 : List Int) (x5_1 : Int) (x1001_1 : Int) (x1002_1 : Bool) (Ao3_1 : Option Addr) (co3_1 : Nat), v3 = .slice Ao3_1 x3_1.length co3_1 ∧ v5 = .int .i64 x5_1 ∧ Aside0 (spec_l12Who.l0 kq x3_1 t115 x5_1 s0_0 x1001_1 x1002_1 = some (r1, r2, r3)) ∧ Aside0 (kq ≤ k) ∧ Aside0 (Kd.R (Kd.int .i64) 3 w' w.heap.size (iv w w') (.slice Ao3_1 x3_1.length co3_1) x3_1) ∧ StB g w' 139 ∧ Aside0 (IsS139 w0 w' g s0_0 x1001_1 x1002_1) ∧ KT w8 [g] w _ (Kd.int .i64) 3 w' ∧ LB w0 w' ∧ KS w g w')
 case atStart => exact ⟨(y112), (0), (t116), (t117), (Ao113), (co113), y0_17, y0_17, H', ⟨Nat.le_refl _⟩, ⟨rJ HO114⟩, iB139 ⟨(nS139 xB HS7_0 HL7_0)⟩, ⟨(nS139 xB HS7_0 HL7_0)⟩, ⟨UpT.out⟩, ⟨UpW.out⟩, ⟨UpB.out⟩⟩
 case round =>
  clear H'; obtain ⟨x3_1, x5_1, x1001_1, x1002_1, Ao3_1, co3_1, rfl, rfl, HA, HK1, HO_3, _, HI9, _, _, _⟩ := hrel; have HO_7 := HO114; cases gk with
  | zero => exact absurd HA.out (by simp [spec_l12Who.l0])
  | succ k1 =>
   have H := HA.out; clear HA
   simp only [spec_l12Who.l0] at H
   obtain ⟨AS10_0, cS10_0, bk10, HG10, HS10_0, HL10_0⟩ := oS139 HI9; clear bk7
   by_cases c11 : x5_1 < t115
   ·
    rw [if_pos c11] at H
    have c11b0 : decide (x5_1 < t115) = true := decide_eq_true c11; clear c11; have H' := Aside0.mk H; clear H
    go_upto_if 18 with fail
    have H := H'.out; clear H'
    by_cases c12 : x1002_1 = true
    ·
     subst c12
     rw [if_pos rfl] at H
     obtain ⟨⟨t118, t119, t120⟩, A13, H⟩ := oB H; (try dsimp only at H)
     by_cases c14 : x3_1.length < 17592186044416
     rotate_left
     ·
      rw [if_neg c14] at H
      exact absurd H (by simp)
     rw [if_pos c14] at H
     have LMc14 := Aside0.mk c14; clear c14; obtain ⟨y121, hy121⟩ : ∃ y_ : List Int, y_ = (x3_1 ++ [t118]) := ⟨_, rfl⟩
     replace H : (spec_l12Who.l0 k1 y121 t115 (wrap64 (x5_1 + 1)) s0_0 t119 t120) = some (r1, r2, r3) := by first | (rw [hy121]; with_reducible exact H) | (have H2_ := (Option.bind_some _ _).symm.trans H; rw [hy121]; with_reducible exact H2_) | (have H2_ := (Option.bind_some _ _).symm.trans H; with_reducible exact H2_) | with_reducible exact H | (rw [hy121]; exact H) | exact H
     have Ny121 := Aside0.mk hy121; clear hy121; have H' := Aside0.mk H; clear H
     go_wp2_with (first | ((with_reducible refine gate_callee (f := 126) rfl ?_); refine gK (some 22) Tryz.func126 (spec_l12Num.calls (hI := (nS139 xB HS10_0 HL10_0)) (hB := UpW.out) (w := _) (h := A13.out)) ?_; intro w15 _ _ _ HI16; obtain ⟨AS17_0, cS17_0, bk17, HG17, HS17_0, HL17_0⟩ := oS139 HI16; clear bk10) | ((with_reducible refine gate_builtin (b := .append) (xs := #[.tmp 23, .tmp 25]) rfl ?_); at_builtin; refine gA (Kd.int .i64) (.tmp 23) (.tmp 25) 25 3 (.int .i64 0) 8 t118 [.int .i64 t118] w Ny121 HO_3 rfl (by have := LMc14.out; omega) ?_ (ht := Tryz.underlying25) (hinfo := info3); intro Ao122 co122 w18 _ _ HO123))
     go_roundg k1
     case measure => have := HK1.out; omega
     case rel => exact ⟨(y121), (wrap64 (x5_1 + 1)), (t119), (t120), (Ao122), (co122), y0_17, y0_17, H', ⟨y0_20⟩, ⟨rJ HO123⟩, iB139 ⟨(nS139 xB HS17_0 HL17_0)⟩, ⟨(nS139 xB HS17_0 HL17_0)⟩, ⟨UpT.out⟩, ⟨UpW.out⟩, ⟨UpB.out⟩⟩
    replace c12 := Bool.eq_false_iff.mpr c12; subst c12
    rw [if_neg (show ¬ (false = true) by decide)] at H
    simp only [Option.some.injEq, Prod.mk.injEq] at H
    obtain ⟨rfl, rfl, rfl⟩ := H
    go_wp2
    go_ret
    exact ⟨_, y0_17, rR HO_3, (nS139 xB HS10_0 HL10_0), UpW.out, UpB.out⟩
   rw [if_neg c11] at H
   have c11b0 : decide (x5_1 < t115) = false := decide_eq_false c11; clear c11
   simp only [Option.some.injEq, Prod.mk.injEq] at H
   obtain ⟨rfl, rfl, rfl⟩ := H
   go_wp2
   go_ret
   exact ⟨_, y0_17, rR HO_3, (nS139 xB HS10_0 HL10_0), UpW.out, UpB.out⟩

/-! ### spec_l12Qc: function 127 -/
def spec_l12Qc.f (k : Nat) (s0_0 : List Int) (s0_1 : Int) (s0_2 : Bool) : Option (Int × ByteArray × List Int × Int × Bool) := (spec_l12Num.f k s0_0 s0_1 s0_2).bind fun bt126 => ((spec_l12Text.f k s0_0 bt126.2.1 bt126.2.2).bind fun bt129 => ((spec_l12Who.f k s0_0 bt129.2.1 bt129.2.2).bind fun bt132 => (some (bt126.1, bt129.1, bt132.1, bt132.2.1, bt132.2.2))))
theorem spec_l12Qc.mono : ∀ a0 a1 a2 k, LeO (spec_l12Qc.f k a0 a1 a2) (spec_l12Qc.f (k + 1) a0 a1 a2) := by
 intro a0 a1 a2 k
 unfold spec_l12Qc.f
 repeat' first | (with_reducible exact spec_l12Num.mono _ _ _ _) | (with_reducible exact spec_l12Text.mono _ _ _ _) | (with_reducible exact spec_l12Who.mono _ _ _ _) | (with_reducible exact LeO.refl _) | (with_reducible exact LeO.none _) | (with_reducible refine LeO.ite ?_ ?_) | (with_reducible refine LeO.bind ?_ (fun _ => ?_))
set_option maxHeartbeats 8000000 in
set_option maxRecDepth 100000 in
theorem spec_l12Qc.calls (k : Nat) (g : Nat) (s0_0 : List Int) (s0_1 : Int) (s0_2 : Bool) (r1 : Int) (r2 : ByteArray) (r3 : List Int) (r4 : Int) (r5 : Bool) (w0 w : World) (hI : IsS139 w0 w g s0_0 s0_1 s0_2) (hB : Below w0.heap.size w0 w) (h : spec_l12Qc.f k s0_0 s0_1 s0_2 = some (r1, r2, r3, r4, r5)) :
  Calls Tryz.prog 127 #[.pointer (some ⟨g, 0, none⟩)] w fun e w' => ∃ v2_ : Value, e = .returned (.agg #[.int .i64 r1, .string r2, v2_]) ∧ Kd.R (Kd.int .i64) 3 w' w.heap.size (fun _ => True) v2_ r3 ∧ IsS139 w0 w' g s0_0 r4 r5 ∧ Below w0.heap.size w0 w' ∧ KeepBut w w' g none := by
 have hu27 := Tryz.underlying27; have HI0 := Aside0.mk hI; have HK := Aside0.mk (KeepBut.refl w g none); have HL := Aside0.mk hB.size; clear hI; have HW0 := Aside0.mk hB.size; have HB := Aside0.mk hB; clear hB
 have H := h; unfold spec_l12Qc.f at H
 clear h; obtain ⟨⟨t126, t127, t128⟩, A2, H⟩ := oB H; (try dsimp only at H); obtain ⟨⟨t129, t130, t131⟩, A3, H⟩ := oB H; (try dsimp only at H); obtain ⟨⟨t132, t135, t136⟩, A4, H⟩ := oB H; (try dsimp only at H)
 simp only [Option.some.injEq, Prod.mk.injEq] at H
 obtain ⟨rfl, rfl, rfl, rfl, rfl⟩ := H; have i0_ := iB139 HI0; have i1_ : LB w0 w := ⟨HB.out⟩
 go_enter Tryz.func127, Tryz.ntmps127
 go_wp2_with (first | ((with_reducible refine gd 2 ?_); refine bL 2 #[.int .i64 0, .string (⟨#[]⟩ : ByteArray), .slice none 0 0] 27 ?_; intro gb124 w5 _ _ _) | ((with_reducible refine gd 3 ?_); refine bL 3 #[.int .i64 0, .string (⟨#[]⟩ : ByteArray), .slice none 0 0] 27 ?_; intro gb125 w6 _ _ _) | ((with_reducible refine gate_callee (f := 126) rfl ?_); refine gK (some 6) Tryz.func126 (spec_l12Num.calls (hI := iS139 HI0) (hB := UpW.out) (w := _) (h := A2.out)) ?_; intro w7 _ _ _ HI8) | ((with_reducible refine gate_callee (f := 128) rfl ?_); refine gK (some 9) Tryz.func128 (spec_l12Text.calls (hI := iS139 HI8) (hB := UpW.out) (w := _) (h := A3.out)) ?_; intro w9 _ _ _ HI10) | ((with_reducible refine gate_callee (f := 160) rfl ?_); refine gK1 (some 12) Tryz.func160 (spec_l12Who.calls (hI := iS139 HI10) (hB := UpW.out) (w := _) (h := A4.out)) ?_; intro Ao133 co133 w11 _ _ _ HI12 HO134))
 refine bodyPost_ret (results_cell_row rfl _ _ gb124 27 #[.int .i64 t126, .string t129, .slice Ao133 t132.length co133] (0, 0) _ rfl xB Tryz.underlying27 rfl (by kernel_rfl)) rfl ?_
 exact ⟨_, y0_17, rR HO134, iS139 HI12, UpW.out, UpB.out⟩

/-! ### spec_l1In: function 110 -/
def spec_l1In.f (a0 : Int) (a1 : Int) (a2 : Int) : Option (Bool) := if a0 ≥ a1 then (some (decide (a0 ≤ a2))) else (some false)
set_option maxHeartbeats 8000000 in
set_option maxRecDepth 100000 in
theorem spec_l1In.calls (a0 : Int) (a1 : Int) (a2 : Int) (r : Bool) (w : World) (h : spec_l1In.f a0 a1 a2 = some r) :
  Calls Tryz.prog 110 #[.int .i64 a0, .int .i64 a1, .int .i64 a2] w fun e w' => e = .returned (.bool r) ∧ Drawn0 w w' := by
 have H := h; unfold spec_l1In.f at H; clear h
 by_cases c4 : a0 ≥ a1
 ·
  rw [if_pos c4] at H
  have c4b0 : decide (a1 ≤ a0) = true := decide_eq_true c4; clear c4; obtain rfl := Option.some.inj H
  go_enter Tryz.func110, Tryz.ntmps110
  go_wp2
  go_ret
  exact ⟨y0_17, y0_14⟩
 rw [if_neg c4] at H
 have c4b0 : decide (a1 ≤ a0) = false := decide_eq_false c4; clear c4; obtain rfl := Option.some.inj H
 go_enter Tryz.func110, Tryz.ntmps110
 go_wp2
 go_ret
 exact ⟨y0_17, y0_14⟩

end Go.Proofs.YtdmjhgogljhfkaaGreatDoor.PFnExactLastNote
