import Derived.Test.YtdmjhgogljhfkaaGreatDoorPFnNotesx0
namespace Go.Proofs.YtdmjhgogljhfkaaGreatDoor.PFnNotes
open Go.RowKit Go.Proofs.YtdmjhgogljhfkaaGreatDoorW.PrintWords Go.Proofs.YtdmjhgogljhfkaaGreatDoorW.PrintLast Go.Proofs.YtdmjhgogljhfkaaGreatDoorW.PrintMore
attribute [local go_sem] max2_int min2_int max_two min_two max_three min_three max_four min_four
attribute [local go_sem] cell_in frozen_in cell_g cell_p cell_r cell_q
set_option synthInstance.maxSize 1000000
set_option synthInstance.maxHeartbeats 2000000
set_option linter.unusedVariables false
set_option linter.unusedSimpArgs false
set_option maxHeartbeats 8000000
set_option maxRecDepth 100000
mutual
def spec_GetNum.l0 : Nat → List Int → Int → Int → Int → Option (Int × Int × Bool)
 | 0, _, _, _, _ => none
 | k + 1, x0, x1, x7, x8 => if x8 < 5 then (if x1 < 0 then (spec_GetNum.j1 k x0 x1 x7 x8 true) else (spec_GetNum.j1 k x0 x1 x7 x8 (decide (x1 ≥ (wrap64 ((x0.length : Int) - x8)))))) else (some (0, 0, false))
def spec_GetNum.j1 : Nat → List Int → Int → Int → Int → Bool → Option (Int × Int × Bool)
 | 0, _, _, _, _, _ => none
 | k + 1, x0, x1, x7, x8, x23 => if x23 = true then (some (0, 0, false)) else (if 0 ≤ (wrap64 (x1 + x8)) then (if (wrap64 (x1 + x8)) < (x0.length : Int) then (if 0 ≤ (wrap64 (7 * x8)) then (if (wrap64 (rd x0 (wrap64 (x1 + x8)))) < 128 then (if x8 > 0 then (if (wrap64 (rd x0 (wrap64 (x1 + x8)))) = 0 then (some (0, 0, false)) else (if (Go.bits .or .i64 x7 (shl .i64 (Int.tmod (wrap64 (rd x0 (wrap64 (x1 + x8)))) 128) (wrap64 (7 * x8)))) > 2147483647 then (some (0, 0, false)) else (some (Go.bits .or .i64 x7 (shl .i64 (Int.tmod (wrap64 (rd x0 (wrap64 (x1 + x8)))) 128) (wrap64 (7 * x8))), wrap64 ((wrap64 (x1 + x8)) + 1), true)))) else (if (Go.bits .or .i64 x7 (shl .i64 (Int.tmod (wrap64 (rd x0 (wrap64 (x1 + x8)))) 128) (wrap64 (7 * x8)))) > 2147483647 then (some (0, 0, false)) else (some (Go.bits .or .i64 x7 (shl .i64 (Int.tmod (wrap64 (rd x0 (wrap64 (x1 + x8)))) 128) (wrap64 (7 * x8))), wrap64 ((wrap64 (x1 + x8)) + 1), true)))) else (spec_GetNum.l0 k x0 x1 (Go.bits .or .i64 x7 (shl .i64 (Int.tmod (wrap64 (rd x0 (wrap64 (x1 + x8)))) 128) (wrap64 (7 * x8)))) (wrap64 (x8 + 1)))) else (none)) else (none)) else (none))
end
def spec_GetNum.f (k : Nat) (l0 : List Int) (a1 : Int) : Option (Int × Int × Bool) := spec_GetNum.l0 k l0 a1 0 0
theorem spec_GetNum.mono_l : ∀ k, (∀ y0 y1 y2 y3, LeO (spec_GetNum.l0 k y0 y1 y2 y3) (spec_GetNum.l0 (k + 1) y0 y1 y2 y3)) ∧ (∀ y0 y1 y2 y3 y4, LeO (spec_GetNum.j1 k y0 y1 y2 y3 y4) (spec_GetNum.j1 (k + 1) y0 y1 y2 y3 y4))
 | 0 => ⟨fun _ _ _ _ r h => by simp [spec_GetNum.l0] at h, fun _ _ _ _ _ r h => by simp [spec_GetNum.j1] at h⟩
 | k + 1 => by
  obtain ⟨ih0, ih1⟩ := spec_GetNum.mono_l k
  refine ⟨?_, ?_⟩
  ·
   intro y0 y1 y2 y3
   unfold spec_GetNum.l0
   repeat' first | (with_reducible exact ih0 _ _ _ _) | (with_reducible exact ih1 _ _ _ _ _) | (with_reducible exact LeO.refl _) | (with_reducible exact LeO.none _) | (with_reducible refine LeO.ite ?_ ?_) | (with_reducible refine LeO.bind ?_ (fun _ => ?_))
  intro y0 y1 y2 y3 y4
  unfold spec_GetNum.j1
  repeat' first | (with_reducible exact ih0 _ _ _ _) | (with_reducible exact ih1 _ _ _ _ _) | (with_reducible exact LeO.refl _) | (with_reducible exact LeO.none _) | (with_reducible refine LeO.ite ?_ ?_) | (with_reducible refine LeO.bind ?_ (fun _ => ?_))
theorem spec_GetNum.mono : ∀ a0 a1 k, LeO (spec_GetNum.f k a0 a1) (spec_GetNum.f (k + 1) a0 a1) := by
 intro a0 a1 k
 obtain ⟨ih0, ih1⟩ := spec_GetNum.mono_l k
 unfold spec_GetNum.f
 repeat' first | (with_reducible exact ih0 _ _ _ _) | (with_reducible exact ih1 _ _ _ _ _) | (with_reducible exact LeO.refl _) | (with_reducible exact LeO.none _) | (with_reducible refine LeO.ite ?_ ?_) | (with_reducible refine LeO.bind ?_ (fun _ => ?_))
theorem spec_GetNum.calls (k : Nat) (A0 : Option Addr) (c0 : Nat) (l0 : List Int) (a1 : Int) (r1 : Int) (r2 : Int) (r3 : Bool) (w : World) (hr0 : Kd.C (Kd.int .u8) w A0 l0.length l0) (hc0 : l0.length ≤ c0) (h : spec_GetNum.f k l0 a1 = some (r1, r2, r3)) :
  Calls Tryz.prog 72 #[.slice A0 l0.length c0, .int .i64 a1] w fun e w' => e = .returned (.tuple #[.int .i64 r1, .int .i64 r2, .bool r3]) ∧ Drawn0 w w' := by
 have HR0 := Aside0.mk hr0; have HC0 := Aside0.mk hc0; clear hr0 hc0; have H := h; unfold spec_GetNum.f at H; clear h; have H' := Aside0.mk H; clear H
 go_enter Tryz.func72, Tryz.ntmps72
 go_wp2
 go_loopg [7, 8] k (fun kq v7 v8 w' => ∃ (x7_1 : Int) (x8_1 : Int), v7 = .int .i64 x7_1 ∧ v8 = .int .i64 x8_1 ∧ Aside0 (spec_GetNum.l0 kq l0 a1 x7_1 x8_1 = some (r1, r2, r3)) ∧ Aside0 (kq ≤ k) ∧ Drawn0 w w')
 case atStart => exact ⟨(0), (0), y0_8, y0_8, H', ⟨Nat.le_refl _⟩, y0_6⟩
 case round =>
  clear H'
  try clear p2
  obtain ⟨x7_1, x8_1, rfl, rfl, HA, HK1, ⟨m1, rfl⟩⟩ := hrel; cases gk with
  | zero => exact absurd HA.out (by simp [spec_GetNum.l0])
  | succ k1 =>
   have H := HA.out; clear HA
   simp only [spec_GetNum.l0] at H
   by_cases c3 : x8_1 < 5
   ·
    rw [if_pos c3] at H
    have c3b0 : decide (x8_1 < 5) = true := decide_eq_true c3; clear c3; have HC4 := Aside0.mk H; clear H
    go_upto_region 5 with (fail)
    go_cut [23] (fun v23 wc => ∃ (kq : Nat) (x23_3 : Bool), v23 = .bool x23_3 ∧ Aside0 (spec_GetNum.j1 kq l0 a1 x7_1 x8_1 x23_3 = some (r1, r2, r3)) ∧ Aside0 (kq ≤ k1) ∧ Drawn0 w wc)
    case first =>
     have H := HC4.out; clear HC4
     by_cases c5 : a1 < 0
     ·
      rw [if_pos c5] at H
      have c5b0 : decide (a1 < 0) = true := decide_eq_true c5; clear c5
      (first | rw [c5b0] | (simp only [i64_w, i32_w]; rw [c5b0]) | skip)
      have H' := Aside0.mk H; clear H
      go_wp2
      go_meet
      case rel => exact ⟨_, (true), y0_8, H', ⟨by have := HK1.out; first | omega | exact Nat.le_refl _⟩, y0_6⟩
     rw [if_neg c5] at H
     have c5b0 : decide (a1 < 0) = false := decide_eq_false c5; clear c5
     (first | rw [c5b0] | (simp only [i64_w, i32_w]; rw [c5b0]) | skip)
     have H' := Aside0.mk H; clear H
     go_wp2
     go_meet
     case rel => exact ⟨_, (decide (a1 ≥ (wrap64 ((l0.length : Int) - x8_1)))), y0_8, H', ⟨by have := HK1.out; first | omega | exact Nat.le_refl _⟩, y0_6⟩
    case rest =>
     clear HC4
     try clear p2
     try clear c3
     try clear c3b0
     try clear c5
     try clear c5b0
     try clear p2
     obtain ⟨kq, x23_3, rfl, HA, HJ3, ⟨mc3, rfl⟩⟩ := hcut; cases kq with
     | zero => exact absurd HA.out (by simp [spec_GetNum.j1])
     | succ kj3 =>
      have H := HA.out; clear HA
      simp only [spec_GetNum.j1] at H
      by_cases c6 : x23_3 = true
      ·
       subst c6
       rw [if_pos rfl] at H
       simp only [Option.some.injEq, Prod.mk.injEq] at H
       obtain ⟨rfl, rfl, rfl⟩ := H
       go_wp2
       go_ret3
       exact ⟨y0_8, y0_6⟩
      replace c6 := Bool.eq_false_iff.mpr c6; subst c6
      rw [if_neg Bool.false_ne_true] at H
      obtain ⟨ji7, hji7⟩ : ∃ j_ : Int, (wrap64 (a1 + x8_1)) = j_ := ⟨_, rfl⟩
      replace H : (if 0 ≤ (ji7) then (if (ji7) < (l0.length : Int) then (if 0 ≤ (wrap64 (7 * x8_1)) then (if (wrap64 (rd l0 (ji7))) < 128 then (if x8_1 > 0 then (if (wrap64 (rd l0 (ji7))) = 0 then (some (0, 0, false)) else (if (Go.bits .or .i64 x7_1 (shl .i64 (Int.tmod (wrap64 (rd l0 (ji7))) 128) (wrap64 (7 * x8_1)))) > 2147483647 then (some (0, 0, false)) else (some (Go.bits .or .i64 x7_1 (shl .i64 (Int.tmod (wrap64 (rd l0 (ji7))) 128) (wrap64 (7 * x8_1))), wrap64 ((ji7) + 1), true)))) else (if (Go.bits .or .i64 x7_1 (shl .i64 (Int.tmod (wrap64 (rd l0 (ji7))) 128) (wrap64 (7 * x8_1)))) > 2147483647 then (some (0, 0, false)) else (some (Go.bits .or .i64 x7_1 (shl .i64 (Int.tmod (wrap64 (rd l0 (ji7))) 128) (wrap64 (7 * x8_1))), wrap64 ((ji7) + 1), true)))) else (spec_GetNum.l0 kj3 l0 a1 (Go.bits .or .i64 x7_1 (shl .i64 (Int.tmod (wrap64 (rd l0 (ji7))) 128) (wrap64 (7 * x8_1)))) (wrap64 (x8_1 + 1)))) else (none)) else (none)) else (none)) = some (r1, r2, r3) := by first | (rw [hji7] at H; exact H) | (simp only [hji7] at H ⊢; exact H)
      have hji7w : (IntKind.i64.wrap (a1 + x8_1)) = ji7 := (i64_w _).trans hji7
      by_cases c8 : 0 ≤ (ji7)
      rotate_left
      ·
       rw [if_neg c8] at H
       exact absurd H (by simp)
      rw [if_pos c8] at H
      have c8b0 : decide (0 ≤ (ji7)) = true := decide_eq_true c8; clear c8
      by_cases c9 : (ji7) < (l0.length : Int)
      rotate_left
      ·
       rw [if_neg c9] at H
       exact absurd H (by simp)
      rw [if_pos c9] at H
      have c9b0 : decide ((ji7) < (l0.length : Int)) = true := decide_eq_true c9; clear c9; obtain ⟨ji10, hji10⟩ : ∃ j_ : Int, (wrap64 (7 * x8_1)) = j_ := ⟨_, rfl⟩
      replace H : (if 0 ≤ (ji10) then (if (wrap64 (rd l0 (ji7))) < 128 then (if x8_1 > 0 then (if (wrap64 (rd l0 (ji7))) = 0 then (some (0, 0, false)) else (if (Go.bits .or .i64 x7_1 (shl .i64 (Int.tmod (wrap64 (rd l0 (ji7))) 128) (ji10))) > 2147483647 then (some (0, 0, false)) else (some (Go.bits .or .i64 x7_1 (shl .i64 (Int.tmod (wrap64 (rd l0 (ji7))) 128) (ji10)), wrap64 ((ji7) + 1), true)))) else (if (Go.bits .or .i64 x7_1 (shl .i64 (Int.tmod (wrap64 (rd l0 (ji7))) 128) (ji10))) > 2147483647 then (some (0, 0, false)) else (some (Go.bits .or .i64 x7_1 (shl .i64 (Int.tmod (wrap64 (rd l0 (ji7))) 128) (ji10)), wrap64 ((ji7) + 1), true)))) else (spec_GetNum.l0 kj3 l0 a1 (Go.bits .or .i64 x7_1 (shl .i64 (Int.tmod (wrap64 (rd l0 (ji7))) 128) (ji10))) (wrap64 (x8_1 + 1)))) else (none)) = some (r1, r2, r3) := by first | (rw [hji10] at H; exact H) | (simp only [hji10] at H ⊢; exact H)
      have hji10w : (IntKind.i64.wrap (7 * x8_1)) = ji10 := (i64_w _).trans hji10
      by_cases c11 : 0 ≤ (ji10)
      rotate_left
      ·
       rw [if_neg c11] at H
       exact absurd H (by simp)
      rw [if_pos c11] at H
      have c11b0 := eq_true c11; have c11b1 : decide (0 ≤ (ji10)) = true := decide_eq_true c11; clear c11; obtain ⟨ji12, hji12⟩ : ∃ j_ : Int, (shl .i64 (Int.tmod (wrap64 (rd l0 (ji7))) 128) (ji10)) = j_ := ⟨_, rfl⟩
      replace H : (if (wrap64 (rd l0 (ji7))) < 128 then (if x8_1 > 0 then (if (wrap64 (rd l0 (ji7))) = 0 then (some (0, 0, false)) else (if (Go.bits .or .i64 x7_1 (ji12)) > 2147483647 then (some (0, 0, false)) else (some (Go.bits .or .i64 x7_1 (ji12), wrap64 ((ji7) + 1), true)))) else (if (Go.bits .or .i64 x7_1 (ji12)) > 2147483647 then (some (0, 0, false)) else (some (Go.bits .or .i64 x7_1 (ji12), wrap64 ((ji7) + 1), true)))) else (spec_GetNum.l0 kj3 l0 a1 (Go.bits .or .i64 x7_1 (ji12)) (wrap64 (x8_1 + 1)))) = some (r1, r2, r3) := by first | (rw [hji12] at H; exact H) | (simp only [hji12] at H ⊢; exact H)
      have hji12_ : (IntKind.i64.wrap ((Int.tmod (wrap64 (rd l0 (ji7))) 128) * 2 ^ min (ji10).toNat 64)) = ji12 := hji12; have hji12z : (ji10) ≤ 64 → (IntKind.i64.wrap ((Int.tmod (wrap64 (rd l0 (ji7))) 128) * 2 ^ (ji10).toNat)) = ji12 := shl_small hji12; have hji12y : (wrap64 ((Int.tmod (wrap64 (rd l0 (ji7))) 128) * 2 ^ min (ji10).toNat 64)) = ji12 := (i64_w _).symm.trans hji12_
      have hji12x : (ji10) ≤ 64 → (wrap64 ((Int.tmod (wrap64 (rd l0 (ji7))) 128) * 2 ^ (ji10).toNat)) = ji12 := fun h_ => (i64_w _).symm.trans (hji12z h_)
      by_cases c13 : (wrap64 (rd l0 (ji7))) < 128
      ·
       rw [if_pos c13] at H
       have c13b0 : decide ((wrap64 (rd l0 (ji7))) < 128) = true := decide_eq_true c13; clear c13
       by_cases c14 : x8_1 > 0
       ·
        rw [if_pos c14] at H
        have c14b0 : decide (0 < x8_1) = true := decide_eq_true c14; clear c14
        by_cases c15 : (wrap64 (rd l0 (ji7))) = 0
        ·
         rw [if_pos c15] at H
         have c15b0 : ((wrap64 (rd l0 (ji7))) == 0) = true := beq_iff_eq.mpr c15; have c15b1 : ((wrap64 (rd l0 (ji7))) != 0) = false := bne_eq_false_iff_eq.mpr c15; clear c15
         simp only [Option.some.injEq, Prod.mk.injEq] at H
         obtain ⟨rfl, rfl, rfl⟩ := H; have p101 : 0 ≤ ((ji7) : Int) := of_decide_eq_true y0_7; have q101 : (ji7) < (l0.length : Int) := of_decide_eq_true y0_7; obtain ⟨ad101, e101, hx101_0⟩ := Kd.at_int HR0.out (ji7) p101 q101; cases e101; replace p101 := eq_true p101; replace q101 := eq_true q101
         go_wp2
         go_ret3
         exact ⟨y0_2, y0_6⟩
        rw [if_neg c15] at H
        have c15b0 : ((wrap64 (rd l0 (ji7))) == 0) = false := beq_eq_false_iff_ne.mpr c15; have c15b1 : ((wrap64 (rd l0 (ji7))) != 0) = true := bne_iff_ne.mpr c15
        by_cases c16 : (Go.bits .or .i64 x7_1 (ji12)) > 2147483647
        ·
         rw [if_pos c16] at H
         have c16b0 : decide (2147483647 < (Go.bits .or .i64 x7_1 (ji12))) = true := decide_eq_true c16; clear c16
         simp only [Option.some.injEq, Prod.mk.injEq] at H
         obtain ⟨rfl, rfl, rfl⟩ := H; have p101 : 0 ≤ ((ji7) : Int) := of_decide_eq_true y0_7; have q101 : (ji7) < (l0.length : Int) := of_decide_eq_true y0_7; obtain ⟨ad101, e101, hx101_0⟩ := Kd.at_int HR0.out (ji7) p101 q101; cases e101; replace p101 := eq_true p101; replace q101 := eq_true q101
         go_wp2
         go_ret3
         exact ⟨y0_2, y0_6⟩
        rw [if_neg c16] at H
        have c16b0 : decide (2147483647 < (Go.bits .or .i64 x7_1 (ji12))) = false := decide_eq_false c16; clear c16
        simp only [Option.some.injEq, Prod.mk.injEq] at H
        obtain ⟨rfl, rfl, rfl⟩ := H; have p101 : 0 ≤ ((ji7) : Int) := of_decide_eq_true y0_7; have q101 : (ji7) < (l0.length : Int) := of_decide_eq_true y0_7; obtain ⟨ad101, e101, hx101_0⟩ := Kd.at_int HR0.out (ji7) p101 q101; cases e101; replace p101 := eq_true p101; replace q101 := eq_true q101
        go_wp2
        go_ret3
        exact ⟨y0_2, y0_6⟩
       rw [if_neg c14] at H
       have c14b0 : decide (0 < x8_1) = false := decide_eq_false c14; clear c14
       by_cases c17 : (Go.bits .or .i64 x7_1 (ji12)) > 2147483647
       ·
        rw [if_pos c17] at H
        have c17b0 : decide (2147483647 < (Go.bits .or .i64 x7_1 (ji12))) = true := decide_eq_true c17; clear c17
        simp only [Option.some.injEq, Prod.mk.injEq] at H
        obtain ⟨rfl, rfl, rfl⟩ := H; have p101 : 0 ≤ ((ji7) : Int) := of_decide_eq_true y0_7; have q101 : (ji7) < (l0.length : Int) := of_decide_eq_true y0_7; obtain ⟨ad101, e101, hx101_0⟩ := Kd.at_int HR0.out (ji7) p101 q101; cases e101; replace p101 := eq_true p101; replace q101 := eq_true q101
        go_wp2
        go_ret3
        exact ⟨y0_2, y0_6⟩
       rw [if_neg c17] at H
       have c17b0 : decide (2147483647 < (Go.bits .or .i64 x7_1 (ji12))) = false := decide_eq_false c17; clear c17
       simp only [Option.some.injEq, Prod.mk.injEq] at H
       obtain ⟨rfl, rfl, rfl⟩ := H; have p101 : 0 ≤ ((ji7) : Int) := of_decide_eq_true y0_7; have q101 : (ji7) < (l0.length : Int) := of_decide_eq_true y0_7; obtain ⟨ad101, e101, hx101_0⟩ := Kd.at_int HR0.out (ji7) p101 q101; cases e101; replace p101 := eq_true p101; replace q101 := eq_true q101
       go_wp2
       go_ret3
       exact ⟨y0_2, y0_6⟩
      rw [if_neg c13] at H
      have c13b0 : decide ((wrap64 (rd l0 (ji7))) < 128) = false := decide_eq_false c13; clear c13; have H' := Aside0.mk H; clear H; have p101 : 0 ≤ ((ji7) : Int) := of_decide_eq_true y0_7; have q101 : (ji7) < (l0.length : Int) := of_decide_eq_true y0_7; obtain ⟨ad101, e101, hx101_0⟩ := Kd.at_int HR0.out (ji7) p101 q101; cases e101; replace p101 := eq_true p101; replace q101 := eq_true q101
      go_wp2
      go_roundg kj3
      case measure => have := HK1.out; have := HJ3.out; omega
      case rel => exact ⟨(Go.bits .or .i64 x7_1 (ji12)), (wrap64 (x8_1 + 1)), (by first | rfl | (simp; done) | (simp only [← hji12] <;> (first | rfl | simp)) | (simp [*]; done)), y0_8, H', ⟨by have := HK1.out; have := HJ3.out; omega⟩, y0_6⟩
   rw [if_neg c3] at H
   have c3b0 : decide (x8_1 < 5) = false := decide_eq_false c3; clear c3
   simp only [Option.some.injEq, Prod.mk.injEq] at H
   obtain ⟨rfl, rfl, rfl⟩ := H
   go_wp2
   go_ret3
   exact ⟨y0_8, y0_6⟩
def IsS139 (w0 W : World) (g : Nat) (f0 : List Int) (f1 : Int) (f2 : Bool) : Prop := ∃ A0 c0, W.heap[g]? = some (.cells #[.slice A0 f0.length c0, .int .i64 f1, .bool f2] 139 (0, 0)) ∧ w0.heap.size ≤ g ∧ Kd.C (Kd.int .u8) w0 A0 f0.length f0 ∧ f0.length ≤ c0
theorem IsS139.grown {w0 W : World} {g : Nat} {f0 : List Int} {f1 : Int} {f2 : Bool} {W1 : World} {row : Option Nat} (h : IsS139 w0 W g f0 f1 f2) (hw : W.grownBy W1 row) (hne : some g ≠ row) : IsS139 w0 W1 g f0 f1 f2 := by
 obtain ⟨A0, c0, hb, hg, hr0, hl0⟩ := h
 exact ⟨A0, c0, blk_grown hb hw hne, hg, hr0, hl0⟩
theorem IsS139.below {w0 W : World} {g : Nat} {f0 : List Int} {f1 : Int} {f2 : Bool} {W1 : World} (h : IsS139 w0 W g f0 f1 f2) (hw : Below W.heap.size W W1) : IsS139 w0 W1 g f0 f1 f2 := h.grown (grown_of_below hw none) (by simp)
theorem IsS139.alloc {w0 W : World} {g : Nat} {f0 : List Int} {f1 : Int} {f2 : Bool} (h : IsS139 w0 W g f0 f1 f2) (o : Obj) : IsS139 w0 (W.alloc o) g f0 f1 f2 := h.below (below_alloc (Below.refl _ _) o)
theorem IsS139.drewN {w0 W : World} {g : Nat} {f0 : List Int} {f1 : Int} {f2 : Bool} (h : IsS139 w0 W g f0 f1 f2) (m : Nat) : IsS139 w0 (W.drewN m) g f0 f1 f2 := h
theorem IsS139.drew {w0 W : World} {g : Nat} {f0 : List Int} {f1 : Int} {f2 : Bool} (h : IsS139 w0 W g f0 f1 f2) : IsS139 w0 W.drew g f0 f1 f2 := h
theorem IsS139.ge {w0 W : World} {g : Nat} {f0 : List Int} {f1 : Int} {f2 : Bool} (h : IsS139 w0 W g f0 f1 f2) : w0.heap.size ≤ g := by
 obtain ⟨A0, c0, hb, hg, hr0, hl0⟩ := h
 exact hg
theorem IsS139.set_1 {w0 W : World} {g : Nat} {f0 : List Int} {f1 : Int} {f2 : Bool} (h : IsS139 w0 W g f0 f1 f2) (x : Int) : IsS139 w0 (W.setCell ⟨g, 1, none⟩ (.int .i64 x)) g f0 x f2 := by
 obtain ⟨A0, c0, hb, hg, hr0, hl0⟩ := h
 exact ⟨A0, c0, by simpa using blk_set hb 1 (.int .i64 x), hg, hr0, hl0⟩
theorem IsS139.set_2 {w0 W : World} {g : Nat} {f0 : List Int} {f1 : Int} {f2 : Bool} (h : IsS139 w0 W g f0 f1 f2) (x : Bool) : IsS139 w0 (W.setCell ⟨g, 2, none⟩ (.bool x)) g f0 f1 x := by
 obtain ⟨A0, c0, hb, hg, hr0, hl0⟩ := h
 exact ⟨A0, c0, by simpa using blk_set hb 2 (.bool x), hg, hr0, hl0⟩
theorem iS139 {w0 w W : World} {g : Nat} {f0 : List Int} {f1 : Int} {f2 : Bool} (h : Aside0 (IsS139 w0 w g f0 f1 f2)) [u : UpG g w W] : IsS139 w0 W g f0 f1 f2 := by obtain ⟨_, _, hb, r⟩ := h.out; exact ⟨_, _, u.out _ _ hb, r⟩
theorem oS139 {w0 w : World} {g : Nat} {f0 : List Int} {f1 : Int} {f2 : Bool} (h : Aside0 (IsS139 w0 w g f0 f1 f2)) : ∃ (A0 : Option Addr) (c0 : Nat), BkI g w #[.slice A0 f0.length c0, .int .i64 f1, .bool f2] 139 ∧ GeI w0.heap.size g ∧ Aside0 (Kd.C (Kd.int .u8) w0 A0 f0.length f0) ∧ Aside0 (f0.length ≤ c0) := by obtain ⟨A0, c0, hb, hg, hr0, hl0⟩ := h.out; exact ⟨A0, c0, ⟨hb⟩, ⟨hg⟩, ⟨hr0⟩, ⟨hl0⟩⟩
theorem nS139 {w0 W : World} {g : Nat} {A0 : Option Addr} {c0 : Nat} {f0 : List Int} {f1 : Int} {f2 : Bool} (hb : W.heap[g]? = some (.cells #[.slice A0 f0.length c0, .int .i64 f1, .bool f2] 139 (0, 0))) (hr0 : Aside0 (Kd.C (Kd.int .u8) w0 A0 f0.length f0)) (hl0 : Aside0 (f0.length ≤ c0)) [hg : GeI w0.heap.size g] : IsS139 w0 W g f0 f1 f2 := ⟨A0, c0, hb, hg.out, hr0.out, hl0.out⟩
theorem iB139 {w0 w : World} {g : Nat} {f0 : List Int} {f1 : Int} {f2 : Bool} (h : Aside0 (IsS139 w0 w g f0 f1 f2)) : StB g w 139 := ⟨by obtain ⟨_, _, hb, r⟩ := h.out; exact ⟨_, hb⟩⟩
instance (w0 : World) (g : Nat) (f0 : List Int) (f1 : Int) (f2 : Bool) : StP (fun w => IsS139 w0 w g f0 f1 f2) g 139 := ⟨fun w h => (iB139 ⟨h⟩).out⟩
instance (w0 : World) (f0 : List Int) (f1 : Int) (f2 : Bool) : StN (fun g w => IsS139 w0 w g f0 f1 f2) w0 139 := ⟨fun g w h => (iB139 ⟨h⟩).out, fun g w h => IsS139.ge h⟩
def spec_l12Num.f (k : Nat) (s0_0 : List Int) (s0_1 : Int) (s0_2 : Bool) : Option (Int × Int × Bool) := (spec_GetNum.f k s0_0 s0_1).bind fun bt102 => (if bt102.2.2 = true then (if s0_2 = true then (some (bt102.1, bt102.2.1, s0_2)) else (some (0, s0_1, false))) else (some (0, s0_1, false)))
theorem spec_l12Num.mono : ∀ a0 a1 a2 k, LeO (spec_l12Num.f k a0 a1 a2) (spec_l12Num.f (k + 1) a0 a1 a2) := by
 intro a0 a1 a2 k
 unfold spec_l12Num.f
 repeat' first | (with_reducible exact spec_GetNum.mono _ _ _) | (with_reducible exact LeO.refl _) | (with_reducible exact LeO.none _) | (with_reducible refine LeO.ite ?_ ?_) | (with_reducible refine LeO.bind ?_ (fun _ => ?_))
def spec_l12Num.T1 : Bool × List (List Nat × List Nat) := (true, [([], []), ([0], [0]), ([1], [1]), ([2], [2]), ([], []), ([4], [4]), ([5], [5]), ([6], [6]), ([3, 7], [3, 7]), ([8], [8]), ([9], [9]), ([9], [9]), ([9], [9]), ([10, 8, 0, 1, 2, 3, 4, 5, 6, 7, 8, 9, 10], [10]), ([11, 13, 0, 1, 2, 3, 4, 5, 6, 7, 8, 9, 10, 11, 13], [11]), ([12, 14, 0, 1, 2, 3, 4, 5, 6, 7, 8, 9, 10, 11, 12, 13, 14], [12])])
def spec_l12Num.B1 : List Nat := [0, 1, 3, 7, 0, 16, 48, 112, 255, 511, 1023, 1023, 1023, 2047, 12287, 32767]
theorem spec_l12Num.tab1 : rtab .any (opsOf Tryz.f126 1) = spec_l12Num.T1 := by kernel_rfl
theorem spec_l12Num.bits1 : waitsOk spec_l12Num.T1.2 spec_l12Num.B1 = true := by kernel_rfl
theorem spec_l12Num.calls (k : Nat) (g : Nat) (s0_0 : List Int) (s0_1 : Int) (s0_2 : Bool) (r1 : Int) (r2 : Int) (r3 : Bool) (w0 w : World) (hI : IsS139 w0 w g s0_0 s0_1 s0_2) (hB : Below w0.heap.size w0 w) (h : spec_l12Num.f k s0_0 s0_1 s0_2 = some (r1, r2, r3)) :
  Calls Tryz.prog 126 #[.pointer (some ⟨g, 0, none⟩)] w fun e w' => e = .returned (.int .i64 r1) ∧ IsS139 w0 w' g s0_0 r2 r3 ∧ Below w0.heap.size w0 w' ∧ KeepBut w w' g none := by
 have HI0 := Aside0.mk hI; have HK := Aside0.mk (KeepBut.refl w g none); have HL := Aside0.mk hB.size; clear hI; have HW0 := Aside0.mk hB.size; have HB := Aside0.mk hB; clear hB
 have H := h; unfold spec_l12Num.f at H
 clear h; obtain ⟨⟨t102, t103, t104⟩, A2, H⟩ := oB H; (try dsimp only at H); have i0_ := iB139 HI0; have i1_ : LB w0 w := ⟨HB.out⟩; obtain ⟨AS3_0, cS3_0, bk3, HG3, HS3_0, HL3_0⟩ := oS139 HI0
 go_enter Tryz.func126, Tryz.ntmps126
 have H' := Aside0.mk H; clear H
 try go_wp2
 refine sB [] spec_l12Num.tab1 spec_l12Num.bits1 ?_; intro w4 _ HT_ HW_
 refine pA 0 (some 7) (bz 16 1) HT_ ?_
 refine pA 1 (some 8) (bz 16 3) HT_ ?_
 refine pA 2 (some 9) (bz 16 7) HT_ ?_
 refine tB 3 (some 10) (bz 16 15) HT_ HW_ ?_
 refine pA 4 (some 11) (bz 16 31) HT_ ?_
 refine pA 5 (some 12) (bz 16 63) HT_ ?_
 refine pA 6 (some 13) (bz 16 127) HT_ ?_
 refine tB 7 (some 14) (bz 16 255) HT_ HW_ ?_
 refine o1 8 (some 15) (bz 16 511) HT_ rfl (kD Tryz.func72 (spec_GetNum.calls (hr0 := pC HS3_0) (hc0 := HL3_0.out) (w := _) (h := A2.out)) ?_); intro w5 _
 refine nA (some 15) ?_
 refine pA 9 (some 6) (bz 16 1023) HT_ ?_
 refine pA 10 (some 16) (bz 16 2047) HT_ ?_
 refine pA 11 (some 17) (bz 16 4095) HT_ ?_
 refine pA 12 (some 18) (bz 16 0x1fff) HT_ ?_
 refine pA 13 (some 3) (bz 16 0x3fff) HT_ ?_
 refine pA 14 (some 4) (bz 16 0x7fff) HT_ ?_
 refine pA 15 (some 5) (bz 16 0xffff) HT_ ?_
 refine done_ (done_of HT_.out (by kernel_rfl)) ?_
 go_upto_region 2 with fail
 have H := H'.out; clear H'
 by_cases c6 : t104 = true
 ·
  subst c6
  rw [if_pos rfl] at H
  have H' := Aside0.mk H; clear H
  go_upto_if 27 with fail
  have H := H'.out; clear H'
  by_cases c7 : s0_2 = true
  ·
   subst c7
   rw [if_pos rfl] at H
   simp only [Option.some.injEq, Prod.mk.injEq] at H
   obtain ⟨rfl, rfl, rfl⟩ := H
   go_wp2
   go_ret
   exact ⟨y0_8, (nS139 xB HS3_0 HL3_0), UpW.out, UpB.out⟩
  replace c7 := Bool.eq_false_iff.mpr c7; subst c7
  rw [if_neg Bool.false_ne_true] at H
  simp only [Option.some.injEq, Prod.mk.injEq] at H
  obtain ⟨rfl, rfl, rfl⟩ := H
  go_wp2
  go_ret
  exact ⟨y0_8, (nS139 xB HS3_0 HL3_0), UpW.out, UpB.out⟩
 replace c6 := Bool.eq_false_iff.mpr c6; subst c6
 rw [if_neg Bool.false_ne_true] at H
 simp only [Option.some.injEq, Prod.mk.injEq] at H
 obtain ⟨rfl, rfl, rfl⟩ := H
 go_wp2
 go_ret
 exact ⟨y0_8, (nS139 xB HS3_0 HL3_0), UpW.out, UpB.out⟩
def spec_GetText.f (k : Nat) (l0 : List Int) (a1 : Int) : Option (ByteArray × Int × Bool) := (spec_GetNum.f k l0 a1).bind fun bt105 => (if bt105.2.2 = true then (if bt105.1 > (wrap64 ((l0.length : Int) - bt105.2.1)) then (some ((⟨#[]⟩ : ByteArray), 0, false)) else (if 0 ≤ bt105.2.1 then (if bt105.2.1 ≤ (wrap64 (bt105.2.1 + bt105.1)) then (if (wrap64 (bt105.2.1 + bt105.1)) ≤ (l0.length : Int) then (some (strOfNums ((l0.take ((wrap64 (bt105.2.1 + bt105.1)) : Int).toNat).drop (bt105.2.1 : Int).toNat), wrap64 (bt105.2.1 + bt105.1), true)) else (none)) else (none)) else (none))) else (some ((⟨#[]⟩ : ByteArray), 0, false)))
theorem spec_GetText.mono : ∀ a0 a1 k, LeO (spec_GetText.f k a0 a1) (spec_GetText.f (k + 1) a0 a1) := by
 intro a0 a1 k
 unfold spec_GetText.f
 repeat' first | (with_reducible exact spec_GetNum.mono _ _ _) | (with_reducible exact LeO.refl _) | (with_reducible exact LeO.none _) | (with_reducible refine LeO.ite ?_ ?_) | (with_reducible refine LeO.bind ?_ (fun _ => ?_))
theorem spec_GetText.calls (k : Nat) (A0 : Option Addr) (c0 : Nat) (l0 : List Int) (a1 : Int) (r1 : ByteArray) (r2 : Int) (r3 : Bool) (w : World) (hr0 : Kd.C (Kd.int .u8) w A0 l0.length l0) (hc0 : l0.length ≤ c0) (h : spec_GetText.f k l0 a1 = some (r1, r2, r3)) :
  Calls Tryz.prog 161 #[.slice A0 l0.length c0, .int .i64 a1] w fun e w' => e = .returned (.tuple #[.string r1, .int .i64 r2, .bool r3]) ∧ Drawn0 w w' := by
 have HR0 := Aside0.mk hr0; have HC0 := Aside0.mk hc0; clear hr0 hc0
 have H := h; unfold spec_GetText.f at H
 clear h; obtain ⟨⟨t105, t106, t107⟩, A3, H⟩ := oB H; (try dsimp only at H)
 by_cases c4 : t107 = true
 ·
  subst c4
  rw [if_pos rfl] at H
  by_cases c5 : t105 > (wrap64 ((l0.length : Int) - t106))
  ·
   rw [if_pos c5] at H
   have c5b0 : decide ((wrap64 ((l0.length : Int) - t106)) < t105) = true := decide_eq_true c5; clear c5
   simp only [Option.some.injEq, Prod.mk.injEq] at H
   obtain ⟨rfl, rfl, rfl⟩ := H
   go_enter Tryz.func161, Tryz.ntmps161
   go_wp2_with (first | ((with_reducible refine gate_callee (f := 72) rfl ?_); refine gB (some 13) Tryz.func72 #[.slice A0 l0.length c0, .int .i64 a1] ?_; (with_reducible refine (spec_GetNum.calls k _ _ l0 a1 t105 t106 true _ ?side1 ?side2 A3.out).mono ?_); (case side1 => exact cI HR0.out); (case side2 => exact HC0.out); rintro e w' ⟨rfl, ⟨nd, rfl⟩⟩; refine ⟨_, rfl, ?_⟩))
   go_ret3
   exact ⟨y0_8, y0_6⟩
  rw [if_neg c5] at H
  have c5b0 : decide ((wrap64 ((l0.length : Int) - t106)) < t105) = false := decide_eq_false c5; clear c5
  by_cases c6 : 0 ≤ t106
  rotate_left
  ·
   rw [if_neg c6] at H
   exact absurd H (by simp)
  rw [if_pos c6] at H
  have c6b0 := eq_true c6; have c6b1 : decide (0 ≤ t106) = true := decide_eq_true c6; clear c6
  by_cases c7 : t106 ≤ (wrap64 (t106 + t105))
  rotate_left
  ·
   rw [if_neg c7] at H
   exact absurd H (by simp)
  rw [if_pos c7] at H
  have c7b0 := eq_true c7; have c7b1 : decide (t106 ≤ (wrap64 (t106 + t105))) = true := decide_eq_true c7
  by_cases c8 : (wrap64 (t106 + t105)) ≤ (l0.length : Int)
  rotate_left
  ·
   rw [if_neg c8] at H
   exact absurd H (by simp)
  rw [if_pos c8] at H
  have c8b0 := eq_true c8; have c8b1 : decide ((wrap64 (t106 + t105)) ≤ (l0.length : Int)) = true := decide_eq_true c8
  simp only [Option.some.injEq, Prod.mk.injEq] at H
  obtain ⟨rfl, rfl, rfl⟩ := H
  go_enter Tryz.func161, Tryz.ntmps161
  go_wp2_with (first | ((with_reducible refine gate_callee (f := 72) rfl ?_); refine gB (some 13) Tryz.func72 #[.slice A0 l0.length c0, .int .i64 a1] ?_; (with_reducible refine (spec_GetNum.calls k _ _ l0 a1 t105 t106 true _ ?side1 ?side2 A3.out).mono ?_); (case side1 => exact cI HR0.out); (case side2 => exact HC0.out); rintro e w' ⟨rfl, ⟨nd, rfl⟩⟩; refine ⟨_, rfl, ?_⟩; obtain ⟨i09, hi09, _, hsz9, _⟩ := info_parts info5; obtain ⟨A9, hcut9, hA9, hC9⟩ := print_mid_of (P := Tryz.prog) (Value.int .u8) 0 24 5 .i64 .i64 Tryz.underlying24 hi09 hsz9 A0 c0 l0 t106 (wrap64 (t106 + t105)) (of_decide_eq_true y0_7) (by first | omega | exact of_decide_eq_true y0_7) (of_decide_eq_true y0_7) HC0.out; have HR108 := Aside0.mk (Kd.C_of_reads (h1 := fun _ => rfl) (hA9 _ (Kd.reads_of_C HR0.out))); have HC108 := Aside0.mk hC9; clear hA9 hC9 hi09 hsz9; have hcv10 := Kd.C_string (P := Tryz.prog) (A := A9) (c := (c0 - t106.toNat)) Tryz.underlying24 Tryz.underlying5 Tryz.underlying9 (Kd.C_drewN HR108.out nd); rw [show (List.drop t106.toNat (List.take (wrap64 (t106 + t105)).toNat l0)).length = (wrap64 (t106 + t105)).toNat - t106.toNat from (by have h_ : (wrap64 (t106 + t105)) ≤ (l0.length : Int) := of_decide_eq_true (by first | (with_reducible assumption) | assumption); rw [List.length_drop, List.length_take, Nat.min_eq_left (by omega)])] at hcv10))
  go_ret3
  exact ⟨y0_8, y0_6⟩
 replace c4 := Bool.eq_false_iff.mpr c4; subst c4
 rw [if_neg Bool.false_ne_true] at H
 simp only [Option.some.injEq, Prod.mk.injEq] at H
 obtain ⟨rfl, rfl, rfl⟩ := H
 go_enter Tryz.func161, Tryz.ntmps161
 go_wp2_with (first | ((with_reducible refine gate_callee (f := 72) rfl ?_); refine gB (some 13) Tryz.func72 #[.slice A0 l0.length c0, .int .i64 a1] ?_; (with_reducible refine (spec_GetNum.calls k _ _ l0 a1 t105 t106 false _ ?side1 ?side2 A3.out).mono ?_); (case side1 => exact cI HR0.out); (case side2 => exact HC0.out); rintro e w' ⟨rfl, ⟨nd, rfl⟩⟩; refine ⟨_, rfl, ?_⟩))
 go_ret3
 exact ⟨y0_8, y0_6⟩
def spec_l12Text.f (k : Nat) (s0_0 : List Int) (s0_1 : Int) (s0_2 : Bool) : Option (ByteArray × Int × Bool) := (spec_GetText.f k s0_0 s0_1).bind fun bt109 => (if bt109.2.2 = true then (if s0_2 = true then (some (bt109.1, bt109.2.1, s0_2)) else (some ((⟨#[]⟩ : ByteArray), s0_1, false))) else (some ((⟨#[]⟩ : ByteArray), s0_1, false)))
theorem spec_l12Text.mono : ∀ a0 a1 a2 k, LeO (spec_l12Text.f k a0 a1 a2) (spec_l12Text.f (k + 1) a0 a1 a2) := by
 intro a0 a1 a2 k
 unfold spec_l12Text.f
 repeat' first | (with_reducible exact spec_GetText.mono _ _ _) | (with_reducible exact LeO.refl _) | (with_reducible exact LeO.none _) | (with_reducible refine LeO.ite ?_ ?_) | (with_reducible refine LeO.bind ?_ (fun _ => ?_))
def spec_l12Text.T1 : Bool × List (List Nat × List Nat) := (true, [([], []), ([0], [0]), ([1], [1]), ([2], [2]), ([], []), ([4], [4]), ([5], [5]), ([6], [6]), ([3, 7], [3, 7]), ([8], [8]), ([9], [9]), ([9], [9]), ([9], [9]), ([10, 8, 0, 1, 2, 3, 4, 5, 6, 7, 8, 9, 10], [10]), ([11, 13, 0, 1, 2, 3, 4, 5, 6, 7, 8, 9, 10, 11, 13], [11]), ([12, 14, 0, 1, 2, 3, 4, 5, 6, 7, 8, 9, 10, 11, 12, 13, 14], [12])])
def spec_l12Text.B1 : List Nat := [0, 1, 3, 7, 0, 16, 48, 112, 255, 511, 1023, 1023, 1023, 2047, 12287, 32767]
theorem spec_l12Text.tab1 : rtab .any (opsOf Tryz.f128 1) = spec_l12Text.T1 := by kernel_rfl
theorem spec_l12Text.bits1 : waitsOk spec_l12Text.T1.2 spec_l12Text.B1 = true := by kernel_rfl
theorem spec_l12Text.calls (k : Nat) (g : Nat) (s0_0 : List Int) (s0_1 : Int) (s0_2 : Bool) (r1 : ByteArray) (r2 : Int) (r3 : Bool) (w0 w : World) (hI : IsS139 w0 w g s0_0 s0_1 s0_2) (hB : Below w0.heap.size w0 w) (h : spec_l12Text.f k s0_0 s0_1 s0_2 = some (r1, r2, r3)) :
  Calls Tryz.prog 128 #[.pointer (some ⟨g, 0, none⟩)] w fun e w' => e = .returned (.string r1) ∧ IsS139 w0 w' g s0_0 r2 r3 ∧ Below w0.heap.size w0 w' ∧ KeepBut w w' g none := by
 have HI0 := Aside0.mk hI; have HK := Aside0.mk (KeepBut.refl w g none); have HL := Aside0.mk hB.size; clear hI; have HW0 := Aside0.mk hB.size; have HB := Aside0.mk hB; clear hB
 have H := h; unfold spec_l12Text.f at H
 clear h; obtain ⟨⟨t109, t110, t111⟩, A2, H⟩ := oB H; (try dsimp only at H); have i0_ := iB139 HI0; have i1_ : LB w0 w := ⟨HB.out⟩; obtain ⟨AS3_0, cS3_0, bk3, HG3, HS3_0, HL3_0⟩ := oS139 HI0
 go_enter Tryz.func128, Tryz.ntmps128
 have H' := Aside0.mk H; clear H
 try go_wp2
 refine sB [] spec_l12Text.tab1 spec_l12Text.bits1 ?_; intro w4 _ HT_ HW_
 refine pA 0 (some 7) (bz 16 1) HT_ ?_
 refine pA 1 (some 8) (bz 16 3) HT_ ?_
 refine pA 2 (some 9) (bz 16 7) HT_ ?_
 refine tB 3 (some 10) (bz 16 15) HT_ HW_ ?_
 refine pA 4 (some 11) (bz 16 31) HT_ ?_
 refine pA 5 (some 12) (bz 16 63) HT_ ?_
 refine pA 6 (some 13) (bz 16 127) HT_ ?_
 refine tB 7 (some 14) (bz 16 255) HT_ HW_ ?_
 refine o1 8 (some 15) (bz 16 511) HT_ rfl (kD Tryz.func161 (spec_GetText.calls (hr0 := pC HS3_0) (hc0 := HL3_0.out) (w := _) (h := A2.out)) ?_); intro w5 _
 refine nA (some 15) ?_
 refine pA 9 (some 6) (bz 16 1023) HT_ ?_
 refine pA 10 (some 16) (bz 16 2047) HT_ ?_
 refine pA 11 (some 17) (bz 16 4095) HT_ ?_
 refine pA 12 (some 18) (bz 16 0x1fff) HT_ ?_
 refine pA 13 (some 3) (bz 16 0x3fff) HT_ ?_
 refine pA 14 (some 4) (bz 16 0x7fff) HT_ ?_
 refine pA 15 (some 5) (bz 16 0xffff) HT_ ?_
 refine done_ (done_of HT_.out (by kernel_rfl)) ?_
 go_upto_region 2 with fail
 have H := H'.out; clear H'
 by_cases c6 : t111 = true
 ·
  subst c6
  rw [if_pos rfl] at H
  have H' := Aside0.mk H; clear H
  go_upto_if 27 with fail
  have H := H'.out; clear H'
  by_cases c7 : s0_2 = true
  ·
   subst c7
   rw [if_pos rfl] at H
   simp only [Option.some.injEq, Prod.mk.injEq] at H
   obtain ⟨rfl, rfl, rfl⟩ := H
   go_wp2
   go_ret
   exact ⟨y0_8, (nS139 xB HS3_0 HL3_0), UpW.out, UpB.out⟩
  replace c7 := Bool.eq_false_iff.mpr c7; subst c7
  rw [if_neg Bool.false_ne_true] at H
  simp only [Option.some.injEq, Prod.mk.injEq] at H
  obtain ⟨rfl, rfl, rfl⟩ := H
  go_wp2
  go_ret
  exact ⟨y0_8, (nS139 xB HS3_0 HL3_0), UpW.out, UpB.out⟩
 replace c6 := Bool.eq_false_iff.mpr c6; subst c6
 rw [if_neg Bool.false_ne_true] at H
 simp only [Option.some.injEq, Prod.mk.injEq] at H
 obtain ⟨rfl, rfl, rfl⟩ := H
 go_wp2
 go_ret
 exact ⟨y0_8, (nS139 xB HS3_0 HL3_0), UpW.out, UpB.out⟩
def spec_l12Who.l0 : Nat → List Int → Int → Int → List Int → Int → Bool → Option (List Int × Int × Bool)
 | 0, _, _, _, _, _, _ => none
 | k + 1, x3, x4, x5, x1000, x1001, x1002 => if x5 < x4 then (if x1002 = true then ((spec_l12Num.f k x1000 x1001 x1002).bind fun bt118 => (if x3.length < 17592186044416 then (spec_l12Who.l0 k (x3 ++ [bt118.1]) x4 (wrap64 (x5 + 1)) x1000 bt118.2.1 bt118.2.2) else (none))) else (some (x3, x1001, x1002))) else (some (x3, x1001, x1002))
def spec_l12Who.f (k : Nat) (s0_0 : List Int) (s0_1 : Int) (s0_2 : Bool) : Option (List Int × Int × Bool) := (spec_l12Num.f k s0_0 s0_1 s0_2).bind fun bt115 => (spec_l12Who.l0 k (([] : List Int)) bt115.1 0 s0_0 bt115.2.1 bt115.2.2)
theorem spec_l12Who.mono_l : ∀ k, (∀ y0 y1 y2 y3 y4 y5, LeO (spec_l12Who.l0 k y0 y1 y2 y3 y4 y5) (spec_l12Who.l0 (k + 1) y0 y1 y2 y3 y4 y5))
 | 0 => fun _ _ _ _ _ _ r h => by simp [spec_l12Who.l0] at h
 | k + 1 => by
  have ih0 := spec_l12Who.mono_l k
  intro y0 y1 y2 y3 y4 y5
  unfold spec_l12Who.l0
  repeat' first | (with_reducible exact ih0 _ _ _ _ _ _) | (with_reducible exact spec_l12Num.mono _ _ _ _) | (with_reducible exact LeO.refl _) | (with_reducible exact LeO.none _) | (with_reducible refine LeO.ite ?_ ?_) | (with_reducible refine LeO.bind ?_ (fun _ => ?_))
theorem spec_l12Who.mono : ∀ a0 a1 a2 k, LeO (spec_l12Who.f k a0 a1 a2) (spec_l12Who.f (k + 1) a0 a1 a2) := by
 intro a0 a1 a2 k
 have ih0 := spec_l12Who.mono_l k
 unfold spec_l12Who.f
 repeat' first | (with_reducible exact ih0 _ _ _ _ _ _) | (with_reducible exact spec_l12Num.mono _ _ _ _) | (with_reducible exact LeO.refl _) | (with_reducible exact LeO.none _) | (with_reducible refine LeO.ite ?_ ?_) | (with_reducible refine LeO.bind ?_ (fun _ => ?_))
theorem spec_l12Who.calls (k : Nat) (g : Nat) (s0_0 : List Int) (s0_1 : Int) (s0_2 : Bool) (r1 : List Int) (r2 : Int) (r3 : Bool) (w0 w : World) (hI : IsS139 w0 w g s0_0 s0_1 s0_2) (hB : Below w0.heap.size w0 w) (h : spec_l12Who.f k s0_0 s0_1 s0_2 = some (r1, r2, r3)) :
  Calls Tryz.prog 160 #[.pointer (some ⟨g, 0, none⟩)] w fun e w' => ∃ v0_ : Value, e = .returned (v0_) ∧ Kd.R (Kd.int .i64) 3 w' w.heap.size (fun _ => True) v0_ r1 ∧ IsS139 w0 w' g s0_0 r2 r3 ∧ Below w0.heap.size w0 w' ∧ KeepBut w w' g none := by
 have HI0 := Aside0.mk hI; have HK := Aside0.mk (KeepBut.refl w g none); have HL := Aside0.mk hB.size; clear hI; have HW0 := Aside0.mk hB.size; have HB := Aside0.mk hB; clear hB
 have H := h; unfold spec_l12Who.f at H
 clear h; obtain ⟨y112, hy112⟩ : ∃ y_ : List Int, y_ = (([] : List Int)) := ⟨_, rfl⟩
 replace H : ((spec_l12Num.f k s0_0 s0_1 s0_2).bind fun bt115 => (spec_l12Who.l0 k y112 bt115.1 0 s0_0 bt115.2.1 bt115.2.2)) = some (r1, r2, r3) := by first | (rw [hy112]; with_reducible exact H) | (rw [hy112]; with_reducible exact (Option.bind_some _ _).symm.trans H) | (rw [hy112]; exact H) | exact H
 have Ny112 := Aside0.mk hy112; clear hy112; obtain ⟨⟨t115, t116, t117⟩, A2, H⟩ := oB H; (try dsimp only at H); have i0_ := iB139 HI0; have i1_ : LB w0 w := ⟨HB.out⟩; obtain ⟨AS3_0, cS3_0, bk3, HG3, HS3_0, HL3_0⟩ := oS139 HI0
 go_enter Tryz.func160, Tryz.ntmps160
 have H' := Aside0.mk H; clear H
 go_wp2_with (first | ((with_reducible refine gate_dst (N := 7) rfl ?_); refine lL 7 3 (Kd.int .i64) rfl Ny112 ?_; intro Ao113 co113 w4 _ HO114) | ((with_reducible refine gate_callee (f := 126) rfl ?_); refine gK (some 9) Tryz.func126 (spec_l12Num.calls (hI := (nS139 xB HS3_0 HL3_0)) (hB := UpW.out) (w := _) (h := A2.out)) ?_; intro w5 _ _ _ HI6; obtain ⟨AS7_0, cS7_0, bk7, HG7, HS7_0, HL7_0⟩ := oS139 HI6; clear bk3))
 refine wC ?_; intro w8 _
 go_loopg [3, 5] k (fun kq v3 v5 w' => ∃ (x3_1 : List Int) (x5_1 : Int) (x1001_1 : Int) (x1002_1 : Bool) (Ao3_1 : Option Addr) (co3_1 : Nat), v3 = .slice Ao3_1 x3_1.length co3_1 ∧ v5 = .int .i64 x5_1 ∧ Aside0 (spec_l12Who.l0 kq x3_1 t115 x5_1 s0_0 x1001_1 x1002_1 = some (r1, r2, r3)) ∧ Aside0 (kq ≤ k) ∧ Aside0 (Kd.R (Kd.int .i64) 3 w' w.heap.size (iv w w') (.slice Ao3_1 x3_1.length co3_1) x3_1) ∧ StB g w' 139 ∧ Aside0 (IsS139 w0 w' g s0_0 x1001_1 x1002_1) ∧ KT w8 [g] w _ (Kd.int .i64) 3 w' ∧ LB w0 w' ∧ KS w g w')
 case atStart => exact ⟨(y112), (0), (t116), (t117), (Ao113), (co113), y0_8, y0_8, H', ⟨Nat.le_refl _⟩, ⟨rJ HO114⟩, iB139 ⟨(nS139 xB HS7_0 HL7_0)⟩, ⟨(nS139 xB HS7_0 HL7_0)⟩, ⟨UpT.out⟩, ⟨UpW.out⟩, ⟨UpB.out⟩⟩
 case round =>
  clear H'; obtain ⟨x3_1, x5_1, x1001_1, x1002_1, Ao3_1, co3_1, rfl, rfl, HA, HK1, HO_3, _, HI9, _, _, _⟩ := hrel; have HO_7 := HO114; cases gk with
  | zero => exact absurd HA.out (by simp [spec_l12Who.l0])
  | succ k1 =>
   have H := HA.out; clear HA
   simp only [spec_l12Who.l0] at H
   obtain ⟨AS10_0, cS10_0, bk10, HG10, HS10_0, HL10_0⟩ := oS139 HI9; clear bk7
   by_cases c11 : x5_1 < t115
   ·
    rw [if_pos c11] at H
    have c11b0 : decide (x5_1 < t115) = true := decide_eq_true c11; clear c11; have H' := Aside0.mk H; clear H
    go_upto_if 18 with fail
    have H := H'.out; clear H'
    by_cases c12 : x1002_1 = true
    ·
     subst c12
     rw [if_pos rfl] at H
     obtain ⟨⟨t118, t119, t120⟩, A13, H⟩ := oB H; (try dsimp only at H)
     by_cases c14 : x3_1.length < 17592186044416
     rotate_left
     ·
      rw [if_neg c14] at H
      exact absurd H (by simp)
     rw [if_pos c14] at H
     have LMc14 := Aside0.mk c14; clear c14; obtain ⟨y121, hy121⟩ : ∃ y_ : List Int, y_ = (x3_1 ++ [t118]) := ⟨_, rfl⟩
     replace H : (spec_l12Who.l0 k1 y121 t115 (wrap64 (x5_1 + 1)) s0_0 t119 t120) = some (r1, r2, r3) := by first | (rw [hy121]; with_reducible exact H) | (rw [hy121]; with_reducible exact (Option.bind_some _ _).symm.trans H) | (rw [hy121]; exact H) | exact H
     have Ny121 := Aside0.mk hy121; clear hy121; have H' := Aside0.mk H; clear H
     go_wp2_with (first | ((with_reducible refine gate_callee (f := 126) rfl ?_); refine gK (some 22) Tryz.func126 (spec_l12Num.calls (hI := (nS139 xB HS10_0 HL10_0)) (hB := UpW.out) (w := _) (h := A13.out)) ?_; intro w15 _ _ _ HI16; obtain ⟨AS17_0, cS17_0, bk17, HG17, HS17_0, HL17_0⟩ := oS139 HI16; clear bk10) | ((with_reducible refine gate_builtin (b := .append) (xs := #[.tmp 23, .tmp 25]) rfl ?_); at_builtin; refine gA (Kd.int .i64) (.tmp 23) (.tmp 25) 25 3 (.int .i64 0) 8 t118 [.int .i64 t118] w Ny121 HO_3 rfl (by have := LMc14.out; omega) ?_ (ht := Tryz.underlying25) (hinfo := info3); intro Ao122 co122 w18 _ _ HO123))
     go_roundg k1
     case measure => have := HK1.out; omega
     case rel => exact ⟨(y121), (wrap64 (x5_1 + 1)), (t119), (t120), (Ao122), (co122), y0_8, y0_8, H', ⟨y0_11⟩, ⟨rJ HO123⟩, iB139 ⟨(nS139 xB HS17_0 HL17_0)⟩, ⟨(nS139 xB HS17_0 HL17_0)⟩, ⟨UpT.out⟩, ⟨UpW.out⟩, ⟨UpB.out⟩⟩
    replace c12 := Bool.eq_false_iff.mpr c12; subst c12
    rw [if_neg Bool.false_ne_true] at H
    simp only [Option.some.injEq, Prod.mk.injEq] at H
    obtain ⟨rfl, rfl, rfl⟩ := H
    go_wp2
    go_ret
    exact ⟨_, y0_8, rR HO_3, (nS139 xB HS10_0 HL10_0), UpW.out, UpB.out⟩
   rw [if_neg c11] at H
   have c11b0 : decide (x5_1 < t115) = false := decide_eq_false c11; clear c11
   simp only [Option.some.injEq, Prod.mk.injEq] at H
   obtain ⟨rfl, rfl, rfl⟩ := H
   go_wp2
   go_ret
   exact ⟨_, y0_8, rR HO_3, (nS139 xB HS10_0 HL10_0), UpW.out, UpB.out⟩
def spec_l12Qc.f (k : Nat) (s0_0 : List Int) (s0_1 : Int) (s0_2 : Bool) : Option (Int × ByteArray × List Int × Int × Bool) := (spec_l12Num.f k s0_0 s0_1 s0_2).bind fun bt126 => ((spec_l12Text.f k s0_0 bt126.2.1 bt126.2.2).bind fun bt129 => ((spec_l12Who.f k s0_0 bt129.2.1 bt129.2.2).bind fun bt132 => (some (bt126.1, bt129.1, bt132.1, bt132.2.1, bt132.2.2))))
theorem spec_l12Qc.mono : ∀ a0 a1 a2 k, LeO (spec_l12Qc.f k a0 a1 a2) (spec_l12Qc.f (k + 1) a0 a1 a2) := by
 intro a0 a1 a2 k
 unfold spec_l12Qc.f
 repeat' first | (with_reducible exact spec_l12Num.mono _ _ _ _) | (with_reducible exact spec_l12Text.mono _ _ _ _) | (with_reducible exact spec_l12Who.mono _ _ _ _) | (with_reducible exact LeO.refl _) | (with_reducible exact LeO.none _) | (with_reducible refine LeO.ite ?_ ?_) | (with_reducible refine LeO.bind ?_ (fun _ => ?_))
theorem spec_l12Qc.calls (k : Nat) (g : Nat) (s0_0 : List Int) (s0_1 : Int) (s0_2 : Bool) (r1 : Int) (r2 : ByteArray) (r3 : List Int) (r4 : Int) (r5 : Bool) (w0 w : World) (hI : IsS139 w0 w g s0_0 s0_1 s0_2) (hB : Below w0.heap.size w0 w) (h : spec_l12Qc.f k s0_0 s0_1 s0_2 = some (r1, r2, r3, r4, r5)) :
  Calls Tryz.prog 127 #[.pointer (some ⟨g, 0, none⟩)] w fun e w' => ∃ v2_ : Value, e = .returned (.agg #[.int .i64 r1, .string r2, v2_]) ∧ Kd.R (Kd.int .i64) 3 w' w.heap.size (fun _ => True) v2_ r3 ∧ IsS139 w0 w' g s0_0 r4 r5 ∧ Below w0.heap.size w0 w' ∧ KeepBut w w' g none := by
 have hu27 := Tryz.underlying27; have HI0 := Aside0.mk hI; have HK := Aside0.mk (KeepBut.refl w g none); have HL := Aside0.mk hB.size; clear hI; have HW0 := Aside0.mk hB.size; have HB := Aside0.mk hB; clear hB
 have H := h; unfold spec_l12Qc.f at H
 clear h; obtain ⟨⟨t126, t127, t128⟩, A2, H⟩ := oB H; (try dsimp only at H); obtain ⟨⟨t129, t130, t131⟩, A3, H⟩ := oB H; (try dsimp only at H); obtain ⟨⟨t132, t135, t136⟩, A4, H⟩ := oB H; (try dsimp only at H)
 simp only [Option.some.injEq, Prod.mk.injEq] at H
 obtain ⟨rfl, rfl, rfl, rfl, rfl⟩ := H; have i0_ := iB139 HI0; have i1_ : LB w0 w := ⟨HB.out⟩
 go_enter Tryz.func127, Tryz.ntmps127
 go_wp2_with (first | ((with_reducible refine gd 2 ?_); refine bL 2 #[.int .i64 0, .string (⟨#[]⟩ : ByteArray), .slice none 0 0] 27 ?_; intro gb124 w5 _ _ _) | ((with_reducible refine gd 3 ?_); refine bL 3 #[.int .i64 0, .string (⟨#[]⟩ : ByteArray), .slice none 0 0] 27 ?_; intro gb125 w6 _ _ _) | ((with_reducible refine gate_callee (f := 126) rfl ?_); refine gK (some 6) Tryz.func126 (spec_l12Num.calls (hI := iS139 HI0) (hB := UpW.out) (w := _) (h := A2.out)) ?_; intro w7 _ _ _ HI8) | ((with_reducible refine gate_callee (f := 128) rfl ?_); refine gK (some 9) Tryz.func128 (spec_l12Text.calls (hI := iS139 HI8) (hB := UpW.out) (w := _) (h := A3.out)) ?_; intro w9 _ _ _ HI10) | ((with_reducible refine gate_callee (f := 160) rfl ?_); refine gK1 (some 12) Tryz.func160 (spec_l12Who.calls (hI := iS139 HI10) (hB := UpW.out) (w := _) (h := A4.out)) ?_; intro Ao133 co133 w11 _ _ _ HI12 HO134))
 refine bodyPost_ret (results_cell_row rfl _ _ gb124 27 #[.int .i64 t126, .string t129, .slice Ao133 t132.length co133] (0, 0) _ rfl xB Tryz.underlying27 rfl (by kernel_rfl)) rfl ?_
 exact ⟨_, y0_8, rR HO134, iS139 HI12, UpW.out, UpB.out⟩
def spec_l1In.f (a0 : Int) (a1 : Int) (a2 : Int) : Option (Bool) := if a0 ≥ a1 then (some (decide (a0 ≤ a2))) else (some false)
theorem spec_l1In.calls (a0 : Int) (a1 : Int) (a2 : Int) (r : Bool) (w : World) (h : spec_l1In.f a0 a1 a2 = some r) :
  Calls Tryz.prog 110 #[.int .i64 a0, .int .i64 a1, .int .i64 a2] w fun e w' => e = .returned (.bool r) ∧ Drawn0 w w' := by
 have H := h; unfold spec_l1In.f at H; clear h
 by_cases c4 : a0 ≥ a1
 ·
  rw [if_pos c4] at H
  have c4b0 : decide (a1 ≤ a0) = true := decide_eq_true c4; clear c4; obtain rfl := Option.some.inj H
  go_enter Tryz.func110, Tryz.ntmps110
  go_wp2
  go_ret
  exact ⟨y0_8, y0_6⟩
 rw [if_neg c4] at H
 have c4b0 : decide (a1 ≤ a0) = false := decide_eq_false c4; clear c4; obtain rfl := Option.some.inj H
 go_enter Tryz.func110, Tryz.ntmps110
 go_wp2
 go_ret
 exact ⟨y0_8, y0_6⟩
def spec_ConfOk.f (a0_0 : Int) (a0_1 : Int) : Option (Bool) := (spec_l1In.f a0_0 4 7).bind fun t138 => (if t138 = true then ((spec_l1In.f a0_1 1 6).bind fun t139 => (some t139)) else (some false))
theorem spec_ConfOk.calls (a0_0 : Int) (a0_1 : Int) (r : Bool) (w : World) (h : spec_ConfOk.f a0_0 a0_1 = some r) :
  Calls Tryz.prog 109 #[.agg #[.int .i64 a0_0, .int .i64 a0_1]] w fun e w' => e = .returned (.bool r) ∧ Below w.heap.size w w' := by
 have hu32 := Tryz.underlying32; have HB := Aside0.mk (Below.refl w.heap.size w)
 have H := h; unfold spec_ConfOk.f at H
 clear h
 go_enter Tryz.func109, Tryz.ntmps109
 have H' := Aside0.mk H; clear H
 go_upto_region 1 with (first | ((with_reducible refine gd 1 ?_); refine bL 1 #[.int .i64 a0_0, .int .i64 a0_1] 32 ?_; intro gb137 w2 _ _ _))
 have H := H'.out; clear H'; obtain ⟨t138, A3, H⟩ := oB H; (try dsimp only at H)
 by_cases c4 : t138 = true
 ·
  subst c4
  rw [if_pos rfl] at H
  obtain ⟨t139, A5, H⟩ := oB H; (try dsimp only at H); obtain rfl := Option.some.inj H
  go_wp2_with (first | ((with_reducible refine gate_callee (f := 110) rfl ?_); refine gD (some 5) Tryz.func110 (spec_l1In.calls (w := _) (h := A3.out)) ?_; intro w6 _) | (go_at_call 110; refine aD (spec_l1In.calls (w := _) (h := A5.out)) ?_; intro w7 _))
  go_ret
  exact ⟨y0_8, UpW.out⟩
 replace c4 := Bool.eq_false_iff.mpr c4; subst c4
 rw [if_neg Bool.false_ne_true] at H
 obtain rfl := Option.some.inj H
 go_wp2_with (first | ((with_reducible refine gate_callee (f := 110) rfl ?_); refine gD (some 5) Tryz.func110 (spec_l1In.calls (w := _) (h := A3.out)) ?_; intro w8 _))
 go_ret
 exact ⟨y0_8, UpW.out⟩
def spec_SetOk.l0 : Nat → Int → List Int → Int → Option (Bool)
 | 0, _, _, _ => none
 | k + 1, x0, x1, x5 => if x5 < (x1.length : Int) then (if 0 ≤ x5 then (if (rd x1 x5) < 0 then (some false) else (if (rd x1 x5) ≥ x0 then (some false) else (if x5 > 0 then (if 0 ≤ (wrap64 (x5 - 1)) then (if (wrap64 (x5 - 1)) < (x1.length : Int) then (if (rd x1 (wrap64 (x5 - 1))) ≥ (rd x1 x5) then (some false) else (spec_SetOk.l0 k x0 x1 (wrap64 (x5 + 1)))) else (none)) else (none)) else (spec_SetOk.l0 k x0 x1 (wrap64 (x5 + 1)))))) else (none)) else (some true)
def spec_SetOk.f (k : Nat) (a0 : Int) (l1 : List Int) : Option (Bool) := spec_SetOk.l0 k a0 l1 0
theorem spec_SetOk.mono_l : ∀ k, (∀ y0 y1 y2, LeO (spec_SetOk.l0 k y0 y1 y2) (spec_SetOk.l0 (k + 1) y0 y1 y2))
 | 0 => fun _ _ _ r h => by simp [spec_SetOk.l0] at h
 | k + 1 => by
  have ih0 := spec_SetOk.mono_l k
  intro y0 y1 y2
  unfold spec_SetOk.l0
  repeat' first | (with_reducible exact ih0 _ _ _) | (with_reducible exact LeO.refl _) | (with_reducible exact LeO.none _) | (with_reducible refine LeO.ite ?_ ?_) | (with_reducible refine LeO.bind ?_ (fun _ => ?_))
theorem spec_SetOk.mono : ∀ a0 a1 k, LeO (spec_SetOk.f k a0 a1) (spec_SetOk.f (k + 1) a0 a1) := by
 intro a0 a1 k
 have ih0 := spec_SetOk.mono_l k
 unfold spec_SetOk.f
 repeat' first | (with_reducible exact ih0 _ _ _) | (with_reducible exact LeO.refl _) | (with_reducible exact LeO.none _) | (with_reducible refine LeO.ite ?_ ?_) | (with_reducible refine LeO.bind ?_ (fun _ => ?_))
theorem spec_SetOk.calls (k : Nat) (a0 : Int) (A1 : Option Addr) (c1 : Nat) (l1 : List Int) (r : Bool) (w : World) (hr1 : Kd.C (Kd.int .i64) w A1 l1.length l1) (hc1 : l1.length ≤ c1) (h : spec_SetOk.f k a0 l1 = some r) :
  Calls Tryz.prog 111 #[.int .i64 a0, .slice A1 l1.length c1] w fun e w' => e = .returned (.bool r) ∧ Drawn0 w w' := by
 have HR1 := Aside0.mk hr1; have HC1 := Aside0.mk hc1; clear hr1 hc1; have H := h; unfold spec_SetOk.f at H; clear h; have H' := Aside0.mk H; clear H
 go_enter Tryz.func111, Tryz.ntmps111
 go_wp2
 repeat (go_quiet (fail); try go_wp2)
 go_loopg [5] k (fun kq v5 w' => ∃ (x5_1 : Int), v5 = .int .i64 x5_1 ∧ Aside0 (spec_SetOk.l0 kq a0 l1 x5_1 = some r) ∧ Aside0 (kq ≤ k) ∧ Drawn0 w w')
 case atStart => exact ⟨(0), y0_8, H', ⟨Nat.le_refl _⟩, y0_6⟩
 case round =>
  clear H'
  try clear c1
  try clear p2
  obtain ⟨x5_1, rfl, HA, HK1, ⟨m1, rfl⟩⟩ := hrel; cases gk with
  | zero => exact absurd HA.out (by simp [spec_SetOk.l0])
  | succ k1 =>
   have H := HA.out; clear HA
   simp only [spec_SetOk.l0] at H
   by_cases c3 : x5_1 < (l1.length : Int)
   ·
    rw [if_pos c3] at H
    have c3b0 : decide (x5_1 < (l1.length : Int)) = true := decide_eq_true c3; clear c3
    by_cases c4 : 0 ≤ x5_1
    rotate_left
    ·
     rw [if_neg c4] at H
     exact absurd H (by simp)
    rw [if_pos c4] at H
    have c4b0 : decide (0 ≤ x5_1) = true := decide_eq_true c4; clear c4
    by_cases c5 : (rd l1 x5_1) < 0
    ·
     rw [if_pos c5] at H
     have c5b0 : decide ((rd l1 x5_1) < 0) = true := decide_eq_true c5; clear c5; obtain rfl := Option.some.inj H; have p140 : 0 ≤ (x5_1 : Int) := of_decide_eq_true y0_7; have q140 : x5_1 < (l1.length : Int) := of_decide_eq_true y0_7; obtain ⟨ad140, e140, hx140_0⟩ := Kd.at_int HR1.out x5_1 p140 q140; cases e140; replace p140 := eq_true p140; replace q140 := eq_true q140
     go_wp2
     repeat (go_quiet (fail); try go_wp2)
     go_ret
     exact ⟨y0_8, y0_6⟩
    rw [if_neg c5] at H
    have c5b0 : decide ((rd l1 x5_1) < 0) = false := decide_eq_false c5; clear c5
    by_cases c6 : (rd l1 x5_1) ≥ a0
    ·
     rw [if_pos c6] at H
     have c6b0 : decide (a0 ≤ (rd l1 x5_1)) = true := decide_eq_true c6; clear c6; obtain rfl := Option.some.inj H; have p140 : 0 ≤ (x5_1 : Int) := of_decide_eq_true y0_7; have q140 : x5_1 < (l1.length : Int) := of_decide_eq_true y0_7; obtain ⟨ad140, e140, hx140_0⟩ := Kd.at_int HR1.out x5_1 p140 q140; cases e140; replace p140 := eq_true p140; replace q140 := eq_true q140; have p141 : 0 ≤ (x5_1 : Int) := of_decide_eq_true y0_7; have q141 : x5_1 < (l1.length : Int) := of_decide_eq_true y0_7; obtain ⟨ad141, e141, hx141_0⟩ := Kd.at_int HR1.out x5_1 p141 q141
     obtain rfl : ad140 = ad141 := (by injection e141)
     replace p141 := eq_true p141; replace q141 := eq_true q141
     go_wp2
     repeat (go_quiet (fail); try go_wp2)
     go_ret
     exact ⟨y0_8, y0_6⟩
    rw [if_neg c6] at H
    have c6b0 : decide (a0 ≤ (rd l1 x5_1)) = false := decide_eq_false c6; clear c6
    by_cases c7 : x5_1 > 0
    ·
     rw [if_pos c7] at H
     have c7b0 : decide (0 < x5_1) = true := decide_eq_true c7; clear c7; obtain ⟨ji8, hji8⟩ : ∃ j_ : Int, (wrap64 (x5_1 - 1)) = j_ := ⟨_, rfl⟩
     replace H : (if 0 ≤ (ji8) then (if (ji8) < (l1.length : Int) then (if (rd l1 (ji8)) ≥ (rd l1 x5_1) then (some false) else (spec_SetOk.l0 k1 a0 l1 (wrap64 (x5_1 + 1)))) else (none)) else (none)) = some r := by first | (rw [hji8] at H; exact H) | (simp only [hji8] at H ⊢; exact H)
     have hji8w : (IntKind.i64.wrap (x5_1 - 1)) = ji8 := (i64_w _).trans hji8
     by_cases c9 : 0 ≤ (ji8)
     rotate_left
     ·
      rw [if_neg c9] at H
      exact absurd H (by simp)
     rw [if_pos c9] at H
     have c9b0 : decide (0 ≤ (ji8)) = true := decide_eq_true c9; clear c9
     by_cases c10 : (ji8) < (l1.length : Int)
     rotate_left
     ·
      rw [if_neg c10] at H
      exact absurd H (by simp)
     rw [if_pos c10] at H
     have c10b0 : decide ((ji8) < (l1.length : Int)) = true := decide_eq_true c10; clear c10
     by_cases c11 : (rd l1 (ji8)) ≥ (rd l1 x5_1)
     ·
      rw [if_pos c11] at H
      have c11b0 : decide ((rd l1 x5_1) ≤ (rd l1 (ji8))) = true := decide_eq_true c11; clear c11; obtain rfl := Option.some.inj H; have p140 : 0 ≤ (x5_1 : Int) := of_decide_eq_true y0_7; have q140 : x5_1 < (l1.length : Int) := of_decide_eq_true y0_7; obtain ⟨ad140, e140, hx140_0⟩ := Kd.at_int HR1.out x5_1 p140 q140; cases e140; replace p140 := eq_true p140; replace q140 := eq_true q140; have p141 : 0 ≤ (x5_1 : Int) := of_decide_eq_true y0_7; have q141 : x5_1 < (l1.length : Int) := of_decide_eq_true y0_7; obtain ⟨ad141, e141, hx141_0⟩ := Kd.at_int HR1.out x5_1 p141 q141
      obtain rfl : ad140 = ad141 := (by injection e141)
      replace p141 := eq_true p141; replace q141 := eq_true q141; have p142 : 0 ≤ ((ji8) : Int) := of_decide_eq_true y0_7; have q142 : (ji8) < (l1.length : Int) := of_decide_eq_true y0_7; obtain ⟨ad142, e142, hx142_0⟩ := Kd.at_int HR1.out (ji8) p142 q142
      obtain rfl : ad140 = ad142 := (by injection e142)
      replace p142 := eq_true p142; replace q142 := eq_true q142; have p143 : 0 ≤ (x5_1 : Int) := of_decide_eq_true y0_7; have q143 : x5_1 < (l1.length : Int) := of_decide_eq_true y0_7; obtain ⟨ad143, e143, hx143_0⟩ := Kd.at_int HR1.out x5_1 p143 q143
      obtain rfl : ad140 = ad143 := (by injection e143)
      replace p143 := eq_true p143; replace q143 := eq_true q143
      go_wp2
      repeat (go_quiet (fail); try go_wp2)
      go_ret
      exact ⟨by first | rfl | (simp; done) | (simp only [← hji8] <;> (first | rfl | simp)) | (simp [*]; done), y0_6⟩
     rw [if_neg c11] at H
     have c11b0 : decide ((rd l1 x5_1) ≤ (rd l1 (ji8))) = false := decide_eq_false c11; clear c11; have H' := Aside0.mk H; clear H; have p140 : 0 ≤ (x5_1 : Int) := of_decide_eq_true y0_7; have q140 : x5_1 < (l1.length : Int) := of_decide_eq_true y0_7; obtain ⟨ad140, e140, hx140_0⟩ := Kd.at_int HR1.out x5_1 p140 q140; cases e140; replace p140 := eq_true p140; replace q140 := eq_true q140; have p141 : 0 ≤ (x5_1 : Int) := of_decide_eq_true y0_7; have q141 : x5_1 < (l1.length : Int) := of_decide_eq_true y0_7; obtain ⟨ad141, e141, hx141_0⟩ := Kd.at_int HR1.out x5_1 p141 q141
     obtain rfl : ad140 = ad141 := (by injection e141)
     replace p141 := eq_true p141; replace q141 := eq_true q141; have p142 : 0 ≤ ((ji8) : Int) := of_decide_eq_true y0_7; have q142 : (ji8) < (l1.length : Int) := of_decide_eq_true y0_7; obtain ⟨ad142, e142, hx142_0⟩ := Kd.at_int HR1.out (ji8) p142 q142
     obtain rfl : ad140 = ad142 := (by injection e142)
     replace p142 := eq_true p142; replace q142 := eq_true q142; have p143 : 0 ≤ (x5_1 : Int) := of_decide_eq_true y0_7; have q143 : x5_1 < (l1.length : Int) := of_decide_eq_true y0_7; obtain ⟨ad143, e143, hx143_0⟩ := Kd.at_int HR1.out x5_1 p143 q143
     obtain rfl : ad140 = ad143 := (by injection e143)
     replace p143 := eq_true p143; replace q143 := eq_true q143
     go_wp2
     repeat (go_quiet (fail); try go_wp2)
     go_roundg k1
     case measure => have := HK1.out; omega
     case rel => exact ⟨(wrap64 (x5_1 + 1)), y0_8, H', ⟨y0_11⟩, y0_6⟩
    rw [if_neg c7] at H
    have c7b0 : decide (0 < x5_1) = false := decide_eq_false c7; clear c7; have H' := Aside0.mk H; clear H; have p140 : 0 ≤ (x5_1 : Int) := of_decide_eq_true y0_7; have q140 : x5_1 < (l1.length : Int) := of_decide_eq_true y0_7; obtain ⟨ad140, e140, hx140_0⟩ := Kd.at_int HR1.out x5_1 p140 q140; cases e140; replace p140 := eq_true p140; replace q140 := eq_true q140; have p141 : 0 ≤ (x5_1 : Int) := of_decide_eq_true y0_7; have q141 : x5_1 < (l1.length : Int) := of_decide_eq_true y0_7; obtain ⟨ad141, e141, hx141_0⟩ := Kd.at_int HR1.out x5_1 p141 q141
    obtain rfl : ad140 = ad141 := (by injection e141)
    replace p141 := eq_true p141; replace q141 := eq_true q141
    go_wp2
    repeat (go_quiet (fail); try go_wp2)
    go_roundg k1
    case measure => have := HK1.out; omega
    case rel => exact ⟨(wrap64 (x5_1 + 1)), y0_8, H', ⟨y0_11⟩, y0_6⟩
   rw [if_neg c3] at H
   have c3b0 : decide (x5_1 < (l1.length : Int)) = false := decide_eq_false c3; clear c3; obtain rfl := Option.some.inj H
   go_wp2
   repeat (go_quiet (fail); try go_wp2)
   go_ret
   exact ⟨y0_8, y0_6⟩
def spec_Split.l0 : Nat → ByteArray → Int → List ByteArray → Int → Int → Option (List ByteArray)
 | 0, _, _, _, _, _ => none
 | k + 1, x0, x1, x5, x6, x7 => if x7 ≤ (x0.size : Int) then (if x7 = (x0.size : Int) then (if 0 ≤ x6 then (if x6 ≤ x7 then (if x5.length < 8796093022208 then (spec_Split.l0 k x0 x1 (x5 ++ [x0.extract (x6 : Int).toNat (x7 : Int).toNat]) (wrap64 (x7 + 1)) (wrap64 (x7 + 1))) else (none)) else (none)) else (none)) else (if 0 ≤ x7 then (if x7 < (x0.size : Int) then (if (bt x0 x7) = x1 then (if 0 ≤ x6 then (if x6 ≤ x7 then (if x5.length < 8796093022208 then (spec_Split.l0 k x0 x1 (x5 ++ [x0.extract (x6 : Int).toNat (x7 : Int).toNat]) (wrap64 (x7 + 1)) (wrap64 (x7 + 1))) else (none)) else (none)) else (none)) else (spec_Split.l0 k x0 x1 x5 x6 (wrap64 (x7 + 1)))) else (none)) else (none))) else (some x5)
def spec_Split.f (k : Nat) (a0 : ByteArray) (a1 : Int) : Option (List ByteArray) := spec_Split.l0 k a0 a1 (([] : List ByteArray)) 0 0
theorem spec_Split.mono_l : ∀ k, (∀ y0 y1 y2 y3 y4, LeO (spec_Split.l0 k y0 y1 y2 y3 y4) (spec_Split.l0 (k + 1) y0 y1 y2 y3 y4))
 | 0 => fun _ _ _ _ _ r h => by simp [spec_Split.l0] at h
 | k + 1 => by
  have ih0 := spec_Split.mono_l k
  intro y0 y1 y2 y3 y4
  unfold spec_Split.l0
  repeat' first | (with_reducible exact ih0 _ _ _ _ _) | (with_reducible exact LeO.refl _) | (with_reducible exact LeO.none _) | (with_reducible refine LeO.ite ?_ ?_) | (with_reducible refine LeO.bind ?_ (fun _ => ?_))
theorem spec_Split.mono : ∀ a0 a1 k, LeO (spec_Split.f k a0 a1) (spec_Split.f (k + 1) a0 a1) := by
 intro a0 a1 k
 have ih0 := spec_Split.mono_l k
 unfold spec_Split.f
 repeat' first | (with_reducible exact ih0 _ _ _ _ _) | (with_reducible exact LeO.refl _) | (with_reducible exact LeO.none _) | (with_reducible refine LeO.ite ?_ ?_) | (with_reducible refine LeO.bind ?_ (fun _ => ?_))
theorem spec_Split.calls (k : Nat) (a0 : ByteArray) (a1 : Int) (r : List ByteArray) (w : World) (h : spec_Split.f k a0 a1 = some r) :
  Calls Tryz.prog 178 #[.string a0, .int .u8 a1] w fun e w' => ∃ v0_ : Value, e = .returned (v0_) ∧ Kd.R Kd.string 9 w' w.heap.size (fun _ => True) v0_ r ∧ Below w.heap.size w w' := by
 have HB := Aside0.mk (Below.refl w.heap.size w); have H := h; unfold spec_Split.f at H; clear h; obtain ⟨y144, hy144⟩ : ∃ y_ : List ByteArray, y_ = (([] : List ByteArray)) := ⟨_, rfl⟩
 replace H : (spec_Split.l0 k a0 a1 y144 0 0) = some r := by first | (rw [hy144]; with_reducible exact H) | (rw [hy144]; with_reducible exact (Option.bind_some _ _).symm.trans H) | (rw [hy144]; exact H) | exact H
 have Ny144 := Aside0.mk hy144; clear hy144
 go_enter Tryz.func178, Tryz.ntmps178
 have H' := Aside0.mk H; clear H
 go_wp2_with (first | ((with_reducible refine gate_dst (N := 8) rfl ?_); refine lL 8 9 Kd.string rfl Ny144 ?_; intro Ao145 co145 w3 _ HO146))
 refine wC ?_; intro w4 _
 go_loopg [5, 6, 7] k (fun kq v5 v6 v7 w' => ∃ (x5_1 : List ByteArray) (x6_1 : Int) (x7_1 : Int) (Ao5_1 : Option Addr) (co5_1 : Nat), v5 = .slice Ao5_1 x5_1.length co5_1 ∧ v6 = .int .i64 x6_1 ∧ v7 = .int .i64 x7_1 ∧ Aside0 (spec_Split.l0 kq a0 a1 x5_1 x6_1 x7_1 = some r) ∧ Aside0 (kq ≤ k) ∧ Aside0 (Kd.R Kd.string 9 w' w.heap.size (iv w w') (.slice Ao5_1 x5_1.length co5_1) x5_1) ∧ KT w4 [] w _ Kd.string 9 w' ∧ LB w w')
 case atStart => exact ⟨(y144), (0), (0), (Ao145), (co145), y0_8, y0_8, y0_8, H', ⟨Nat.le_refl _⟩, ⟨rJ HO146⟩, ⟨UpT.out⟩, ⟨UpW.out⟩⟩
 case round =>
  clear H'; obtain ⟨x5_1, x6_1, x7_1, Ao5_1, co5_1, rfl, rfl, rfl, HA, HK1, HO_5, _, _⟩ := hrel; have HO_8 := HO146; cases gk with
  | zero => exact absurd HA.out (by simp [spec_Split.l0])
  | succ k1 =>
   have H := HA.out; clear HA
   simp only [spec_Split.l0] at H
   by_cases c5 : x7_1 ≤ (a0.size : Int)
   ·
    rw [if_pos c5] at H
    have c5b0 : decide (x7_1 ≤ (a0.size : Int)) = true := decide_eq_true c5; clear c5
    by_cases c6 : x7_1 = (a0.size : Int)
    ·
     rw [if_pos c6] at H
     have c6b0 : (x7_1 == (a0.size : Int)) = true := beq_iff_eq.mpr c6; have c6b1 : (x7_1 != (a0.size : Int)) = false := bne_eq_false_iff_eq.mpr c6; clear c6
     by_cases c7 : 0 ≤ x6_1
     rotate_left
     ·
      rw [if_neg c7] at H
      exact absurd H (by simp)
     rw [if_pos c7] at H
     have c7b0 := eq_true c7; have c7b1 : decide (0 ≤ x6_1) = true := decide_eq_true c7; clear c7
     by_cases c8 : x6_1 ≤ x7_1
     rotate_left
     ·
      rw [if_neg c8] at H
      exact absurd H (by simp)
     rw [if_pos c8] at H
     have c8b0 := eq_true c8; have c8b1 : decide (x6_1 ≤ x7_1) = true := decide_eq_true c8; clear c8; have c9b0 := eq_true (of_decide_eq_true y0_7 : x7_1 ≤ (a0.size : Int))
     by_cases c10 : x5_1.length < 8796093022208
     rotate_left
     ·
      rw [if_neg c10] at H
      exact absurd H (by simp)
     rw [if_pos c10] at H
     have LMc10 := Aside0.mk c10; clear c10; obtain ⟨y147, hy147⟩ : ∃ y_ : List ByteArray, y_ = (x5_1 ++ [a0.extract (x6_1 : Int).toNat (x7_1 : Int).toNat]) := ⟨_, rfl⟩
     replace H : (spec_Split.l0 k1 a0 a1 y147 (wrap64 (x7_1 + 1)) (wrap64 (x7_1 + 1))) = some r := by first | (rw [hy147]; with_reducible exact H) | (rw [hy147]; with_reducible exact (Option.bind_some _ _).symm.trans H) | (rw [hy147]; exact H) | exact H
     have Ny147 := Aside0.mk hy147; clear hy147; have H' := Aside0.mk H; clear H
     go_wp2_with (first | ((with_reducible refine gate_builtin (b := .append) (xs := #[.tmp 26, .tmp 31]) rfl ?_); at_builtin; refine gA Kd.string (.tmp 26) (.tmp 31) 178 9 (.string ⟨#[]⟩) 16 (a0.extract (x6_1 : Int).toNat (x7_1 : Int).toNat) [.string (a0.extract (x6_1 : Int).toNat (x7_1 : Int).toNat)] w Ny147 HO_5 rfl y0_10 ?_ (ht := Tryz.underlying178) (hinfo := info9); intro Ao148 co148 w11 _ _ HO149))
     go_roundg k1
     case measure => have := HK1.out; omega
     case rel => exact ⟨(y147), (wrap64 (x7_1 + 1)), (wrap64 (x7_1 + 1)), (Ao148), (co148), y0_8, y0_8, y0_8, H', ⟨y0_11⟩, ⟨rJ HO149⟩, ⟨UpT.out⟩, ⟨UpW.out⟩⟩
    rw [if_neg c6] at H
    have c6b0 : (x7_1 == (a0.size : Int)) = false := beq_eq_false_iff_ne.mpr c6; have c6b1 : (x7_1 != (a0.size : Int)) = true := bne_iff_ne.mpr c6
    by_cases c12 : 0 ≤ x7_1
    rotate_left
    ·
     rw [if_neg c12] at H
     exact absurd H (by simp)
    rw [if_pos c12] at H
    have c12b0 : decide (0 ≤ x7_1) = true := decide_eq_true c12; clear c12
    by_cases c13 : x7_1 < (a0.size : Int)
    rotate_left
    ·
     rw [if_neg c13] at H
     exact absurd H (by simp)
    rw [if_pos c13] at H
    have c13b0 : decide (x7_1 < (a0.size : Int)) = true := decide_eq_true c13; clear c13; have H' := Aside0.mk H; clear H; have p14 : 0 ≤ (x7_1 : Int) := of_decide_eq_true y0_7; have q14 : x7_1 < (a0.size : Int) := of_decide_eq_true y0_7; have hx14 := bt_at a0 x7_1; replace p14 := eq_true p14; replace q14 := eq_true q14
    go_upto_if 25 with fail
    have H := H'.out; clear H'
    by_cases c15 : (bt a0 x7_1) = a1
    ·
     rw [if_pos c15] at H
     have c15b0 : ((bt a0 x7_1) == a1) = true := beq_iff_eq.mpr c15; have c15b1 : ((bt a0 x7_1) != a1) = false := bne_eq_false_iff_eq.mpr c15; clear c15
     (first | rw [c15b0] | (simp only [i64_w, i32_w]; rw [c15b0]) | skip)
     by_cases c16 : 0 ≤ x6_1
     rotate_left
     ·
      rw [if_neg c16] at H
      exact absurd H (by simp)
     rw [if_pos c16] at H
     have c16b0 := eq_true c16; have c16b1 : decide (0 ≤ x6_1) = true := decide_eq_true c16; clear c16
     by_cases c17 : x6_1 ≤ x7_1
     rotate_left
     ·
      rw [if_neg c17] at H
      exact absurd H (by simp)
     rw [if_pos c17] at H
     have c17b0 := eq_true c17; have c17b1 : decide (x6_1 ≤ x7_1) = true := decide_eq_true c17; clear c17; have c18b0 := eq_true (of_decide_eq_true y0_7 : x7_1 ≤ (a0.size : Int))
     by_cases c19 : x5_1.length < 8796093022208
     rotate_left
     ·
      rw [if_neg c19] at H
      exact absurd H (by simp)
     rw [if_pos c19] at H
     have LMc19 := Aside0.mk c19; clear c19; obtain ⟨y150, hy150⟩ : ∃ y_ : List ByteArray, y_ = (x5_1 ++ [a0.extract (x6_1 : Int).toNat (x7_1 : Int).toNat]) := ⟨_, rfl⟩
     replace H : (spec_Split.l0 k1 a0 a1 y150 (wrap64 (x7_1 + 1)) (wrap64 (x7_1 + 1))) = some r := by first | (rw [hy150]; with_reducible exact H) | (rw [hy150]; with_reducible exact (Option.bind_some _ _).symm.trans H) | (rw [hy150]; exact H) | exact H
     have Ny150 := Aside0.mk hy150; clear hy150; have H' := Aside0.mk H; clear H
     go_wp2_with (first | ((with_reducible refine gate_builtin (b := .append) (xs := #[.tmp 26, .tmp 31]) rfl ?_); at_builtin; refine gA Kd.string (.tmp 26) (.tmp 31) 178 9 (.string ⟨#[]⟩) 16 (a0.extract (x6_1 : Int).toNat (x7_1 : Int).toNat) [.string (a0.extract (x6_1 : Int).toNat (x7_1 : Int).toNat)] w Ny150 HO_5 rfl (by have := LMc19.out; omega) ?_ (ht := Tryz.underlying178) (hinfo := info9); intro Ao151 co151 w20 _ _ HO152))
     go_roundg k1
     case measure => have := HK1.out; omega
     case rel => exact ⟨(y150), (wrap64 (x7_1 + 1)), (wrap64 (x7_1 + 1)), (Ao151), (co151), y0_8, y0_8, y0_8, H', ⟨y0_11⟩, ⟨rJ HO152⟩, ⟨UpT.out⟩, ⟨UpW.out⟩⟩
    rw [if_neg c15] at H
    have c15b0 : ((bt a0 x7_1) == a1) = false := beq_eq_false_iff_ne.mpr c15; have c15b1 : ((bt a0 x7_1) != a1) = true := bne_iff_ne.mpr c15
    (first | rw [c15b0] | (simp only [i64_w, i32_w]; rw [c15b0]) | skip)
    have H' := Aside0.mk H; clear H
    go_wp2
    go_roundg k1
    case measure => have := HK1.out; omega
    case rel => exact ⟨(x5_1), (x6_1), (wrap64 (x7_1 + 1)), (Ao5_1), (co5_1), y0_8, y0_8, y0_8, H', ⟨y0_11⟩, ⟨rJ HO_5⟩, ⟨UpT.out⟩, ⟨UpW.out⟩⟩
   rw [if_neg c5] at H
   have c5b0 : decide (x7_1 ≤ (a0.size : Int)) = false := decide_eq_false c5; clear c5; obtain rfl := Option.some.inj H
   go_wp2
   go_ret
   exact ⟨_, y0_8, rR HO_5, UpW.out⟩
def spec_l2Cut.l0 : Nat → ByteArray → Int → Int → Option (ByteArray × ByteArray × Bool)
 | 0, _, _, _ => none
 | k + 1, x0, x1, x7 => if x7 < (x0.size : Int) then (if 0 ≤ x7 then (if (bt x0 x7) = x1 then (if x7 ≤ (x0.size : Int) then (if 0 ≤ (wrap64 (x7 + 1)) then (if (wrap64 (x7 + 1)) ≤ (x0.size : Int) then (some (x0.extract 0 (x7 : Int).toNat, x0.extract ((wrap64 (x7 + 1)) : Int).toNat x0.size, true)) else (none)) else (none)) else (none)) else (spec_l2Cut.l0 k x0 x1 (wrap64 (x7 + 1)))) else (none)) else (some ((⟨#[]⟩ : ByteArray), (⟨#[]⟩ : ByteArray), false))
def spec_l2Cut.f (k : Nat) (a0 : ByteArray) (a1 : Int) : Option (ByteArray × ByteArray × Bool) := spec_l2Cut.l0 k a0 a1 0
theorem spec_l2Cut.mono_l : ∀ k, (∀ y0 y1 y2, LeO (spec_l2Cut.l0 k y0 y1 y2) (spec_l2Cut.l0 (k + 1) y0 y1 y2))
 | 0 => fun _ _ _ r h => by simp [spec_l2Cut.l0] at h
 | k + 1 => by
  have ih0 := spec_l2Cut.mono_l k
  intro y0 y1 y2
  unfold spec_l2Cut.l0
  repeat' first | (with_reducible exact ih0 _ _ _) | (with_reducible exact LeO.refl _) | (with_reducible exact LeO.none _) | (with_reducible refine LeO.ite ?_ ?_) | (with_reducible refine LeO.bind ?_ (fun _ => ?_))
theorem spec_l2Cut.mono : ∀ a0 a1 k, LeO (spec_l2Cut.f k a0 a1) (spec_l2Cut.f (k + 1) a0 a1) := by
 intro a0 a1 k
 have ih0 := spec_l2Cut.mono_l k
 unfold spec_l2Cut.f
 repeat' first | (with_reducible exact ih0 _ _ _) | (with_reducible exact LeO.refl _) | (with_reducible exact LeO.none _) | (with_reducible refine LeO.ite ?_ ?_) | (with_reducible refine LeO.bind ?_ (fun _ => ?_))
theorem spec_l2Cut.calls (k : Nat) (a0 : ByteArray) (a1 : Int) (r1 : ByteArray) (r2 : ByteArray) (r3 : Bool) (w : World) (h : spec_l2Cut.f k a0 a1 = some (r1, r2, r3)) :
  Calls Tryz.prog 179 #[.string a0, .int .u8 a1] w fun e w' => e = .returned (.tuple #[.string r1, .string r2, .bool r3]) ∧ Drawn0 w w' := by
 have H := h; unfold spec_l2Cut.f at H; clear h; have H' := Aside0.mk H; clear H
 go_enter Tryz.func179, Tryz.ntmps179
 go_wp2
 repeat (go_quiet (fail); try go_wp2)
 go_loopg [7] k (fun kq v7 w' => ∃ (x7_1 : Int), v7 = .int .i64 x7_1 ∧ Aside0 (spec_l2Cut.l0 kq a0 a1 x7_1 = some (r1, r2, r3)) ∧ Aside0 (kq ≤ k) ∧ Drawn0 w w')
 case atStart => exact ⟨(0), y0_8, H', ⟨Nat.le_refl _⟩, y0_6⟩
 case round =>
  clear H'
  try clear c1
  try clear p2
  obtain ⟨x7_1, rfl, HA, HK1, ⟨m1, rfl⟩⟩ := hrel; cases gk with
  | zero => exact absurd HA.out (by simp [spec_l2Cut.l0])
  | succ k1 =>
   have H := HA.out; clear HA
   simp only [spec_l2Cut.l0] at H
   by_cases c3 : x7_1 < (a0.size : Int)
   ·
    rw [if_pos c3] at H
    have c3b0 : decide (x7_1 < (a0.size : Int)) = true := decide_eq_true c3; clear c3
    by_cases c4 : 0 ≤ x7_1
    rotate_left
    ·
     rw [if_neg c4] at H
     exact absurd H (by simp)
    rw [if_pos c4] at H
    have c4b0 : decide (0 ≤ x7_1) = true := decide_eq_true c4; clear c4
    by_cases c6 : (bt a0 x7_1) = a1
    ·
     rw [if_pos c6] at H
     have c6b0 : ((bt a0 x7_1) == a1) = true := beq_iff_eq.mpr c6; have c6b1 : ((bt a0 x7_1) != a1) = false := bne_eq_false_iff_eq.mpr c6; clear c6; have c7b0 := eq_true (of_decide_eq_true y0_7 : 0 ≤ x7_1)
     by_cases c8 : x7_1 ≤ (a0.size : Int)
     rotate_left
     ·
      rw [if_neg c8] at H
      exact absurd H (by simp)
     rw [if_pos c8] at H
     have c8b0 := eq_true c8; have c8b1 : decide (x7_1 ≤ (a0.size : Int)) = true := decide_eq_true c8; clear c8; obtain ⟨ji9, hji9⟩ : ∃ j_ : Int, (wrap64 (x7_1 + 1)) = j_ := ⟨_, rfl⟩
     replace H : (if 0 ≤ (ji9) then (if (ji9) ≤ (a0.size : Int) then (some (a0.extract 0 (x7_1 : Int).toNat, a0.extract ((ji9) : Int).toNat a0.size, true)) else (none)) else (none)) = some (r1, r2, r3) := by first | (rw [hji9] at H; exact H) | (simp only [hji9] at H ⊢; exact H)
     have hji9w : (IntKind.i64.wrap (x7_1 + 1)) = ji9 := (i64_w _).trans hji9
     by_cases c10 : 0 ≤ (ji9)
     rotate_left
     ·
      rw [if_neg c10] at H
      exact absurd H (by simp)
     rw [if_pos c10] at H
     have c10b0 := eq_true c10; have c10b1 : decide (0 ≤ (ji9)) = true := decide_eq_true c10; clear c10
     by_cases c11 : (ji9) ≤ (a0.size : Int)
     rotate_left
     ·
      rw [if_neg c11] at H
      exact absurd H (by simp)
     rw [if_pos c11] at H
     have c11b0 := eq_true c11; have c11b1 : decide ((ji9) ≤ (a0.size : Int)) = true := decide_eq_true c11; clear c11
     simp only [Option.some.injEq, Prod.mk.injEq] at H
     obtain ⟨rfl, rfl, rfl⟩ := H; have p5 : 0 ≤ (x7_1 : Int) := of_decide_eq_true y0_7; have q5 : x7_1 < (a0.size : Int) := of_decide_eq_true y0_7; have hx5 := bt_at a0 x7_1; replace p5 := eq_true p5; replace q5 := eq_true q5
     go_wp2
     repeat (go_quiet (fail); try go_wp2)
     go_ret3
     exact ⟨by first | rfl | (simp; done) | (simp only [← hji9] <;> (first | rfl | simp)) | (simp [*]; done), y0_6⟩
    rw [if_neg c6] at H
    have c6b0 : ((bt a0 x7_1) == a1) = false := beq_eq_false_iff_ne.mpr c6; have c6b1 : ((bt a0 x7_1) != a1) = true := bne_iff_ne.mpr c6; have H' := Aside0.mk H; clear H; have p5 : 0 ≤ (x7_1 : Int) := of_decide_eq_true y0_7; have q5 : x7_1 < (a0.size : Int) := of_decide_eq_true y0_7; have hx5 := bt_at a0 x7_1; replace p5 := eq_true p5; replace q5 := eq_true q5
    go_wp2
    repeat (go_quiet (fail); try go_wp2)
    go_roundg k1
    case measure => have := HK1.out; omega
    case rel => exact ⟨(wrap64 (x7_1 + 1)), y0_8, H', ⟨y0_11⟩, y0_6⟩
   rw [if_neg c3] at H
   have c3b0 : decide (x7_1 < (a0.size : Int)) = false := decide_eq_false c3; clear c3
   simp only [Option.some.injEq, Prod.mk.injEq] at H
   obtain ⟨rfl, rfl, rfl⟩ := H
   go_wp2
   repeat (go_quiet (fail); try go_wp2)
   go_ret3
   exact ⟨y0_8, y0_6⟩
def spec_Digits.l0 : Nat → Int → Bool → ByteArray → Option (ByteArray)
 | 0, _, _, _ => none
 | k + 1, x0, x3, x4 => if x0 = 0 then (if x3 = true then (if 1 + x4.size ≤ 9223372036854775807 then (some ((⟨#[45]⟩ : ByteArray) ++ x4)) else (none)) else (some x4)) else (if (Int.tmod x0 10) < 0 then ((some (([(wrap64 (48 + (wrap64 (-(Int.tmod x0 10))))) % 256] : List Int) : List Int)).bind fun y153 => (if (strOfNums y153).size + x4.size ≤ 9223372036854775807 then (spec_Digits.l0 k (wrap64 (Int.tdiv x0 10)) x3 ((strOfNums y153) ++ x4)) else (none))) else ((some (([(wrap64 (48 + (Int.tmod x0 10))) % 256] : List Int) : List Int)).bind fun y156 => (if (strOfNums y156).size + x4.size ≤ 9223372036854775807 then (spec_Digits.l0 k (wrap64 (Int.tdiv x0 10)) x3 ((strOfNums y156) ++ x4)) else (none))))
def spec_Digits.f (k : Nat) (a0 : Int) : Option (ByteArray) := if a0 = 0 then (some (⟨#[48]⟩ : ByteArray)) else (spec_Digits.l0 k a0 (decide (a0 < 0)) (⟨#[]⟩ : ByteArray))
theorem spec_Digits.mono_l : ∀ k, (∀ y0 y1 y2, LeO (spec_Digits.l0 k y0 y1 y2) (spec_Digits.l0 (k + 1) y0 y1 y2))
 | 0 => fun _ _ _ r h => by simp [spec_Digits.l0] at h
 | k + 1 => by
  have ih0 := spec_Digits.mono_l k
  intro y0 y1 y2
  unfold spec_Digits.l0
  repeat' first | (with_reducible exact ih0 _ _ _) | (with_reducible exact LeO.refl _) | (with_reducible exact LeO.none _) | (with_reducible refine LeO.ite ?_ ?_) | (with_reducible refine LeO.bind ?_ (fun _ => ?_))
theorem spec_Digits.mono : ∀ a0 k, LeO (spec_Digits.f k a0) (spec_Digits.f (k + 1) a0) := by
 intro a0 k
 have ih0 := spec_Digits.mono_l k
 unfold spec_Digits.f
 repeat' first | (with_reducible exact ih0 _ _ _) | (with_reducible exact LeO.refl _) | (with_reducible exact LeO.none _) | (with_reducible refine LeO.ite ?_ ?_) | (with_reducible refine LeO.bind ?_ (fun _ => ?_))
theorem spec_Digits.calls (k : Nat) (a0 : Int) (r : ByteArray) (w : World) (h : spec_Digits.f k a0 = some r) :
  Calls Tryz.prog 166 #[.int .i64 a0] w fun e w' => e = .returned (.string r) ∧ Below w.heap.size w w' := by
 have HB := Aside0.mk (Below.refl w.heap.size w); have H := h; unfold spec_Digits.f at H; clear h
 by_cases c2 : a0 = 0
 ·
  rw [if_pos c2] at H
  have c2b0 : (a0 == 0) = true := beq_iff_eq.mpr c2; have c2b1 : (a0 != 0) = false := bne_eq_false_iff_eq.mpr c2; clear c2; obtain rfl := Option.some.inj H
  go_enter Tryz.func166, Tryz.ntmps166
  go_wp2
  go_ret
  exact ⟨y0_3, bI HB.out⟩
 rw [if_neg c2] at H
 have c2b0 : (a0 == 0) = false := beq_eq_false_iff_ne.mpr c2; have c2b1 : (a0 != 0) = true := bne_iff_ne.mpr c2; have H' := Aside0.mk H; clear H
 go_enter Tryz.func166, Tryz.ntmps166
 go_wp2
 go_loopg [0, 4] k (fun kq v0 v4 w' => ∃ (x0_1 : Int) (x4_1 : ByteArray), v0 = .int .i64 x0_1 ∧ v4 = .string x4_1 ∧ Aside0 (spec_Digits.l0 kq x0_1 (decide (a0 < 0)) x4_1 = some r) ∧ Aside0 (kq ≤ k) ∧ Aside0 (Below w.heap.size w w'))
 case atStart => exact ⟨(a0), ((⟨#[]⟩ : ByteArray)), y0_8, y0_8, H', ⟨Nat.le_refl _⟩, ⟨bI HB.out⟩⟩
 case round =>
  clear H'
  try clear c1
  try clear c2
  try clear c2b0
  try clear c2b1
  try clear p2
  obtain ⟨x0_1, x4_1, rfl, rfl, HA, HK1, HB⟩ := hrel; cases gk with
  | zero => exact absurd HA.out (by simp [spec_Digits.l0])
  | succ k1 =>
   have H := HA.out; clear HA
   simp only [spec_Digits.l0] at H
   by_cases c3 : x0_1 = 0
   ·
    rw [if_pos c3] at H
    have c3b0 : (x0_1 == 0) = true := beq_iff_eq.mpr c3; have c3b1 : (x0_1 != 0) = false := bne_eq_false_iff_eq.mpr c3; clear c3
    by_cases c4 : (decide (a0 < 0)) = true
    ·
     rw [if_pos c4] at H
     have c4b0 : (decide (a0 < 0)) = true := c4
     (try simp only [c4b0])
     clear c4
     by_cases c5 : 1 + x4_1.size ≤ 9223372036854775807
     rotate_left
     ·
      rw [if_neg c5] at H
      exact absurd H (by simp)
     rw [if_pos c5] at H
     have c5b0 := eq_true c5; have c5b1 : decide (1 + x4_1.size ≤ 9223372036854775807) = true := decide_eq_true c5
     try have c5b2 : (9223372036854775807 < 1 + x4_1.size) = False := eq_false (Nat.not_lt.2 c5)
     obtain rfl := Option.some.inj H
     go_wp2
     go_ret
     exact ⟨y0_3, bI HB.out⟩
    rw [if_neg c4] at H
    have c4b0 : (decide (a0 < 0)) = false := by simpa using c4
    (try simp only [c4b0])
    clear c4; obtain rfl := Option.some.inj H
    go_wp2
    go_ret
    exact ⟨y0_3, bI HB.out⟩
   rw [if_neg c3] at H
   have c3b0 : (x0_1 == 0) = false := beq_eq_false_iff_ne.mpr c3; have c3b1 : (x0_1 != 0) = true := bne_iff_ne.mpr c3
   by_cases c6 : (Int.tmod x0_1 10) < 0
   ·
    rw [if_pos c6] at H
    have c6b0 : decide ((Int.tmod x0_1 10) < 0) = true := decide_eq_true c6; clear c6; obtain ⟨y153, hy153⟩ : ∃ y_ : List Int, y_ = (([(wrap64 (48 + (wrap64 (-(Int.tmod x0_1 10))))) % 256] : List Int)) := ⟨_, rfl⟩
    replace H : (if (strOfNums y153).size + x4_1.size ≤ 9223372036854775807 then (spec_Digits.l0 k1 (wrap64 (Int.tdiv x0_1 10)) (decide (a0 < 0)) ((strOfNums y153) ++ x4_1)) else (none)) = some r := by first | (rw [hy153]; with_reducible exact H) | (rw [hy153]; with_reducible exact (Option.bind_some _ _).symm.trans H) | (rw [hy153]; exact H) | exact H
    have Ny153 := Aside0.mk hy153; clear hy153
    by_cases c7 : (strOfNums y153).size + x4_1.size ≤ 9223372036854775807
    rotate_left
    ·
     rw [if_neg c7] at H
     exact absurd H (by simp)
    rw [if_pos c7] at H
    have c7b0 := eq_true c7; have c7b1 : decide ((strOfNums y153).size + x4_1.size ≤ 9223372036854775807) = true := decide_eq_true c7
    try have c7b2 : (9223372036854775807 < (strOfNums y153).size + x4_1.size) = False := eq_false (Nat.not_lt.2 c7)
    have H' := Aside0.mk H; clear H
    go_wp2_with (first | ((with_reducible refine gate_dst (N := 21) rfl ?_); refine Kd.R_lit (Kd.int .u8) _ 5 ?hg (N := 21) ?hd (xs := ([(wrap64 (48 + (wrap64 (-(Int.tmod x0_1 10))))) % 256] : List Int)) (inner := [.int .u8 ((wrap64 (48 + (wrap64 (-(Int.tmod x0_1 10))))) % 256)]) (ok := fun _ => True) (okp := fun _ => True) ?hr ?hp (fun _ hk => hk) trivial (Below.refl _ _) (Nat.le_refl _) (by simp) ?_; (case hd => rfl); (case hg => rfl); (case hr => first | (go_simp; done) | (go_simp; rfl)); (case hp => exact (Reps.one (show Kd.M (Kd.int .u8) _ _ _ ((wrap64 (48 + (wrap64 (-(Int.tmod x0_1 10))))) % 256) [.int .u8 ((wrap64 (48 + (wrap64 (-(Int.tmod x0_1 10))))) % 256)] from rfl) (Reps.none _ _))); intro v154 w8 ho9 hb hg_ hnew_; clear hg_ hnew_; (first | rw [← Ny153.out] at ho9 | (simp only [Int.reduceToNat] at ho9; rw [← Ny153.out] at ho9)); have HO155 := Aside0.mk (Kd.R_lower ho9 (below_size (bI HB.out))); replace HB := bs HB hb; clear hb ho9; have hcv10 := own_string (P := Tryz.prog) Tryz.underlying24 Tryz.underlying5 Tryz.underlying9 (Kd.own_of_R HO155.out)))
    go_roundg k1
    case measure => have := HK1.out; omega
    case rel => exact ⟨(wrap64 (Int.tdiv x0_1 10)), ((strOfNums y153) ++ x4_1), y0_8, y0_8, H', ⟨y0_11⟩, ⟨bI HB.out⟩⟩
   rw [if_neg c6] at H
   have c6b0 : decide ((Int.tmod x0_1 10) < 0) = false := decide_eq_false c6; clear c6; obtain ⟨y156, hy156⟩ : ∃ y_ : List Int, y_ = (([(wrap64 (48 + (Int.tmod x0_1 10))) % 256] : List Int)) := ⟨_, rfl⟩
   replace H : (if (strOfNums y156).size + x4_1.size ≤ 9223372036854775807 then (spec_Digits.l0 k1 (wrap64 (Int.tdiv x0_1 10)) (decide (a0 < 0)) ((strOfNums y156) ++ x4_1)) else (none)) = some r := by first | (rw [hy156]; with_reducible exact H) | (rw [hy156]; with_reducible exact (Option.bind_some _ _).symm.trans H) | (rw [hy156]; exact H) | exact H
   have Ny156 := Aside0.mk hy156; clear hy156
   by_cases c11 : (strOfNums y156).size + x4_1.size ≤ 9223372036854775807
   ·
    rw [if_pos c11] at H
    have c11b0 := eq_true c11; have c11b1 : decide ((strOfNums y156).size + x4_1.size ≤ 9223372036854775807) = true := decide_eq_true c11
    try have c11b2 : (9223372036854775807 < (strOfNums y156).size + x4_1.size) = False := eq_false (Nat.not_lt.2 c11)
    have H' := Aside0.mk H; clear H
    go_wp2_with (first | ((with_reducible refine gate_dst (N := 21) rfl ?_); refine Kd.R_lit (Kd.int .u8) _ 5 ?hg (N := 21) ?hd (xs := ([(wrap64 (48 + (Int.tmod x0_1 10))) % 256] : List Int)) (inner := [.int .u8 ((wrap64 (48 + (Int.tmod x0_1 10))) % 256)]) (ok := fun _ => True) (okp := fun _ => True) ?hr ?hp (fun _ hk => hk) trivial (Below.refl _ _) (Nat.le_refl _) (by simp) ?_; (case hd => rfl); (case hg => rfl); (case hr => first | (go_simp; done) | (go_simp; rfl)); (case hp => exact (Reps.one (show Kd.M (Kd.int .u8) _ _ _ ((wrap64 (48 + (Int.tmod x0_1 10))) % 256) [.int .u8 ((wrap64 (48 + (Int.tmod x0_1 10))) % 256)] from rfl) (Reps.none _ _))); intro v157 w12 ho13 hb hg_ hnew_; clear hg_ hnew_; (first | rw [← Ny156.out] at ho13 | (simp only [Int.reduceToNat] at ho13; rw [← Ny156.out] at ho13)); have HO158 := Aside0.mk (Kd.R_lower ho13 (below_size (bI HB.out))); replace HB := bs HB hb; clear hb ho13; have hcv14 := own_string (P := Tryz.prog) Tryz.underlying24 Tryz.underlying5 Tryz.underlying9 (Kd.own_of_R HO158.out)))
    go_roundg k1
    case measure => have := HK1.out; omega
    case rel => exact ⟨(wrap64 (Int.tdiv x0_1 10)), ((strOfNums y156) ++ x4_1), y0_8, y0_8, H', ⟨y0_11⟩, ⟨bI HB.out⟩⟩
   rw [if_neg c11] at H
   exact absurd H (by simp)
def spec_Number.l0 : Nat → ByteArray → Int → Int → Option (Int × Bool)
 | 0, _, _, _ => none
 | k + 1, x0, x4, x5 => if x5 < (x0.size : Int) then (if 0 ≤ x5 then (if (bt x0 x5) < 48 then (some (0, false)) else (if (bt x0 x5) > 57 then (some (0, false)) else (spec_Number.l0 k x0 (wrap64 ((wrap64 ((wrap64 (10 * x4)) + (wrap64 (bt x0 x5)))) - 48)) (wrap64 (x5 + 1))))) else (none)) else ((spec_Digits.f k x4).bind fun t159 => (if t159.toList = x0.toList then (some (x4, true)) else (some (0, false))))
def spec_Number.f (k : Nat) (a0 : ByteArray) : Option (Int × Bool) := if (a0.size : Int) < 1 then (some (0, false)) else (if (a0.size : Int) > 6 then (some (0, false)) else (spec_Number.l0 k a0 0 0))
theorem spec_Number.mono_l : ∀ k, (∀ y0 y1 y2, LeO (spec_Number.l0 k y0 y1 y2) (spec_Number.l0 (k + 1) y0 y1 y2))
 | 0 => fun _ _ _ r h => by simp [spec_Number.l0] at h
 | k + 1 => by
  have ih0 := spec_Number.mono_l k
  intro y0 y1 y2
  unfold spec_Number.l0
  repeat' first | (with_reducible exact ih0 _ _ _) | (with_reducible exact spec_Digits.mono _ _) | (with_reducible exact LeO.refl _) | (with_reducible exact LeO.none _) | (with_reducible refine LeO.ite ?_ ?_) | (with_reducible refine LeO.bind ?_ (fun _ => ?_))
theorem spec_Number.mono : ∀ a0 k, LeO (spec_Number.f k a0) (spec_Number.f (k + 1) a0) := by
 intro a0 k
 have ih0 := spec_Number.mono_l k
 unfold spec_Number.f
 repeat' first | (with_reducible exact ih0 _ _ _) | (with_reducible exact spec_Digits.mono _ _) | (with_reducible exact LeO.refl _) | (with_reducible exact LeO.none _) | (with_reducible refine LeO.ite ?_ ?_) | (with_reducible refine LeO.bind ?_ (fun _ => ?_))
theorem spec_Number.calls (k : Nat) (a0 : ByteArray) (r1 : Int) (r2 : Bool) (w : World) (h : spec_Number.f k a0 = some (r1, r2)) :
  Calls Tryz.prog 180 #[.string a0] w fun e w' => e = .returned (.tuple #[.int .i64 r1, .bool r2]) ∧ Below w.heap.size w w' := by
 have HB := Aside0.mk (Below.refl w.heap.size w); have H := h; unfold spec_Number.f at H; clear h
 go_enter Tryz.func180, Tryz.ntmps180
 have H' := Aside0.mk H; clear H
 go_upto_region 1 with fail
 have H := H'.out; clear H'
 by_cases c2 : (a0.size : Int) < 1
 ·
  rw [if_pos c2] at H
  have c2b0 : decide ((a0.size : Int) < 1) = true := decide_eq_true c2
  have c2b1 : decide (a0.size < 1) = true := decide_eq_true (by omega)
  clear c2
  (first | rw [c2b0] | (simp only [i64_w, i32_w]; rw [c2b0]) | skip)
  simp only [Option.some.injEq, Prod.mk.injEq] at H
  obtain ⟨rfl, rfl⟩ := H
  go_wp2
  go_ret2
  exact ⟨y0_8, UpW.out⟩
 rw [if_neg c2] at H
 have c2b0 : decide ((a0.size : Int) < 1) = false := decide_eq_false c2
 have c2b1 : decide (a0.size < 1) = false := decide_eq_false (by omega)
 clear c2
 (first | rw [c2b0] | (simp only [i64_w, i32_w]; rw [c2b0]) | skip)
 by_cases c3 : (a0.size : Int) > 6
 ·
  rw [if_pos c3] at H
  have c3b0 : decide (6 < (a0.size : Int)) = true := decide_eq_true c3
  have c3b1 : decide (6 < a0.size) = true := decide_eq_true (by omega)
  clear c3
  simp only [Option.some.injEq, Prod.mk.injEq] at H
  obtain ⟨rfl, rfl⟩ := H
  go_wp2
  go_ret2
  exact ⟨y0_8, UpW.out⟩
 rw [if_neg c3] at H
 have c3b0 : decide (6 < (a0.size : Int)) = false := decide_eq_false c3
 have c3b1 : decide (6 < a0.size) = false := decide_eq_false (by omega)
 clear c3; have H' := Aside0.mk H; clear H
 go_wp2
 refine wC ?_; intro w4 _
 go_loopg [4, 5] k (fun kq v4 v5 w' => ∃ (x4_1 : Int) (x5_1 : Int), v4 = .int .i64 x4_1 ∧ v5 = .int .i64 x5_1 ∧ Aside0 (spec_Number.l0 kq a0 x4_1 x5_1 = some (r1, r2)) ∧ Aside0 (kq ≤ k) ∧ UB w4 w')
 case atStart => exact ⟨(0), (0), y0_8, y0_8, H', ⟨Nat.le_refl _⟩, ⟨UpW.out⟩⟩
 case round =>
  clear H'; obtain ⟨x4_1, x5_1, rfl, rfl, HA, HK1, _⟩ := hrel; cases gk with
  | zero => exact absurd HA.out (by simp [spec_Number.l0])
  | succ k1 =>
   have H := HA.out; clear HA
   simp only [spec_Number.l0] at H
   by_cases c5 : x5_1 < (a0.size : Int)
   ·
    rw [if_pos c5] at H
    have c5b0 : decide (x5_1 < (a0.size : Int)) = true := decide_eq_true c5; clear c5
    by_cases c6 : 0 ≤ x5_1
    rotate_left
    ·
     rw [if_neg c6] at H
     exact absurd H (by simp)
    rw [if_pos c6] at H
    have c6b0 : decide (0 ≤ x5_1) = true := decide_eq_true c6; clear c6
    by_cases c8 : (bt a0 x5_1) < 48
    ·
     rw [if_pos c8] at H
     have c8b0 : decide ((bt a0 x5_1) < 48) = true := decide_eq_true c8; clear c8; have H' := Aside0.mk H; clear H; have p7 : 0 ≤ (x5_1 : Int) := of_decide_eq_true y0_7; have q7 : x5_1 < (a0.size : Int) := of_decide_eq_true y0_7; have hx7 := bt_at a0 x5_1; replace p7 := eq_true p7; replace q7 := eq_true q7
     go_upto_if 29 with fail
     have H := H'.out; clear H'
     simp only [Option.some.injEq, Prod.mk.injEq] at H
     obtain ⟨rfl, rfl⟩ := H
     go_wp2
     go_ret2
     exact ⟨y0_8, UpW.out⟩
    rw [if_neg c8] at H
    have c8b0 : decide ((bt a0 x5_1) < 48) = false := decide_eq_false c8; clear c8; have H' := Aside0.mk H; clear H; have p7 : 0 ≤ (x5_1 : Int) := of_decide_eq_true y0_7; have q7 : x5_1 < (a0.size : Int) := of_decide_eq_true y0_7; have hx7 := bt_at a0 x5_1; replace p7 := eq_true p7; replace q7 := eq_true q7; have p9 : 0 ≤ (x5_1 : Int) := of_decide_eq_true y0_7; have q9 : x5_1 < (a0.size : Int) := of_decide_eq_true y0_7; have hx9 := bt_at a0 x5_1; replace p9 := eq_true p9; replace q9 := eq_true q9
    go_upto_if 29 with fail
    have H := H'.out; clear H'
    by_cases c10 : (bt a0 x5_1) > 57
    ·
     rw [if_pos c10] at H
     have c10b0 : decide (57 < (bt a0 x5_1)) = true := decide_eq_true c10; clear c10
     (first | rw [c10b0] | (simp only [i64_w, i32_w]; rw [c10b0]) | skip)
     simp only [Option.some.injEq, Prod.mk.injEq] at H
     obtain ⟨rfl, rfl⟩ := H
     go_wp2
     go_ret2
     exact ⟨y0_8, UpW.out⟩
    rw [if_neg c10] at H
    have c10b0 : decide (57 < (bt a0 x5_1)) = false := decide_eq_false c10; clear c10
    (first | rw [c10b0] | (simp only [i64_w, i32_w]; rw [c10b0]) | skip)
    have H' := Aside0.mk H; clear H; have p11 : 0 ≤ (x5_1 : Int) := of_decide_eq_true y0_7; have q11 : x5_1 < (a0.size : Int) := of_decide_eq_true y0_7; have hx11 := bt_at a0 x5_1; replace p11 := eq_true p11; replace q11 := eq_true q11
    go_wp2
    go_roundg k1
    case measure => have := HK1.out; omega
    case rel => exact ⟨(wrap64 ((wrap64 ((wrap64 (10 * x4_1)) + (wrap64 (bt a0 x5_1)))) - 48)), (wrap64 (x5_1 + 1)), y0_8, y0_8, H', ⟨y0_11⟩, ⟨UpW.out⟩⟩
   rw [if_neg c5] at H
   have c5b0 : decide (x5_1 < (a0.size : Int)) = false := decide_eq_false c5; clear c5; obtain ⟨t159, A12, H⟩ := oB H; (try dsimp only at H); have H' := Aside0.mk H; clear H
   go_upto_if 41 with (first | ((with_reducible refine gate_callee (f := 166) rfl ?_); refine gC (some 39) Tryz.func166 (spec_Digits.calls (w := _) (h := A12.out)) ?_; intro w13 _))
   have H := H'.out; clear H'
   by_cases c14 : t159.toList = a0.toList
   ·
    rw [if_pos c14] at H
    have c14b0 : (t159.toList == a0.toList) = true := beq_iff_eq.mpr c14; have c14b1 : (t159.toList != a0.toList) = false := bne_eq_false_iff_eq.mpr c14; clear c14
    (first | rw [c14b0] | (simp only [i64_w, i32_w]; rw [c14b0]) | skip)
    simp only [Option.some.injEq, Prod.mk.injEq] at H
    obtain ⟨rfl, rfl⟩ := H
    go_wp2
    go_ret2
    exact ⟨y0_8, UpW.out⟩
   rw [if_neg c14] at H
   have c14b0 : (t159.toList == a0.toList) = false := beq_eq_false_iff_ne.mpr c14; have c14b1 : (t159.toList != a0.toList) = true := bne_iff_ne.mpr c14
   (first | rw [c14b0] | (simp only [i64_w, i32_w]; rw [c14b0]) | skip)
   simp only [Option.some.injEq, Prod.mk.injEq] at H
   obtain ⟨rfl, rfl⟩ := H
   go_wp2
   go_ret2
   exact ⟨y0_8, UpW.out⟩
def spec_TxOk.f (a0_0 : Int) (a0_1 : Int) (a0_2 : Int) (a0_3 : Int) : Option (Bool) := (spec_l1In.f a0_0 0 3).bind fun t161 => (if t161 = true then ((spec_l1In.f a0_1 0 3).bind fun t162 => (if t162 = true then ((spec_l1In.f a0_2 0 1000).bind fun t163 => (if t163 = true then ((spec_l1In.f a0_3 0 99).bind fun t164 => (some t164)) else (some false))) else (some false))) else (some false))
theorem spec_TxOk.calls (a0_0 : Int) (a0_1 : Int) (a0_2 : Int) (a0_3 : Int) (r : Bool) (w : World) (h : spec_TxOk.f a0_0 a0_1 a0_2 a0_3 = some r) :
  Calls Tryz.prog 172 #[.agg #[.int .i64 a0_0, .int .i64 a0_1, .int .i64 a0_2, .int .i64 a0_3]] w fun e w' => e = .returned (.bool r) ∧ Below w.heap.size w w' := by
 have hu156 := Tryz.underlying156; have HB := Aside0.mk (Below.refl w.heap.size w)
 have H := h; unfold spec_TxOk.f at H
 clear h
 go_enter Tryz.func172, Tryz.ntmps172
 have H' := Aside0.mk H; clear H
 go_upto_region 1 with (first | ((with_reducible refine gd 1 ?_); refine bL 1 #[.int .i64 a0_0, .int .i64 a0_1, .int .i64 a0_2, .int .i64 a0_3] 156 ?_; intro gb160 w2 _ _ _))
 have H := H'.out; clear H'; obtain ⟨t161, A3, H⟩ := oB H; (try dsimp only at H)
 by_cases c4 : t161 = true
 ·
  subst c4
  rw [if_pos rfl] at H
  obtain ⟨t162, A5, H⟩ := oB H; (try dsimp only at H)
  by_cases c6 : t162 = true
  ·
   subst c6
   rw [if_pos rfl] at H
   obtain ⟨t163, A7, H⟩ := oB H; (try dsimp only at H)
   by_cases c8 : t163 = true
   ·
    subst c8
    rw [if_pos rfl] at H
    obtain ⟨t164, A9, H⟩ := oB H; (try dsimp only at H); obtain rfl := Option.some.inj H
    go_wp2_with (first | ((with_reducible refine gate_callee (f := 110) rfl ?_); refine gD (some 5) Tryz.func110 (spec_l1In.calls (w := _) (h := A3.out)) ?_; intro w10 _) | (go_at_call 110; refine aD (spec_l1In.calls (w := _) (h := A5.out)) ?_; intro w11 _) | (go_at_call 110; refine aD (spec_l1In.calls (w := _) (h := A7.out)) ?_; intro w12 _) | (go_at_call 110; refine aD (spec_l1In.calls (w := _) (h := A9.out)) ?_; intro w13 _))
    go_ret
    exact ⟨y0_8, UpW.out⟩
   replace c8 := Bool.eq_false_iff.mpr c8; subst c8
   rw [if_neg Bool.false_ne_true] at H
   obtain rfl := Option.some.inj H
   go_wp2_with (first | ((with_reducible refine gate_callee (f := 110) rfl ?_); refine gD (some 5) Tryz.func110 (spec_l1In.calls (w := _) (h := A3.out)) ?_; intro w14 _) | (go_at_call 110; refine aD (spec_l1In.calls (w := _) (h := A5.out)) ?_; intro w15 _) | (go_at_call 110; refine aD (spec_l1In.calls (w := _) (h := A7.out)) ?_; intro w16 _))
   go_ret
   exact ⟨y0_8, UpW.out⟩
  replace c6 := Bool.eq_false_iff.mpr c6; subst c6
  rw [if_neg Bool.false_ne_true] at H
  obtain rfl := Option.some.inj H
  go_wp2_with (first | ((with_reducible refine gate_callee (f := 110) rfl ?_); refine gD (some 5) Tryz.func110 (spec_l1In.calls (w := _) (h := A3.out)) ?_; intro w17 _) | (go_at_call 110; refine aD (spec_l1In.calls (w := _) (h := A5.out)) ?_; intro w18 _))
  go_ret
  exact ⟨y0_8, UpW.out⟩
 replace c4 := Bool.eq_false_iff.mpr c4; subst c4
 rw [if_neg Bool.false_ne_true] at H
 obtain rfl := Option.some.inj H
 go_wp2_with (first | ((with_reducible refine gate_callee (f := 110) rfl ?_); refine gD (some 5) Tryz.func110 (spec_l1In.calls (w := _) (h := A3.out)) ?_; intro w19 _))
 go_ret
 exact ⟨y0_8, UpW.out⟩
def spec_TxText.f (k : Nat) (a0_0 : Int) (a0_1 : Int) (a0_2 : Int) (a0_3 : Int) : Option (ByteArray) := (spec_TxOk.f a0_0 a0_1 a0_2 a0_3).bind fun t166 => (if t166 = true then ((spec_Digits.f k a0_0).bind fun t167 => (if t167.size + 1 ≤ 9223372036854775807 then ((spec_Digits.f k a0_1).bind fun t168 => (if (t167 ++ (⟨#[62]⟩ : ByteArray)).size + t168.size ≤ 9223372036854775807 then (if ((t167 ++ (⟨#[62]⟩ : ByteArray)) ++ t168).size + 1 ≤ 9223372036854775807 then ((spec_Digits.f k a0_2).bind fun t169 => (if (((t167 ++ (⟨#[62]⟩ : ByteArray)) ++ t168) ++ (⟨#[58]⟩ : ByteArray)).size + t169.size ≤ 9223372036854775807 then (if ((((t167 ++ (⟨#[62]⟩ : ByteArray)) ++ t168) ++ (⟨#[58]⟩ : ByteArray)) ++ t169).size + 1 ≤ 9223372036854775807 then ((spec_Digits.f k a0_3).bind fun t170 => (if (((((t167 ++ (⟨#[62]⟩ : ByteArray)) ++ t168) ++ (⟨#[58]⟩ : ByteArray)) ++ t169) ++ (⟨#[35]⟩ : ByteArray)).size + t170.size ≤ 9223372036854775807 then (some ((((((t167 ++ (⟨#[62]⟩ : ByteArray)) ++ t168) ++ (⟨#[58]⟩ : ByteArray)) ++ t169) ++ (⟨#[35]⟩ : ByteArray)) ++ t170)) else (none))) else (none)) else (none))) else (none)) else (none))) else (none))) else (some (⟨#[]⟩ : ByteArray)))
theorem spec_TxText.mono : ∀ a0 a1 a2 a3 k, LeO (spec_TxText.f k a0 a1 a2 a3) (spec_TxText.f (k + 1) a0 a1 a2 a3) := by
 intro a0 a1 a2 a3 k
 unfold spec_TxText.f
 repeat' first | (with_reducible exact spec_Digits.mono _ _) | (with_reducible exact LeO.refl _) | (with_reducible exact LeO.none _) | (with_reducible refine LeO.ite ?_ ?_) | (with_reducible refine LeO.bind ?_ (fun _ => ?_))
def spec_TxText.T3 : Bool × List (List Nat × List Nat) := (true, [([], []), ([0], [0]), ([1], [1]), ([2], [2]), ([], []), ([4], [4]), ([5, 2], [5]), ([3, 6], [3, 6]), ([7], [7]), ([], []), ([9], [9]), ([10, 6], [10]), ([8, 11], [8, 11]), ([12], [12]), ([], []), ([14], [14]), ([15, 11], [15]), ([13, 16], [13, 16]), ([17, 16, 0, 1, 2, 3, 4, 5, 6, 7, 8, 9, 10, 11, 12, 13, 14, 15, 16, 17], [17])])
def spec_TxText.B3 : List Nat := [0, 1, 3, 7, 0, 16, 55, 127, 255, 0, 512, 1655, 4095, 8191, 0, 16384, 52855, 131071, 262143]
theorem spec_TxText.tab3 : rtab .any (opsOf Tryz.f194 3) = spec_TxText.T3 := by kernel_rfl
theorem spec_TxText.bits3 : waitsOk spec_TxText.T3.2 spec_TxText.B3 = true := by kernel_rfl
theorem spec_TxText.calls (k : Nat) (a0_0 : Int) (a0_1 : Int) (a0_2 : Int) (a0_3 : Int) (r : ByteArray) (w : World) (h : spec_TxText.f k a0_0 a0_1 a0_2 a0_3 = some r) :
  Calls Tryz.prog 194 #[.agg #[.int .i64 a0_0, .int .i64 a0_1, .int .i64 a0_2, .int .i64 a0_3]] w fun e w' => e = .returned (.string r) ∧ Below w.heap.size w w' := by
 have hu156 := Tryz.underlying156; have HB := Aside0.mk (Below.refl w.heap.size w)
 have H := h; unfold spec_TxText.f at H
 clear h; obtain ⟨t166, A2, H⟩ := oB H; (try dsimp only at H)
 go_enter Tryz.func194, Tryz.ntmps194
 have H' := Aside0.mk H; clear H
 go_upto_if 5 with (first | ((with_reducible refine gd 1 ?_); refine bL 1 #[.int .i64 a0_0, .int .i64 a0_1, .int .i64 a0_2, .int .i64 a0_3] 156 ?_; intro gb165 w3 _ _ _) | ((with_reducible refine gate_callee (f := 172) rfl ?_); refine gC (some 4) Tryz.func172 (spec_TxOk.calls (w := _) (h := A2.out)) ?_; intro w4 _))
 have H := H'.out; clear H'
 by_cases c5 : t166 = true
 ·
  subst c5
  rw [if_pos rfl] at H
  obtain ⟨t167, A6, H⟩ := oB H; (try dsimp only at H)
  by_cases c7 : t167.size + 1 ≤ 9223372036854775807
  rotate_left
  ·
   rw [if_neg c7] at H
   exact absurd H (by simp)
  rw [if_pos c7] at H
  have c7b0 := eq_true c7; have c7b1 : decide (t167.size + 1 ≤ 9223372036854775807) = true := decide_eq_true c7
  try have c7b2 : (9223372036854775807 < t167.size + 1) = False := eq_false (Nat.not_lt.2 c7)
  obtain ⟨t168, A8, H⟩ := oB H; (try dsimp only at H)
  by_cases c9 : (t167 ++ (⟨#[62]⟩ : ByteArray)).size + t168.size ≤ 9223372036854775807
  rotate_left
  ·
   rw [if_neg c9] at H
   exact absurd H (by simp)
  rw [if_pos c9] at H
  have c9b0 := eq_true c9; have c9b1 : decide ((t167 ++ (⟨#[62]⟩ : ByteArray)).size + t168.size ≤ 9223372036854775807) = true := decide_eq_true c9
  try have c9b2 : (9223372036854775807 < (t167 ++ (⟨#[62]⟩ : ByteArray)).size + t168.size) = False := eq_false (Nat.not_lt.2 c9)
  (try have c9b3 : (9223372036854775807 < t167.size + 1 + t168.size) = False := eq_false (by have h_ := c9; simp only [ByteArray.size_append, ByteArray.size_extract, show (⟨#[62]⟩ : ByteArray).size = 1 from rfl] at h_; omega))
  by_cases c10 : ((t167 ++ (⟨#[62]⟩ : ByteArray)) ++ t168).size + 1 ≤ 9223372036854775807
  rotate_left
  ·
   rw [if_neg c10] at H
   exact absurd H (by simp)
  rw [if_pos c10] at H
  have c10b0 := eq_true c10; have c10b1 : decide (((t167 ++ (⟨#[62]⟩ : ByteArray)) ++ t168).size + 1 ≤ 9223372036854775807) = true := decide_eq_true c10
  try have c10b2 : (9223372036854775807 < ((t167 ++ (⟨#[62]⟩ : ByteArray)) ++ t168).size + 1) = False := eq_false (Nat.not_lt.2 c10)
  (try have c10b3 : (9223372036854775807 < t167.size + 1 + t168.size + 1) = False := eq_false (by have h_ := c10; simp only [ByteArray.size_append, ByteArray.size_extract, show (⟨#[62]⟩ : ByteArray).size = 1 from rfl] at h_; omega))
  obtain ⟨t169, A11, H⟩ := oB H; (try dsimp only at H)
  by_cases c12 : (((t167 ++ (⟨#[62]⟩ : ByteArray)) ++ t168) ++ (⟨#[58]⟩ : ByteArray)).size + t169.size ≤ 9223372036854775807
  rotate_left
  ·
   rw [if_neg c12] at H
   exact absurd H (by simp)
  rw [if_pos c12] at H
  have c12b0 := eq_true c12; have c12b1 : decide ((((t167 ++ (⟨#[62]⟩ : ByteArray)) ++ t168) ++ (⟨#[58]⟩ : ByteArray)).size + t169.size ≤ 9223372036854775807) = true := decide_eq_true c12
  try have c12b2 : (9223372036854775807 < (((t167 ++ (⟨#[62]⟩ : ByteArray)) ++ t168) ++ (⟨#[58]⟩ : ByteArray)).size + t169.size) = False := eq_false (Nat.not_lt.2 c12)
  (try have c12b3 : (9223372036854775807 < t167.size + 1 + t168.size + 1 + t169.size) = False := eq_false (by have h_ := c12; simp only [ByteArray.size_append, ByteArray.size_extract, show (⟨#[58]⟩ : ByteArray).size = 1 from rfl, show (⟨#[62]⟩ : ByteArray).size = 1 from rfl] at h_; omega))
  by_cases c13 : ((((t167 ++ (⟨#[62]⟩ : ByteArray)) ++ t168) ++ (⟨#[58]⟩ : ByteArray)) ++ t169).size + 1 ≤ 9223372036854775807
  rotate_left
  ·
   rw [if_neg c13] at H
   exact absurd H (by simp)
  rw [if_pos c13] at H
  have c13b0 := eq_true c13; have c13b1 : decide (((((t167 ++ (⟨#[62]⟩ : ByteArray)) ++ t168) ++ (⟨#[58]⟩ : ByteArray)) ++ t169).size + 1 ≤ 9223372036854775807) = true := decide_eq_true c13
  try have c13b2 : (9223372036854775807 < ((((t167 ++ (⟨#[62]⟩ : ByteArray)) ++ t168) ++ (⟨#[58]⟩ : ByteArray)) ++ t169).size + 1) = False := eq_false (Nat.not_lt.2 c13)
  (try have c13b3 : (9223372036854775807 < t167.size + 1 + t168.size + 1 + t169.size + 1) = False := eq_false (by have h_ := c13; simp only [ByteArray.size_append, ByteArray.size_extract, show (⟨#[58]⟩ : ByteArray).size = 1 from rfl, show (⟨#[62]⟩ : ByteArray).size = 1 from rfl] at h_; omega))
  obtain ⟨t170, A14, H⟩ := oB H; (try dsimp only at H)
  by_cases c15 : (((((t167 ++ (⟨#[62]⟩ : ByteArray)) ++ t168) ++ (⟨#[58]⟩ : ByteArray)) ++ t169) ++ (⟨#[35]⟩ : ByteArray)).size + t170.size ≤ 9223372036854775807
  rotate_left
  ·
   rw [if_neg c15] at H
   exact absurd H (by simp)
  rw [if_pos c15] at H
  have c15b0 := eq_true c15; have c15b1 : decide ((((((t167 ++ (⟨#[62]⟩ : ByteArray)) ++ t168) ++ (⟨#[58]⟩ : ByteArray)) ++ t169) ++ (⟨#[35]⟩ : ByteArray)).size + t170.size ≤ 9223372036854775807) = true := decide_eq_true c15
  try have c15b2 : (9223372036854775807 < (((((t167 ++ (⟨#[62]⟩ : ByteArray)) ++ t168) ++ (⟨#[58]⟩ : ByteArray)) ++ t169) ++ (⟨#[35]⟩ : ByteArray)).size + t170.size) = False := eq_false (Nat.not_lt.2 c15)
  (try have c15b3 : (9223372036854775807 < t167.size + 1 + t168.size + 1 + t169.size + 1 + t170.size) = False := eq_false (by have h_ := c15; simp only [ByteArray.size_append, ByteArray.size_extract, show (⟨#[35]⟩ : ByteArray).size = 1 from rfl, show (⟨#[58]⟩ : ByteArray).size = 1 from rfl, show (⟨#[62]⟩ : ByteArray).size = 1 from rfl] at h_; omega))
  obtain rfl := Option.some.inj H
  try go_wp2
  refine sB [] spec_TxText.tab3 spec_TxText.bits3 ?_; intro w16 _ HT_ HW_
  refine pA 0 (some 6) (bz 19 1) HT_ ?_
  refine tB 1 (some 7) (bz 19 3) HT_ HW_ ?_
  refine pA 4 (some 10) (bz 19 19) HT_ ?_
  refine tB 5 (some 11) (bz 19 51) HT_ HW_ ?_
  refine pA 9 (some 15) (bz 19 563) HT_ ?_
  refine tB 10 (some 16) (bz 19 1587) HT_ HW_ ?_
  refine pA 14 (some 20) (bz 19 0x4633) HT_ ?_
  refine tB 15 (some 21) (bz 19 0xc633) HT_ HW_ ?_
  refine o1 2 (some 8) (bz 19 0xc637) HT_ rfl (kC Tryz.func166 (spec_Digits.calls (w := _) (h := A6.out)) ?_); intro w17 _
  refine nA (some 8) ?_
  refine pA 3 (some 9) (bz 19 0xc63f) HT_ ?_
  refine o1 6 (some 12) (bz 19 0xc67f) HT_ rfl (kC Tryz.func166 (spec_Digits.calls (w := _) (h := A8.out)) ?_); intro w18 _
  refine nA (some 12) ?_
  refine pA 7 (some 13) (bz 19 0xc6ff) HT_ ?_
  refine pA 8 (some 14) (bz 19 0xc7ff) HT_ ?_
  refine o1 11 (some 17) (bz 19 0xcfff) HT_ rfl (kC Tryz.func166 (spec_Digits.calls (w := _) (h := A11.out)) ?_); intro w19 _
  refine nA (some 17) ?_
  refine pA 12 (some 18) (bz 19 0xdfff) HT_ ?_
  refine pA 13 (some 19) (bz 19 0xffff) HT_ ?_
  refine o1 16 (some 22) (bz 19 0x1ffff) HT_ rfl (kC Tryz.func166 (spec_Digits.calls (w := _) (h := A14.out)) ?_); intro w20 _
  refine nA (some 22) ?_
  refine pA 17 (some 23) (bz 19 0x3ffff) HT_ ?_
  refine pA 18 (some 2) (bz 19 0x7ffff) HT_ ?_
  refine done_ (done_of HT_.out (by kernel_rfl)) ?_
  try go_wp2
  go_ret
  exact ⟨y0_8, UpW.out⟩
 replace c5 := Bool.eq_false_iff.mpr c5; subst c5
 rw [if_neg Bool.false_ne_true] at H
 obtain rfl := Option.some.inj H
 go_wp2
 go_ret
 exact ⟨y0_8, UpW.out⟩
def spec_TxOf.f (k : Nat) (a0 : ByteArray) : Option (Int × Int × Int × Int × Bool) := (spec_l2Cut.f k a0 62).bind fun bt172 => ((spec_l2Cut.f k bt172.2.1 58).bind fun bt175 => ((spec_l2Cut.f k bt175.2.1 35).bind fun bt178 => ((spec_Number.f k bt172.1).bind fun bt182 => ((spec_Number.f k bt175.1).bind fun bt184 => ((spec_Number.f k bt178.1).bind fun bt186 => ((spec_Number.f k bt178.2.1).bind fun bt188 => (if a0.toList = ([] : List UInt8) then (some (0, 0, 0, 0, false)) else ((spec_TxText.f k bt182.1 bt184.1 bt186.1 bt188.1).bind fun t190 => (if t190.toList = a0.toList then (some (bt182.1, bt184.1, bt186.1, bt188.1, true)) else (some (0, 0, 0, 0, false)))))))))))
theorem spec_TxOf.mono : ∀ a0 k, LeO (spec_TxOf.f k a0) (spec_TxOf.f (k + 1) a0) := by
 intro a0 k
 unfold spec_TxOf.f
 repeat' first | (with_reducible exact spec_Number.mono _ _) | (with_reducible exact spec_TxText.mono _ _ _ _ _) | (with_reducible exact spec_l2Cut.mono _ _ _) | (with_reducible exact LeO.refl _) | (with_reducible exact LeO.none _) | (with_reducible refine LeO.ite ?_ ?_) | (with_reducible refine LeO.bind ?_ (fun _ => ?_))
theorem spec_TxOf.calls (k : Nat) (a0 : ByteArray) (r1 : Int) (r2 : Int) (r3 : Int) (r4 : Int) (r5 : Bool) (w : World) (h : spec_TxOf.f k a0 = some (r1, r2, r3, r4, r5)) :
  Calls Tryz.prog 199 #[.string a0] w fun e w' => e = .returned (.tuple #[.agg #[.int .i64 r1, .int .i64 r2, .int .i64 r3, .int .i64 r4], .bool r5]) ∧ Below w.heap.size w w' := by
 have hu156 := Tryz.underlying156; have HB := Aside0.mk (Below.refl w.heap.size w)
 have H := h; unfold spec_TxOf.f at H
 clear h; obtain ⟨⟨t172, t173, t174⟩, A2, H⟩ := oB H; (try dsimp only at H); obtain ⟨⟨t175, t176, t177⟩, A3, H⟩ := oB H; (try dsimp only at H); obtain ⟨⟨t178, t179, t180⟩, A4, H⟩ := oB H; (try dsimp only at H); obtain ⟨⟨t182, t183⟩, A5, H⟩ := oB H; (try dsimp only at H); obtain ⟨⟨t184, t185⟩, A6, H⟩ := oB H; (try dsimp only at H); obtain ⟨⟨t186, t187⟩, A7, H⟩ := oB H; (try dsimp only at H); obtain ⟨⟨t188, t189⟩, A8, H⟩ := oB H; (try dsimp only at H)
 go_enter Tryz.func199, Tryz.ntmps199
 have H' := Aside0.mk H; clear H
 go_upto_region 9 with (first | ((with_reducible refine gd 2 ?_); refine bL 2 #[.int .i64 0, .int .i64 0, .int .i64 0, .int .i64 0] 156 ?_; intro gb171 w9 _ _ _) | ((with_reducible refine gate_callee (f := 179) rfl ?_); refine gD (some 16) Tryz.func179 (spec_l2Cut.calls (w := _) (h := A2.out)) ?_; intro w10 _) | ((with_reducible refine gate_callee (f := 179) rfl ?_); refine gD (some 22) Tryz.func179 (spec_l2Cut.calls (w := _) (h := A3.out)) ?_; intro w11 _) | ((with_reducible refine gate_callee (f := 179) rfl ?_); refine gD (some 28) Tryz.func179 (spec_l2Cut.calls (w := _) (h := A4.out)) ?_; intro w12 _) | ((with_reducible refine gd 13 ?_); refine bL 13 #[.int .i64 0, .int .i64 0, .int .i64 0, .int .i64 0] 156 ?_; intro gb181 w13 _ _ _) | ((with_reducible refine gate_callee (f := 180) rfl ?_); refine gC (some 35) Tryz.func180 (spec_Number.calls (w := _) (h := A5.out)) ?_; intro w14 _) | ((with_reducible refine gate_callee (f := 180) rfl ?_); refine gC (some 41) Tryz.func180 (spec_Number.calls (w := _) (h := A6.out)) ?_; intro w15 _) | ((with_reducible refine gate_callee (f := 180) rfl ?_); refine gC (some 47) Tryz.func180 (spec_Number.calls (w := _) (h := A7.out)) ?_; intro w16 _) | ((with_reducible refine gate_callee (f := 180) rfl ?_); refine gC (some 53) Tryz.func180 (spec_Number.calls (w := _) (h := A8.out)) ?_; intro w17 _))
 have H := H'.out; clear H'
 by_cases c18 : a0.toList = ([] : List UInt8)
 ·
  rw [if_pos c18] at H
  have c18b0 : (a0.toList == ([] : List UInt8)) = true := beq_iff_eq.mpr c18; have c18b1 : (a0.toList != ([] : List UInt8)) = false := bne_eq_false_iff_eq.mpr c18; clear c18
  (first | rw [c18b0] | (simp only [i64_w, i32_w]; rw [c18b0]) | rw [show List.isEmpty (a0.toList) = true from by simpa using c18b0] | skip)
  simp only [Option.some.injEq, Prod.mk.injEq] at H
  obtain ⟨rfl, rfl, rfl, rfl, rfl⟩ := H
  go_wp2
  refine bodyPost_ret (results_ct rfl _ _ gb171 156 #[.int .i64 0, .int .i64 0, .int .i64 0, .int .i64 0] (0, 0) _ rfl xB Tryz.underlying156 rfl (by kernel_rfl)) rfl ?_
  exact ⟨y0_8, UpW.out⟩
 rw [if_neg c18] at H
 have c18b0 : (a0.toList == ([] : List UInt8)) = false := beq_eq_false_iff_ne.mpr c18; have c18b1 : (a0.toList != ([] : List UInt8)) = true := bne_iff_ne.mpr c18
 (first | rw [c18b0] | (simp only [i64_w, i32_w]; rw [c18b0]) | rw [show List.isEmpty (a0.toList) = false from by simpa using c18b0] | skip)
 obtain ⟨t190, A19, H⟩ := oB H; (try dsimp only at H); have H' := Aside0.mk H; clear H
 go_upto_if 64 with (first | (go_at_call 194; refine aC (spec_TxText.calls (w := _) (h := A19.out)) ?_; intro w20 _))
 have H := H'.out; clear H'
 by_cases c21 : t190.toList = a0.toList
 ·
  rw [if_pos c21] at H
  have c21b0 : (t190.toList == a0.toList) = true := beq_iff_eq.mpr c21; have c21b1 : (t190.toList != a0.toList) = false := bne_eq_false_iff_eq.mpr c21; clear c21
  (first | rw [c21b0] | (simp only [i64_w, i32_w]; rw [c21b0]) | skip)
  simp only [Option.some.injEq, Prod.mk.injEq] at H
  obtain ⟨rfl, rfl, rfl, rfl, rfl⟩ := H
  go_wp2
  refine bodyPost_ret (results_ct rfl _ _ gb171 156 #[.int .i64 t182, .int .i64 t184, .int .i64 t186, .int .i64 t188] (0, 0) _ rfl xB Tryz.underlying156 rfl (by kernel_rfl)) rfl ?_
  exact ⟨y0_8, UpW.out⟩
 rw [if_neg c21] at H
 have c21b0 : (t190.toList == a0.toList) = false := beq_eq_false_iff_ne.mpr c21; have c21b1 : (t190.toList != a0.toList) = true := bne_iff_ne.mpr c21
 (first | rw [c21b0] | (simp only [i64_w, i32_w]; rw [c21b0]) | skip)
 simp only [Option.some.injEq, Prod.mk.injEq] at H
 obtain ⟨rfl, rfl, rfl, rfl, rfl⟩ := H
 go_wp2
 refine bodyPost_ret (results_ct rfl _ _ gb171 156 #[.int .i64 0, .int .i64 0, .int .i64 0, .int .i64 0] (0, 0) _ rfl xB Tryz.underlying156 rfl (by kernel_rfl)) rfl ?_
 exact ⟨y0_8, UpW.out⟩
def spec_TxsOf.l0 : Nat → List (S156) → List ByteArray → Int → Option ((List (S156)) × Bool)
 | 0, _, _, _ => none
 | k + 1, x4, x5, x6 => if x6 < (x5.length : Int) then (if 0 ≤ x6 then ((spec_TxOf.f k (rdOf ByteArray.empty x5 x6)).bind fun bt198 => (if bt198.2.2.2.2 = true then (if x4.length < 4398046511104 then (spec_TxsOf.l0 k (x4 ++ [(⟨bt198.1, bt198.2.1, bt198.2.2.1, bt198.2.2.2.1⟩ : S156)]) x5 (wrap64 (x6 + 1))) else (none)) else (some ((([] : List (S156))), false)))) else (none)) else (some (x4, true))
def spec_TxsOf.f (k : Nat) (a0 : ByteArray) : Option ((List (S156)) × Bool) := (some (([] : List (S156)) : List (S156))).bind fun y191 => (if a0.toList = ([] : List UInt8) then (some (y191, true)) else ((spec_Split.f k a0 44).bind fun t194 => (spec_TxsOf.l0 k y191 t194 0)))
theorem spec_TxsOf.mono_l : ∀ k, (∀ y0 y1 y2, LeO (spec_TxsOf.l0 k y0 y1 y2) (spec_TxsOf.l0 (k + 1) y0 y1 y2))
 | 0 => fun _ _ _ r h => by simp [spec_TxsOf.l0] at h
 | k + 1 => by
  have ih0 := spec_TxsOf.mono_l k
  intro y0 y1 y2
  unfold spec_TxsOf.l0
  repeat' first | (with_reducible exact ih0 _ _ _) | (with_reducible exact spec_Split.mono _ _ _) | (with_reducible exact spec_TxOf.mono _ _) | (with_reducible exact LeO.refl _) | (with_reducible exact LeO.none _) | (with_reducible refine LeO.ite ?_ ?_) | (with_reducible refine LeO.bind ?_ (fun _ => ?_))
theorem spec_TxsOf.mono : ∀ a0 k, LeO (spec_TxsOf.f k a0) (spec_TxsOf.f (k + 1) a0) := by
 intro a0 k
 have ih0 := spec_TxsOf.mono_l k
 unfold spec_TxsOf.f
 repeat' first | (with_reducible exact ih0 _ _ _) | (with_reducible exact spec_Split.mono _ _ _) | (with_reducible exact spec_TxOf.mono _ _) | (with_reducible exact LeO.refl _) | (with_reducible exact LeO.none _) | (with_reducible refine LeO.ite ?_ ?_) | (with_reducible refine LeO.bind ?_ (fun _ => ?_))
theorem spec_TxsOf.calls (k : Nat) (a0 : ByteArray) (r1 : List (S156)) (r2 : Bool) (w : World) (h : spec_TxsOf.f k a0 = some (r1, r2)) :
  Calls Tryz.prog 181 #[.string a0] w fun e w' => ∃ v0_ : Value, e = .returned (.tuple #[v0_, .bool r2]) ∧ Kd.R k156 156 w' w.heap.size (fun _ => True) v0_ r1 ∧ Below w.heap.size w w' := by
 have hu156 := Tryz.underlying156; have HB := Aside0.mk (Below.refl w.heap.size w)
 have H := h; unfold spec_TxsOf.f at H
 clear h; obtain ⟨y191, hy191⟩ : ∃ y_ : List (S156), y_ = (([] : List (S156))) := ⟨_, rfl⟩
 replace H : (if a0.toList = ([] : List UInt8) then (some (y191, true)) else ((spec_Split.f k a0 44).bind fun t194 => (spec_TxsOf.l0 k y191 t194 0))) = some (r1, r2) := by first | (rw [hy191]; with_reducible exact H) | (rw [hy191]; with_reducible exact (Option.bind_some _ _).symm.trans H) | (rw [hy191]; exact H) | exact H
 have Ny191 := Aside0.mk hy191; clear hy191
 go_enter Tryz.func181, Tryz.ntmps181
 have H' := Aside0.mk H; clear H
 go_upto_if 11 with (first | ((with_reducible refine gate_dst (N := 9) rfl ?_); refine lE 9 156 k156 Ny191 ?_; intro Ao192 co192 w2 _ HO193))
 have H := H'.out; clear H'
 by_cases c3 : a0.toList = ([] : List UInt8)
 ·
  rw [if_pos c3] at H
  have c3b0 : (a0.toList == ([] : List UInt8)) = true := beq_iff_eq.mpr c3; have c3b1 : (a0.toList != ([] : List UInt8)) = false := bne_eq_false_iff_eq.mpr c3; clear c3
  (first | rw [c3b0] | (simp only [i64_w, i32_w]; rw [c3b0]) | rw [show List.isEmpty (a0.toList) = true from by simpa using c3b0] | skip)
  simp only [Option.some.injEq, Prod.mk.injEq] at H
  obtain ⟨rfl, rfl⟩ := H
  go_wp2
  go_ret2
  exact ⟨_, y0_8, rR HO193, UpW.out⟩
 rw [if_neg c3] at H
 have c3b0 : (a0.toList == ([] : List UInt8)) = false := beq_eq_false_iff_ne.mpr c3; have c3b1 : (a0.toList != ([] : List UInt8)) = true := bne_iff_ne.mpr c3
 (first | rw [c3b0] | (simp only [i64_w, i32_w]; rw [c3b0]) | rw [show List.isEmpty (a0.toList) = false from by simpa using c3b0] | skip)
 obtain ⟨t194, A4, H⟩ := oB H; (try dsimp only at H); have H' := Aside0.mk H; clear H
 go_wp2_with (first | ((with_reducible refine gate_callee (f := 178) rfl ?_); refine gC1 (some 14) Tryz.func178 (spec_Split.calls (w := _) (h := A4.out)) ?_; intro Ao195 co195 w5 _ HO196))
 refine wC ?_; intro w6 _
 go_loopg [4, 6] k (fun kq v4 v6 w' => ∃ (x4_1 : List (S156)) (x6_1 : Int) (Ao4_1 : Option Addr) (co4_1 : Nat), v4 = .slice Ao4_1 x4_1.length co4_1 ∧ v6 = .int .i64 x6_1 ∧ Aside0 (spec_TxsOf.l0 kq x4_1 t194 x6_1 = some (r1, r2)) ∧ Aside0 (kq ≤ k) ∧ Aside0 (Kd.R k156 156 w' w.heap.size (iv w w') (.slice Ao4_1 x4_1.length co4_1) x4_1) ∧ KT w6 [] w _ k156 156 w' ∧ LB w w')
 case atStart => exact ⟨(y191), (0), (Ao192), (co192), y0_8, y0_8, H', ⟨Nat.le_refl _⟩, ⟨rJ HO193⟩, ⟨UpT.out⟩, ⟨UpW.out⟩⟩
 case round =>
  clear H'; obtain ⟨x4_1, x6_1, Ao4_1, co4_1, rfl, rfl, HA, HK1, HO_4, _, _⟩ := hrel; have HO_9 := HO193; have HO_14 := HO196; have HO_5 := HO196; cases gk with
  | zero => exact absurd HA.out (by simp [spec_TxsOf.l0])
  | succ k1 =>
   have H := HA.out; clear HA
   simp only [spec_TxsOf.l0] at H
   have H' := Aside0.mk H; clear H
   go_upto_if 18 with fail
   have H := H'.out; clear H'
   by_cases c7 : x6_1 < (t194.length : Int)
   ·
    rw [if_pos c7] at H
    have c7b0 : decide (x6_1 < (t194.length : Int)) = true := decide_eq_true c7; clear c7
    (first | rw [c7b0] | (simp only [i64_w, i32_w]; rw [c7b0]) | skip)
    by_cases c8 : 0 ≤ x6_1
    rotate_left
    ·
     rw [if_neg c8] at H
     exact absurd H (by simp)
    rw [if_pos c8] at H
    have c8b0 : decide (0 ≤ x6_1) = true := decide_eq_true c8; clear c8; obtain ⟨⟨t198, t199, t200, t201, t202⟩, A9, H⟩ := oB H; (try dsimp only at H); have H' := Aside0.mk H; clear H; have p197 : 0 ≤ (x6_1 : Int) := of_decide_eq_true y0_7; have q197 : x6_1 < (t194.length : Int) := of_decide_eq_true y0_7; obtain ⟨ad197, e197, hx197_0⟩ := Kd.at_string (rC (W := w5) HO_5) x6_1 p197 q197; cases e197; clear hx197_0
    have hx197_0 : ∀ W_, UpR Kd.string 9 w5 W_ → W_.cell? (ad197.add (x6_1 : Int).toNat) = some (.string (rdOf ByteArray.empty t194 x6_1)) := fun W_ u_ => (by obtain ⟨ad_, e_, h0_⟩ := Kd.at_string (rC (W := W_) HO_5) x6_1 p197 q197; cases e_; exact h0_)
    have i197_0_ := RdR.mk hx197_0; clear hx197_0; replace p197 := eq_true p197; replace q197 := eq_true q197
    go_upto_if 30 with (first | ((with_reducible refine gate_callee (f := 199) rfl ?_); refine gC (some 26) Tryz.func199 (spec_TxOf.calls (w := _) (h := A9.out)) ?_; intro w10 _) | ((with_reducible refine gd 7 ?_); refine bL 7 #[.int .i64 0, .int .i64 0, .int .i64 0, .int .i64 0] 156 ?_; intro gb203 w11 _ _ _))
    have H := H'.out; clear H'
    by_cases c12 : t202 = true
    ·
     subst c12
     rw [if_pos rfl] at H
     by_cases c13 : x4_1.length < 4398046511104
     rotate_left
     ·
      rw [if_neg c13] at H
      exact absurd H (by simp)
     rw [if_pos c13] at H
     have LMc13 := Aside0.mk c13; clear c13; obtain ⟨y204, hy204⟩ : ∃ y_ : List (S156), y_ = (x4_1 ++ [(⟨t198, t199, t200, t201⟩ : S156)]) := ⟨_, rfl⟩
     replace H : (spec_TxsOf.l0 k1 y204 t194 (wrap64 (x6_1 + 1))) = some (r1, r2) := by first | (rw [hy204]; with_reducible exact H) | (rw [hy204]; with_reducible exact (Option.bind_some _ _).symm.trans H) | (rw [hy204]; exact H) | exact H
     have Ny204 := Aside0.mk hy204; clear hy204; have H' := Aside0.mk H; clear H
     go_wp2_with (first | ((with_reducible refine gate_builtin (b := .append) (xs := #[.tmp 32, .tmp 34]) rfl ?_); at_builtin; refine gA k156 (.tmp 32) (.tmp 34) 154 156 (.agg #[(.int .i64 0), (.int .i64 0), (.int .i64 0), (.int .i64 0)]) 32 (⟨t198, t199, t200, t201⟩ : S156) [.int .i64 t198, .int .i64 t199, .int .i64 t200, .int .i64 t201] w Ny204 HO_4 (k156_mkM _ _ _ (⟨t198, t199, t200, t201⟩ : S156)) (by have := LMc13.out; omega) ?_ (ht := Tryz.underlying154) (hinfo := info156); intro Ao205 co205 w14 _ _ HO206))
     go_roundg k1
     case measure => have := HK1.out; omega
     case rel => exact ⟨(y204), (wrap64 (x6_1 + 1)), (Ao205), (co205), y0_8, y0_8, H', ⟨y0_11⟩, ⟨rJ HO206⟩, ⟨UpT.out⟩, ⟨UpW.out⟩⟩
    replace c12 := Bool.eq_false_iff.mpr c12; subst c12
    rw [if_neg Bool.false_ne_true] at H
    obtain ⟨y207, hy207⟩ : ∃ y_ : List (S156), y_ = (([] : List (S156))) := ⟨_, rfl⟩
    replace H : (some (y207, false)) = some (r1, r2) := by first | (rw [hy207]; with_reducible exact H) | (rw [hy207]; with_reducible exact (Option.bind_some _ _).symm.trans H) | (rw [hy207]; exact H) | exact H
    have Ny207 := Aside0.mk hy207; clear hy207
    simp only [Option.some.injEq, Prod.mk.injEq] at H
    obtain ⟨rfl, rfl⟩ := H
    go_wp2_with (first | ((with_reducible refine gate_dst (N := 31) rfl ?_); refine lE 31 156 k156 Ny207 ?_; intro Ao208 co208 w15 _ HO209))
    go_ret2
    exact ⟨_, y0_8, rR HO209, UpW.out⟩
   rw [if_neg c7] at H
   have c7b0 : decide (x6_1 < (t194.length : Int)) = false := decide_eq_false c7; clear c7
   (first | rw [c7b0] | (simp only [i64_w, i32_w]; rw [c7b0]) | skip)
   simp only [Option.some.injEq, Prod.mk.injEq] at H
   obtain ⟨rfl, rfl⟩ := H
   go_wp2
   go_ret2
   exact ⟨_, y0_8, rR HO_4, UpW.out⟩
end Go.Proofs.YtdmjhgogljhfkaaGreatDoor.PFnNotes
