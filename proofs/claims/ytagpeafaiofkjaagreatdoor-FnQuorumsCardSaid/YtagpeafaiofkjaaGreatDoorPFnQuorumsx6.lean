-- By a program of this session, out of the translation (the print of the kit, with turns of its own). Lean checks it.
import Derived.Test.YtagpeafaiofkjaaGreatDoorPFnQuorumsx0
import Derived.Test.YtagpeafaiofkjaaGreatDoorPFnQuorumsx2
import Derived.Test.YtagpeafaiofkjaaGreatDoorPFnQuorumsx3
import Derived.Test.YtagpeafaiofkjaaGreatDoorPFnQuorumsx5
namespace Go.Proofs.YtagpeafaiofkjaaGreatDoor.PFnQuorums
open Go.RowKit Go.Proofs.YtagpeafaiofkjaaGreatDoorW.PrintWords Go.Proofs.YtagpeafaiofkjaaGreatDoorW.PrintLast Go.Proofs.YtagpeafaiofkjaaGreatDoorW.PrintMore
attribute [local go_sem] max2_int min2_int max_two min_two max_three min_three max_four min_four   -- for this text's walks alone
attribute [local go_sem] cell_in frozen_in
set_option synthInstance.maxSize 1000000
set_option synthInstance.maxHeartbeats 2000000
set_option linter.unusedVariables false
set_option linter.unusedSimpArgs false

/-! ### spec_TxsText: function 65 -/
def spec_TxsText.l0 : Nat → List (S68) → ByteArray → Int → Option (ByteArray)
 | 0, _, _, _ => none
 | k + 1, x0, x3, x4 => if x4 < (x0.length : Int) then (if 0 ≤ x4 then ((spec_TxOk.f ((rd_T68 x0 x4).f0) ((rd_T68 x0 x4).f1) ((rd_T68 x0 x4).f2) ((rd_T68 x0 x4).f3)).bind fun t279 => (if t279 = true then (if x4 > 0 then (if x3.size + 1 ≤ 9223372036854775807 then ((spec_TxText.f k ((rd_T68 x0 x4).f0) ((rd_T68 x0 x4).f1) ((rd_T68 x0 x4).f2) ((rd_T68 x0 x4).f3)).bind fun t281 => (if (x3 ++ (⟨#[44]⟩ : ByteArray)).size + t281.size ≤ 9223372036854775807 then (spec_TxsText.l0 k x0 ((x3 ++ (⟨#[44]⟩ : ByteArray)) ++ t281) (wrap64 (x4 + 1))) else (none))) else (none)) else ((spec_TxText.f k ((rd_T68 x0 x4).f0) ((rd_T68 x0 x4).f1) ((rd_T68 x0 x4).f2) ((rd_T68 x0 x4).f3)).bind fun t283 => (if x3.size + t283.size ≤ 9223372036854775807 then (spec_TxsText.l0 k x0 (x3 ++ t283) (wrap64 (x4 + 1))) else (none)))) else (some (⟨#[]⟩ : ByteArray)))) else (none)) else (some x3)
def spec_TxsText.f (k : Nat) (l0 : List (S68)) : Option (ByteArray) := spec_TxsText.l0 k l0 (⟨#[]⟩ : ByteArray) 0
theorem spec_TxsText.mono_l : ∀ k, (∀ y0 y1 y2, LeO (spec_TxsText.l0 k y0 y1 y2) (spec_TxsText.l0 (k + 1) y0 y1 y2))
 | 0 => fun _ _ _ r h => by simp [spec_TxsText.l0] at h
 | k + 1 => by
  have ih0 := spec_TxsText.mono_l k
  intro y0 y1 y2
  unfold spec_TxsText.l0
  repeat' first | (with_reducible exact ih0 _ _ _) | (with_reducible exact spec_TxText.mono _ _ _ _ _) | (with_reducible exact LeO.refl _) | (with_reducible exact LeO.none _) | (with_reducible refine LeO.ite ?_ ?_) | (with_reducible refine LeO.bind ?_ (fun _ => ?_))
theorem spec_TxsText.mono : ∀ a0 k, LeO (spec_TxsText.f k a0) (spec_TxsText.f (k + 1) a0) := by
 intro a0 k
 have ih0 := spec_TxsText.mono_l k
 unfold spec_TxsText.f
 repeat' first | (with_reducible exact ih0 _ _ _) | (with_reducible exact spec_TxText.mono _ _ _ _ _) | (with_reducible exact LeO.refl _) | (with_reducible exact LeO.none _) | (with_reducible refine LeO.ite ?_ ?_) | (with_reducible refine LeO.bind ?_ (fun _ => ?_))
set_option maxHeartbeats 8000000 in
set_option maxRecDepth 100000 in
theorem spec_TxsText.calls (k : Nat) (A0 : Option Addr) (c0 : Nat) (l0 : List (S68)) (r : ByteArray) (w : World) (hr0 : Kd.C k68 w A0 l0.length l0) (hc0 : l0.length ≤ c0) (h : spec_TxsText.f k l0 = some r) :
  Calls Tryz.prog 65 #[.slice A0 l0.length c0] w fun e w' => e = .returned (.string r) ∧ Below w.heap.size w w' := by
 have hu68 := Tryz.underlying68; have HR0 := Aside0.mk hr0; have HC0 := Aside0.mk hc0; clear hr0 hc0; have HB := Aside0.mk (Below.refl w.heap.size w); have H := h; unfold spec_TxsText.f at H; clear h; have H' := Aside0.mk H; clear H
 go_enter Tryz.func65, Tryz.ntmps65
 go_wp2
 go_loopg [3, 4] k (fun kq v3 v4 w' => ∃ (x3_1 : ByteArray) (x4_1 : Int), v3 = .string x3_1 ∧ v4 = .int .i64 x4_1 ∧ Aside0 (spec_TxsText.l0 kq l0 x3_1 x4_1 = some r) ∧ Aside0 (kq ≤ k) ∧ Aside0 (Below w.heap.size w w'))
 case atStart => exact ⟨((⟨#[]⟩ : ByteArray)), (0), y0_15, y0_15, H', ⟨Nat.le_refl _⟩, ⟨bI HB.out⟩⟩
 case round =>
  clear H'; obtain ⟨x3_1, x4_1, rfl, rfl, HA, HK1, HB⟩ := hrel; cases gk with
  | zero => exact absurd HA.out (by simp [spec_TxsText.l0])
  | succ k1 =>
   have H := HA.out; clear HA
   simp only [spec_TxsText.l0] at H
   by_cases c2 : x4_1 < (l0.length : Int)
   ·
    rw [if_pos c2] at H
    have c2b0 : decide (x4_1 < (l0.length : Int)) = true := decide_eq_true c2; clear c2
    by_cases c3 : 0 ≤ x4_1
    rotate_left
    ·
     rw [if_neg c3] at H
     exact absurd H (by simp)
    rw [if_pos c3] at H
    have c3b0 : decide (0 ≤ x4_1) = true := decide_eq_true c3; clear c3; obtain ⟨t279, A4, H⟩ := oB H; (try dsimp only at H)
    by_cases c5 : t279 = true
    ·
     subst c5
     rw [if_pos rfl] at H
     by_cases c6 : x4_1 > 0
     ·
      rw [if_pos c6] at H
      have c6b0 : decide (0 < x4_1) = true := decide_eq_true c6; clear c6
      by_cases c7 : x3_1.size + 1 ≤ 9223372036854775807
      rotate_left
      ·
       rw [if_neg c7] at H
       exact absurd H (by simp)
      rw [if_pos c7] at H
      have c7b0 := eq_true c7; have c7b1 : decide (x3_1.size + 1 ≤ 9223372036854775807) = true := decide_eq_true c7
      try have c7b2 : (9223372036854775807 < x3_1.size + 1) = False := eq_false (Nat.not_lt.2 c7)
      obtain ⟨t281, A8, H⟩ := oB H; (try dsimp only at H)
      by_cases c9 : (x3_1 ++ (⟨#[44]⟩ : ByteArray)).size + t281.size ≤ 9223372036854775807
      rotate_left
      ·
       rw [if_neg c9] at H
       exact absurd H (by simp)
      rw [if_pos c9] at H
      have c9b0 := eq_true c9; have c9b1 : decide ((x3_1 ++ (⟨#[44]⟩ : ByteArray)).size + t281.size ≤ 9223372036854775807) = true := decide_eq_true c9
      try have c9b2 : (9223372036854775807 < (x3_1 ++ (⟨#[44]⟩ : ByteArray)).size + t281.size) = False := eq_false (Nat.not_lt.2 c9)
      (try have c9b3 : (9223372036854775807 < x3_1.size + 1 + t281.size) = False := eq_false (by have h_ := c9; simp only [ByteArray.size_append, ByteArray.size_extract, show (⟨#[44]⟩ : ByteArray).size = 1 from rfl] at h_; omega))
      have H' := Aside0.mk H; clear H; have p278 : 0 ≤ (x4_1 : Int) := of_decide_eq_true y0_14; have q278 : x4_1 < (l0.length : Int) := of_decide_eq_true y0_14; obtain ⟨ad278, e278, hx278_0, hx278_1, hx278_2, hx278_3⟩ := at_T68 HR0.out x4_1 p278 q278; cases e278; replace hx278_0 := bx HB hx278_0; replace hx278_1 := bx HB hx278_1; replace hx278_2 := bx HB hx278_2; replace hx278_3 := bx HB hx278_3; replace p278 := eq_true p278; replace q278 := eq_true q278
      go_wp2_with (first | ((with_reducible refine gate_callee (f := 64) rfl ?_); refine gB (some 15) Tryz.func64 #[.agg #[.int .i64 ((rd_T68 l0 x4_1).f0), .int .i64 ((rd_T68 l0 x4_1).f1), .int .i64 ((rd_T68 l0 x4_1).f2), .int .i64 ((rd_T68 l0 x4_1).f3)]] ?_; (with_reducible refine (spec_TxOk.calls ((rd_T68 l0 x4_1).f0) ((rd_T68 l0 x4_1).f1) ((rd_T68 l0 x4_1).f2) ((rd_T68 l0 x4_1).f3) true _ A4.out).mono ?_); rintro e w10 ⟨rfl, hb⟩; refine ⟨_, rfl, ?_⟩; replace HB := bs HB hb; (try clear hb); (try clear hb2); (try clear hk); (try clear hi); have p280 : 0 ≤ (x4_1 : Int) := of_decide_eq_true y0_14; have q280 : x4_1 < (l0.length : Int) := of_decide_eq_true y0_14; obtain ⟨ad280, e280, hx280_0, hx280_1, hx280_2, hx280_3⟩ := at_T68 HR0.out x4_1 p280 q280; obtain rfl : ad278 = ad280 := (by injection e280); replace hx280_0 := bx HB hx280_0; replace hx280_1 := bx HB hx280_1; replace hx280_2 := bx HB hx280_2; replace hx280_3 := bx HB hx280_3; replace p280 := eq_true p280; replace q280 := eq_true q280) | ((with_reducible refine gate_callee (f := 73) rfl ?_); refine gB (some 26) Tryz.func73 #[.agg #[.int .i64 ((rd_T68 l0 x4_1).f0), .int .i64 ((rd_T68 l0 x4_1).f1), .int .i64 ((rd_T68 l0 x4_1).f2), .int .i64 ((rd_T68 l0 x4_1).f3)]] ?_; (with_reducible refine (spec_TxText.calls k1 ((rd_T68 l0 x4_1).f0) ((rd_T68 l0 x4_1).f1) ((rd_T68 l0 x4_1).f2) ((rd_T68 l0 x4_1).f3) t281 _ A8.out).mono ?_); rintro e w11 ⟨rfl, hb⟩; refine ⟨_, rfl, ?_⟩; replace HB := bs HB hb; (try clear hb); (try clear hb2); (try clear hk); (try clear hi)))
      go_roundg k1
      case measure => have := HK1.out; omega
      case rel => exact ⟨((x3_1 ++ (⟨#[44]⟩ : ByteArray)) ++ t281), (wrap64 (x4_1 + 1)), y0_15, y0_15, H', ⟨y0_17⟩, ⟨bI HB.out⟩⟩
     rw [if_neg c6] at H
     have c6b0 : decide (0 < x4_1) = false := decide_eq_false c6; clear c6; obtain ⟨t283, A12, H⟩ := oB H; (try dsimp only at H)
     by_cases c13 : x3_1.size + t283.size ≤ 9223372036854775807
     rotate_left
     ·
      rw [if_neg c13] at H
      exact absurd H (by simp)
     rw [if_pos c13] at H
     have c13b0 := eq_true c13; have c13b1 : decide (x3_1.size + t283.size ≤ 9223372036854775807) = true := decide_eq_true c13
     try have c13b2 : (9223372036854775807 < x3_1.size + t283.size) = False := eq_false (Nat.not_lt.2 c13)
     have H' := Aside0.mk H; clear H; have p278 : 0 ≤ (x4_1 : Int) := of_decide_eq_true y0_14; have q278 : x4_1 < (l0.length : Int) := of_decide_eq_true y0_14; obtain ⟨ad278, e278, hx278_0, hx278_1, hx278_2, hx278_3⟩ := at_T68 HR0.out x4_1 p278 q278; cases e278; replace hx278_0 := bx HB hx278_0; replace hx278_1 := bx HB hx278_1; replace hx278_2 := bx HB hx278_2; replace hx278_3 := bx HB hx278_3; replace p278 := eq_true p278; replace q278 := eq_true q278
     go_wp2_with (first | ((with_reducible refine gate_callee (f := 64) rfl ?_); refine gB (some 15) Tryz.func64 #[.agg #[.int .i64 ((rd_T68 l0 x4_1).f0), .int .i64 ((rd_T68 l0 x4_1).f1), .int .i64 ((rd_T68 l0 x4_1).f2), .int .i64 ((rd_T68 l0 x4_1).f3)]] ?_; (with_reducible refine (spec_TxOk.calls ((rd_T68 l0 x4_1).f0) ((rd_T68 l0 x4_1).f1) ((rd_T68 l0 x4_1).f2) ((rd_T68 l0 x4_1).f3) true _ A4.out).mono ?_); rintro e w14 ⟨rfl, hb⟩; refine ⟨_, rfl, ?_⟩; replace HB := bs HB hb; (try clear hb); (try clear hb2); (try clear hk); (try clear hi); have p282 : 0 ≤ (x4_1 : Int) := of_decide_eq_true y0_14; have q282 : x4_1 < (l0.length : Int) := of_decide_eq_true y0_14; obtain ⟨ad282, e282, hx282_0, hx282_1, hx282_2, hx282_3⟩ := at_T68 HR0.out x4_1 p282 q282; obtain rfl : ad278 = ad282 := (by injection e282); replace hx282_0 := bx HB hx282_0; replace hx282_1 := bx HB hx282_1; replace hx282_2 := bx HB hx282_2; replace hx282_3 := bx HB hx282_3; replace p282 := eq_true p282; replace q282 := eq_true q282) | ((with_reducible refine gate_callee (f := 73) rfl ?_); refine gB (some 26) Tryz.func73 #[.agg #[.int .i64 ((rd_T68 l0 x4_1).f0), .int .i64 ((rd_T68 l0 x4_1).f1), .int .i64 ((rd_T68 l0 x4_1).f2), .int .i64 ((rd_T68 l0 x4_1).f3)]] ?_; (with_reducible refine (spec_TxText.calls k1 ((rd_T68 l0 x4_1).f0) ((rd_T68 l0 x4_1).f1) ((rd_T68 l0 x4_1).f2) ((rd_T68 l0 x4_1).f3) t283 _ A12.out).mono ?_); rintro e w15 ⟨rfl, hb⟩; refine ⟨_, rfl, ?_⟩; replace HB := bs HB hb; (try clear hb); (try clear hb2); (try clear hk); (try clear hi)))
     go_roundg k1
     case measure => have := HK1.out; omega
     case rel => exact ⟨(x3_1 ++ t283), (wrap64 (x4_1 + 1)), y0_15, y0_15, H', ⟨y0_17⟩, ⟨bI HB.out⟩⟩
    replace c5 := Bool.eq_false_iff.mpr c5; subst c5
    rw [if_neg (show ¬ (false = true) by decide)] at H
    obtain rfl := Option.some.inj H; have p278 : 0 ≤ (x4_1 : Int) := of_decide_eq_true y0_14; have q278 : x4_1 < (l0.length : Int) := of_decide_eq_true y0_14; obtain ⟨ad278, e278, hx278_0, hx278_1, hx278_2, hx278_3⟩ := at_T68 HR0.out x4_1 p278 q278; cases e278; replace hx278_0 := bx HB hx278_0; replace hx278_1 := bx HB hx278_1; replace hx278_2 := bx HB hx278_2; replace hx278_3 := bx HB hx278_3; replace p278 := eq_true p278; replace q278 := eq_true q278
    go_wp2_with (first | ((with_reducible refine gate_callee (f := 64) rfl ?_); refine gB (some 15) Tryz.func64 #[.agg #[.int .i64 ((rd_T68 l0 x4_1).f0), .int .i64 ((rd_T68 l0 x4_1).f1), .int .i64 ((rd_T68 l0 x4_1).f2), .int .i64 ((rd_T68 l0 x4_1).f3)]] ?_; (with_reducible refine (spec_TxOk.calls ((rd_T68 l0 x4_1).f0) ((rd_T68 l0 x4_1).f1) ((rd_T68 l0 x4_1).f2) ((rd_T68 l0 x4_1).f3) false _ A4.out).mono ?_); rintro e w16 ⟨rfl, hb⟩; refine ⟨_, rfl, ?_⟩; replace HB := bs HB hb; (try clear hb); (try clear hb2); (try clear hk); (try clear hi)))
    go_ret
    exact ⟨y0_11, bI HB.out⟩
   rw [if_neg c2] at H
   have c2b0 : decide (x4_1 < (l0.length : Int)) = false := decide_eq_false c2; clear c2; obtain rfl := Option.some.inj H
   go_wp2
   go_ret
   exact ⟨y0_11, bI HB.out⟩

/-! ### spec_NameOf: function 51 -/
def spec_NameOf.l0 : Nat → ByteArray → Int → List (S68) → Int → Option (ByteArray)
 | 0, _, _, _, _ => none
 | k + 1, x0, x1, x2, x7 => if x7 < (x2.length : Int) then (if 0 ≤ x7 then ((spec_TxOk.f ((rd_T68 x2 x7).f0) ((rd_T68 x2 x7).f1) ((rd_T68 x2 x7).f2) ((rd_T68 x2 x7).f3)).bind fun t285 => (if t285 = true then (spec_NameOf.l0 k x0 x1 x2 (wrap64 (x7 + 1))) else (some (⟨#[]⟩ : ByteArray)))) else (none)) else (if x0.size + 1 ≤ 9223372036854775807 then ((spec_Digits.f k x1).bind fun t286 => (if (x0 ++ (⟨#[47]⟩ : ByteArray)).size + t286.size ≤ 9223372036854775807 then (if ((x0 ++ (⟨#[47]⟩ : ByteArray)) ++ t286).size + 1 ≤ 9223372036854775807 then ((spec_TxsText.f k x2).bind fun t287 => (if (((x0 ++ (⟨#[47]⟩ : ByteArray)) ++ t286) ++ (⟨#[124]⟩ : ByteArray)).size + t287.size ≤ 9223372036854775807 then ((spec_NameOk.f k ((((x0 ++ (⟨#[47]⟩ : ByteArray)) ++ t286) ++ (⟨#[124]⟩ : ByteArray)) ++ t287)).bind fun t288 => (if t288 = true then (some ((((x0 ++ (⟨#[47]⟩ : ByteArray)) ++ t286) ++ (⟨#[124]⟩ : ByteArray)) ++ t287)) else (some (⟨#[]⟩ : ByteArray)))) else (none))) else (none)) else (none))) else (none))
def spec_NameOf.f (k : Nat) (a0 : ByteArray) (a1 : Int) (l2 : List (S68)) : Option (ByteArray) := spec_NameOf.l0 k a0 a1 l2 0
theorem spec_NameOf.mono_l : ∀ k, (∀ y0 y1 y2 y3, LeO (spec_NameOf.l0 k y0 y1 y2 y3) (spec_NameOf.l0 (k + 1) y0 y1 y2 y3))
 | 0 => fun _ _ _ _ r h => by simp [spec_NameOf.l0] at h
 | k + 1 => by
  have ih0 := spec_NameOf.mono_l k
  intro y0 y1 y2 y3
  unfold spec_NameOf.l0
  repeat' first | (with_reducible exact ih0 _ _ _ _) | (with_reducible exact spec_Digits.mono _ _) | (with_reducible exact spec_NameOk.mono _ _) | (with_reducible exact spec_TxsText.mono _ _) | (with_reducible exact LeO.refl _) | (with_reducible exact LeO.none _) | (with_reducible refine LeO.ite ?_ ?_) | (with_reducible refine LeO.bind ?_ (fun _ => ?_))
theorem spec_NameOf.mono : ∀ a0 a1 a2 k, LeO (spec_NameOf.f k a0 a1 a2) (spec_NameOf.f (k + 1) a0 a1 a2) := by
 intro a0 a1 a2 k
 have ih0 := spec_NameOf.mono_l k
 unfold spec_NameOf.f
 repeat' first | (with_reducible exact ih0 _ _ _ _) | (with_reducible exact spec_Digits.mono _ _) | (with_reducible exact spec_NameOk.mono _ _) | (with_reducible exact spec_TxsText.mono _ _) | (with_reducible exact LeO.refl _) | (with_reducible exact LeO.none _) | (with_reducible refine LeO.ite ?_ ?_) | (with_reducible refine LeO.bind ?_ (fun _ => ?_))
set_option maxHeartbeats 8000000 in
set_option maxRecDepth 100000 in
theorem spec_NameOf.calls (k : Nat) (a0 : ByteArray) (a1 : Int) (A2 : Option Addr) (c2 : Nat) (l2 : List (S68)) (r : ByteArray) (w : World) (hr2 : Kd.C k68 w A2 l2.length l2) (hc2 : l2.length ≤ c2) (h : spec_NameOf.f k a0 a1 l2 = some r) :
  Calls Tryz.prog 51 #[.string a0, .int .i64 a1, .slice A2 l2.length c2] w fun e w' => e = .returned (.string r) ∧ Below w.heap.size w w' := by
 have hu68 := Tryz.underlying68; have HR2 := Aside0.mk hr2; have HC2 := Aside0.mk hc2; clear hr2 hc2; have HB := Aside0.mk (Below.refl w.heap.size w); have H := h; unfold spec_NameOf.f at H; clear h; have H' := Aside0.mk H; clear H
 go_enter Tryz.func51, Tryz.ntmps51
 go_wp2
 go_loopg [7] k (fun kq v7 w' => ∃ (x7_1 : Int), v7 = .int .i64 x7_1 ∧ Aside0 (spec_NameOf.l0 kq a0 a1 l2 x7_1 = some r) ∧ Aside0 (kq ≤ k) ∧ Aside0 (Below w.heap.size w w'))
 case atStart => exact ⟨(0), y0_15, H', ⟨Nat.le_refl _⟩, ⟨bI HB.out⟩⟩
 case round =>
  clear H'
  try clear c2
  try clear p2
  obtain ⟨x7_1, rfl, HA, HK1, HB⟩ := hrel; cases gk with
  | zero => exact absurd HA.out (by simp [spec_NameOf.l0])
  | succ k1 =>
   have H := HA.out; clear HA
   simp only [spec_NameOf.l0] at H
   by_cases c4 : x7_1 < (l2.length : Int)
   ·
    rw [if_pos c4] at H
    have c4b0 : decide (x7_1 < (l2.length : Int)) = true := decide_eq_true c4; clear c4
    by_cases c5 : 0 ≤ x7_1
    rotate_left
    ·
     rw [if_neg c5] at H
     exact absurd H (by simp)
    rw [if_pos c5] at H
    have c5b0 : decide (0 ≤ x7_1) = true := decide_eq_true c5; clear c5; obtain ⟨t285, A6, H⟩ := oB H; (try dsimp only at H)
    by_cases c7 : t285 = true
    ·
     subst c7
     rw [if_pos rfl] at H
     have H' := Aside0.mk H; clear H; have p284 : 0 ≤ (x7_1 : Int) := of_decide_eq_true y0_14; have q284 : x7_1 < (l2.length : Int) := of_decide_eq_true y0_14; obtain ⟨ad284, e284, hx284_0, hx284_1, hx284_2, hx284_3⟩ := at_T68 HR2.out x7_1 p284 q284; cases e284; replace hx284_0 := bx HB hx284_0; replace hx284_1 := bx HB hx284_1; replace hx284_2 := bx HB hx284_2; replace hx284_3 := bx HB hx284_3; replace p284 := eq_true p284; replace q284 := eq_true q284
     go_wp2_with (first | ((with_reducible refine gate_callee (f := 64) rfl ?_); refine gB (some 19) Tryz.func64 #[.agg #[.int .i64 ((rd_T68 l2 x7_1).f0), .int .i64 ((rd_T68 l2 x7_1).f1), .int .i64 ((rd_T68 l2 x7_1).f2), .int .i64 ((rd_T68 l2 x7_1).f3)]] ?_; (with_reducible refine (spec_TxOk.calls ((rd_T68 l2 x7_1).f0) ((rd_T68 l2 x7_1).f1) ((rd_T68 l2 x7_1).f2) ((rd_T68 l2 x7_1).f3) true _ A6.out).mono ?_); rintro e w8 ⟨rfl, hb⟩; refine ⟨_, rfl, ?_⟩; replace HB := bs HB hb; (try clear hb); (try clear hb2); (try clear hk); (try clear hi)))
     go_roundg k1
     case measure => have := HK1.out; omega
     case rel => exact ⟨(wrap64 (x7_1 + 1)), y0_15, H', ⟨y0_17⟩, ⟨bI HB.out⟩⟩
    replace c7 := Bool.eq_false_iff.mpr c7; subst c7
    rw [if_neg (show ¬ (false = true) by decide)] at H
    obtain rfl := Option.some.inj H; have p284 : 0 ≤ (x7_1 : Int) := of_decide_eq_true y0_14; have q284 : x7_1 < (l2.length : Int) := of_decide_eq_true y0_14; obtain ⟨ad284, e284, hx284_0, hx284_1, hx284_2, hx284_3⟩ := at_T68 HR2.out x7_1 p284 q284; cases e284; replace hx284_0 := bx HB hx284_0; replace hx284_1 := bx HB hx284_1; replace hx284_2 := bx HB hx284_2; replace hx284_3 := bx HB hx284_3; replace p284 := eq_true p284; replace q284 := eq_true q284
    go_wp2_with (first | ((with_reducible refine gate_callee (f := 64) rfl ?_); refine gB (some 19) Tryz.func64 #[.agg #[.int .i64 ((rd_T68 l2 x7_1).f0), .int .i64 ((rd_T68 l2 x7_1).f1), .int .i64 ((rd_T68 l2 x7_1).f2), .int .i64 ((rd_T68 l2 x7_1).f3)]] ?_; (with_reducible refine (spec_TxOk.calls ((rd_T68 l2 x7_1).f0) ((rd_T68 l2 x7_1).f1) ((rd_T68 l2 x7_1).f2) ((rd_T68 l2 x7_1).f3) false _ A6.out).mono ?_); rintro e w9 ⟨rfl, hb⟩; refine ⟨_, rfl, ?_⟩; replace HB := bs HB hb; (try clear hb); (try clear hb2); (try clear hk); (try clear hi)))
    go_ret
    exact ⟨y0_11, bI HB.out⟩
   rw [if_neg c4] at H
   have c4b0 : decide (x7_1 < (l2.length : Int)) = false := decide_eq_false c4; clear c4
   by_cases c10 : a0.size + 1 ≤ 9223372036854775807
   ·
    rw [if_pos c10] at H
    have c10b0 := eq_true c10; have c10b1 : decide (a0.size + 1 ≤ 9223372036854775807) = true := decide_eq_true c10
    try have c10b2 : (9223372036854775807 < a0.size + 1) = False := eq_false (Nat.not_lt.2 c10)
    obtain ⟨t286, A11, H⟩ := oB H; (try dsimp only at H)
    by_cases c12 : (a0 ++ (⟨#[47]⟩ : ByteArray)).size + t286.size ≤ 9223372036854775807
    rotate_left
    ·
     rw [if_neg c12] at H
     exact absurd H (by simp)
    rw [if_pos c12] at H
    have c12b0 := eq_true c12; have c12b1 : decide ((a0 ++ (⟨#[47]⟩ : ByteArray)).size + t286.size ≤ 9223372036854775807) = true := decide_eq_true c12
    try have c12b2 : (9223372036854775807 < (a0 ++ (⟨#[47]⟩ : ByteArray)).size + t286.size) = False := eq_false (Nat.not_lt.2 c12)
    (try have c12b3 : (9223372036854775807 < a0.size + 1 + t286.size) = False := eq_false (by have h_ := c12; simp only [ByteArray.size_append, ByteArray.size_extract, show (⟨#[47]⟩ : ByteArray).size = 1 from rfl] at h_; omega))
    by_cases c13 : ((a0 ++ (⟨#[47]⟩ : ByteArray)) ++ t286).size + 1 ≤ 9223372036854775807
    rotate_left
    ·
     rw [if_neg c13] at H
     exact absurd H (by simp)
    rw [if_pos c13] at H
    have c13b0 := eq_true c13; have c13b1 : decide (((a0 ++ (⟨#[47]⟩ : ByteArray)) ++ t286).size + 1 ≤ 9223372036854775807) = true := decide_eq_true c13
    try have c13b2 : (9223372036854775807 < ((a0 ++ (⟨#[47]⟩ : ByteArray)) ++ t286).size + 1) = False := eq_false (Nat.not_lt.2 c13)
    (try have c13b3 : (9223372036854775807 < a0.size + 1 + t286.size + 1) = False := eq_false (by have h_ := c13; simp only [ByteArray.size_append, ByteArray.size_extract, show (⟨#[47]⟩ : ByteArray).size = 1 from rfl] at h_; omega))
    obtain ⟨t287, A14, H⟩ := oB H; (try dsimp only at H)
    by_cases c15 : (((a0 ++ (⟨#[47]⟩ : ByteArray)) ++ t286) ++ (⟨#[124]⟩ : ByteArray)).size + t287.size ≤ 9223372036854775807
    rotate_left
    ·
     rw [if_neg c15] at H
     exact absurd H (by simp)
    rw [if_pos c15] at H
    have c15b0 := eq_true c15; have c15b1 : decide ((((a0 ++ (⟨#[47]⟩ : ByteArray)) ++ t286) ++ (⟨#[124]⟩ : ByteArray)).size + t287.size ≤ 9223372036854775807) = true := decide_eq_true c15
    try have c15b2 : (9223372036854775807 < (((a0 ++ (⟨#[47]⟩ : ByteArray)) ++ t286) ++ (⟨#[124]⟩ : ByteArray)).size + t287.size) = False := eq_false (Nat.not_lt.2 c15)
    (try have c15b3 : (9223372036854775807 < a0.size + 1 + t286.size + 1 + t287.size) = False := eq_false (by have h_ := c15; simp only [ByteArray.size_append, ByteArray.size_extract, show (⟨#[124]⟩ : ByteArray).size = 1 from rfl, show (⟨#[47]⟩ : ByteArray).size = 1 from rfl] at h_; omega))
    obtain ⟨t288, A16, H⟩ := oB H; (try dsimp only at H)
    by_cases c17 : t288 = true
    ·
     subst c17
     rw [if_pos rfl] at H
     obtain rfl := Option.some.inj H
     go_wp2_with (first | ((with_reducible refine gate_callee (f := 53) rfl ?_); refine gB (some 24) Tryz.func53 #[.int .i64 a1] ?_; (with_reducible refine (spec_Digits.calls k1 a1 t286 _ A11.out).mono ?_); rintro e w18 ⟨rfl, hb⟩; refine ⟨_, rfl, ?_⟩; replace HB := bs HB hb; (try clear hb); (try clear hb2); (try clear hk); (try clear hi)) | ((with_reducible refine gate_callee (f := 65) rfl ?_); refine gB (some 28) Tryz.func65 #[.slice A2 l2.length c2] ?_; (with_reducible refine (spec_TxsText.calls k1 _ _ l2 t287 _ ?side1 ?side2 A14.out).mono ?_); (case side1 => exact ch HR2 HB); (case side2 => exact HC2.out); rintro e w19 ⟨rfl, hb⟩; refine ⟨_, rfl, ?_⟩; replace HB := bs HB hb; (try clear hb); (try clear hb2); (try clear hk); (try clear hi)) | ((with_reducible refine gate_callee (f := 29) rfl ?_); refine gB (some 31) Tryz.func29 #[.string ((((a0 ++ (⟨#[47]⟩ : ByteArray)) ++ t286) ++ (⟨#[124]⟩ : ByteArray)) ++ t287)] ?_; (with_reducible refine (spec_NameOk.calls k1 ((((a0 ++ (⟨#[47]⟩ : ByteArray)) ++ t286) ++ (⟨#[124]⟩ : ByteArray)) ++ t287) true _ A16.out).mono ?_); rintro e w20 ⟨rfl, hb⟩; refine ⟨_, rfl, ?_⟩; replace HB := bs HB hb; (try clear hb); (try clear hb2); (try clear hk); (try clear hi)))
     go_ret
     exact ⟨y0_11, bI HB.out⟩
    replace c17 := Bool.eq_false_iff.mpr c17; subst c17
    rw [if_neg (show ¬ (false = true) by decide)] at H
    obtain rfl := Option.some.inj H
    go_wp2_with (first | ((with_reducible refine gate_callee (f := 53) rfl ?_); refine gB (some 24) Tryz.func53 #[.int .i64 a1] ?_; (with_reducible refine (spec_Digits.calls k1 a1 t286 _ A11.out).mono ?_); rintro e w21 ⟨rfl, hb⟩; refine ⟨_, rfl, ?_⟩; replace HB := bs HB hb; (try clear hb); (try clear hb2); (try clear hk); (try clear hi)) | ((with_reducible refine gate_callee (f := 65) rfl ?_); refine gB (some 28) Tryz.func65 #[.slice A2 l2.length c2] ?_; (with_reducible refine (spec_TxsText.calls k1 _ _ l2 t287 _ ?side1 ?side2 A14.out).mono ?_); (case side1 => exact ch HR2 HB); (case side2 => exact HC2.out); rintro e w22 ⟨rfl, hb⟩; refine ⟨_, rfl, ?_⟩; replace HB := bs HB hb; (try clear hb); (try clear hb2); (try clear hk); (try clear hi)) | ((with_reducible refine gate_callee (f := 29) rfl ?_); refine gB (some 31) Tryz.func29 #[.string ((((a0 ++ (⟨#[47]⟩ : ByteArray)) ++ t286) ++ (⟨#[124]⟩ : ByteArray)) ++ t287)] ?_; (with_reducible refine (spec_NameOk.calls k1 ((((a0 ++ (⟨#[47]⟩ : ByteArray)) ++ t286) ++ (⟨#[124]⟩ : ByteArray)) ++ t287) false _ A16.out).mono ?_); rintro e w23 ⟨rfl, hb⟩; refine ⟨_, rfl, ?_⟩; replace HB := bs HB hb; (try clear hb); (try clear hb2); (try clear hk); (try clear hi)))
    go_ret
    exact ⟨y0_11, bI HB.out⟩
   rw [if_neg c10] at H
   exact absurd H (by simp)

/-! ### spec_l5DrawRight: function 41 -/
mutual
def spec_l5DrawRight.l0 : Nat → ByteArray → Int → Int → List Int → Int → Int → Option (ByteArray × Int × Int)
 | 0, _, _, _, _, _, _ => none
 | k + 1, x3, x4, x5, x1000, x1001, x1002 => (spec_l1Below.f x1000 x1001 x1002 6).bind fun bt289 => (if x5 < bt289.1 then ((spec_l1Below.f x1000 bt289.2.1 bt289.2.2 4).bind fun bt292 => (spec_l5DrawRight.l1 k x3 (wrap64 ((wrap64 (x4 + 1)) + (wrap64 (Int.tdiv bt292.1 3)))) x5 (([] : List (S68))) 0 x1000 bt292.2.1 bt292.2.2)) else (some (x3, bt289.2.1, bt289.2.2)))
def spec_l5DrawRight.l1 : Nat → ByteArray → Int → Int → List (S68) → Int → List Int → Int → Int → Option (ByteArray × Int × Int)
 | 0, _, _, _, _, _, _, _, _ => none
 | k + 1, x3, x4, x5, x6, x7, x1000, x1001, x1002 => (spec_l1Below.f x1000 x1001 x1002 3).bind fun bt298 => (if x7 < bt298.1 then ((spec_l2DrawRight.f x1000 bt298.2.1 bt298.2.2).bind fun bt301 => (if x6.length < 4398046511104 then (spec_l5DrawRight.l1 k x3 x4 x5 (x6 ++ [(⟨bt301.1, bt301.2.1, bt301.2.2.1, bt301.2.2.2.1⟩ : S68)]) (wrap64 (x7 + 1)) x1000 bt301.2.2.2.2.1 bt301.2.2.2.2.2) else (none))) else ((spec_NameOf.f k x3 x4 x6).bind fun t310 => (spec_l5DrawRight.l0 k t310 x4 (wrap64 (x5 + 1)) x1000 bt298.2.1 bt298.2.2)))
end
def spec_l5DrawRight.f (k : Nat) (s0_0 : List Int) (s0_1 : Int) (s0_2 : Int) : Option (ByteArray × Int × Int) := spec_l5DrawRight.l0 k (⟨#[]⟩ : ByteArray) 0 0 s0_0 s0_1 s0_2
theorem spec_l5DrawRight.mono_l : ∀ k, (∀ y0 y1 y2 y3 y4 y5, LeO (spec_l5DrawRight.l0 k y0 y1 y2 y3 y4 y5) (spec_l5DrawRight.l0 (k + 1) y0 y1 y2 y3 y4 y5)) ∧ (∀ y0 y1 y2 y3 y4 y5 y6 y7, LeO (spec_l5DrawRight.l1 k y0 y1 y2 y3 y4 y5 y6 y7) (spec_l5DrawRight.l1 (k + 1) y0 y1 y2 y3 y4 y5 y6 y7))
 | 0 => ⟨fun _ _ _ _ _ _ r h => by simp [spec_l5DrawRight.l0] at h, fun _ _ _ _ _ _ _ _ r h => by simp [spec_l5DrawRight.l1] at h⟩
 | k + 1 => by
  obtain ⟨ih0, ih1⟩ := spec_l5DrawRight.mono_l k
  refine ⟨?_, ?_⟩
  ·
   intro y0 y1 y2 y3 y4 y5
   unfold spec_l5DrawRight.l0
   repeat' first | (with_reducible exact ih0 _ _ _ _ _ _) | (with_reducible exact ih1 _ _ _ _ _ _ _ _) | (with_reducible exact spec_NameOf.mono _ _ _ _) | (with_reducible exact LeO.refl _) | (with_reducible exact LeO.none _) | (with_reducible refine LeO.ite ?_ ?_) | (with_reducible refine LeO.bind ?_ (fun _ => ?_))
  intro y0 y1 y2 y3 y4 y5 y6 y7
  unfold spec_l5DrawRight.l1
  repeat' first | (with_reducible exact ih0 _ _ _ _ _ _) | (with_reducible exact ih1 _ _ _ _ _ _ _ _) | (with_reducible exact spec_NameOf.mono _ _ _ _) | (with_reducible exact LeO.refl _) | (with_reducible exact LeO.none _) | (with_reducible refine LeO.ite ?_ ?_) | (with_reducible refine LeO.bind ?_ (fun _ => ?_))
theorem spec_l5DrawRight.mono : ∀ a0 a1 a2 k, LeO (spec_l5DrawRight.f k a0 a1 a2) (spec_l5DrawRight.f (k + 1) a0 a1 a2) := by
 intro a0 a1 a2 k
 obtain ⟨ih0, ih1⟩ := spec_l5DrawRight.mono_l k
 unfold spec_l5DrawRight.f
 repeat' first | (with_reducible exact ih0 _ _ _ _ _ _) | (with_reducible exact ih1 _ _ _ _ _ _ _ _) | (with_reducible exact spec_NameOf.mono _ _ _ _) | (with_reducible exact LeO.refl _) | (with_reducible exact LeO.none _) | (with_reducible refine LeO.ite ?_ ?_) | (with_reducible refine LeO.bind ?_ (fun _ => ?_))
set_option maxHeartbeats 8000000 in
set_option maxRecDepth 100000 in
theorem spec_l5DrawRight.calls (k : Nat) (g : Nat) (s0_0 : List Int) (s0_1 : Int) (s0_2 : Int) (r1 : ByteArray) (r2 : Int) (r3 : Int) (w0 w : World) (hI : IsS53 w0 w g s0_0 s0_1 s0_2) (hB : Below w0.heap.size w0 w) (h : spec_l5DrawRight.f k s0_0 s0_1 s0_2 = some (r1, r2, r3)) :
  Calls Tryz.prog 41 #[.pointer (some ⟨g, 0, none⟩)] w fun e w' => e = .returned (.string r1) ∧ IsS53 w0 w' g s0_0 r2 r3 ∧ Below w0.heap.size w0 w' ∧ KeepBut w w' g none := by
 have HI0 := Aside0.mk hI; have HK := Aside0.mk (KeepBut.refl w g none); have HL := Aside0.mk hB.size; clear hI; have HW0 := Aside0.mk hB.size; have HB := Aside0.mk hB; clear hB; have H := h; unfold spec_l5DrawRight.f at H; clear h; have i0_ := iB53 HI0; have i1_ : LB w0 w := ⟨HB.out⟩
 go_enter Tryz.func41, Tryz.ntmps41
 have H' := Aside0.mk H; clear H
 go_wp2
 refine wC ?_; intro w2 _
 go_loopg [3, 4, 5] k (fun kq v3 v4 v5 w' => ∃ (x3_1 : ByteArray) (x4_1 : Int) (x5_1 : Int) (x1001_1 : Int) (x1002_1 : Int), v3 = .string x3_1 ∧ v4 = .int .i64 x4_1 ∧ v5 = .int .i64 x5_1 ∧ Aside0 (spec_l5DrawRight.l0 kq x3_1 x4_1 x5_1 s0_0 x1001_1 x1002_1 = some (r1, r2, r3)) ∧ Aside0 (kq ≤ k) ∧ StB g w' 53 ∧ Aside0 (IsS53 w0 w' g s0_0 x1001_1 x1002_1) ∧ KL w2 [g] w' ∧ LB w0 w' ∧ KS w g w')
 case atStart => exact ⟨((⟨#[]⟩ : ByteArray)), (0), (0), (s0_1), (s0_2), y0_15, y0_15, y0_15, H', ⟨Nat.le_refl _⟩, iB53 ⟨iS53 HI0⟩, ⟨iS53 HI0⟩, ⟨UpL.out⟩, ⟨UpW.out⟩, ⟨UpB.out⟩⟩
 case round =>
  clear H'; obtain ⟨x3_1, x4_1, x5_1, x1001_1, x1002_1, rfl, rfl, rfl, HA, HK1, _, HI3, _, _, _⟩ := hrel; cases gk with
  | zero => exact absurd HA.out (by simp [spec_l5DrawRight.l0])
  | succ k1 =>
   have H := HA.out; clear HA
   simp only [spec_l5DrawRight.l0] at H
   obtain ⟨⟨t289, t290, t291⟩, A4, H⟩ := oB H; (try dsimp only at H); have H' := Aside0.mk H; clear H
   go_upto_if 11 with (first | ((with_reducible refine gate_callee (f := 39) rfl ?_); refine gK (some 10) Tryz.func39 (spec_l1Below.calls (hI := iS53 HI3) (hB := UpW.out) (w := _) (h := A4.out)) ?_; intro w5 _ _ _ HI6))
   have H := H'.out; clear H'
   by_cases c7 : x5_1 < t289
   ·
    rw [if_pos c7] at H
    have c7b0 : decide (x5_1 < t289) = true := decide_eq_true c7; clear c7
    (first | rw [c7b0] | (simp only [i64_w, i32_w]; rw [c7b0]) | skip)
    obtain ⟨⟨t292, t293, t294⟩, A8, H⟩ := oB H; (try dsimp only at H); obtain ⟨y295, hy295⟩ : ∃ y_ : List (S68), y_ = (([] : List (S68))) := ⟨_, rfl⟩
    replace H : (spec_l5DrawRight.l1 k1 x3_1 (wrap64 ((wrap64 (x4_1 + 1)) + (wrap64 (Int.tdiv t292 3)))) x5_1 y295 0 s0_0 t293 t294) = some (r1, r2, r3) := by first | (rw [hy295]; with_reducible exact H) | (have H2_ := (Option.bind_some _ _).symm.trans H; rw [hy295]; with_reducible exact H2_) | (have H2_ := (Option.bind_some _ _).symm.trans H; with_reducible exact H2_) | with_reducible exact H | (rw [hy295]; exact H) | exact H
    have Ny295 := Aside0.mk hy295; clear hy295; have H' := Aside0.mk H; clear H
    go_wp2_with (first | ((with_reducible refine gate_callee (f := 39) rfl ?_); refine gK (some 17) Tryz.func39 (spec_l1Below.calls (hI := iS53 HI6) (hB := UpW.out) (w := _) (h := A8.out)) ?_; intro w9 _ _ _ HI10) | ((with_reducible refine gate_dst (N := 20) rfl ?_); refine lE 20 68 k68 Ny295 ?_; intro Ao296 co296 w11 _ HO297))
    refine wC ?_; intro w12 _
    go_loopg [6, 7] k1 (fun kq v6 v7 w' => ∃ (x6_2 : List (S68)) (x7_2 : Int) (x1001_2 : Int) (x1002_2 : Int) (Ao6_2 : Option Addr) (co6_2 : Nat), v6 = .slice Ao6_2 x6_2.length co6_2 ∧ v7 = .int .i64 x7_2 ∧ Aside0 (spec_l5DrawRight.l1 kq x3_1 (wrap64 ((wrap64 (x4_1 + 1)) + (wrap64 (Int.tdiv t292 3)))) x5_1 x6_2 x7_2 s0_0 x1001_2 x1002_2 = some (r1, r2, r3)) ∧ Aside0 (kq ≤ k1) ∧ Aside0 (Kd.R k68 68 w' w9.heap.size (iv w9 w') (.slice Ao6_2 x6_2.length co6_2) x6_2) ∧ StB g w' 53 ∧ Aside0 (IsS53 w0 w' g s0_0 x1001_2 x1002_2) ∧ KT w12 [g] w9 _ k68 68 w' ∧ LB w0 w' ∧ KS w g w')
    case atStart => exact ⟨(y295), (0), (t293), (t294), (Ao296), (co296), y0_15, y0_15, H', ⟨Nat.le_refl _⟩, ⟨rJ HO297⟩, iB53 ⟨iS53 HI10⟩, ⟨iS53 HI10⟩, ⟨UpT.out⟩, ⟨UpW.out⟩, ⟨UpB.out⟩⟩
    case round =>
     clear H'; obtain ⟨x6_2, x7_2, x1001_2, x1002_2, Ao6_2, co6_2, rfl, rfl, HA, HK2, HO_6, _, HI13, _, _, _⟩ := hrel; have HO_20 := HO297; cases gk with
     | zero => exact absurd HA.out (by simp [spec_l5DrawRight.l1])
     | succ k2 =>
      have H := HA.out; clear HA
      simp only [spec_l5DrawRight.l1] at H
      obtain ⟨⟨t298, t299, t300⟩, A14, H⟩ := oB H; (try dsimp only at H); have H' := Aside0.mk H; clear H
      go_upto_if 24 with (first | ((with_reducible refine gate_callee (f := 39) rfl ?_); refine gK (some 23) Tryz.func39 (spec_l1Below.calls (hI := iS53 HI13) (hB := UpW.out) (w := _) (h := A14.out)) ?_; intro w15 _ _ _ HI16))
      have H := H'.out; clear H'
      by_cases c17 : x7_2 < t298
      ·
       rw [if_pos c17] at H
       have c17b0 : decide (x7_2 < t298) = true := decide_eq_true c17; clear c17
       (first | rw [c17b0] | (simp only [i64_w, i32_w]; rw [c17b0]) | skip)
       obtain ⟨⟨t301, t302, t303, t304, t305, t306⟩, A18, H⟩ := oB H; (try dsimp only at H)
       by_cases c19 : x6_2.length < 4398046511104
       rotate_left
       ·
        rw [if_neg c19] at H
        exact absurd H (by simp)
       rw [if_pos c19] at H
       have LMc19 := Aside0.mk c19; clear c19; obtain ⟨y307, hy307⟩ : ∃ y_ : List (S68), y_ = (x6_2 ++ [(⟨t301, t302, t303, t304⟩ : S68)]) := ⟨_, rfl⟩
       replace H : (spec_l5DrawRight.l1 k2 x3_1 (wrap64 ((wrap64 (x4_1 + 1)) + (wrap64 (Int.tdiv t292 3)))) x5_1 y307 (wrap64 (x7_2 + 1)) s0_0 t305 t306) = some (r1, r2, r3) := by first | (rw [hy307]; with_reducible exact H) | (have H2_ := (Option.bind_some _ _).symm.trans H; rw [hy307]; with_reducible exact H2_) | (have H2_ := (Option.bind_some _ _).symm.trans H; with_reducible exact H2_) | with_reducible exact H | (rw [hy307]; exact H) | exact H
       have Ny307 := Aside0.mk hy307; clear hy307; have H' := Aside0.mk H; clear H
       go_wp2_with (first | ((with_reducible refine gate_callee (f := 50) rfl ?_); refine gK (some 29) Tryz.func50 (spec_l2DrawRight.calls (hI := iS53 HI16) (hB := UpW.out) (w := _) (h := A18.out)) ?_; intro w20 _ _ _ HI21) | ((with_reducible refine gate_builtin (b := .append) (xs := #[.tmp 27, .tmp 30]) rfl ?_); at_builtin; refine gA k68 (.tmp 27) (.tmp 30) 62 68 (.agg #[(.int .i64 0), (.int .i64 0), (.int .i64 0), (.int .i64 0)]) 32 (⟨t301, t302, t303, t304⟩ : S68) [.int .i64 t301, .int .i64 t302, .int .i64 t303, .int .i64 t304] w9 Ny307 HO_6 (k68_mkM _ _ _ (⟨t301, t302, t303, t304⟩ : S68)) (by have := LMc19.out; omega) ?_ (ht := Tryz.underlying62) (hinfo := info68); intro Ao308 co308 w22 _ _ HO309))
       go_roundg k2
       case measure => have := HK1.out; have := HK2.out; omega
       case rel => exact ⟨(y307), (wrap64 (x7_2 + 1)), (t305), (t306), (Ao308), (co308), y0_15, y0_15, H', ⟨by have := HK1.out; have := HK2.out; omega⟩, ⟨rJ HO309⟩, iB53 ⟨iS53 HI21⟩, ⟨iS53 HI21⟩, ⟨UpT.out⟩, ⟨UpW.out⟩, ⟨UpB.out⟩⟩
      rw [if_neg c17] at H
      have c17b0 : decide (x7_2 < t298) = false := decide_eq_false c17; clear c17
      (first | rw [c17b0] | (simp only [i64_w, i32_w]; rw [c17b0]) | skip)
      obtain ⟨t310, A23, H⟩ := oB H; (try dsimp only at H); have H' := Aside0.mk H; clear H
      go_wp2_with (first | ((with_reducible refine gate_callee (f := 51) rfl ?_); refine gC (some 35) Tryz.func51 (spec_NameOf.calls (hr2 := rC HO_6) (hc2 := rL HO_6) (w := _) (h := A23.out)) ?_; intro w24 _))
      go_roundg k2
      case measure => have := HK1.out; have := HK2.out; omega
      case rel => exact ⟨(t310), ((wrap64 ((wrap64 (x4_1 + 1)) + (wrap64 (Int.tdiv t292 3))))), (wrap64 (x5_1 + 1)), (t299), (t300), y0_15, y0_15, y0_15, H', ⟨by have := HK1.out; have := HK2.out; omega⟩, iB53 ⟨iS53 HI16⟩, ⟨iS53 HI16⟩, ⟨UpL.out⟩, ⟨UpW.out⟩, ⟨UpB.out⟩⟩
   rw [if_neg c7] at H
   have c7b0 : decide (x5_1 < t289) = false := decide_eq_false c7; clear c7
   (first | rw [c7b0] | (simp only [i64_w, i32_w]; rw [c7b0]) | skip)
   simp only [Option.some.injEq, Prod.mk.injEq] at H
   obtain ⟨rfl, rfl, rfl⟩ := H
   go_wp2
   go_ret
   exact ⟨y0_15, iS53 HI6, UpW.out, UpB.out⟩

/-! ### spec_SetHas: function 66 -/
def spec_SetHas.l0 : Nat → List Int → Int → Int → Option (Bool)
 | 0, _, _, _ => none
 | k + 1, x0, x1, x5 => if x5 < (x0.length : Int) then (if 0 ≤ x5 then (if (rd x0 x5) = x1 then (some true) else (spec_SetHas.l0 k x0 x1 (wrap64 (x5 + 1)))) else (none)) else (some false)
def spec_SetHas.f (k : Nat) (l0 : List Int) (a1 : Int) : Option (Bool) := spec_SetHas.l0 k l0 a1 0
theorem spec_SetHas.mono_l : ∀ k, (∀ y0 y1 y2, LeO (spec_SetHas.l0 k y0 y1 y2) (spec_SetHas.l0 (k + 1) y0 y1 y2))
 | 0 => fun _ _ _ r h => by simp [spec_SetHas.l0] at h
 | k + 1 => by
  have ih0 := spec_SetHas.mono_l k
  intro y0 y1 y2
  unfold spec_SetHas.l0
  repeat' first | (with_reducible exact ih0 _ _ _) | (with_reducible exact LeO.refl _) | (with_reducible exact LeO.none _) | (with_reducible refine LeO.ite ?_ ?_) | (with_reducible refine LeO.bind ?_ (fun _ => ?_))
theorem spec_SetHas.mono : ∀ a0 a1 k, LeO (spec_SetHas.f k a0 a1) (spec_SetHas.f (k + 1) a0 a1) := by
 intro a0 a1 k
 have ih0 := spec_SetHas.mono_l k
 unfold spec_SetHas.f
 repeat' first | (with_reducible exact ih0 _ _ _) | (with_reducible exact LeO.refl _) | (with_reducible exact LeO.none _) | (with_reducible refine LeO.ite ?_ ?_) | (with_reducible refine LeO.bind ?_ (fun _ => ?_))
set_option maxHeartbeats 8000000 in
set_option maxRecDepth 100000 in
theorem spec_SetHas.calls (k : Nat) (A0 : Option Addr) (c0 : Nat) (l0 : List Int) (a1 : Int) (r : Bool) (w : World) (hr0 : Kd.C (Kd.int .i64) w A0 l0.length l0) (hc0 : l0.length ≤ c0) (h : spec_SetHas.f k l0 a1 = some r) :
  Calls Tryz.prog 66 #[.slice A0 l0.length c0, .int .i64 a1] w fun e w' => e = .returned (.bool r) ∧ Drawn0 w w' := by
 have HR0 := Aside0.mk hr0; have HC0 := Aside0.mk hc0; clear hr0 hc0; have H := h; unfold spec_SetHas.f at H; clear h; have H' := Aside0.mk H; clear H
 go_enter Tryz.func66, Tryz.ntmps66
 go_wp2
 go_loopg [5] k (fun kq v5 w' => ∃ (x5_1 : Int), v5 = .int .i64 x5_1 ∧ Aside0 (spec_SetHas.l0 kq l0 a1 x5_1 = some r) ∧ Aside0 (kq ≤ k) ∧ Drawn0 w w')
 case atStart => exact ⟨(0), y0_15, H', ⟨Nat.le_refl _⟩, y0_13⟩
 case round =>
  clear H'
  try clear p2
  obtain ⟨x5_1, rfl, HA, HK1, ⟨m1, rfl⟩⟩ := hrel; cases gk with
  | zero => exact absurd HA.out (by simp [spec_SetHas.l0])
  | succ k1 =>
   have H := HA.out; clear HA
   simp only [spec_SetHas.l0] at H
   by_cases c3 : x5_1 < (l0.length : Int)
   ·
    rw [if_pos c3] at H
    have c3b0 : decide (x5_1 < (l0.length : Int)) = true := decide_eq_true c3; clear c3
    by_cases c4 : 0 ≤ x5_1
    rotate_left
    ·
     rw [if_neg c4] at H
     exact absurd H (by simp)
    rw [if_pos c4] at H
    have c4b0 : decide (0 ≤ x5_1) = true := decide_eq_true c4; clear c4
    by_cases c5 : (rd l0 x5_1) = a1
    ·
     rw [if_pos c5] at H
     have c5b0 : ((rd l0 x5_1) == a1) = true := beq_iff_eq.mpr c5; have c5b1 : ((rd l0 x5_1) != a1) = false := bne_eq_false_iff_eq.mpr c5; clear c5; obtain rfl := Option.some.inj H; have p311 : 0 ≤ (x5_1 : Int) := of_decide_eq_true y0_14; have q311 : x5_1 < (l0.length : Int) := of_decide_eq_true y0_14; obtain ⟨ad311, e311, hx311_0⟩ := Kd.at_int HR0.out x5_1 p311 q311; cases e311; replace p311 := eq_true p311; replace q311 := eq_true q311
     go_wp2
     go_ret
     exact ⟨y0_15, y0_13⟩
    rw [if_neg c5] at H
    have c5b0 : ((rd l0 x5_1) == a1) = false := beq_eq_false_iff_ne.mpr c5; have c5b1 : ((rd l0 x5_1) != a1) = true := bne_iff_ne.mpr c5; have H' := Aside0.mk H; clear H; have p311 : 0 ≤ (x5_1 : Int) := of_decide_eq_true y0_14; have q311 : x5_1 < (l0.length : Int) := of_decide_eq_true y0_14; obtain ⟨ad311, e311, hx311_0⟩ := Kd.at_int HR0.out x5_1 p311 q311; cases e311; replace p311 := eq_true p311; replace q311 := eq_true q311
    go_wp2
    go_roundg k1
    case measure => have := HK1.out; omega
    case rel => exact ⟨(wrap64 (x5_1 + 1)), y0_15, H', ⟨y0_17⟩, y0_13⟩
   rw [if_neg c3] at H
   have c3b0 : decide (x5_1 < (l0.length : Int)) = false := decide_eq_false c3; clear c3; obtain rfl := Option.some.inj H
   go_wp2
   go_ret
   exact ⟨y0_15, y0_13⟩

end Go.Proofs.YtagpeafaiofkjaaGreatDoor.PFnQuorums
