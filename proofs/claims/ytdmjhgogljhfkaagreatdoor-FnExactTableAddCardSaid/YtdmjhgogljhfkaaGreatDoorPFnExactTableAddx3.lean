-- By a program of this session, out of the translation (the print of the kit, with turns of its own). Lean checks it.
import Derived.Test.YtdmjhgogljhfkaaGreatDoorPFnExactTableAddx0
import Derived.Test.YtdmjhgogljhfkaaGreatDoorPFnExactTableAddx2
namespace Go.Proofs.YtdmjhgogljhfkaaGreatDoor.PFnExactTableAdd
open Go.RowKit Go.Proofs.YtdmjhgogljhfkaaGreatDoorW.PrintWords Go.Proofs.YtdmjhgogljhfkaaGreatDoorW.PrintLast Go.Proofs.YtdmjhgogljhfkaaGreatDoorW.PrintMore
attribute [local go_sem] max2_int min2_int max_two min_two max_three min_three max_four min_four   -- for this text's walks alone
attribute [local go_sem] cell_in frozen_in cell_g cell_p
set_option synthInstance.maxSize 1000000
set_option synthInstance.maxHeartbeats 2000000
set_option linter.unusedVariables false
set_option linter.unusedSimpArgs false

/-! ### spec_Number: function 180 -/
mutual
def spec_Number.j0 : Nat → ByteArray → Bool → Option (Int × Bool)
 | 0, _, _ => none
 | k + 1, x0, x13 => if x13 = true then (some (0, false)) else (spec_Number.l0 k x0 0 0)
def spec_Number.l0 : Nat → ByteArray → Int → Int → Option (Int × Bool)
 | 0, _, _, _ => none
 | k + 1, x0, x4, x5 => if x5 < (x0.size : Int) then (if 0 ≤ x5 then (if (bt x0 x5) < 48 then (some (0, false)) else (if (bt x0 x5) > 57 then (some (0, false)) else (spec_Number.l0 k x0 (wrap64 ((wrap64 ((wrap64 (10 * x4)) + (wrap64 (bt x0 x5)))) - 48)) (wrap64 (x5 + 1))))) else (none)) else ((spec_Digits.f k x4).bind fun t184 => (if t184.toList = x0.toList then (some (x4, true)) else (some (0, false))))
end
def spec_Number.f (k : Nat) (a0 : ByteArray) : Option (Int × Bool) := if (a0.size : Int) < 1 then (spec_Number.j0 k a0 true) else (spec_Number.j0 k a0 (decide ((a0.size : Int) > 6)))
theorem spec_Number.mono_l : ∀ k, (∀ y0 y1, LeO (spec_Number.j0 k y0 y1) (spec_Number.j0 (k + 1) y0 y1)) ∧ (∀ y0 y1 y2, LeO (spec_Number.l0 k y0 y1 y2) (spec_Number.l0 (k + 1) y0 y1 y2))
 | 0 => ⟨fun _ _ r h => by simp [spec_Number.j0] at h, fun _ _ _ r h => by simp [spec_Number.l0] at h⟩
 | k + 1 => by
  obtain ⟨ih0, ih1⟩ := spec_Number.mono_l k
  refine ⟨?_, ?_⟩
  ·
   intro y0 y1
   unfold spec_Number.j0
   repeat' first | (with_reducible exact ih0 _ _) | (with_reducible exact ih1 _ _ _) | (with_reducible exact spec_Digits.mono _ _) | (with_reducible exact LeO.refl _) | (with_reducible exact LeO.none _) | (with_reducible refine LeO.ite ?_ ?_) | (with_reducible refine LeO.bind ?_ (fun _ => ?_))
  intro y0 y1 y2
  unfold spec_Number.l0
  repeat' first | (with_reducible exact ih0 _ _) | (with_reducible exact ih1 _ _ _) | (with_reducible exact spec_Digits.mono _ _) | (with_reducible exact LeO.refl _) | (with_reducible exact LeO.none _) | (with_reducible refine LeO.ite ?_ ?_) | (with_reducible refine LeO.bind ?_ (fun _ => ?_))
theorem spec_Number.mono : ∀ a0 k, LeO (spec_Number.f k a0) (spec_Number.f (k + 1) a0) := by
 intro a0 k
 obtain ⟨ih0, ih1⟩ := spec_Number.mono_l k
 unfold spec_Number.f
 repeat' first | (with_reducible exact ih0 _ _) | (with_reducible exact ih1 _ _ _) | (with_reducible exact spec_Digits.mono _ _) | (with_reducible exact LeO.refl _) | (with_reducible exact LeO.none _) | (with_reducible refine LeO.ite ?_ ?_) | (with_reducible refine LeO.bind ?_ (fun _ => ?_))
set_option maxHeartbeats 8000000 in
set_option maxRecDepth 100000 in
theorem spec_Number.calls (k : Nat) (a0 : ByteArray) (r1 : Int) (r2 : Bool) (w : World) (h : spec_Number.f k a0 = some (r1, r2)) :
  Calls Tryz.prog 180 #[.string a0] w fun e w' => e = .returned (.tuple #[.int .i64 r1, .bool r2]) ∧ Below w.heap.size w w' := by
 have HB := Aside0.mk (Below.refl w.heap.size w); have H := h; unfold spec_Number.f at H; clear h; have HC2 := Aside0.mk H; clear H
 go_enter Tryz.func180, Tryz.ntmps180
 go_upto_region 1 with (fail)
 go_cut [13] (fun v13 wc => ∃ (kq : Nat) (x13_1 : Bool), v13 = .bool x13_1 ∧ Aside0 (spec_Number.j0 kq a0 x13_1 = some (r1, r2)) ∧ Aside0 (kq ≤ k) ∧ Aside0 (Below w.heap.size w wc))
 case first =>
  have H := HC2.out; clear HC2
  by_cases c3 : (a0.size : Int) < 1
  ·
   rw [if_pos c3] at H
   have c3b0 : decide ((a0.size : Int) < 1) = true := decide_eq_true c3
   have c3b1 : decide (a0.size < 1) = true := decide_eq_true (by omega)
   clear c3
   (first | rw [c3b0] | (simp only [i64_w, i32_w]; rw [c3b0]) | skip)
   have H' := Aside0.mk H; clear H
   go_wp2
   go_meet
   case rel => exact ⟨_, (true), y0_13, H', ⟨y0_14⟩, ⟨bI HB.out⟩⟩
  rw [if_neg c3] at H
  have c3b0 : decide ((a0.size : Int) < 1) = false := decide_eq_false c3
  have c3b1 : decide (a0.size < 1) = false := decide_eq_false (by omega)
  clear c3
  (first | rw [c3b0] | (simp only [i64_w, i32_w]; rw [c3b0]) | skip)
  have H' := Aside0.mk H; clear H
  go_wp2
  go_meet
  case rel => exact ⟨_, (decide ((a0.size : Int) > 6)), y0_13, H', ⟨y0_14⟩, ⟨bI HB.out⟩⟩
 case rest =>
  clear HC2
  try clear c1
  try clear p2
  try clear c3
  try clear c3b0
  try clear c3b1
  obtain ⟨kq, x13_1, rfl, HA, HJ1, HB⟩ := hcut; cases kq with
  | zero => exact absurd HA.out (by simp [spec_Number.j0])
  | succ kj1 =>
   have H := HA.out; clear HA
   simp only [spec_Number.j0] at H
   by_cases c4 : x13_1 = true
   ·
    subst c4
    rw [if_pos rfl] at H
    simp only [Option.some.injEq, Prod.mk.injEq] at H
    obtain ⟨rfl, rfl⟩ := H
    go_wp2
    go_ret2
    exact ⟨y0_7, bI HB.out⟩
   replace c4 := Bool.eq_false_iff.mpr c4; subst c4
   rw [if_neg (show ¬ (false = true) by decide)] at H
   have H' := Aside0.mk H; clear H
   go_wp2
   go_loopg [4, 5] kj1 (fun kq v4 v5 w' => ∃ (x4_2 : Int) (x5_2 : Int), v4 = .int .i64 x4_2 ∧ v5 = .int .i64 x5_2 ∧ Aside0 (spec_Number.l0 kq a0 x4_2 x5_2 = some (r1, r2)) ∧ Aside0 (kq ≤ kj1) ∧ Aside0 (Below w.heap.size w w'))
   case atStart => exact ⟨(0), (0), y0_13, y0_13, H', ⟨Nat.le_refl _⟩, ⟨bI HB.out⟩⟩
   case round =>
    clear H'
    try clear c1
    try clear p2
    try clear c3
    try clear c3b0
    try clear c3b1
    try clear c4
    try clear p2
    obtain ⟨x4_2, x5_2, rfl, rfl, HA, HK2, HB⟩ := hrel; cases gk with
    | zero => exact absurd HA.out (by simp [spec_Number.l0])
    | succ k2 =>
     have H := HA.out; clear HA
     simp only [spec_Number.l0] at H
     by_cases c5 : x5_2 < (a0.size : Int)
     ·
      rw [if_pos c5] at H
      have c5b0 : decide (x5_2 < (a0.size : Int)) = true := decide_eq_true c5; clear c5
      by_cases c6 : 0 ≤ x5_2
      rotate_left
      ·
       rw [if_neg c6] at H
       exact absurd H (by simp)
      rw [if_pos c6] at H
      have c6b0 : decide (0 ≤ x5_2) = true := decide_eq_true c6; clear c6
      by_cases c8 : (bt a0 x5_2) < 48
      ·
       rw [if_pos c8] at H
       have c8b0 : decide ((bt a0 x5_2) < 48) = true := decide_eq_true c8; clear c8
       simp only [Option.some.injEq, Prod.mk.injEq] at H
       obtain ⟨rfl, rfl⟩ := H; have p7 : 0 ≤ (x5_2 : Int) := of_decide_eq_true y0_12; have q7 : x5_2 < (a0.size : Int) := of_decide_eq_true y0_12; have hx7 := bt_at a0 x5_2; replace p7 := eq_true p7; replace q7 := eq_true q7
       go_wp2
       go_ret2
       exact ⟨y0_7, bI HB.out⟩
      rw [if_neg c8] at H
      have c8b0 : decide ((bt a0 x5_2) < 48) = false := decide_eq_false c8; clear c8
      by_cases c10 : (bt a0 x5_2) > 57
      ·
       rw [if_pos c10] at H
       have c10b0 : decide (57 < (bt a0 x5_2)) = true := decide_eq_true c10; clear c10
       simp only [Option.some.injEq, Prod.mk.injEq] at H
       obtain ⟨rfl, rfl⟩ := H; have p7 : 0 ≤ (x5_2 : Int) := of_decide_eq_true y0_12; have q7 : x5_2 < (a0.size : Int) := of_decide_eq_true y0_12; have hx7 := bt_at a0 x5_2; replace p7 := eq_true p7; replace q7 := eq_true q7; have p9 : 0 ≤ (x5_2 : Int) := of_decide_eq_true y0_12; have q9 : x5_2 < (a0.size : Int) := of_decide_eq_true y0_12; have hx9 := bt_at a0 x5_2; replace p9 := eq_true p9; replace q9 := eq_true q9
       go_wp2
       go_ret2
       exact ⟨y0_7, bI HB.out⟩
      rw [if_neg c10] at H
      have c10b0 : decide (57 < (bt a0 x5_2)) = false := decide_eq_false c10; clear c10; have H' := Aside0.mk H; clear H; have p7 : 0 ≤ (x5_2 : Int) := of_decide_eq_true y0_12; have q7 : x5_2 < (a0.size : Int) := of_decide_eq_true y0_12; have hx7 := bt_at a0 x5_2; replace p7 := eq_true p7; replace q7 := eq_true q7; have p9 : 0 ≤ (x5_2 : Int) := of_decide_eq_true y0_12; have q9 : x5_2 < (a0.size : Int) := of_decide_eq_true y0_12; have hx9 := bt_at a0 x5_2; replace p9 := eq_true p9; replace q9 := eq_true q9; have p11 : 0 ≤ (x5_2 : Int) := of_decide_eq_true y0_12; have q11 : x5_2 < (a0.size : Int) := of_decide_eq_true y0_12; have hx11 := bt_at a0 x5_2; replace p11 := eq_true p11; replace q11 := eq_true q11
      go_wp2
      go_roundg k2
      case measure => have := HJ1.out; have := HK2.out; omega
      case rel => exact ⟨(wrap64 ((wrap64 ((wrap64 (10 * x4_2)) + (wrap64 (bt a0 x5_2)))) - 48)), (wrap64 (x5_2 + 1)), y0_13, y0_13, H', ⟨by have := HJ1.out; have := HK2.out; omega⟩, ⟨bI HB.out⟩⟩
     rw [if_neg c5] at H
     have c5b0 : decide (x5_2 < (a0.size : Int)) = false := decide_eq_false c5; clear c5; obtain ⟨t184, A12, H⟩ := oB H; (try dsimp only at H)
     by_cases c13 : t184.toList = a0.toList
     ·
      rw [if_pos c13] at H
      have c13b0 : (t184.toList == a0.toList) = true := beq_iff_eq.mpr c13; have c13b1 : (t184.toList != a0.toList) = false := bne_eq_false_iff_eq.mpr c13; clear c13
      simp only [Option.some.injEq, Prod.mk.injEq] at H
      obtain ⟨rfl, rfl⟩ := H
      go_wp2_with (first | ((with_reducible refine gate_callee (f := 166) rfl ?_); refine gB (some 39) Tryz.func166 #[.int .i64 x4_2] ?_; (with_reducible refine (spec_Digits.calls k2 x4_2 t184 _ A12.out).mono ?_); rintro e w14 ⟨rfl, hb⟩; refine ⟨_, rfl, ?_⟩; replace HB := bs HB hb; (try clear hb); (try clear hb2); (try clear hk); (try clear hi)))
      go_ret2
      exact ⟨y0_7, bI HB.out⟩
     rw [if_neg c13] at H
     have c13b0 : (t184.toList == a0.toList) = false := beq_eq_false_iff_ne.mpr c13; have c13b1 : (t184.toList != a0.toList) = true := bne_iff_ne.mpr c13
     simp only [Option.some.injEq, Prod.mk.injEq] at H
     obtain ⟨rfl, rfl⟩ := H
     go_wp2_with (first | ((with_reducible refine gate_callee (f := 166) rfl ?_); refine gB (some 39) Tryz.func166 #[.int .i64 x4_2] ?_; (with_reducible refine (spec_Digits.calls k2 x4_2 t184 _ A12.out).mono ?_); rintro e w15 ⟨rfl, hb⟩; refine ⟨_, rfl, ?_⟩; replace HB := bs HB hb; (try clear hb); (try clear hb2); (try clear hk); (try clear hi)))
     go_ret2
     exact ⟨y0_7, bI HB.out⟩

/-! ### spec_TxOk: function 172 -/
def spec_TxOk.f (a0_0 : Int) (a0_1 : Int) (a0_2 : Int) (a0_3 : Int) : Option (Bool) := (spec_l1In.f a0_0 0 3).bind fun t186 => (if t186 = true then ((spec_l1In.f a0_1 0 3).bind fun t187 => (if t187 = true then ((spec_l1In.f a0_2 0 1000).bind fun t188 => (if t188 = true then ((spec_l1In.f a0_3 0 99).bind fun t189 => (some t189)) else (some false))) else (some false))) else (some false))
set_option maxHeartbeats 8000000 in
set_option maxRecDepth 100000 in
theorem spec_TxOk.calls (a0_0 : Int) (a0_1 : Int) (a0_2 : Int) (a0_3 : Int) (r : Bool) (w : World) (h : spec_TxOk.f a0_0 a0_1 a0_2 a0_3 = some r) :
  Calls Tryz.prog 172 #[.agg #[.int .i64 a0_0, .int .i64 a0_1, .int .i64 a0_2, .int .i64 a0_3]] w fun e w' => e = .returned (.bool r) ∧ Below w.heap.size w w' := by
 have hu156 := Tryz.underlying156; have HB := Aside0.mk (Below.refl w.heap.size w)
 have H := h; unfold spec_TxOk.f at H
 clear h
 go_enter Tryz.func172, Tryz.ntmps172
 have H' := Aside0.mk H; clear H
 go_upto_region 1 with (first | ((with_reducible refine gd 1 ?_); refine bL 1 #[.int .i64 a0_0, .int .i64 a0_1, .int .i64 a0_2, .int .i64 a0_3] 156 ?_; intro gb185 w2 _ _ _))
 have H := H'.out; clear H'; obtain ⟨t186, A3, H⟩ := oB H; (try dsimp only at H)
 by_cases c4 : t186 = true
 ·
  subst c4
  rw [if_pos rfl] at H
  obtain ⟨t187, A5, H⟩ := oB H; (try dsimp only at H)
  by_cases c6 : t187 = true
  ·
   subst c6
   rw [if_pos rfl] at H
   obtain ⟨t188, A7, H⟩ := oB H; (try dsimp only at H)
   by_cases c8 : t188 = true
   ·
    subst c8
    rw [if_pos rfl] at H
    obtain ⟨t189, A9, H⟩ := oB H; (try dsimp only at H); obtain rfl := Option.some.inj H
    go_wp2_with (first | ((with_reducible refine gate_callee (f := 110) rfl ?_); refine gD (some 5) Tryz.func110 (spec_l1In.calls (w := _) (h := A3.out)) ?_; intro w10 _) | (go_at_call 110; refine aD (spec_l1In.calls (w := _) (h := A5.out)) ?_; intro w11 _) | (go_at_call 110; refine aD (spec_l1In.calls (w := _) (h := A7.out)) ?_; intro w12 _) | (go_at_call 110; refine aD (spec_l1In.calls (w := _) (h := A9.out)) ?_; intro w13 _))
    go_ret
    exact ⟨y0_13, UpW.out⟩
   replace c8 := Bool.eq_false_iff.mpr c8; subst c8
   rw [if_neg (show ¬ (false = true) by decide)] at H
   obtain rfl := Option.some.inj H
   go_wp2_with (first | ((with_reducible refine gate_callee (f := 110) rfl ?_); refine gD (some 5) Tryz.func110 (spec_l1In.calls (w := _) (h := A3.out)) ?_; intro w14 _) | (go_at_call 110; refine aD (spec_l1In.calls (w := _) (h := A5.out)) ?_; intro w15 _) | (go_at_call 110; refine aD (spec_l1In.calls (w := _) (h := A7.out)) ?_; intro w16 _))
   go_ret
   exact ⟨y0_13, UpW.out⟩
  replace c6 := Bool.eq_false_iff.mpr c6; subst c6
  rw [if_neg (show ¬ (false = true) by decide)] at H
  obtain rfl := Option.some.inj H
  go_wp2_with (first | ((with_reducible refine gate_callee (f := 110) rfl ?_); refine gD (some 5) Tryz.func110 (spec_l1In.calls (w := _) (h := A3.out)) ?_; intro w17 _) | (go_at_call 110; refine aD (spec_l1In.calls (w := _) (h := A5.out)) ?_; intro w18 _))
  go_ret
  exact ⟨y0_13, UpW.out⟩
 replace c4 := Bool.eq_false_iff.mpr c4; subst c4
 rw [if_neg (show ¬ (false = true) by decide)] at H
 obtain rfl := Option.some.inj H
 go_wp2_with (first | ((with_reducible refine gate_callee (f := 110) rfl ?_); refine gD (some 5) Tryz.func110 (spec_l1In.calls (w := _) (h := A3.out)) ?_; intro w19 _))
 go_ret
 exact ⟨y0_13, UpW.out⟩

/-! ### spec_TxText: function 194 -/
def spec_TxText.f (k : Nat) (a0_0 : Int) (a0_1 : Int) (a0_2 : Int) (a0_3 : Int) : Option (ByteArray) := (spec_TxOk.f a0_0 a0_1 a0_2 a0_3).bind fun t191 => (if t191 = true then ((spec_Digits.f k a0_0).bind fun t192 => (if t192.size + 1 ≤ 9223372036854775807 then ((spec_Digits.f k a0_1).bind fun t193 => (if (t192 ++ (⟨#[62]⟩ : ByteArray)).size + t193.size ≤ 9223372036854775807 then (if ((t192 ++ (⟨#[62]⟩ : ByteArray)) ++ t193).size + 1 ≤ 9223372036854775807 then ((spec_Digits.f k a0_2).bind fun t194 => (if (((t192 ++ (⟨#[62]⟩ : ByteArray)) ++ t193) ++ (⟨#[58]⟩ : ByteArray)).size + t194.size ≤ 9223372036854775807 then (if ((((t192 ++ (⟨#[62]⟩ : ByteArray)) ++ t193) ++ (⟨#[58]⟩ : ByteArray)) ++ t194).size + 1 ≤ 9223372036854775807 then ((spec_Digits.f k a0_3).bind fun t195 => (if (((((t192 ++ (⟨#[62]⟩ : ByteArray)) ++ t193) ++ (⟨#[58]⟩ : ByteArray)) ++ t194) ++ (⟨#[35]⟩ : ByteArray)).size + t195.size ≤ 9223372036854775807 then (some ((((((t192 ++ (⟨#[62]⟩ : ByteArray)) ++ t193) ++ (⟨#[58]⟩ : ByteArray)) ++ t194) ++ (⟨#[35]⟩ : ByteArray)) ++ t195)) else (none))) else (none)) else (none))) else (none)) else (none))) else (none))) else (some (⟨#[]⟩ : ByteArray)))
theorem spec_TxText.mono : ∀ a0 a1 a2 a3 k, LeO (spec_TxText.f k a0 a1 a2 a3) (spec_TxText.f (k + 1) a0 a1 a2 a3) := by
 intro a0 a1 a2 a3 k
 unfold spec_TxText.f
 repeat' first | (with_reducible exact spec_Digits.mono _ _) | (with_reducible exact LeO.refl _) | (with_reducible exact LeO.none _) | (with_reducible refine LeO.ite ?_ ?_) | (with_reducible refine LeO.bind ?_ (fun _ => ?_))
def spec_TxText.T3 : Bool × List (List Nat × List Nat) := (true, [([], []), ([0], [0]), ([1], [1]), ([2], [2]), ([], []), ([4], [4]), ([5, 2], [5]), ([3, 6], [3, 6]), ([7], [7]), ([], []), ([9], [9]), ([10, 6], [10]), ([8, 11], [8, 11]), ([12], [12]), ([], []), ([14], [14]), ([15, 11], [15]), ([13, 16], [13, 16]), ([17, 16, 0, 1, 2, 3, 4, 5, 6, 7, 8, 9, 10, 11, 12, 13, 14, 15, 16, 17], [17])])
def spec_TxText.B3 : List Nat := [0, 1, 3, 7, 0, 16, 55, 127, 255, 0, 512, 1655, 4095, 8191, 0, 16384, 52855, 131071, 262143]
theorem spec_TxText.tab3 : rtab .any (opsOf Tryz.f194 3) = spec_TxText.T3 := by kernel_rfl
theorem spec_TxText.bits3 : waitsOk spec_TxText.T3.2 spec_TxText.B3 = true := by kernel_rfl
set_option maxHeartbeats 8000000 in
set_option maxRecDepth 100000 in
theorem spec_TxText.calls (k : Nat) (a0_0 : Int) (a0_1 : Int) (a0_2 : Int) (a0_3 : Int) (r : ByteArray) (w : World) (h : spec_TxText.f k a0_0 a0_1 a0_2 a0_3 = some r) :
  Calls Tryz.prog 194 #[.agg #[.int .i64 a0_0, .int .i64 a0_1, .int .i64 a0_2, .int .i64 a0_3]] w fun e w' => e = .returned (.string r) ∧ Below w.heap.size w w' := by
 have hu156 := Tryz.underlying156; have HB := Aside0.mk (Below.refl w.heap.size w)
 have H := h; unfold spec_TxText.f at H
 clear h; obtain ⟨t191, A2, H⟩ := oB H; (try dsimp only at H)
 go_enter Tryz.func194, Tryz.ntmps194
 have H' := Aside0.mk H; clear H
 go_upto_if 5 with (first | ((with_reducible refine gd 1 ?_); refine bL 1 #[.int .i64 a0_0, .int .i64 a0_1, .int .i64 a0_2, .int .i64 a0_3] 156 ?_; intro gb190 w3 _ _ _) | ((with_reducible refine gate_callee (f := 172) rfl ?_); refine gC (some 4) Tryz.func172 (spec_TxOk.calls (w := _) (h := A2.out)) ?_; intro w4 _))
 have H := H'.out; clear H'
 by_cases c5 : t191 = true
 ·
  subst c5
  rw [if_pos rfl] at H
  obtain ⟨t192, A6, H⟩ := oB H; (try dsimp only at H)
  by_cases c7 : t192.size + 1 ≤ 9223372036854775807
  rotate_left
  ·
   rw [if_neg c7] at H
   exact absurd H (by simp)
  rw [if_pos c7] at H
  have c7b0 := eq_true c7; have c7b1 : decide (t192.size + 1 ≤ 9223372036854775807) = true := decide_eq_true c7
  try have c7b2 : (9223372036854775807 < t192.size + 1) = False := eq_false (Nat.not_lt.2 c7)
  obtain ⟨t193, A8, H⟩ := oB H; (try dsimp only at H)
  by_cases c9 : (t192 ++ (⟨#[62]⟩ : ByteArray)).size + t193.size ≤ 9223372036854775807
  rotate_left
  ·
   rw [if_neg c9] at H
   exact absurd H (by simp)
  rw [if_pos c9] at H
  have c9b0 := eq_true c9; have c9b1 : decide ((t192 ++ (⟨#[62]⟩ : ByteArray)).size + t193.size ≤ 9223372036854775807) = true := decide_eq_true c9
  try have c9b2 : (9223372036854775807 < (t192 ++ (⟨#[62]⟩ : ByteArray)).size + t193.size) = False := eq_false (Nat.not_lt.2 c9)
  (try have c9b3 : (9223372036854775807 < t192.size + 1 + t193.size) = False := eq_false (by have h_ := c9; simp only [ByteArray.size_append, ByteArray.size_extract, show (⟨#[62]⟩ : ByteArray).size = 1 from rfl] at h_; omega))
  by_cases c10 : ((t192 ++ (⟨#[62]⟩ : ByteArray)) ++ t193).size + 1 ≤ 9223372036854775807
  rotate_left
  ·
   rw [if_neg c10] at H
   exact absurd H (by simp)
  rw [if_pos c10] at H
  have c10b0 := eq_true c10; have c10b1 : decide (((t192 ++ (⟨#[62]⟩ : ByteArray)) ++ t193).size + 1 ≤ 9223372036854775807) = true := decide_eq_true c10
  try have c10b2 : (9223372036854775807 < ((t192 ++ (⟨#[62]⟩ : ByteArray)) ++ t193).size + 1) = False := eq_false (Nat.not_lt.2 c10)
  (try have c10b3 : (9223372036854775807 < t192.size + 1 + t193.size + 1) = False := eq_false (by have h_ := c10; simp only [ByteArray.size_append, ByteArray.size_extract, show (⟨#[62]⟩ : ByteArray).size = 1 from rfl] at h_; omega))
  obtain ⟨t194, A11, H⟩ := oB H; (try dsimp only at H)
  by_cases c12 : (((t192 ++ (⟨#[62]⟩ : ByteArray)) ++ t193) ++ (⟨#[58]⟩ : ByteArray)).size + t194.size ≤ 9223372036854775807
  rotate_left
  ·
   rw [if_neg c12] at H
   exact absurd H (by simp)
  rw [if_pos c12] at H
  have c12b0 := eq_true c12; have c12b1 : decide ((((t192 ++ (⟨#[62]⟩ : ByteArray)) ++ t193) ++ (⟨#[58]⟩ : ByteArray)).size + t194.size ≤ 9223372036854775807) = true := decide_eq_true c12
  try have c12b2 : (9223372036854775807 < (((t192 ++ (⟨#[62]⟩ : ByteArray)) ++ t193) ++ (⟨#[58]⟩ : ByteArray)).size + t194.size) = False := eq_false (Nat.not_lt.2 c12)
  (try have c12b3 : (9223372036854775807 < t192.size + 1 + t193.size + 1 + t194.size) = False := eq_false (by have h_ := c12; simp only [ByteArray.size_append, ByteArray.size_extract, show (⟨#[58]⟩ : ByteArray).size = 1 from rfl, show (⟨#[62]⟩ : ByteArray).size = 1 from rfl] at h_; omega))
  by_cases c13 : ((((t192 ++ (⟨#[62]⟩ : ByteArray)) ++ t193) ++ (⟨#[58]⟩ : ByteArray)) ++ t194).size + 1 ≤ 9223372036854775807
  rotate_left
  ·
   rw [if_neg c13] at H
   exact absurd H (by simp)
  rw [if_pos c13] at H
  have c13b0 := eq_true c13; have c13b1 : decide (((((t192 ++ (⟨#[62]⟩ : ByteArray)) ++ t193) ++ (⟨#[58]⟩ : ByteArray)) ++ t194).size + 1 ≤ 9223372036854775807) = true := decide_eq_true c13
  try have c13b2 : (9223372036854775807 < ((((t192 ++ (⟨#[62]⟩ : ByteArray)) ++ t193) ++ (⟨#[58]⟩ : ByteArray)) ++ t194).size + 1) = False := eq_false (Nat.not_lt.2 c13)
  (try have c13b3 : (9223372036854775807 < t192.size + 1 + t193.size + 1 + t194.size + 1) = False := eq_false (by have h_ := c13; simp only [ByteArray.size_append, ByteArray.size_extract, show (⟨#[58]⟩ : ByteArray).size = 1 from rfl, show (⟨#[62]⟩ : ByteArray).size = 1 from rfl] at h_; omega))
  obtain ⟨t195, A14, H⟩ := oB H; (try dsimp only at H)
  by_cases c15 : (((((t192 ++ (⟨#[62]⟩ : ByteArray)) ++ t193) ++ (⟨#[58]⟩ : ByteArray)) ++ t194) ++ (⟨#[35]⟩ : ByteArray)).size + t195.size ≤ 9223372036854775807
  rotate_left
  ·
   rw [if_neg c15] at H
   exact absurd H (by simp)
  rw [if_pos c15] at H
  have c15b0 := eq_true c15; have c15b1 : decide ((((((t192 ++ (⟨#[62]⟩ : ByteArray)) ++ t193) ++ (⟨#[58]⟩ : ByteArray)) ++ t194) ++ (⟨#[35]⟩ : ByteArray)).size + t195.size ≤ 9223372036854775807) = true := decide_eq_true c15
  try have c15b2 : (9223372036854775807 < (((((t192 ++ (⟨#[62]⟩ : ByteArray)) ++ t193) ++ (⟨#[58]⟩ : ByteArray)) ++ t194) ++ (⟨#[35]⟩ : ByteArray)).size + t195.size) = False := eq_false (Nat.not_lt.2 c15)
  (try have c15b3 : (9223372036854775807 < t192.size + 1 + t193.size + 1 + t194.size + 1 + t195.size) = False := eq_false (by have h_ := c15; simp only [ByteArray.size_append, ByteArray.size_extract, show (⟨#[35]⟩ : ByteArray).size = 1 from rfl, show (⟨#[58]⟩ : ByteArray).size = 1 from rfl, show (⟨#[62]⟩ : ByteArray).size = 1 from rfl] at h_; omega))
  obtain rfl := Option.some.inj H
  try go_wp2
  refine sB [] spec_TxText.tab3 spec_TxText.bits3 ?_; intro w16 _ HT_ HW_
  refine pA 0 (some 6) (bz 19 1) HT_ ?_
  refine tB 1 (some 7) (bz 19 3) HT_ HW_ ?_
  refine pA 4 (some 10) (bz 19 19) HT_ ?_
  refine tB 5 (some 11) (bz 19 51) HT_ HW_ ?_
  refine pA 9 (some 15) (bz 19 563) HT_ ?_
  refine tB 10 (some 16) (bz 19 1587) HT_ HW_ ?_
  refine pA 14 (some 20) (bz 19 0x4633) HT_ ?_
  refine tB 15 (some 21) (bz 19 0xc633) HT_ HW_ ?_
  refine o1 2 (some 8) (bz 19 0xc637) HT_ rfl (kC Tryz.func166 (spec_Digits.calls (w := _) (h := A6.out)) ?_); intro w17 _
  refine nA (some 8) ?_
  refine pA 3 (some 9) (bz 19 0xc63f) HT_ ?_
  refine o1 6 (some 12) (bz 19 0xc67f) HT_ rfl (kC Tryz.func166 (spec_Digits.calls (w := _) (h := A8.out)) ?_); intro w18 _
  refine nA (some 12) ?_
  refine pA 7 (some 13) (bz 19 0xc6ff) HT_ ?_
  refine pA 8 (some 14) (bz 19 0xc7ff) HT_ ?_
  refine o1 11 (some 17) (bz 19 0xcfff) HT_ rfl (kC Tryz.func166 (spec_Digits.calls (w := _) (h := A11.out)) ?_); intro w19 _
  refine nA (some 17) ?_
  refine pA 12 (some 18) (bz 19 0xdfff) HT_ ?_
  refine pA 13 (some 19) (bz 19 0xffff) HT_ ?_
  refine o1 16 (some 22) (bz 19 0x1ffff) HT_ rfl (kC Tryz.func166 (spec_Digits.calls (w := _) (h := A14.out)) ?_); intro w20 _
  refine nA (some 22) ?_
  refine pA 17 (some 23) (bz 19 0x3ffff) HT_ ?_
  refine pA 18 (some 2) (bz 19 0x7ffff) HT_ ?_
  refine done_ (done_of HT_.out (by kernel_rfl)) ?_
  try go_wp2
  go_ret
  exact ⟨y0_13, UpW.out⟩
 replace c5 := Bool.eq_false_iff.mpr c5; subst c5
 rw [if_neg (show ¬ (false = true) by decide)] at H
 obtain rfl := Option.some.inj H
 go_wp2
 go_ret
 exact ⟨y0_13, UpW.out⟩

/-! ### spec_TxOf: function 199 -/
def spec_TxOf.f (k : Nat) (a0 : ByteArray) : Option (Int × Int × Int × Int × Bool) := (spec_l2Cut.f k a0 62).bind fun bt197 => ((spec_l2Cut.f k bt197.2.1 58).bind fun bt200 => ((spec_l2Cut.f k bt200.2.1 35).bind fun bt203 => ((spec_Number.f k bt197.1).bind fun bt207 => ((spec_Number.f k bt200.1).bind fun bt209 => ((spec_Number.f k bt203.1).bind fun bt211 => ((spec_Number.f k bt203.2.1).bind fun bt213 => (if a0.toList = ([] : List UInt8) then (some (0, 0, 0, 0, false)) else ((spec_TxText.f k bt207.1 bt209.1 bt211.1 bt213.1).bind fun t215 => (if t215.toList = a0.toList then (some (bt207.1, bt209.1, bt211.1, bt213.1, true)) else (some (0, 0, 0, 0, false)))))))))))
theorem spec_TxOf.mono : ∀ a0 k, LeO (spec_TxOf.f k a0) (spec_TxOf.f (k + 1) a0) := by
 intro a0 k
 unfold spec_TxOf.f
 repeat' first | (with_reducible exact spec_Number.mono _ _) | (with_reducible exact spec_TxText.mono _ _ _ _ _) | (with_reducible exact spec_l2Cut.mono _ _ _) | (with_reducible exact LeO.refl _) | (with_reducible exact LeO.none _) | (with_reducible refine LeO.ite ?_ ?_) | (with_reducible refine LeO.bind ?_ (fun _ => ?_))
set_option maxHeartbeats 8000000 in
set_option maxRecDepth 100000 in
theorem spec_TxOf.calls (k : Nat) (a0 : ByteArray) (r1 : Int) (r2 : Int) (r3 : Int) (r4 : Int) (r5 : Bool) (w : World) (h : spec_TxOf.f k a0 = some (r1, r2, r3, r4, r5)) :
  Calls Tryz.prog 199 #[.string a0] w fun e w' => e = .returned (.tuple #[.agg #[.int .i64 r1, .int .i64 r2, .int .i64 r3, .int .i64 r4], .bool r5]) ∧ Below w.heap.size w w' := by
 have hu156 := Tryz.underlying156; have HB := Aside0.mk (Below.refl w.heap.size w)
 have H := h; unfold spec_TxOf.f at H
 clear h; obtain ⟨⟨t197, t198, t199⟩, A2, H⟩ := oB H; (try dsimp only at H); obtain ⟨⟨t200, t201, t202⟩, A3, H⟩ := oB H; (try dsimp only at H); obtain ⟨⟨t203, t204, t205⟩, A4, H⟩ := oB H; (try dsimp only at H); obtain ⟨⟨t207, t208⟩, A5, H⟩ := oB H; (try dsimp only at H); obtain ⟨⟨t209, t210⟩, A6, H⟩ := oB H; (try dsimp only at H); obtain ⟨⟨t211, t212⟩, A7, H⟩ := oB H; (try dsimp only at H); obtain ⟨⟨t213, t214⟩, A8, H⟩ := oB H; (try dsimp only at H)
 go_enter Tryz.func199, Tryz.ntmps199
 have H' := Aside0.mk H; clear H
 go_upto_region 9 with (first | ((with_reducible refine gd 2 ?_); refine bL 2 #[.int .i64 0, .int .i64 0, .int .i64 0, .int .i64 0] 156 ?_; intro gb196 w9 _ _ _) | ((with_reducible refine gate_callee (f := 179) rfl ?_); refine gD (some 16) Tryz.func179 (spec_l2Cut.calls (w := _) (h := A2.out)) ?_; intro w10 _) | ((with_reducible refine gate_callee (f := 179) rfl ?_); refine gD (some 22) Tryz.func179 (spec_l2Cut.calls (w := _) (h := A3.out)) ?_; intro w11 _) | ((with_reducible refine gate_callee (f := 179) rfl ?_); refine gD (some 28) Tryz.func179 (spec_l2Cut.calls (w := _) (h := A4.out)) ?_; intro w12 _) | ((with_reducible refine gd 13 ?_); refine bL 13 #[.int .i64 0, .int .i64 0, .int .i64 0, .int .i64 0] 156 ?_; intro gb206 w13 _ _ _) | ((with_reducible refine gate_callee (f := 180) rfl ?_); refine gC (some 35) Tryz.func180 (spec_Number.calls (w := _) (h := A5.out)) ?_; intro w14 _) | ((with_reducible refine gate_callee (f := 180) rfl ?_); refine gC (some 41) Tryz.func180 (spec_Number.calls (w := _) (h := A6.out)) ?_; intro w15 _) | ((with_reducible refine gate_callee (f := 180) rfl ?_); refine gC (some 47) Tryz.func180 (spec_Number.calls (w := _) (h := A7.out)) ?_; intro w16 _) | ((with_reducible refine gate_callee (f := 180) rfl ?_); refine gC (some 53) Tryz.func180 (spec_Number.calls (w := _) (h := A8.out)) ?_; intro w17 _))
 have H := H'.out; clear H'
 by_cases c18 : a0.toList = ([] : List UInt8)
 ·
  rw [if_pos c18] at H
  have c18b0 : (a0.toList == ([] : List UInt8)) = true := beq_iff_eq.mpr c18; have c18b1 : (a0.toList != ([] : List UInt8)) = false := bne_eq_false_iff_eq.mpr c18; clear c18
  (first | rw [c18b0] | (simp only [i64_w, i32_w]; rw [c18b0]) | rw [show List.isEmpty (a0.toList) = true from by simpa using c18b0] | skip)
  simp only [Option.some.injEq, Prod.mk.injEq] at H
  obtain ⟨rfl, rfl, rfl, rfl, rfl⟩ := H
  go_wp2
  refine bodyPost_ret (results_ct rfl _ _ gb196 156 #[.int .i64 0, .int .i64 0, .int .i64 0, .int .i64 0] (0, 0) _ rfl xB Tryz.underlying156 rfl (by kernel_rfl)) rfl ?_
  exact ⟨y0_13, UpW.out⟩
 rw [if_neg c18] at H
 have c18b0 : (a0.toList == ([] : List UInt8)) = false := beq_eq_false_iff_ne.mpr c18; have c18b1 : (a0.toList != ([] : List UInt8)) = true := bne_iff_ne.mpr c18
 (first | rw [c18b0] | (simp only [i64_w, i32_w]; rw [c18b0]) | rw [show List.isEmpty (a0.toList) = false from by simpa using c18b0] | skip)
 obtain ⟨t215, A19, H⟩ := oB H; (try dsimp only at H); have H' := Aside0.mk H; clear H
 go_upto_if 64 with (first | (go_at_call 194; refine aC (spec_TxText.calls (w := _) (h := A19.out)) ?_; intro w20 _))
 have H := H'.out; clear H'
 by_cases c21 : t215.toList = a0.toList
 ·
  rw [if_pos c21] at H
  have c21b0 : (t215.toList == a0.toList) = true := beq_iff_eq.mpr c21; have c21b1 : (t215.toList != a0.toList) = false := bne_eq_false_iff_eq.mpr c21; clear c21
  (first | rw [c21b0] | (simp only [i64_w, i32_w]; rw [c21b0]) | skip)
  simp only [Option.some.injEq, Prod.mk.injEq] at H
  obtain ⟨rfl, rfl, rfl, rfl, rfl⟩ := H
  go_wp2
  refine bodyPost_ret (results_ct rfl _ _ gb196 156 #[.int .i64 t207, .int .i64 t209, .int .i64 t211, .int .i64 t213] (0, 0) _ rfl xB Tryz.underlying156 rfl (by kernel_rfl)) rfl ?_
  exact ⟨y0_13, UpW.out⟩
 rw [if_neg c21] at H
 have c21b0 : (t215.toList == a0.toList) = false := beq_eq_false_iff_ne.mpr c21; have c21b1 : (t215.toList != a0.toList) = true := bne_iff_ne.mpr c21
 (first | rw [c21b0] | (simp only [i64_w, i32_w]; rw [c21b0]) | skip)
 simp only [Option.some.injEq, Prod.mk.injEq] at H
 obtain ⟨rfl, rfl, rfl, rfl, rfl⟩ := H
 go_wp2
 refine bodyPost_ret (results_ct rfl _ _ gb196 156 #[.int .i64 0, .int .i64 0, .int .i64 0, .int .i64 0] (0, 0) _ rfl xB Tryz.underlying156 rfl (by kernel_rfl)) rfl ?_
 exact ⟨y0_13, UpW.out⟩

/-! ### spec_TxsOf: function 181 -/
def spec_TxsOf.l0 : Nat → List (S156) → List ByteArray → Int → Option ((List (S156)) × Bool)
 | 0, _, _, _ => none
 | k + 1, x4, x5, x6 => if x6 < (x5.length : Int) then (if 0 ≤ x6 then ((spec_TxOf.f k (rdOf ByteArray.empty x5 x6)).bind fun bt223 => (if bt223.2.2.2.2 = true then (if x4.length < 4398046511104 then (spec_TxsOf.l0 k (x4 ++ [(⟨bt223.1, bt223.2.1, bt223.2.2.1, bt223.2.2.2.1⟩ : S156)]) x5 (wrap64 (x6 + 1))) else (none)) else (some ((([] : List (S156))), false)))) else (none)) else (some (x4, true))
def spec_TxsOf.f (k : Nat) (a0 : ByteArray) : Option ((List (S156)) × Bool) := (some (([] : List (S156)) : List (S156))).bind fun y216 => (if a0.toList = ([] : List UInt8) then (some (y216, true)) else ((spec_Split.f k a0 44).bind fun t219 => (spec_TxsOf.l0 k y216 t219 0)))
theorem spec_TxsOf.mono_l : ∀ k, (∀ y0 y1 y2, LeO (spec_TxsOf.l0 k y0 y1 y2) (spec_TxsOf.l0 (k + 1) y0 y1 y2))
 | 0 => fun _ _ _ r h => by simp [spec_TxsOf.l0] at h
 | k + 1 => by
  have ih0 := spec_TxsOf.mono_l k
  intro y0 y1 y2
  unfold spec_TxsOf.l0
  repeat' first | (with_reducible exact ih0 _ _ _) | (with_reducible exact spec_Split.mono _ _ _) | (with_reducible exact spec_TxOf.mono _ _) | (with_reducible exact LeO.refl _) | (with_reducible exact LeO.none _) | (with_reducible refine LeO.ite ?_ ?_) | (with_reducible refine LeO.bind ?_ (fun _ => ?_))
theorem spec_TxsOf.mono : ∀ a0 k, LeO (spec_TxsOf.f k a0) (spec_TxsOf.f (k + 1) a0) := by
 intro a0 k
 have ih0 := spec_TxsOf.mono_l k
 unfold spec_TxsOf.f
 repeat' first | (with_reducible exact ih0 _ _ _) | (with_reducible exact spec_Split.mono _ _ _) | (with_reducible exact spec_TxOf.mono _ _) | (with_reducible exact LeO.refl _) | (with_reducible exact LeO.none _) | (with_reducible refine LeO.ite ?_ ?_) | (with_reducible refine LeO.bind ?_ (fun _ => ?_))
set_option maxHeartbeats 8000000 in
set_option maxRecDepth 100000 in
theorem spec_TxsOf.calls (k : Nat) (a0 : ByteArray) (r1 : List (S156)) (r2 : Bool) (w : World) (h : spec_TxsOf.f k a0 = some (r1, r2)) :
  Calls Tryz.prog 181 #[.string a0] w fun e w' => ∃ v0_ : Value, e = .returned (.tuple #[v0_, .bool r2]) ∧ Kd.R k156 156 w' w.heap.size (fun _ => True) v0_ r1 ∧ Below w.heap.size w w' := by
 have hu156 := Tryz.underlying156; have HB := Aside0.mk (Below.refl w.heap.size w)
 have H := h; unfold spec_TxsOf.f at H
 clear h; obtain ⟨y216, hy216⟩ : ∃ y_ : List (S156), y_ = (([] : List (S156))) := ⟨_, rfl⟩
 replace H : (if a0.toList = ([] : List UInt8) then (some (y216, true)) else ((spec_Split.f k a0 44).bind fun t219 => (spec_TxsOf.l0 k y216 t219 0))) = some (r1, r2) := by first | (rw [hy216]; with_reducible exact H) | (have H2_ := (Option.bind_some _ _).symm.trans H; rw [hy216]; with_reducible exact H2_) | (have H2_ := (Option.bind_some _ _).symm.trans H; with_reducible exact H2_) | with_reducible exact H | (rw [hy216]; exact H) | exact H
 have Ny216 := Aside0.mk hy216; clear hy216
 by_cases c2 : a0.toList = ([] : List UInt8)
 ·
  rw [if_pos c2] at H
  have c2b0 : (a0.toList == ([] : List UInt8)) = true := beq_iff_eq.mpr c2; have c2b1 : (a0.toList != ([] : List UInt8)) = false := bne_eq_false_iff_eq.mpr c2; clear c2
  simp only [Option.some.injEq, Prod.mk.injEq] at H
  obtain ⟨rfl, rfl⟩ := H
  go_enter Tryz.func181, Tryz.ntmps181
  go_wp2_with (first | ((with_reducible refine gate_dst (N := 9) rfl ?_); refine Kd.R_lit k156 _ 156 ?hg (N := 9) ?hd (xs := ([] : List (S156))) (inner := []) (ok := fun _ => True) (okp := fun _ => True) ?hr ?hp (fun _ hk => hk) trivial (Below.refl _ _) (Nat.le_refl _) (by simp) ?_; (case hd => rfl); (case hg => rfl); (case hr => first | (go_simp; done) | (go_simp; rfl)); (case hp => exact (Reps.none _ _)); intro v217 w3 ho4 hb hg_ hnew_; clear hg_ hnew_; (first | rw [← Ny216.out] at ho4 | (simp only [Int.reduceToNat] at ho4; rw [← Ny216.out] at ho4)); have HO218 := Aside0.mk (Kd.R_lower ho4 (below_size (bI HB.out))); replace HB := bs HB hb; clear hb ho4))
  go_ret2
  exact ⟨_, y0_7, by (with_reducible repeat (first | apply Kd.R_alloc | apply Kd.R_drewN | apply Kd.R_drew)); exact HO218.out, bI HB.out⟩
 rw [if_neg c2] at H
 have c2b0 : (a0.toList == ([] : List UInt8)) = false := beq_eq_false_iff_ne.mpr c2; have c2b1 : (a0.toList != ([] : List UInt8)) = true := bne_iff_ne.mpr c2; obtain ⟨t219, A5, H⟩ := oB H; (try dsimp only at H); have H' := Aside0.mk H; clear H
 go_enter Tryz.func181, Tryz.ntmps181
 go_wp2_with (first | ((with_reducible refine gate_dst (N := 9) rfl ?_); refine Kd.R_lit k156 _ 156 ?hg (N := 9) ?hd (xs := ([] : List (S156))) (inner := []) (ok := fun _ => True) (okp := fun _ => True) ?hr ?hp (fun _ hk => hk) trivial (Below.refl _ _) (Nat.le_refl _) (by simp) ?_; (case hd => rfl); (case hg => rfl); (case hr => first | (go_simp; done) | (go_simp; rfl)); (case hp => exact (Reps.none _ _)); intro v217 w6 ho7 hb hg_ hnew_; clear hg_ hnew_; (first | rw [← Ny216.out] at ho7 | (simp only [Int.reduceToNat] at ho7; rw [← Ny216.out] at ho7)); have HO218 := Aside0.mk (Kd.R_lower ho7 (below_size (bI HB.out))); replace HB := bs HB hb; clear hb ho7) | ((with_reducible refine gate_callee (f := 178) rfl ?_); refine gB (some 14) Tryz.func178 #[.string a0, .int .u8 44] ?_; (with_reducible refine (spec_Split.calls k a0 44 t219 _ A5.out).mono ?_); rintro e w8 ⟨v220, rfl, ho0, hb⟩; refine ⟨_, rfl, ?_⟩; replace HO218 := rb HO218 hb; have HO221 := Aside0.mk (Kd.R_lower ho0 (below_size (bI HB.out))); replace HB := bs HB hb; (try clear hb); (try clear ho0)))
 go_loopg [4, 6] k (fun kq v4 v6 w' => ∃ (x4_1 : List (S156)) (x6_1 : Int), v6 = .int .i64 x6_1 ∧ Aside0 (spec_TxsOf.l0 kq x4_1 t219 x6_1 = some (r1, r2)) ∧ Aside0 (kq ≤ k) ∧ Aside0 (Kd.R k156 156 w' w.heap.size (fun _ => True) v4 x4_1) ∧ Aside0 (Kd.R Kd.string 9 w' w.heap.size (fun _ => True) v220 t219) ∧ Aside0 (Below w.heap.size w w'))
 case atStart => exact ⟨(y216), (0), y0_13, H', ⟨Nat.le_refl _⟩, ⟨by (with_reducible repeat (first | apply Kd.R_alloc | apply Kd.R_drewN | apply Kd.R_drew)); exact HO218.out⟩, ⟨by (with_reducible repeat (first | apply Kd.R_alloc | apply Kd.R_drewN | apply Kd.R_drew)); exact HO221.out⟩, ⟨bI HB.out⟩⟩
 case round =>
  clear H'
  try clear c1
  try clear c2
  try clear c2b0
  try clear c2b1
  try clear p2
  obtain ⟨x4_1, x6_1, rfl, HA, HK1, HO_4, HO_5, HB⟩ := hrel; cases gk with
  | zero => exact absurd HA.out (by simp [spec_TxsOf.l0])
  | succ k1 =>
   have H := HA.out; clear HA
   simp only [spec_TxsOf.l0] at H
   by_cases c9 : x6_1 < (t219.length : Int)
   ·
    rw [if_pos c9] at H
    have c9b0 : decide (x6_1 < (t219.length : Int)) = true := decide_eq_true c9; clear c9
    by_cases c10 : 0 ≤ x6_1
    rotate_left
    ·
     rw [if_neg c10] at H
     exact absurd H (by simp)
    rw [if_pos c10] at H
    have c10b0 : decide (0 ≤ x6_1) = true := decide_eq_true c10; clear c10; obtain ⟨⟨t223, t224, t225, t226, t227⟩, A11, H⟩ := oB H; (try dsimp only at H)
    by_cases c12 : t227 = true
    ·
     subst c12
     rw [if_pos rfl] at H
     by_cases c13 : x4_1.length < 4398046511104
     rotate_left
     ·
      rw [if_neg c13] at H
      exact absurd H (by simp)
     rw [if_pos c13] at H
     have LMc13 := Aside0.mk c13; clear c13; obtain ⟨y229, hy229⟩ : ∃ y_ : List (S156), y_ = (x4_1 ++ [(⟨t223, t224, t225, t226⟩ : S156)]) := ⟨_, rfl⟩
     replace H : (spec_TxsOf.l0 k1 y229 t219 (wrap64 (x6_1 + 1))) = some (r1, r2) := by first | (rw [hy229]; with_reducible exact H) | (have H2_ := (Option.bind_some _ _).symm.trans H; rw [hy229]; with_reducible exact H2_) | (have H2_ := (Option.bind_some _ _).symm.trans H; with_reducible exact H2_) | with_reducible exact H | (rw [hy229]; exact H) | exact H
     have Ny229 := Aside0.mk hy229; clear hy229; have H' := Aside0.mk H; clear H; obtain ⟨Ao14, co14, eo14⟩ := Kd.R_slice HO_5.out; subst eo14; have p222 : 0 ≤ (x6_1 : Int) := of_decide_eq_true y0_12; have q222 : x6_1 < (t219.length : Int) := of_decide_eq_true y0_12; obtain ⟨ad222, e222, hx222_0⟩ := Kd.at_string (Kd.R_reads' HO_5.out).2.2 x6_1 p222 q222; cases e222; replace p222 := eq_true p222; replace q222 := eq_true q222
     go_wp2_with (first | ((with_reducible refine gate_callee (f := 199) rfl ?_); refine gB (some 26) Tryz.func199 #[.string (rdOf ByteArray.empty t219 x6_1)] ?_; (with_reducible refine (spec_TxOf.calls k1 (rdOf ByteArray.empty t219 x6_1) t223 t224 t225 t226 true _ A11.out).mono ?_); rintro e w15 ⟨rfl, hb⟩; refine ⟨_, rfl, ?_⟩; replace HO_4 := rb HO_4 hb; replace HO_5 := rb HO_5 hb; replace HB := bs HB hb; (try clear hb); (try clear hb2); (try clear hk); (try clear hi)) | ((with_reducible refine gd 7 ?_); refine bA 7 #[.int .i64 0, .int .i64 0, .int .i64 0, .int .i64 0] 156 ?_; intro gb228 hg w16 hbox hb; replace HO_4 := Aside0.mk (Kd.R_below (Kd.R_elderB (rI HO_4.out) gb228 (Nat.le_of_eq hg.symm)) hb); replace HO_5 := rb HO_5 hb; have BK228 := Aside0.mk (hbox); have GW228 := bg hg HB; have GJ228 := gi GW228; have GE228 := GW228; replace HB := bs HB hb; clear hb hbox hg; obtain ⟨hcz17_0, hcz17_1, hcz17_2, hcz17_3, hfz17_0, hfz17_1, hfz17_2, hfz17_3⟩ := cs4 BK228) | ((with_reducible refine gate_builtin (b := .append) (xs := #[.tmp 32, .tmp 34]) rfl ?_); at_builtin; refine Kd.R_append k156 (w0 := w) w.heap.size rfl (.tmp 32) (.tmp 34) 154 156 (.agg #[(.int .i64 0), (.int .i64 0), (.int .i64 0), (.int .i64 0)]) 32 rfl Tryz.underlying154 info156 rfl (by decide) (by omega) u4 x4_1 (⟨t223, t224, t225, t226⟩ : S156) [.int .i64 t223, .int .i64 t224, .int .i64 t225, .int .i64 t226] (fun k_ => k_ ≠ gb228) (fun _ => False) rfl (by first | (go_simp; done) | (go_simp; rfl)) ?aP (fun _ hk => hk.elim) ?aF ?aO ?aB ?aS ?aL ?_; (case aP => exact k156_mkM _ _ _ (⟨t223, t224, t225, t226⟩ : S156)); (case aB => exact (bI HB.out)); (case aF => exact (fun k_ hk => Kd.freshB (g := gb228) (o := .cells #[.int .i64 t223, .int .i64 t224, .int .i64 t225, .int .i64 t226] 156 (0, 0)) (pI BK228) k_ hk)); (case aO => exact (rI (Kd.R_mono (Kd.R_far (p := ⟨gb228, 3, none⟩) (Kd.R_far (p := ⟨gb228, 2, none⟩) (Kd.R_far (p := ⟨gb228, 1, none⟩) (Kd.R_far (p := ⟨gb228, 0, none⟩) (Kd.R_mono HO_4.out (fun k_ hk => (⟨hk, hk.2⟩ : _ ∧ k_ ≠ gb228))) (fun _ hk => hk.2) (.int .i64 t223)) (fun _ hk => hk.2) (.int .i64 t224)) (fun _ hk => hk.2) (.int .i64 t225)) (fun _ hk => hk.2) (.int .i64 t226)) (fun _ hk => hk.1.2)))); (case aS => exact (below_size (bI HB.out))); (case aL => have := LMc13.out; omega); intro v230 w18 ho hb hg hat; rw [← Ny229.out] at ho; have n0_ := Aside0.mk (Kd.R_over' (rI (Kd.R_mono (Kd.R_far (p := ⟨gb228, 3, none⟩) (Kd.R_far (p := ⟨gb228, 2, none⟩) (Kd.R_far (p := ⟨gb228, 1, none⟩) (Kd.R_far (p := ⟨gb228, 0, none⟩) (Kd.R_types HO_5.out BK228.out (by decide)) (fun _ hk => hk.2) (.int .i64 t223)) (fun _ hk => hk.2) (.int .i64 t224)) (fun _ hk => hk.2) (.int .i64 t225)) (fun _ hk => hk.2) (.int .i64 t226)) (fun _ h_ => h_.1))) (Kd.R_typed (rI (Kd.R_mono (Kd.R_far (p := ⟨gb228, 3, none⟩) (Kd.R_far (p := ⟨gb228, 2, none⟩) (Kd.R_far (p := ⟨gb228, 1, none⟩) (Kd.R_far (p := ⟨gb228, 0, none⟩) (Kd.R_mono HO_4.out (fun k_ hk => (⟨hk, hk.2⟩ : _ ∧ k_ ≠ gb228))) (fun _ hk => hk.2) (.int .i64 t223)) (fun _ hk => hk.2) (.int .i64 t224)) (fun _ hk => hk.2) (.int .i64 t225)) (fun _ hk => hk.2) (.int .i64 t226)) (fun _ h_ => h_.1)))) (by decide) hg); have n1_ := Aside0.mk (blk_grown (g := gb228) (o := .cells #[.int .i64 t223, .int .i64 t224, .int .i64 t225, .int .i64 t226] 156 (0, 0)) (pI BK228) hg (Kd.R_away HO_4.out (fun _ hk => hk.2))); have n2_ := Aside0.mk (hb); have n3_ := Aside0.mk (ho); clear HO_5; clear BK228; clear HB; clear HO_4; have HO_5 := n0_; have BK228 := n1_; have HB := n2_; have HO231 := n3_; clear n0_ n1_ n2_ n3_; clear ho hb hg hat))
     go_roundg k1
     case measure => have := HK1.out; omega
     case rel => exact ⟨(y229), (wrap64 (x6_1 + 1)), y0_13, H', ⟨y0_16⟩, ⟨by (with_reducible repeat (first | apply Kd.R_alloc | apply Kd.R_drewN | apply Kd.R_drew)); exact Kd.R_mono HO231.out (fun _ hk => trivial)⟩, ⟨y0_5⟩, ⟨bI HB.out⟩⟩
    replace c12 := Bool.eq_false_iff.mpr c12; subst c12
    rw [if_neg (show ¬ (false = true) by decide)] at H
    obtain ⟨y232, hy232⟩ : ∃ y_ : List (S156), y_ = (([] : List (S156))) := ⟨_, rfl⟩
    replace H : (some (y232, false)) = some (r1, r2) := by first | (rw [hy232]; with_reducible exact H) | (have H2_ := (Option.bind_some _ _).symm.trans H; rw [hy232]; with_reducible exact H2_) | (have H2_ := (Option.bind_some _ _).symm.trans H; with_reducible exact H2_) | with_reducible exact H | (rw [hy232]; exact H) | exact H
    have Ny232 := Aside0.mk hy232; clear hy232
    simp only [Option.some.injEq, Prod.mk.injEq] at H
    obtain ⟨rfl, rfl⟩ := H; obtain ⟨Ao19, co19, eo19⟩ := Kd.R_slice HO_5.out; subst eo19; have p222 : 0 ≤ (x6_1 : Int) := of_decide_eq_true y0_12; have q222 : x6_1 < (t219.length : Int) := of_decide_eq_true y0_12; obtain ⟨ad222, e222, hx222_0⟩ := Kd.at_string (Kd.R_reads' HO_5.out).2.2 x6_1 p222 q222; cases e222; replace p222 := eq_true p222; replace q222 := eq_true q222
    go_wp2_with (first | ((with_reducible refine gate_callee (f := 199) rfl ?_); refine gB (some 26) Tryz.func199 #[.string (rdOf ByteArray.empty t219 x6_1)] ?_; (with_reducible refine (spec_TxOf.calls k1 (rdOf ByteArray.empty t219 x6_1) t223 t224 t225 t226 false _ A11.out).mono ?_); rintro e w20 ⟨rfl, hb⟩; refine ⟨_, rfl, ?_⟩; replace HO_4 := rb HO_4 hb; replace HO_5 := rb HO_5 hb; replace HB := bs HB hb; (try clear hb); (try clear hb2); (try clear hk); (try clear hi)) | ((with_reducible refine gd 7 ?_); refine bA 7 #[.int .i64 0, .int .i64 0, .int .i64 0, .int .i64 0] 156 ?_; intro gb228 hg w21 hbox hb; replace HO_4 := Aside0.mk (Kd.R_below (Kd.R_elderB (rI HO_4.out) gb228 (Nat.le_of_eq hg.symm)) hb); replace HO_5 := rb HO_5 hb; have BK228 := Aside0.mk (hbox); have GW228 := bg hg HB; have GJ228 := gi GW228; have GE228 := GW228; replace HB := bs HB hb; clear hb hbox hg; obtain ⟨hcz22_0, hcz22_1, hcz22_2, hcz22_3, hfz22_0, hfz22_1, hfz22_2, hfz22_3⟩ := cs4 BK228) | ((with_reducible refine gate_dst (N := 31) rfl ?_); refine Kd.R_lit k156 _ 156 ?hg (N := 31) ?hd (xs := ([] : List (S156))) (inner := []) (ok := fun _ => True) (okp := fun _ => True) ?hr ?hp (fun _ hk => hk) trivial (Below.refl _ _) (Nat.le_refl _) (by simp) ?_; (case hd => rfl); (case hg => rfl); (case hr => first | (go_simp; done) | (go_simp; rfl)); (case hp => exact (Reps.none _ _)); intro v233 w23 ho24 hb hg_ hnew_; clear hg_ hnew_; (first | rw [← Ny232.out] at ho24 | (simp only [Int.reduceToNat] at ho24; rw [← Ny232.out] at ho24)); replace HO_5 := Aside0.mk (Kd.R_below (rI (Kd.R_mono (Kd.R_far (p := ⟨gb228, 3, none⟩) (Kd.R_far (p := ⟨gb228, 2, none⟩) (Kd.R_far (p := ⟨gb228, 1, none⟩) (Kd.R_far (p := ⟨gb228, 0, none⟩) (Kd.R_types HO_5.out BK228.out (by decide)) (fun _ hk => hk.2) (.int .i64 t223)) (fun _ hk => hk.2) (.int .i64 t224)) (fun _ hk => hk.2) (.int .i64 t225)) (fun _ hk => hk.2) (.int .i64 t226)) (fun _ h_ => h_.1))) hb); have HO234 := Aside0.mk (Kd.R_lower (Kd.R_newB (Kd.R_new' ho24 (Kd.R_lt (rI (Kd.R_mono (Kd.R_far (p := ⟨gb228, 3, none⟩) (Kd.R_far (p := ⟨gb228, 2, none⟩) (Kd.R_far (p := ⟨gb228, 1, none⟩) (Kd.R_far (p := ⟨gb228, 0, none⟩) (Kd.R_mono HO_4.out (fun k_ hk => (⟨hk, hk.2⟩ : _ ∧ k_ ≠ gb228))) (fun _ hk => hk.2) (.int .i64 t223)) (fun _ hk => hk.2) (.int .i64 t224)) (fun _ hk => hk.2) (.int .i64 t225)) (fun _ hk => hk.2) (.int .i64 t226)) (fun _ h_ => h_.1))))) (g := gb228) (o := .cells #[.int .i64 t223, .int .i64 t224, .int .i64 t225, .int .i64 t226] 156 (0, 0)) (pI BK228)) (below_size (bI HB.out))); replace HO_4 := Aside0.mk (Kd.R_elder' (rI (Kd.R_mono (Kd.R_far (p := ⟨gb228, 3, none⟩) (Kd.R_far (p := ⟨gb228, 2, none⟩) (Kd.R_far (p := ⟨gb228, 1, none⟩) (Kd.R_far (p := ⟨gb228, 0, none⟩) (Kd.R_mono HO_4.out (fun k_ hk => (⟨hk, hk.2⟩ : _ ∧ k_ ≠ gb228))) (fun _ hk => hk.2) (.int .i64 t223)) (fun _ hk => hk.2) (.int .i64 t224)) (fun _ hk => hk.2) (.int .i64 t225)) (fun _ hk => hk.2) (.int .i64 t226)) (fun _ h_ => h_.1))) (Kd.R_base ho24) hb); replace BK228 := bp BK228 hb #[.int .i64 t223, .int .i64 t224, .int .i64 t225, .int .i64 t226]; replace HB := bs HB hb; clear hb ho24))
    go_ret2
    exact ⟨_, y0_7, by (with_reducible repeat (first | apply Kd.R_alloc | apply Kd.R_drewN | apply Kd.R_drew)); exact Kd.R_mono HO234.out (fun _ hk => trivial), bI HB.out⟩
   rw [if_neg c9] at H
   have c9b0 : decide (x6_1 < (t219.length : Int)) = false := decide_eq_false c9; clear c9
   simp only [Option.some.injEq, Prod.mk.injEq] at H
   obtain ⟨rfl, rfl⟩ := H; obtain ⟨Ao25, co25, eo25⟩ := Kd.R_slice HO_5.out; subst eo25
   go_wp2
   go_ret2
   exact ⟨_, y0_7, by (with_reducible repeat (first | apply Kd.R_alloc | apply Kd.R_drewN | apply Kd.R_drew)); exact HO_4.out, bI HB.out⟩

end Go.Proofs.YtdmjhgogljhfkaaGreatDoor.PFnExactTableAdd
