-- By a program of this session, out of the translation (the print of the kit, with turns of its own). Lean checks it.
import Derived.Test.YtdmjhgogljhfkaaGreatDoorPFnExactLastNotex0
import Derived.Test.YtdmjhgogljhfkaaGreatDoorPFnExactLastNotex7
namespace Go.Proofs.YtdmjhgogljhfkaaGreatDoor.PFnExactLastNote
open Go.RowKit Go.Proofs.YtdmjhgogljhfkaaGreatDoorW.PrintWords Go.Proofs.YtdmjhgogljhfkaaGreatDoorW.PrintLast Go.Proofs.YtdmjhgogljhfkaaGreatDoorW.PrintMore
attribute [local go_sem] max2_int min2_int max_two min_two max_three min_three max_four min_four   -- for this text's walks alone
attribute [local go_sem] cell_in frozen_in
set_option synthInstance.maxSize 1000000
set_option synthInstance.maxHeartbeats 2000000
set_option linter.unusedVariables false
set_option linter.unusedSimpArgs false

/-! ### impl_Number: function 176 -/
mutual
def impl_Number.j0 : Nat → ByteArray → Bool → Option (Int × Bool)
 | 0, _, _ => none
 | k + 1, x0, x13 => if x13 = true then (some (0, false)) else (impl_Number.l0 k x0 0 0)
def impl_Number.l0 : Nat → ByteArray → Int → Int → Option (Int × Bool)
 | 0, _, _, _ => none
 | k + 1, x0, x4, x5 => if x5 < (x0.size : Int) then (if 0 ≤ x5 then (if (bt x0 x5) < 48 then (some (0, false)) else (if (bt x0 x5) > 57 then (some (0, false)) else (impl_Number.l0 k x0 (wrap64 ((wrap64 (10 * x4)) + (((bt x0 x5) - 48) % 256))) (wrap64 (x5 + 1))))) else (none)) else ((impl_Digits.f x4).bind fun t330 => (if t330.toList = x0.toList then (some (x4, true)) else (some (0, false))))
end
def impl_Number.f (k : Nat) (a0 : ByteArray) : Option (Int × Bool) := if (a0.size : Int) < 1 then (impl_Number.j0 k a0 true) else (impl_Number.j0 k a0 (decide ((a0.size : Int) > 6)))
theorem impl_Number.mono_l : ∀ k, (∀ y0 y1, LeO (impl_Number.j0 k y0 y1) (impl_Number.j0 (k + 1) y0 y1)) ∧ (∀ y0 y1 y2, LeO (impl_Number.l0 k y0 y1 y2) (impl_Number.l0 (k + 1) y0 y1 y2))
 | 0 => ⟨fun _ _ r h => by simp [impl_Number.j0] at h, fun _ _ _ r h => by simp [impl_Number.l0] at h⟩
 | k + 1 => by
  obtain ⟨ih0, ih1⟩ := impl_Number.mono_l k
  refine ⟨?_, ?_⟩
  ·
   intro y0 y1
   unfold impl_Number.j0
   repeat' first | (with_reducible exact ih0 _ _) | (with_reducible exact ih1 _ _ _) | (with_reducible exact LeO.refl _) | (with_reducible exact LeO.none _) | (with_reducible refine LeO.ite ?_ ?_) | (with_reducible refine LeO.bind ?_ (fun _ => ?_))
  intro y0 y1 y2
  unfold impl_Number.l0
  repeat' first | (with_reducible exact ih0 _ _) | (with_reducible exact ih1 _ _ _) | (with_reducible exact LeO.refl _) | (with_reducible exact LeO.none _) | (with_reducible refine LeO.ite ?_ ?_) | (with_reducible refine LeO.bind ?_ (fun _ => ?_))
theorem impl_Number.mono : ∀ a0 k, LeO (impl_Number.f k a0) (impl_Number.f (k + 1) a0) := by
 intro a0 k
 obtain ⟨ih0, ih1⟩ := impl_Number.mono_l k
 unfold impl_Number.f
 repeat' first | (with_reducible exact ih0 _ _) | (with_reducible exact ih1 _ _ _) | (with_reducible exact LeO.refl _) | (with_reducible exact LeO.none _) | (with_reducible refine LeO.ite ?_ ?_) | (with_reducible refine LeO.bind ?_ (fun _ => ?_))
set_option maxHeartbeats 8000000 in
set_option maxRecDepth 100000 in
theorem impl_Number.calls (k : Nat) (a0 : ByteArray) (r1 : Int) (r2 : Bool) (w : World) (h : impl_Number.f k a0 = some (r1, r2)) (hG : Glob w := by exact gG HG HB) :
  Calls Tryz.prog 176 #[.string a0] w fun e w' => e = .returned (.tuple #[.int .i64 r1, .bool r2]) ∧ Below w.heap.size w w' := by
 have HG := Aside0.mk hG; clear hG; have HB := Aside0.mk (Below.refl w.heap.size w); have H := h; unfold impl_Number.f at H; clear h; have HC2 := Aside0.mk H; clear H
 go_enter Tryz.func176, Tryz.ntmps176
 go_upto_region 1 with (fail)
 go_cut [13] (fun v13 wc => ∃ (kq : Nat) (x13_1 : Bool), v13 = .bool x13_1 ∧ Aside0 (impl_Number.j0 kq a0 x13_1 = some (r1, r2)) ∧ Aside0 (kq ≤ k) ∧ Aside0 (Below w.heap.size w wc))
 case first =>
  have H := HC2.out; clear HC2
  by_cases c3 : (a0.size : Int) < 1
  ·
   rw [if_pos c3] at H
   have c3b0 : decide ((a0.size : Int) < 1) = true := decide_eq_true c3
   have c3b1 : decide (a0.size < 1) = true := decide_eq_true (by omega)
   clear c3
   (first | rw [c3b0] | (simp only [i64_w, i32_w]; rw [c3b0]) | skip)
   have H' := Aside0.mk H; clear H
   go_wp2
   go_meet
   case rel => exact ⟨_, (true), y0_17, H', ⟨y0_18⟩, ⟨bI HB.out⟩⟩
  rw [if_neg c3] at H
  have c3b0 : decide ((a0.size : Int) < 1) = false := decide_eq_false c3
  have c3b1 : decide (a0.size < 1) = false := decide_eq_false (by omega)
  clear c3
  (first | rw [c3b0] | (simp only [i64_w, i32_w]; rw [c3b0]) | skip)
  have H' := Aside0.mk H; clear H
  go_wp2
  go_meet
  case rel => exact ⟨_, (decide ((a0.size : Int) > 6)), y0_17, H', ⟨y0_18⟩, ⟨bI HB.out⟩⟩
 case rest =>
  clear HC2
  try clear c1
  try clear p2
  try clear c3
  try clear c3b0
  try clear c3b1
  obtain ⟨kq, x13_1, rfl, HA, HJ1, HB⟩ := hcut; cases kq with
  | zero => exact absurd HA.out (by simp [impl_Number.j0])
  | succ kj1 =>
   have H := HA.out; clear HA
   simp only [impl_Number.j0] at H
   by_cases c4 : x13_1 = true
   ·
    subst c4
    rw [if_pos rfl] at H
    simp only [Option.some.injEq, Prod.mk.injEq] at H
    obtain ⟨rfl, rfl⟩ := H
    go_wp2
    go_ret2
    exact ⟨y0_11, bI HB.out⟩
   replace c4 := Bool.eq_false_iff.mpr c4; subst c4
   rw [if_neg (show ¬ (false = true) by decide)] at H
   have H' := Aside0.mk H; clear H
   go_wp2
   go_loopg [4, 5] kj1 (fun kq v4 v5 w' => ∃ (x4_2 : Int) (x5_2 : Int), v4 = .int .i64 x4_2 ∧ v5 = .int .i64 x5_2 ∧ Aside0 (impl_Number.l0 kq a0 x4_2 x5_2 = some (r1, r2)) ∧ Aside0 (kq ≤ kj1) ∧ Aside0 (Below w.heap.size w w'))
   case atStart => exact ⟨(0), (0), y0_17, y0_17, H', ⟨Nat.le_refl _⟩, ⟨bI HB.out⟩⟩
   case round =>
    clear H'
    try clear c1
    try clear p2
    try clear c3
    try clear c3b0
    try clear c3b1
    try clear c4
    try clear p2
    obtain ⟨x4_2, x5_2, rfl, rfl, HA, HK2, HB⟩ := hrel; cases gk with
    | zero => exact absurd HA.out (by simp [impl_Number.l0])
    | succ k2 =>
     have H := HA.out; clear HA
     simp only [impl_Number.l0] at H
     by_cases c5 : x5_2 < (a0.size : Int)
     ·
      rw [if_pos c5] at H
      have c5b0 : decide (x5_2 < (a0.size : Int)) = true := decide_eq_true c5; clear c5
      by_cases c6 : 0 ≤ x5_2
      rotate_left
      ·
       rw [if_neg c6] at H
       exact absurd H (by simp)
      rw [if_pos c6] at H
      have c6b0 : decide (0 ≤ x5_2) = true := decide_eq_true c6; clear c6
      by_cases c8 : (bt a0 x5_2) < 48
      ·
       rw [if_pos c8] at H
       have c8b0 : decide ((bt a0 x5_2) < 48) = true := decide_eq_true c8; clear c8
       simp only [Option.some.injEq, Prod.mk.injEq] at H
       obtain ⟨rfl, rfl⟩ := H; have p7 : 0 ≤ (x5_2 : Int) := of_decide_eq_true y0_16; have q7 : x5_2 < (a0.size : Int) := of_decide_eq_true y0_16; have hx7 := bt_at a0 x5_2; replace p7 := eq_true p7; replace q7 := eq_true q7
       go_wp2
       go_ret2
       exact ⟨y0_11, bI HB.out⟩
      rw [if_neg c8] at H
      have c8b0 : decide ((bt a0 x5_2) < 48) = false := decide_eq_false c8; clear c8
      by_cases c10 : (bt a0 x5_2) > 57
      ·
       rw [if_pos c10] at H
       have c10b0 : decide (57 < (bt a0 x5_2)) = true := decide_eq_true c10; clear c10
       simp only [Option.some.injEq, Prod.mk.injEq] at H
       obtain ⟨rfl, rfl⟩ := H; have p7 : 0 ≤ (x5_2 : Int) := of_decide_eq_true y0_16; have q7 : x5_2 < (a0.size : Int) := of_decide_eq_true y0_16; have hx7 := bt_at a0 x5_2; replace p7 := eq_true p7; replace q7 := eq_true q7; have p9 : 0 ≤ (x5_2 : Int) := of_decide_eq_true y0_16; have q9 : x5_2 < (a0.size : Int) := of_decide_eq_true y0_16; have hx9 := bt_at a0 x5_2; replace p9 := eq_true p9; replace q9 := eq_true q9
       go_wp2
       go_ret2
       exact ⟨y0_11, bI HB.out⟩
      rw [if_neg c10] at H
      have c10b0 : decide (57 < (bt a0 x5_2)) = false := decide_eq_false c10; clear c10; have H' := Aside0.mk H; clear H; have p7 : 0 ≤ (x5_2 : Int) := of_decide_eq_true y0_16; have q7 : x5_2 < (a0.size : Int) := of_decide_eq_true y0_16; have hx7 := bt_at a0 x5_2; replace p7 := eq_true p7; replace q7 := eq_true q7; have p9 : 0 ≤ (x5_2 : Int) := of_decide_eq_true y0_16; have q9 : x5_2 < (a0.size : Int) := of_decide_eq_true y0_16; have hx9 := bt_at a0 x5_2; replace p9 := eq_true p9; replace q9 := eq_true q9; have p11 : 0 ≤ (x5_2 : Int) := of_decide_eq_true y0_16; have q11 : x5_2 < (a0.size : Int) := of_decide_eq_true y0_16; have hx11 := bt_at a0 x5_2; replace p11 := eq_true p11; replace q11 := eq_true q11
      go_wp2
      go_roundg k2
      case measure => have := HJ1.out; have := HK2.out; omega
      case rel => exact ⟨(wrap64 ((wrap64 (10 * x4_2)) + (((bt a0 x5_2) - 48) % 256))), (wrap64 (x5_2 + 1)), y0_17, y0_17, H', ⟨by have := HJ1.out; have := HK2.out; omega⟩, ⟨bI HB.out⟩⟩
     rw [if_neg c5] at H
     have c5b0 : decide (x5_2 < (a0.size : Int)) = false := decide_eq_false c5; clear c5; obtain ⟨t330, A12, H⟩ := oB H; (try dsimp only at H)
     by_cases c13 : t330.toList = a0.toList
     ·
      rw [if_pos c13] at H
      have c13b0 : (t330.toList == a0.toList) = true := beq_iff_eq.mpr c13; have c13b1 : (t330.toList != a0.toList) = false := bne_eq_false_iff_eq.mpr c13; clear c13
      simp only [Option.some.injEq, Prod.mk.injEq] at H
      obtain ⟨rfl, rfl⟩ := H
      go_wp2_with (first | ((with_reducible refine gate_callee (f := 197) rfl ?_); refine gB (some 39) Tryz.func197 #[.int .i64 x4_2] ?_; (with_reducible refine (impl_Digits.calls x4_2 t330 _ A12.out).mono ?_); rintro e w14 ⟨rfl, hb⟩; refine ⟨_, rfl, ?_⟩; replace HB := bs HB hb; (try clear hb); (try clear hb2); (try clear hk); (try clear hi)))
      go_ret2
      exact ⟨y0_11, bI HB.out⟩
     rw [if_neg c13] at H
     have c13b0 : (t330.toList == a0.toList) = false := beq_eq_false_iff_ne.mpr c13; have c13b1 : (t330.toList != a0.toList) = true := bne_iff_ne.mpr c13
     simp only [Option.some.injEq, Prod.mk.injEq] at H
     obtain ⟨rfl, rfl⟩ := H
     go_wp2_with (first | ((with_reducible refine gate_callee (f := 197) rfl ?_); refine gB (some 39) Tryz.func197 #[.int .i64 x4_2] ?_; (with_reducible refine (impl_Digits.calls x4_2 t330 _ A12.out).mono ?_); rintro e w15 ⟨rfl, hb⟩; refine ⟨_, rfl, ?_⟩; replace HB := bs HB hb; (try clear hb); (try clear hb2); (try clear hk); (try clear hi)))
     go_ret2
     exact ⟨y0_11, bI HB.out⟩

/-! ### impl_TxOk: function 206 -/
def impl_TxOk.f (a0_0 : Int) (a0_1 : Int) (a0_2 : Int) (a0_3 : Int) : Option (Bool) := (impl_within.f a0_0 0 3).bind fun t332 => (if t332 = true then ((impl_within.f a0_1 0 3).bind fun t333 => (if t333 = true then ((impl_within.f a0_2 0 1000).bind fun t334 => (if t334 = true then ((impl_within.f a0_3 0 99).bind fun t335 => (some t335)) else (some false))) else (some false))) else (some false))
set_option maxHeartbeats 8000000 in
set_option maxRecDepth 100000 in
theorem impl_TxOk.calls (a0_0 : Int) (a0_1 : Int) (a0_2 : Int) (a0_3 : Int) (r : Bool) (w : World) (h : impl_TxOk.f a0_0 a0_1 a0_2 a0_3 = some r) :
  Calls Tryz.prog 206 #[.agg #[.int .i64 a0_0, .int .i64 a0_1, .int .i64 a0_2, .int .i64 a0_3]] w fun e w' => e = .returned (.bool r) ∧ Below w.heap.size w w' := by
 have hu156 := Tryz.underlying156; have HB := Aside0.mk (Below.refl w.heap.size w)
 have H := h; unfold impl_TxOk.f at H
 clear h
 go_enter Tryz.func206, Tryz.ntmps206
 have H' := Aside0.mk H; clear H
 go_upto_region 1 with (first | ((with_reducible refine gd 1 ?_); refine bL 1 #[.int .i64 a0_0, .int .i64 a0_1, .int .i64 a0_2, .int .i64 a0_3] 156 ?_; intro gb331 w2 _ _ _))
 have H := H'.out; clear H'; obtain ⟨t332, A3, H⟩ := oB H; (try dsimp only at H)
 by_cases c4 : t332 = true
 ·
  subst c4
  rw [if_pos rfl] at H
  obtain ⟨t333, A5, H⟩ := oB H; (try dsimp only at H)
  by_cases c6 : t333 = true
  ·
   subst c6
   rw [if_pos rfl] at H
   obtain ⟨t334, A7, H⟩ := oB H; (try dsimp only at H)
   by_cases c8 : t334 = true
   ·
    subst c8
    rw [if_pos rfl] at H
    obtain ⟨t335, A9, H⟩ := oB H; (try dsimp only at H); obtain rfl := Option.some.inj H
    go_wp2_with (first | ((with_reducible refine gate_callee (f := 106) rfl ?_); refine gD (some 5) Tryz.func106 (impl_within.calls (w := _) (h := A3.out)) ?_; intro w10 _) | (go_at_call 106; refine aD (impl_within.calls (w := _) (h := A5.out)) ?_; intro w11 _) | (go_at_call 106; refine aD (impl_within.calls (w := _) (h := A7.out)) ?_; intro w12 _) | (go_at_call 106; refine aD (impl_within.calls (w := _) (h := A9.out)) ?_; intro w13 _))
    go_ret
    exact ⟨y0_17, UpW.out⟩
   replace c8 := Bool.eq_false_iff.mpr c8; subst c8
   rw [if_neg (show ¬ (false = true) by decide)] at H
   obtain rfl := Option.some.inj H
   go_wp2_with (first | ((with_reducible refine gate_callee (f := 106) rfl ?_); refine gD (some 5) Tryz.func106 (impl_within.calls (w := _) (h := A3.out)) ?_; intro w14 _) | (go_at_call 106; refine aD (impl_within.calls (w := _) (h := A5.out)) ?_; intro w15 _) | (go_at_call 106; refine aD (impl_within.calls (w := _) (h := A7.out)) ?_; intro w16 _))
   go_ret
   exact ⟨y0_17, UpW.out⟩
  replace c6 := Bool.eq_false_iff.mpr c6; subst c6
  rw [if_neg (show ¬ (false = true) by decide)] at H
  obtain rfl := Option.some.inj H
  go_wp2_with (first | ((with_reducible refine gate_callee (f := 106) rfl ?_); refine gD (some 5) Tryz.func106 (impl_within.calls (w := _) (h := A3.out)) ?_; intro w17 _) | (go_at_call 106; refine aD (impl_within.calls (w := _) (h := A5.out)) ?_; intro w18 _))
  go_ret
  exact ⟨y0_17, UpW.out⟩
 replace c4 := Bool.eq_false_iff.mpr c4; subst c4
 rw [if_neg (show ¬ (false = true) by decide)] at H
 obtain rfl := Option.some.inj H
 go_wp2_with (first | ((with_reducible refine gate_callee (f := 106) rfl ?_); refine gD (some 5) Tryz.func106 (impl_within.calls (w := _) (h := A3.out)) ?_; intro w19 _))
 go_ret
 exact ⟨y0_17, UpW.out⟩

/-! ### impl_TxText: function 207 -/
def impl_TxText.f (a0_0 : Int) (a0_1 : Int) (a0_2 : Int) (a0_3 : Int) : Option (ByteArray) := (impl_TxOk.f a0_0 a0_1 a0_2 a0_3).bind fun t337 => (if t337 = true then ((impl_Digits.f a0_0).bind fun t338 => (if t338.size + 1 ≤ 9223372036854775807 then ((impl_Digits.f a0_1).bind fun t339 => (if (t338 ++ (⟨#[62]⟩ : ByteArray)).size + t339.size ≤ 9223372036854775807 then (if ((t338 ++ (⟨#[62]⟩ : ByteArray)) ++ t339).size + 1 ≤ 9223372036854775807 then ((impl_Digits.f a0_2).bind fun t340 => (if (((t338 ++ (⟨#[62]⟩ : ByteArray)) ++ t339) ++ (⟨#[58]⟩ : ByteArray)).size + t340.size ≤ 9223372036854775807 then (if ((((t338 ++ (⟨#[62]⟩ : ByteArray)) ++ t339) ++ (⟨#[58]⟩ : ByteArray)) ++ t340).size + 1 ≤ 9223372036854775807 then ((impl_Digits.f a0_3).bind fun t341 => (if (((((t338 ++ (⟨#[62]⟩ : ByteArray)) ++ t339) ++ (⟨#[58]⟩ : ByteArray)) ++ t340) ++ (⟨#[35]⟩ : ByteArray)).size + t341.size ≤ 9223372036854775807 then (some ((((((t338 ++ (⟨#[62]⟩ : ByteArray)) ++ t339) ++ (⟨#[58]⟩ : ByteArray)) ++ t340) ++ (⟨#[35]⟩ : ByteArray)) ++ t341)) else (none))) else (none)) else (none))) else (none)) else (none))) else (none))) else (some (⟨#[]⟩ : ByteArray)))
def impl_TxText.T3 : Bool × List (List Nat × List Nat) := (true, [([], []), ([0], [0]), ([1], [1]), ([2], [2]), ([], []), ([4], [4]), ([5, 2], [5]), ([3, 6], [3, 6]), ([7], [7]), ([], []), ([9], [9]), ([10, 6], [10]), ([8, 11], [8, 11]), ([12], [12]), ([], []), ([14], [14]), ([15, 11], [15]), ([13, 16], [13, 16]), ([17, 16, 0, 1, 2, 3, 4, 5, 6, 7, 8, 9, 10, 11, 12, 13, 14, 15, 16, 17], [17])])
def impl_TxText.B3 : List Nat := [0, 1, 3, 7, 0, 16, 55, 127, 255, 0, 512, 1655, 4095, 8191, 0, 16384, 52855, 131071, 262143]
theorem impl_TxText.tab3 : rtab .any (opsOf Tryz.f207 3) = impl_TxText.T3 := by kernel_rfl
theorem impl_TxText.bits3 : waitsOk impl_TxText.T3.2 impl_TxText.B3 = true := by kernel_rfl
set_option maxHeartbeats 8000000 in
set_option maxRecDepth 100000 in
theorem impl_TxText.calls (a0_0 : Int) (a0_1 : Int) (a0_2 : Int) (a0_3 : Int) (r : ByteArray) (w : World) (h : impl_TxText.f a0_0 a0_1 a0_2 a0_3 = some r) (hG : Glob w := by exact gG HG HB) :
  Calls Tryz.prog 207 #[.agg #[.int .i64 a0_0, .int .i64 a0_1, .int .i64 a0_2, .int .i64 a0_3]] w fun e w' => e = .returned (.string r) ∧ Below w.heap.size w w' := by
 have HG := Aside0.mk hG; clear hG; have hu156 := Tryz.underlying156; have HB := Aside0.mk (Below.refl w.heap.size w)
 have H := h; unfold impl_TxText.f at H
 clear h; obtain ⟨t337, A2, H⟩ := oB H; (try dsimp only at H)
 go_enter Tryz.func207, Tryz.ntmps207
 have H' := Aside0.mk H; clear H
 go_upto_if 5 with (first | ((with_reducible refine gd 1 ?_); refine bL 1 #[.int .i64 a0_0, .int .i64 a0_1, .int .i64 a0_2, .int .i64 a0_3] 156 ?_; intro gb336 w3 _ _ _) | ((with_reducible refine gate_callee (f := 206) rfl ?_); refine gC (some 4) Tryz.func206 (impl_TxOk.calls (w := _) (h := A2.out)) ?_; intro w4 _))
 have H := H'.out; clear H'
 by_cases c5 : t337 = true
 ·
  subst c5
  rw [if_pos rfl] at H
  obtain ⟨t338, A6, H⟩ := oB H; (try dsimp only at H)
  by_cases c7 : t338.size + 1 ≤ 9223372036854775807
  rotate_left
  ·
   rw [if_neg c7] at H
   exact absurd H (by simp)
  rw [if_pos c7] at H
  have c7b0 := eq_true c7; have c7b1 : decide (t338.size + 1 ≤ 9223372036854775807) = true := decide_eq_true c7
  try have c7b2 : (9223372036854775807 < t338.size + 1) = False := eq_false (Nat.not_lt.2 c7)
  obtain ⟨t339, A8, H⟩ := oB H; (try dsimp only at H)
  by_cases c9 : (t338 ++ (⟨#[62]⟩ : ByteArray)).size + t339.size ≤ 9223372036854775807
  rotate_left
  ·
   rw [if_neg c9] at H
   exact absurd H (by simp)
  rw [if_pos c9] at H
  have c9b0 := eq_true c9; have c9b1 : decide ((t338 ++ (⟨#[62]⟩ : ByteArray)).size + t339.size ≤ 9223372036854775807) = true := decide_eq_true c9
  try have c9b2 : (9223372036854775807 < (t338 ++ (⟨#[62]⟩ : ByteArray)).size + t339.size) = False := eq_false (Nat.not_lt.2 c9)
  (try have c9b3 : (9223372036854775807 < t338.size + 1 + t339.size) = False := eq_false (by have h_ := c9; simp only [ByteArray.size_append, ByteArray.size_extract, show (⟨#[62]⟩ : ByteArray).size = 1 from rfl] at h_; omega))
  by_cases c10 : ((t338 ++ (⟨#[62]⟩ : ByteArray)) ++ t339).size + 1 ≤ 9223372036854775807
  rotate_left
  ·
   rw [if_neg c10] at H
   exact absurd H (by simp)
  rw [if_pos c10] at H
  have c10b0 := eq_true c10; have c10b1 : decide (((t338 ++ (⟨#[62]⟩ : ByteArray)) ++ t339).size + 1 ≤ 9223372036854775807) = true := decide_eq_true c10
  try have c10b2 : (9223372036854775807 < ((t338 ++ (⟨#[62]⟩ : ByteArray)) ++ t339).size + 1) = False := eq_false (Nat.not_lt.2 c10)
  (try have c10b3 : (9223372036854775807 < t338.size + 1 + t339.size + 1) = False := eq_false (by have h_ := c10; simp only [ByteArray.size_append, ByteArray.size_extract, show (⟨#[62]⟩ : ByteArray).size = 1 from rfl] at h_; omega))
  obtain ⟨t340, A11, H⟩ := oB H; (try dsimp only at H)
  by_cases c12 : (((t338 ++ (⟨#[62]⟩ : ByteArray)) ++ t339) ++ (⟨#[58]⟩ : ByteArray)).size + t340.size ≤ 9223372036854775807
  rotate_left
  ·
   rw [if_neg c12] at H
   exact absurd H (by simp)
  rw [if_pos c12] at H
  have c12b0 := eq_true c12; have c12b1 : decide ((((t338 ++ (⟨#[62]⟩ : ByteArray)) ++ t339) ++ (⟨#[58]⟩ : ByteArray)).size + t340.size ≤ 9223372036854775807) = true := decide_eq_true c12
  try have c12b2 : (9223372036854775807 < (((t338 ++ (⟨#[62]⟩ : ByteArray)) ++ t339) ++ (⟨#[58]⟩ : ByteArray)).size + t340.size) = False := eq_false (Nat.not_lt.2 c12)
  (try have c12b3 : (9223372036854775807 < t338.size + 1 + t339.size + 1 + t340.size) = False := eq_false (by have h_ := c12; simp only [ByteArray.size_append, ByteArray.size_extract, show (⟨#[58]⟩ : ByteArray).size = 1 from rfl, show (⟨#[62]⟩ : ByteArray).size = 1 from rfl] at h_; omega))
  by_cases c13 : ((((t338 ++ (⟨#[62]⟩ : ByteArray)) ++ t339) ++ (⟨#[58]⟩ : ByteArray)) ++ t340).size + 1 ≤ 9223372036854775807
  rotate_left
  ·
   rw [if_neg c13] at H
   exact absurd H (by simp)
  rw [if_pos c13] at H
  have c13b0 := eq_true c13; have c13b1 : decide (((((t338 ++ (⟨#[62]⟩ : ByteArray)) ++ t339) ++ (⟨#[58]⟩ : ByteArray)) ++ t340).size + 1 ≤ 9223372036854775807) = true := decide_eq_true c13
  try have c13b2 : (9223372036854775807 < ((((t338 ++ (⟨#[62]⟩ : ByteArray)) ++ t339) ++ (⟨#[58]⟩ : ByteArray)) ++ t340).size + 1) = False := eq_false (Nat.not_lt.2 c13)
  (try have c13b3 : (9223372036854775807 < t338.size + 1 + t339.size + 1 + t340.size + 1) = False := eq_false (by have h_ := c13; simp only [ByteArray.size_append, ByteArray.size_extract, show (⟨#[58]⟩ : ByteArray).size = 1 from rfl, show (⟨#[62]⟩ : ByteArray).size = 1 from rfl] at h_; omega))
  obtain ⟨t341, A14, H⟩ := oB H; (try dsimp only at H)
  by_cases c15 : (((((t338 ++ (⟨#[62]⟩ : ByteArray)) ++ t339) ++ (⟨#[58]⟩ : ByteArray)) ++ t340) ++ (⟨#[35]⟩ : ByteArray)).size + t341.size ≤ 9223372036854775807
  rotate_left
  ·
   rw [if_neg c15] at H
   exact absurd H (by simp)
  rw [if_pos c15] at H
  have c15b0 := eq_true c15; have c15b1 : decide ((((((t338 ++ (⟨#[62]⟩ : ByteArray)) ++ t339) ++ (⟨#[58]⟩ : ByteArray)) ++ t340) ++ (⟨#[35]⟩ : ByteArray)).size + t341.size ≤ 9223372036854775807) = true := decide_eq_true c15
  try have c15b2 : (9223372036854775807 < (((((t338 ++ (⟨#[62]⟩ : ByteArray)) ++ t339) ++ (⟨#[58]⟩ : ByteArray)) ++ t340) ++ (⟨#[35]⟩ : ByteArray)).size + t341.size) = False := eq_false (Nat.not_lt.2 c15)
  (try have c15b3 : (9223372036854775807 < t338.size + 1 + t339.size + 1 + t340.size + 1 + t341.size) = False := eq_false (by have h_ := c15; simp only [ByteArray.size_append, ByteArray.size_extract, show (⟨#[35]⟩ : ByteArray).size = 1 from rfl, show (⟨#[58]⟩ : ByteArray).size = 1 from rfl, show (⟨#[62]⟩ : ByteArray).size = 1 from rfl] at h_; omega))
  obtain rfl := Option.some.inj H
  try go_wp2
  refine sB [] impl_TxText.tab3 impl_TxText.bits3 ?_; intro w16 _ HT_ HW_
  refine pA 0 (some 6) (bz 19 1) HT_ ?_
  refine tB 1 (some 7) (bz 19 3) HT_ HW_ ?_
  refine pA 4 (some 10) (bz 19 19) HT_ ?_
  refine tB 5 (some 11) (bz 19 51) HT_ HW_ ?_
  refine pA 9 (some 15) (bz 19 563) HT_ ?_
  refine tB 10 (some 16) (bz 19 1587) HT_ HW_ ?_
  refine pA 14 (some 20) (bz 19 0x4633) HT_ ?_
  refine tB 15 (some 21) (bz 19 0xc633) HT_ HW_ ?_
  refine o1 2 (some 8) (bz 19 0xc637) HT_ rfl (kC Tryz.func197 (impl_Digits.calls (w := _) (h := A6.out)) ?_); intro w17 _
  refine nA (some 8) ?_
  refine pA 3 (some 9) (bz 19 0xc63f) HT_ ?_
  refine o1 6 (some 12) (bz 19 0xc67f) HT_ rfl (kC Tryz.func197 (impl_Digits.calls (w := _) (h := A8.out)) ?_); intro w18 _
  refine nA (some 12) ?_
  refine pA 7 (some 13) (bz 19 0xc6ff) HT_ ?_
  refine pA 8 (some 14) (bz 19 0xc7ff) HT_ ?_
  refine o1 11 (some 17) (bz 19 0xcfff) HT_ rfl (kC Tryz.func197 (impl_Digits.calls (w := _) (h := A11.out)) ?_); intro w19 _
  refine nA (some 17) ?_
  refine pA 12 (some 18) (bz 19 0xdfff) HT_ ?_
  refine pA 13 (some 19) (bz 19 0xffff) HT_ ?_
  refine o1 16 (some 22) (bz 19 0x1ffff) HT_ rfl (kC Tryz.func197 (impl_Digits.calls (w := _) (h := A14.out)) ?_); intro w20 _
  refine nA (some 22) ?_
  refine pA 17 (some 23) (bz 19 0x3ffff) HT_ ?_
  refine pA 18 (some 2) (bz 19 0x7ffff) HT_ ?_
  refine done_ (done_of HT_.out (by kernel_rfl)) ?_
  try go_wp2
  go_ret
  exact ⟨y0_17, UpW.out⟩
 replace c5 := Bool.eq_false_iff.mpr c5; subst c5
 rw [if_neg (show ¬ (false = true) by decide)] at H
 obtain rfl := Option.some.inj H
 go_wp2
 go_ret
 exact ⟨y0_17, UpW.out⟩

/-! ### impl_TxOf: function 198 -/
def impl_TxOf.f (k : Nat) (a0 : ByteArray) : Option (Int × Int × Int × Int × Bool) := (strings_Cut.f a0 (⟨#[62]⟩ : ByteArray)).bind fun c1 => (strings_Cut.f c1.2.1 (⟨#[58]⟩ : ByteArray)).bind fun c2 => (strings_Cut.f c2.2.1 (⟨#[35]⟩ : ByteArray)).bind fun c3 => (impl_Number.f k c1.1).bind fun n0 => (impl_Number.f k c2.1).bind fun n1 => (impl_Number.f k c3.1).bind fun n2 => (impl_Number.f k c3.2.1).bind fun n3 => (impl_TxOk.f n0.1 n1.1 n2.1 n3.1).bind fun b => (if b = true then ((impl_TxText.f n0.1 n1.1 n2.1 n3.1).bind fun t => (if t.toList = a0.toList then (some (n0.1, n1.1, n2.1, n3.1, true)) else (some (0, 0, 0, 0, false)))) else (some (0, 0, 0, 0, false)))
theorem impl_TxOf.mono : ∀ a0 k, LeO (impl_TxOf.f k a0) (impl_TxOf.f (k + 1) a0) := by
 intro a0 k
 unfold impl_TxOf.f
 repeat' first | (with_reducible exact impl_Number.mono _ _) | (with_reducible exact LeO.refl _) | (with_reducible exact LeO.none _) | (with_reducible refine LeO.ite ?_ ?_) | (with_reducible refine LeO.bind ?_ (fun _ => ?_))
section
variable {P : Program} {ops : Array Oper} {rest : List Oper} {o : Oper} {a : Act} {Q : Exit → Act → World → Prop}
/-- A literal row, its block told. -/
theorem impl_TxOf.lit {W : World} (n : Nat) (cs : Array Value) (t : TypeId)
  (h : ∀ g, g = W.heap.size → ∀ w1, w1.heap[g]? = some (.cells cs t (0, 0)) → Below W.heap.size W w1 → wpList P ops Q rest (a.put o.dst (.slice (some ⟨g, 0, none⟩) n n)) w1)
  (hgd : o.guard = none := by rfl) (hrun : (execOp a.eval o).run P W = .ok (.value (.slice (some ⟨W.heap.size, 0, none⟩) n n)) (W.alloc (.cells cs t (0, 0))) := by first | (go_simp; done) | (go_simp; rfl) | rfl) : wpList P ops Q (o :: rest) a W :=
 Kd.event_run hgd hrun (h _ rfl _ (blk_new W _) (below_alloc (Below.refl _ _) _))
end
def impl_TxOf.arr (a b c d : Int) : Nat → Array Value
 | 0 => #[.int .i64 0, .int .i64 0, .int .i64 0, .int .i64 0]
 | 1 => #[.int .i64 a, .int .i64 0, .int .i64 0, .int .i64 0]
 | 2 => #[.int .i64 a, .int .i64 b, .int .i64 0, .int .i64 0]
 | 3 => #[.int .i64 a, .int .i64 b, .int .i64 c, .int .i64 0]
 | _ => #[.int .i64 a, .int .i64 b, .int .i64 c, .int .i64 d]
set_option maxHeartbeats 8000000 in
set_option maxRecDepth 100000 in
theorem impl_TxOf.calls (k : Nat) (a0 : ByteArray) (r1 : Int) (r2 : Int) (r3 : Int) (r4 : Int) (r5 : Bool) (w : World) (h : impl_TxOf.f k a0 = some (r1, r2, r3, r4, r5)) (hG : Glob w := by exact gG HG HB) :
  Calls Tryz.prog 198 #[.string a0] w fun e w' => e = .returned (.tuple #[.agg #[.int .i64 r1, .int .i64 r2, .int .i64 r3, .int .i64 r4], .bool r5]) ∧ Below w.heap.size w w' := by
 have HG := Aside0.mk hG; clear hG; have huT := Tryz.underlying156; have HB := Aside0.mk (Below.refl w.heap.size w); have H := h
 unfold impl_TxOf.f at H
 clear h; obtain ⟨⟨s1, s2, s3⟩, A10, H⟩ := Option.bind_eq_some_iff.mp H; obtain ⟨⟨s4, s5, s6⟩, A20, H⟩ := Option.bind_eq_some_iff.mp H; obtain ⟨⟨s7, s8, s9⟩, A30, H⟩ := Option.bind_eq_some_iff.mp H; obtain ⟨⟨n0, m0⟩, A40, H⟩ := Option.bind_eq_some_iff.mp H; obtain ⟨⟨n1, m1⟩, A50, H⟩ := Option.bind_eq_some_iff.mp H; obtain ⟨⟨n2, m2⟩, A60, H⟩ := Option.bind_eq_some_iff.mp H; obtain ⟨⟨n3, m3⟩, A70, H⟩ := Option.bind_eq_some_iff.mp H; obtain ⟨bk_, A80, H⟩ := Option.bind_eq_some_iff.mp H
 dsimp only at A10 A20 A30 A40 A50 A60 A70 A80 H
 have HH := Aside0.mk H; clear H; have A1 := Aside0.mk A10; clear A10; have A2 := Aside0.mk A20; clear A20; have A3 := Aside0.mk A30; clear A30; have A4 := Aside0.mk A40; clear A40; have A5 := Aside0.mk A50; clear A50; have A6 := Aside0.mk A60; clear A60; have A7 := Aside0.mk A70; clear A70; have A8 := Aside0.mk A80; clear A80
 go_enter Tryz.func198, Tryz.ntmps198
 go_wp2_with (first | ((with_reducible refine gd 2 ?_); refine bA 2 #[.int .i64 0, .int .i64 0, .int .i64 0, .int .i64 0] 156 ?_; intro gx hg w' hbox hb; have Kgx := Aside0.mk hbox; have GWgx := bg hg HB; have GJgx := gi GWgx; skip; replace HB := bs HB hb; clear hb hbox hg) | ((with_reducible refine gate_callee (f := 175) rfl ?_); refine gB (some 18) Tryz.func175 #[.string a0, .string (⟨#[62]⟩ : ByteArray)] ?_; (with_reducible refine (strings_Cut.calls a0 (⟨#[62]⟩ : ByteArray) s1 s2 s3 _ A1.out).mono ?_); rintro e w' ⟨rfl, hb⟩; refine ⟨_, rfl, ?_⟩; replace Kgx := bk Kgx hb; replace HB := bs HB hb; clear hb) | ((with_reducible refine gate_callee (f := 175) rfl ?_); refine gB (some 24) Tryz.func175 #[.string s2, .string (⟨#[58]⟩ : ByteArray)] ?_; (with_reducible refine (strings_Cut.calls s2 (⟨#[58]⟩ : ByteArray) s4 s5 s6 _ A2.out).mono ?_); rintro e w' ⟨rfl, hb⟩; refine ⟨_, rfl, ?_⟩; replace Kgx := bk Kgx hb; replace HB := bs HB hb; clear hb) | ((with_reducible refine gate_callee (f := 175) rfl ?_); refine gB (some 30) Tryz.func175 #[.string s5, .string (⟨#[35]⟩ : ByteArray)] ?_; (with_reducible refine (strings_Cut.calls s5 (⟨#[35]⟩ : ByteArray) s7 s8 s9 _ A3.out).mono ?_); rintro e w' ⟨rfl, hb⟩; refine ⟨_, rfl, ?_⟩; replace Kgx := bk Kgx hb; replace HB := bs HB hb; clear hb) | ((with_reducible refine gd 12 ?_); refine bA 12 #[.int .i64 0, .int .i64 0, .int .i64 0, .int .i64 0] 205 ?_; intro ga hg w' hbox hb; have Kga := Aside0.mk hbox; have GWga := bg hg HB; have GJga := gi GWga; have Ngxga := b1 Kgx hg; have NIgxga := ni Ngxga; have Ngagx := b2 Kgx hg; have NIgagx := ni Ngagx; replace Kgx := bk Kgx hb; replace HB := bs HB hb; clear hb hbox hg) | ((with_reducible refine gd 38 ?_); refine impl_TxOf.lit 4 #[.string s1, .string s4, .string s7, .string s8] 9 ?_; intro gl hg w' hbox hb; have Kgl := Aside0.mk hbox; have GWgl := bg hg HB; have GJgl := gi GWgl; have Ngxgl := b1 Kgx hg; have NIgxgl := ni Ngxgl; have Nglgx := b2 Kgx hg; have NIglgx := ni Nglgx; replace Kgx := bk Kgx hb; have Ngagl := b1 Kga hg; have NIgagl := ni Ngagl; have Nglga := b2 Kga hg; have NIglga := ni Nglga; replace Kga := bk Kga hb; replace HB := bs HB hb; clear hb hbox hg))
 go_loopg [40] 5 (fun kq v40 w' => ∃ (i_ : Nat), v40 = .int .i64 (i_ : Int) ∧ Aside0 (kq + i_ = 5 ∧ i_ ≤ 4) ∧ Aside0 (w'.heap[gx]? = some (.cells #[.int .i64 0, .int .i64 0, .int .i64 0, .int .i64 0] 156 (0, 0))) ∧ Aside0 (w'.heap[ga]? = some (.cells (impl_TxOf.arr n0 n1 n2 n3 i_) 205 (0, 0))) ∧ Aside0 (w'.heap[gl]? = some (.cells #[.string s1, .string s4, .string s7, .string s8] 9 (0, 0))) ∧ Aside0 (Below w.heap.size w w'))
 case atStart => exact ⟨0, rfl, ⟨by omega⟩, Kgx, ⟨kI Kga.out⟩, ⟨kI Kgl.out⟩, ⟨bI HB.out⟩⟩
 case round =>
  obtain ⟨i_, rfl, HI_, Kgx, Kga, Kgl, HB⟩ := hrel
  have hi5 : i_ = 0 ∨ i_ = 1 ∨ i_ = 2 ∨ i_ = 3 ∨ i_ = 4 := by have := HI_.out; omega
  rcases hi5 with rfl | rfl | rfl | rfl | rfl
  ·
   replace Kga : Aside0 (wr.heap[ga]? = some (.cells #[.int .i64 0, .int .i64 0, .int .i64 0, .int .i64 0] 205 (0, 0))) := Kga; obtain ⟨gk, rfl⟩ : ∃ q, gk = q + 1 := ⟨gk - 1, y0_21⟩; have hcs := bc0 Kgl.out; have hfs := blk_frozen Kgl.out 0; have hfa := blk_frozen Kga.out 0
   go_wp2_with (first | ((with_reducible refine gate_callee (f := 176) rfl ?_); refine gB (some 48) Tryz.func176 #[.string s1] ?_; (with_reducible refine (impl_Number.calls k s1 n0 m0 _ A4.out).mono ?_); rintro e w' ⟨rfl, hb⟩; refine ⟨_, rfl, ?_⟩; replace Kgx := bk Kgx hb; replace Kgl := bk Kgl hb; replace Kga := bk Kga hb; replace HB := bs HB hb; clear hb hfa; have hfa := blk_frozen Kga.out 0; have hca := bc0 Kga.out))
   go_roundg gk
   case measure => omega
   case rel => exact ⟨1, y0_19, ⟨y0_21⟩, ⟨gI Kgx.out⟩, ⟨pI Kga⟩, ⟨gI Kgl.out⟩, ⟨bI HB.out⟩⟩
  ·
   replace Kga : Aside0 (wr.heap[ga]? = some (.cells #[.int .i64 n0, .int .i64 0, .int .i64 0, .int .i64 0] 205 (0, 0))) := Kga; obtain ⟨gk, rfl⟩ : ∃ q, gk = q + 1 := ⟨gk - 1, y0_21⟩; have hcs := bc1 Kgl.out; have hfs := blk_frozen Kgl.out 1; have hfa := blk_frozen Kga.out 1
   go_wp2_with (first | ((with_reducible refine gate_callee (f := 176) rfl ?_); refine gB (some 48) Tryz.func176 #[.string s4] ?_; (with_reducible refine (impl_Number.calls k s4 n1 m1 _ A5.out).mono ?_); rintro e w' ⟨rfl, hb⟩; refine ⟨_, rfl, ?_⟩; replace Kgx := bk Kgx hb; replace Kgl := bk Kgl hb; replace Kga := bk Kga hb; replace HB := bs HB hb; clear hb hfa; have hfa := blk_frozen Kga.out 1; have hca := bc1 Kga.out))
   go_roundg gk
   case measure => omega
   case rel => exact ⟨2, y0_19, ⟨y0_21⟩, ⟨gI Kgx.out⟩, ⟨pI Kga⟩, ⟨gI Kgl.out⟩, ⟨bI HB.out⟩⟩
  ·
   replace Kga : Aside0 (wr.heap[ga]? = some (.cells #[.int .i64 n0, .int .i64 n1, .int .i64 0, .int .i64 0] 205 (0, 0))) := Kga; obtain ⟨gk, rfl⟩ : ∃ q, gk = q + 1 := ⟨gk - 1, y0_21⟩; have hcs := bc2 Kgl.out; have hfs := blk_frozen Kgl.out 2; have hfa := blk_frozen Kga.out 2
   go_wp2_with (first | ((with_reducible refine gate_callee (f := 176) rfl ?_); refine gB (some 48) Tryz.func176 #[.string s7] ?_; (with_reducible refine (impl_Number.calls k s7 n2 m2 _ A6.out).mono ?_); rintro e w' ⟨rfl, hb⟩; refine ⟨_, rfl, ?_⟩; replace Kgx := bk Kgx hb; replace Kgl := bk Kgl hb; replace Kga := bk Kga hb; replace HB := bs HB hb; clear hb hfa; have hfa := blk_frozen Kga.out 2; have hca := bc2 Kga.out))
   go_roundg gk
   case measure => omega
   case rel => exact ⟨3, y0_19, ⟨y0_21⟩, ⟨gI Kgx.out⟩, ⟨pI Kga⟩, ⟨gI Kgl.out⟩, ⟨bI HB.out⟩⟩
  ·
   replace Kga : Aside0 (wr.heap[ga]? = some (.cells #[.int .i64 n0, .int .i64 n1, .int .i64 n2, .int .i64 0] 205 (0, 0))) := Kga; obtain ⟨gk, rfl⟩ : ∃ q, gk = q + 1 := ⟨gk - 1, y0_21⟩; have hcs := bc3 Kgl.out; have hfs := blk_frozen Kgl.out 3; have hfa := blk_frozen Kga.out 3
   go_wp2_with (first | ((with_reducible refine gate_callee (f := 176) rfl ?_); refine gB (some 48) Tryz.func176 #[.string s8] ?_; (with_reducible refine (impl_Number.calls k s8 n3 m3 _ A7.out).mono ?_); rintro e w' ⟨rfl, hb⟩; refine ⟨_, rfl, ?_⟩; replace Kgx := bk Kgx hb; replace Kgl := bk Kgl hb; replace Kga := bk Kga hb; replace HB := bs HB hb; clear hb hfa; have hfa := blk_frozen Kga.out 3; have hca := bc3 Kga.out))
   go_roundg gk
   case measure => omega
   case rel => exact ⟨4, y0_19, ⟨y0_21⟩, ⟨gI Kgx.out⟩, ⟨pI Kga⟩, ⟨gI Kgl.out⟩, ⟨bI HB.out⟩⟩
  replace Kga : Aside0 (wr.heap[ga]? = some (.cells #[.int .i64 n0, .int .i64 n1, .int .i64 n2, .int .i64 n3] 205 (0, 0))) := Kga; have H := HH.out; clear HH; obtain ⟨hca0, hca1, hca2, hca3, hfa0, hfa1, hfa2, hfa3⟩ := cs4 Kga; obtain ⟨hcx0, hcx1, hcx2, hcx3, hfx0, hfx1, hfx2, hfx3⟩ := cs4 Kgx
  by_cases cb : bk_ = true
  ·
   subst cb
   rw [if_pos rfl] at H
   obtain ⟨t_, A90, H⟩ := Option.bind_eq_some_iff.mp H; have A9 := Aside0.mk A90; clear A90
   by_cases ct : t_.toList = a0.toList
   ·
    rw [if_pos ct] at H
    have ctb0 : (t_.toList == a0.toList) = true := beq_iff_eq.mpr ct; have ctb1 : (t_.toList != a0.toList) = false := bne_eq_false_iff_eq.mpr ct; clear ct
    simp only [Option.some.injEq, Prod.mk.injEq] at H
    obtain ⟨rfl, rfl, rfl, rfl, rfl⟩ := H
    go_wp2_with (first | ((with_reducible refine gd 15 ?_); refine bA 15 #[.int .i64 0, .int .i64 0, .int .i64 0, .int .i64 0] 156 ?_; intro gv hg w' hbox hb; have Kgv := Aside0.mk hbox; have GWgv := bg hg HB; have GJgv := gi GWgv; have Ngxgv := b1 Kgx hg; have NIgxgv := ni Ngxgv; have Ngvgx := b2 Kgx hg; have NIgvgx := ni Ngvgx; replace Kgx := bk Kgx hb; have Ngagv := b1 Kga hg; have NIgagv := ni Ngagv; have Ngvga := b2 Kga hg; have NIgvga := ni Ngvga; replace Kga := bk Kga hb; replace HB := bs HB hb; clear hb hbox hg; obtain ⟨hcv0, hcv1, hcv2, hcv3, hfv0, hfv1, hfv2, hfv3⟩ := cs4 Kgv; have hn1 := Ngxgv.out; have hn2 := Ngvgx.out) | (go_at_call 206; (with_reducible refine (impl_TxOk.calls n0 n1 n2 n3 true _ A8.out).mono ?_); rintro e w' ⟨rfl, hb⟩; replace Kgx := Aside0.mk (blk_below (gI Kgx.out) hb); replace Kgv := bp Kgv hb #[.int .i64 n0, .int .i64 n1, .int .i64 n2, .int .i64 n3]; replace HB := bs HB hb; clear hb; obtain ⟨hcx0, hcx1, hcx2, hcx3, hfx0, hfx1, hfx2, hfx3⟩ := cs4 Kgx; obtain ⟨hcv0, hcv1, hcv2, hcv3, hfv0, hfv1, hfv2, hfv3⟩ := cs4 Kgv) | (go_at_call 207; (with_reducible refine (impl_TxText.calls n0 n1 n2 n3 t_ _ A9.out).mono ?_); rintro e w' ⟨rfl, hb⟩; replace Kgx := Aside0.mk (blk_below (gI Kgx.out) hb); replace Kgv := bp Kgv hb #[.int .i64 n0, .int .i64 n1, .int .i64 n2, .int .i64 n3]; replace HB := bs HB hb; clear hb; obtain ⟨hcx0, hcx1, hcx2, hcx3, hfx0, hfx1, hfx2, hfx3⟩ := cs4 Kgx; obtain ⟨hcv0, hcv1, hcv2, hcv3, hfv0, hfv1, hfv2, hfv3⟩ := cs4 Kgv))
    refine bodyPost_ret (results_ct rfl _ _ gx 156 #[.int .i64 n0, .int .i64 n1, .int .i64 n2, .int .i64 n3] (0, 0) _ rfl (pI Kgx) Tryz.underlying156 rfl (by kernel_rfl)) rfl ?_
    exact ⟨y0_17, bI HB.out⟩
   rw [if_neg ct] at H
   have ctb0 : (t_.toList == a0.toList) = false := beq_eq_false_iff_ne.mpr ct; have ctb1 : (t_.toList != a0.toList) = true := bne_iff_ne.mpr ct
   simp only [Option.some.injEq, Prod.mk.injEq] at H
   obtain ⟨rfl, rfl, rfl, rfl, rfl⟩ := H
   go_wp2_with (first | ((with_reducible refine gd 15 ?_); refine bA 15 #[.int .i64 0, .int .i64 0, .int .i64 0, .int .i64 0] 156 ?_; intro gv hg w' hbox hb; have Kgv := Aside0.mk hbox; have GWgv := bg hg HB; have GJgv := gi GWgv; have Ngxgv := b1 Kgx hg; have NIgxgv := ni Ngxgv; have Ngvgx := b2 Kgx hg; have NIgvgx := ni Ngvgx; replace Kgx := bk Kgx hb; have Ngagv := b1 Kga hg; have NIgagv := ni Ngagv; have Ngvga := b2 Kga hg; have NIgvga := ni Ngvga; replace Kga := bk Kga hb; replace HB := bs HB hb; clear hb hbox hg; obtain ⟨hcv0, hcv1, hcv2, hcv3, hfv0, hfv1, hfv2, hfv3⟩ := cs4 Kgv; have hn1 := Ngxgv.out; have hn2 := Ngvgx.out) | (go_at_call 206; (with_reducible refine (impl_TxOk.calls n0 n1 n2 n3 true _ A8.out).mono ?_); rintro e w' ⟨rfl, hb⟩; replace Kgx := Aside0.mk (blk_below (gI Kgx.out) hb); replace Kgv := bp Kgv hb #[.int .i64 n0, .int .i64 n1, .int .i64 n2, .int .i64 n3]; replace HB := bs HB hb; clear hb; obtain ⟨hcx0, hcx1, hcx2, hcx3, hfx0, hfx1, hfx2, hfx3⟩ := cs4 Kgx; obtain ⟨hcv0, hcv1, hcv2, hcv3, hfv0, hfv1, hfv2, hfv3⟩ := cs4 Kgv) | (go_at_call 207; (with_reducible refine (impl_TxText.calls n0 n1 n2 n3 t_ _ A9.out).mono ?_); rintro e w' ⟨rfl, hb⟩; replace Kgx := Aside0.mk (blk_below (gI Kgx.out) hb); replace Kgv := bp Kgv hb #[.int .i64 n0, .int .i64 n1, .int .i64 n2, .int .i64 n3]; replace HB := bs HB hb; clear hb; obtain ⟨hcx0, hcx1, hcx2, hcx3, hfx0, hfx1, hfx2, hfx3⟩ := cs4 Kgx; obtain ⟨hcv0, hcv1, hcv2, hcv3, hfv0, hfv1, hfv2, hfv3⟩ := cs4 Kgv))
   refine bodyPost_ret (results_ct rfl _ _ gx 156 #[.int .i64 0, .int .i64 0, .int .i64 0, .int .i64 0] (0, 0) _ rfl (pI Kgx) Tryz.underlying156 rfl (by kernel_rfl)) rfl ?_
   exact ⟨y0_17, bI HB.out⟩
  replace cb := Bool.eq_false_iff.mpr cb; subst cb
  rw [if_neg (show ¬ (false = true) by decide)] at H
  simp only [Option.some.injEq, Prod.mk.injEq] at H
  obtain ⟨rfl, rfl, rfl, rfl, rfl⟩ := H
  go_wp2_with (first | ((with_reducible refine gd 15 ?_); refine bA 15 #[.int .i64 0, .int .i64 0, .int .i64 0, .int .i64 0] 156 ?_; intro gv hg w' hbox hb; have Kgv := Aside0.mk hbox; have GWgv := bg hg HB; have GJgv := gi GWgv; have Ngxgv := b1 Kgx hg; have NIgxgv := ni Ngxgv; have Ngvgx := b2 Kgx hg; have NIgvgx := ni Ngvgx; replace Kgx := bk Kgx hb; have Ngagv := b1 Kga hg; have NIgagv := ni Ngagv; have Ngvga := b2 Kga hg; have NIgvga := ni Ngvga; replace Kga := bk Kga hb; replace HB := bs HB hb; clear hb hbox hg; obtain ⟨hcv0, hcv1, hcv2, hcv3, hfv0, hfv1, hfv2, hfv3⟩ := cs4 Kgv; have hn1 := Ngxgv.out; have hn2 := Ngvgx.out) | (go_at_call 206; (with_reducible refine (impl_TxOk.calls n0 n1 n2 n3 false _ A8.out).mono ?_); rintro e w' ⟨rfl, hb⟩; replace Kgx := Aside0.mk (blk_below (gI Kgx.out) hb); replace Kgv := bp Kgv hb #[.int .i64 n0, .int .i64 n1, .int .i64 n2, .int .i64 n3]; replace HB := bs HB hb; clear hb; obtain ⟨hcx0, hcx1, hcx2, hcx3, hfx0, hfx1, hfx2, hfx3⟩ := cs4 Kgx; obtain ⟨hcv0, hcv1, hcv2, hcv3, hfv0, hfv1, hfv2, hfv3⟩ := cs4 Kgv))
  refine bodyPost_ret (results_ct rfl _ _ gx 156 #[.int .i64 0, .int .i64 0, .int .i64 0, .int .i64 0] (0, 0) _ rfl (pI Kgx) Tryz.underlying156 rfl (by kernel_rfl)) rfl ?_
  exact ⟨y0_17, bI HB.out⟩

/-! ### impl_TxsOf: function 177 -/
def impl_TxsOf.l0 : Nat → List (S156) → List ByteArray → Int → Int → Option ((List (S156)) × Bool)
 | 0, _, _, _, _ => none
 | k + 1, x4, x12, x13, x14 => if x14 < x13 then (if 0 ≤ x14 then (if x14 < (x12.length : Int) then ((impl_TxOf.f k (rdOf ByteArray.empty x12 x14)).bind fun bt346 => (if bt346.2.2.2.2 = true then (if x4.length < 4398046511104 then (impl_TxsOf.l0 k (x4 ++ [(⟨bt346.1, bt346.2.1, bt346.2.2.1, bt346.2.2.2.1⟩ : S156)]) x12 x13 (wrap64 (x14 + 1))) else (none)) else (some (([] : List (S156)), false)))) else (none)) else (none)) else (some (x4, true))
def impl_TxsOf.f (k : Nat) (a0 : ByteArray) : Option ((List (S156)) × Bool) := if a0.toList = ([] : List UInt8) then (some (([] : List (S156)), true)) else ((impl_Split.f a0 44).bind fun t342 => (impl_TxsOf.l0 k ([] : List (S156)) t342 (t342.length : Int) 0))
theorem impl_TxsOf.mono_l : ∀ k, (∀ y0 y1 y2 y3, LeO (impl_TxsOf.l0 k y0 y1 y2 y3) (impl_TxsOf.l0 (k + 1) y0 y1 y2 y3))
 | 0 => fun _ _ _ _ r h => by simp [impl_TxsOf.l0] at h
 | k + 1 => by
  have ih0 := impl_TxsOf.mono_l k
  intro y0 y1 y2 y3
  unfold impl_TxsOf.l0
  repeat' first | (with_reducible exact ih0 _ _ _ _) | (with_reducible exact impl_TxOf.mono _ _) | (with_reducible exact LeO.refl _) | (with_reducible exact LeO.none _) | (with_reducible refine LeO.ite ?_ ?_) | (with_reducible refine LeO.bind ?_ (fun _ => ?_))
theorem impl_TxsOf.mono : ∀ a0 k, LeO (impl_TxsOf.f k a0) (impl_TxsOf.f (k + 1) a0) := by
 intro a0 k
 have ih0 := impl_TxsOf.mono_l k
 unfold impl_TxsOf.f
 repeat' first | (with_reducible exact ih0 _ _ _ _) | (with_reducible exact impl_TxOf.mono _ _) | (with_reducible exact LeO.refl _) | (with_reducible exact LeO.none _) | (with_reducible refine LeO.ite ?_ ?_) | (with_reducible refine LeO.bind ?_ (fun _ => ?_))
set_option maxHeartbeats 8000000 in
set_option maxRecDepth 100000 in
theorem impl_TxsOf.calls (k : Nat) (a0 : ByteArray) (r1 : List (S156)) (r2 : Bool) (w : World) (h : impl_TxsOf.f k a0 = some (r1, r2)) (hG : Glob w := by exact gG HG HB) :
  Calls Tryz.prog 177 #[.string a0] w fun e w' => ∃ v0_ : Value, e = .returned (.tuple #[v0_, .bool r2]) ∧ Kd.R k156 156 w' w.heap.size (fun _ => True) v0_ r1 ∧ Below w.heap.size w w' := by
 have HG := Aside0.mk hG; clear hG; have hu156 := Tryz.underlying156; have HB := Aside0.mk (Below.refl w.heap.size w)
 have H := h; unfold impl_TxsOf.f at H
 clear h
 by_cases c2 : a0.toList = ([] : List UInt8)
 ·
  rw [if_pos c2] at H
  have c2b0 : (a0.toList == ([] : List UInt8)) = true := beq_iff_eq.mpr c2; have c2b1 : (a0.toList != ([] : List UInt8)) = false := bne_eq_false_iff_eq.mpr c2; clear c2
  simp only [Option.some.injEq, Prod.mk.injEq] at H
  obtain ⟨rfl, rfl⟩ := H
  go_enter Tryz.func177, Tryz.ntmps177
  go_wp2
  go_ret2
  exact ⟨_, y0_11, y0_2, bI HB.out⟩
 rw [if_neg c2] at H
 have c2b0 : (a0.toList == ([] : List UInt8)) = false := beq_eq_false_iff_ne.mpr c2; have c2b1 : (a0.toList != ([] : List UInt8)) = true := bne_iff_ne.mpr c2; obtain ⟨t342, A3, H⟩ := oB H; (try dsimp only at H); have H' := Aside0.mk H; clear H
 go_enter Tryz.func177, Tryz.ntmps177
 go_wp2_with (first | ((with_reducible refine gate_callee (f := 174) rfl ?_); refine gB (some 12) Tryz.func174 #[.string a0, .int .u8 44] ?_; (with_reducible refine (impl_Split.calls a0 44 t342 _ A3.out).mono ?_); rintro e w4 ⟨v343, rfl, ho0, hb⟩; refine ⟨_, rfl, ?_⟩; have HO344 := Aside0.mk (Kd.R_lower ho0 (below_size (bI HB.out))); replace HB := bs HB hb; (try clear hb); (try clear ho0); obtain ⟨Ao5, co5, eo5⟩ := Kd.R_slice HO344.out; subst eo5))
 go_loopg [4, 14] k (fun kq v4 v14 w' => ∃ (x4_1 : List (S156)) (x14_1 : Int), v14 = .int .i64 x14_1 ∧ Aside0 (impl_TxsOf.l0 kq x4_1 t342 (t342.length : Int) x14_1 = some (r1, r2)) ∧ Aside0 (kq ≤ k) ∧ Aside0 (Kd.R k156 156 w' w.heap.size (fun _ => True) v4 x4_1) ∧ Aside0 (Kd.R Kd.string 9 w' w.heap.size (fun _ => True) (.slice Ao5 t342.length co5) t342) ∧ Aside0 (Below w.heap.size w w'))
 case atStart => exact ⟨(([] : List (S156))), (0), y0_17, H', ⟨Nat.le_refl _⟩, ⟨y0_2⟩, ⟨by (with_reducible repeat (first | apply Kd.R_alloc | apply Kd.R_drewN | apply Kd.R_drew)); exact HO344.out⟩, ⟨bI HB.out⟩⟩
 case round =>
  clear H'
  try clear c1
  try clear c2
  try clear c2b0
  try clear c2b1
  try clear p2
  obtain ⟨x4_1, x14_1, rfl, HA, HK1, HO_4, HO_12, HB⟩ := hrel; cases gk with
  | zero => exact absurd HA.out (by simp [impl_TxsOf.l0])
  | succ k1 =>
   have H := HA.out; clear HA
   simp only [impl_TxsOf.l0] at H
   by_cases c6 : x14_1 < (t342.length : Int)
   ·
    rw [if_pos c6] at H
    have c6b0 : decide (x14_1 < (t342.length : Int)) = true := decide_eq_true c6; clear c6
    by_cases c7 : 0 ≤ x14_1
    rotate_left
    ·
     rw [if_neg c7] at H
     exact absurd H (by simp)
    rw [if_pos c7] at H
    have c7b0 : decide (0 ≤ x14_1) = true := decide_eq_true c7; clear c7
    by_cases c8 : x14_1 < (t342.length : Int)
    rotate_left
    ·
     rw [if_neg c8] at H
     exact absurd H (by simp)
    rw [if_pos c8] at H
    have c8b0 : decide (x14_1 < (t342.length : Int)) = true := decide_eq_true c8; clear c8; obtain ⟨⟨t346, t347, t348, t349, t350⟩, A9, H⟩ := oB H; (try dsimp only at H)
    by_cases c10 : t350 = true
    ·
     subst c10
     rw [if_pos rfl] at H
     by_cases c11 : x4_1.length < 4398046511104
     rotate_left
     ·
      rw [if_neg c11] at H
      exact absurd H (by simp)
     rw [if_pos c11] at H
     have LMc11 := Aside0.mk c11; clear c11; obtain ⟨y352, hy352⟩ : ∃ y_ : List (S156), y_ = (x4_1 ++ [(⟨t346, t347, t348, t349⟩ : S156)]) := ⟨_, rfl⟩
     replace H : (impl_TxsOf.l0 k1 y352 t342 (t342.length : Int) (wrap64 (x14_1 + 1))) = some (r1, r2) := by first | (rw [hy352]; with_reducible exact H) | (have H2_ := (Option.bind_some _ _).symm.trans H; rw [hy352]; with_reducible exact H2_) | (have H2_ := (Option.bind_some _ _).symm.trans H; with_reducible exact H2_) | with_reducible exact H | (rw [hy352]; exact H) | exact H
     have Ny352 := Aside0.mk hy352; clear hy352; have H' := Aside0.mk H; clear H; have p345 : 0 ≤ (x14_1 : Int) := of_decide_eq_true y0_16; have q345 : x14_1 < (t342.length : Int) := of_decide_eq_true y0_16; obtain ⟨ad345, e345, hx345_0⟩ := Kd.at_string (Kd.R_reads' HO_12.out).2.2 x14_1 p345 q345; cases e345; replace p345 := eq_true p345; replace q345 := eq_true q345
     go_wp2_with (first | ((with_reducible refine gate_callee (f := 198) rfl ?_); refine gB (some 20) Tryz.func198 #[.string (rdOf ByteArray.empty t342 x14_1)] ?_; (with_reducible refine (impl_TxOf.calls k1 (rdOf ByteArray.empty t342 x14_1) t346 t347 t348 t349 true _ A9.out).mono ?_); rintro e w12 ⟨rfl, hb⟩; refine ⟨_, rfl, ?_⟩; replace HO_4 := rb HO_4 hb; replace HO_12 := rb HO_12 hb; replace HB := bs HB hb; (try clear hb); (try clear hb2); (try clear hk); (try clear hi)) | ((with_reducible refine gd 7 ?_); refine bA 7 #[.int .i64 0, .int .i64 0, .int .i64 0, .int .i64 0] 156 ?_; intro gb351 hg w13 hbox hb; replace HO_4 := Aside0.mk (Kd.R_below (Kd.R_elderB (rI HO_4.out) gb351 (Nat.le_of_eq hg.symm)) hb); replace HO_12 := rb HO_12 hb; have BK351 := Aside0.mk (hbox); have GW351 := bg hg HB; have GJ351 := gi GW351; have GE351 := GW351; replace HB := bs HB hb; clear hb hbox hg; obtain ⟨hcz14_0, hcz14_1, hcz14_2, hcz14_3, hfz14_0, hfz14_1, hfz14_2, hfz14_3⟩ := cs4 BK351) | ((with_reducible refine gate_builtin (b := .append) (xs := #[.tmp 25, .tmp 27]) rfl ?_); at_builtin; refine Kd.R_append k156 (w0 := w) w.heap.size rfl (.tmp 25) (.tmp 27) 154 156 (.agg #[(.int .i64 0), (.int .i64 0), (.int .i64 0), (.int .i64 0)]) 32 rfl Tryz.underlying154 info156 rfl (by decide) (by omega) u4 x4_1 (⟨t346, t347, t348, t349⟩ : S156) [.int .i64 t346, .int .i64 t347, .int .i64 t348, .int .i64 t349] (fun k_ => k_ ≠ gb351) (fun _ => False) rfl (by first | (go_simp; done) | (go_simp; rfl)) ?aP (fun _ hk => hk.elim) ?aF ?aO ?aB ?aS ?aL ?_; (case aP => exact k156_mkM _ _ _ (⟨t346, t347, t348, t349⟩ : S156)); (case aB => exact (bI HB.out)); (case aF => exact (fun k_ hk => Kd.freshB (g := gb351) (o := .cells #[.int .i64 t346, .int .i64 t347, .int .i64 t348, .int .i64 t349] 156 (0, 0)) (pI BK351) k_ hk)); (case aO => exact (rI (Kd.R_mono (Kd.R_far (p := ⟨gb351, 3, none⟩) (Kd.R_far (p := ⟨gb351, 2, none⟩) (Kd.R_far (p := ⟨gb351, 1, none⟩) (Kd.R_far (p := ⟨gb351, 0, none⟩) (Kd.R_mono HO_4.out (fun k_ hk => (⟨hk, hk.2⟩ : _ ∧ k_ ≠ gb351))) (fun _ hk => hk.2) (.int .i64 t346)) (fun _ hk => hk.2) (.int .i64 t347)) (fun _ hk => hk.2) (.int .i64 t348)) (fun _ hk => hk.2) (.int .i64 t349)) (fun _ hk => hk.1.2)))); (case aS => exact (below_size (bI HB.out))); (case aL => have := LMc11.out; omega); intro v353 w15 ho hb hg hat; rw [← Ny352.out] at ho; have n0_ := Aside0.mk (Kd.R_over' (rI (Kd.R_mono (Kd.R_far (p := ⟨gb351, 3, none⟩) (Kd.R_far (p := ⟨gb351, 2, none⟩) (Kd.R_far (p := ⟨gb351, 1, none⟩) (Kd.R_far (p := ⟨gb351, 0, none⟩) (Kd.R_types HO_12.out BK351.out (by decide)) (fun _ hk => hk.2) (.int .i64 t346)) (fun _ hk => hk.2) (.int .i64 t347)) (fun _ hk => hk.2) (.int .i64 t348)) (fun _ hk => hk.2) (.int .i64 t349)) (fun _ h_ => h_.1))) (Kd.R_typed (rI (Kd.R_mono (Kd.R_far (p := ⟨gb351, 3, none⟩) (Kd.R_far (p := ⟨gb351, 2, none⟩) (Kd.R_far (p := ⟨gb351, 1, none⟩) (Kd.R_far (p := ⟨gb351, 0, none⟩) (Kd.R_mono HO_4.out (fun k_ hk => (⟨hk, hk.2⟩ : _ ∧ k_ ≠ gb351))) (fun _ hk => hk.2) (.int .i64 t346)) (fun _ hk => hk.2) (.int .i64 t347)) (fun _ hk => hk.2) (.int .i64 t348)) (fun _ hk => hk.2) (.int .i64 t349)) (fun _ h_ => h_.1)))) (by decide) hg); have n1_ := Aside0.mk (blk_grown (g := gb351) (o := .cells #[.int .i64 t346, .int .i64 t347, .int .i64 t348, .int .i64 t349] 156 (0, 0)) (pI BK351) hg (Kd.R_away HO_4.out (fun _ hk => hk.2))); have n2_ := Aside0.mk (hb); have n3_ := Aside0.mk (ho); clear HO_12; clear BK351; clear HB; clear HO_4; have HO_12 := n0_; have BK351 := n1_; have HB := n2_; have HO354 := n3_; clear n0_ n1_ n2_ n3_; clear ho hb hg hat))
     go_roundg k1
     case measure => have := HK1.out; omega
     case rel => exact ⟨(y352), (wrap64 (x14_1 + 1)), y0_17, H', ⟨y0_20⟩, ⟨by (with_reducible repeat (first | apply Kd.R_alloc | apply Kd.R_drewN | apply Kd.R_drew)); exact Kd.R_mono HO354.out (fun _ hk => trivial)⟩, ⟨by (with_reducible repeat (first | apply Kd.R_alloc | apply Kd.R_drewN | apply Kd.R_drew)); exact HO_12.out⟩, ⟨bI HB.out⟩⟩
    replace c10 := Bool.eq_false_iff.mpr c10; subst c10
    rw [if_neg (show ¬ (false = true) by decide)] at H
    simp only [Option.some.injEq, Prod.mk.injEq] at H
    obtain ⟨rfl, rfl⟩ := H; have p345 : 0 ≤ (x14_1 : Int) := of_decide_eq_true y0_16; have q345 : x14_1 < (t342.length : Int) := of_decide_eq_true y0_16; obtain ⟨ad345, e345, hx345_0⟩ := Kd.at_string (Kd.R_reads' HO_12.out).2.2 x14_1 p345 q345; cases e345; replace p345 := eq_true p345; replace q345 := eq_true q345
    go_wp2_with (first | ((with_reducible refine gate_callee (f := 198) rfl ?_); refine gB (some 20) Tryz.func198 #[.string (rdOf ByteArray.empty t342 x14_1)] ?_; (with_reducible refine (impl_TxOf.calls k1 (rdOf ByteArray.empty t342 x14_1) t346 t347 t348 t349 false _ A9.out).mono ?_); rintro e w16 ⟨rfl, hb⟩; refine ⟨_, rfl, ?_⟩; replace HO_4 := rb HO_4 hb; replace HO_12 := rb HO_12 hb; replace HB := bs HB hb; (try clear hb); (try clear hb2); (try clear hk); (try clear hi)) | ((with_reducible refine gd 7 ?_); refine bA 7 #[.int .i64 0, .int .i64 0, .int .i64 0, .int .i64 0] 156 ?_; intro gb351 hg w17 hbox hb; replace HO_4 := Aside0.mk (Kd.R_below (Kd.R_elderB (rI HO_4.out) gb351 (Nat.le_of_eq hg.symm)) hb); replace HO_12 := rb HO_12 hb; have BK351 := Aside0.mk (hbox); have GW351 := bg hg HB; have GJ351 := gi GW351; have GE351 := GW351; replace HB := bs HB hb; clear hb hbox hg; obtain ⟨hcz18_0, hcz18_1, hcz18_2, hcz18_3, hfz18_0, hfz18_1, hfz18_2, hfz18_3⟩ := cs4 BK351))
    go_ret2
    exact ⟨_, y0_11, y0_2, bI HB.out⟩
   rw [if_neg c6] at H
   have c6b0 : decide (x14_1 < (t342.length : Int)) = false := decide_eq_false c6; clear c6
   simp only [Option.some.injEq, Prod.mk.injEq] at H
   obtain ⟨rfl, rfl⟩ := H
   go_wp2
   go_ret2
   exact ⟨_, y0_11, by (with_reducible repeat (first | apply Kd.R_alloc | apply Kd.R_drewN | apply Kd.R_drew)); exact HO_4.out, bI HB.out⟩

end Go.Proofs.YtdmjhgogljhfkaaGreatDoor.PFnExactLastNote
