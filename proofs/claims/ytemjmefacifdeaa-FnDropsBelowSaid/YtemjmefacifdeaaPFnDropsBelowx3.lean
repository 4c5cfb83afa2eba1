-- By a program of this session, out of the translation (the print of the kit, with turns of its own). Lean checks it.
import Derived.Test.YtemjmefacifdeaaPFnDropsBelowx0
import Derived.Test.YtemjmefacifdeaaPFnDropsBelowx2
namespace Go.Proofs.Ytemjmefacifdeaa.PFnDropsBelow
open Go.RowKit Go.Proofs.YtemjmefacifdeaaW.PrintWords Go.Proofs.YtemjmefacifdeaaW.PrintLast Go.Proofs.YtemjmefacifdeaaW.PrintMore
attribute [local go_sem] max2_int min2_int max_two min_two max_three min_three max_four min_four   -- for this text's walks alone
set_option linter.unusedVariables false
set_option linter.unusedSimpArgs false

/-! ### spec_Number: function 84 -/
mutual
def spec_Number.j0 : Nat → ByteArray → Bool → Option (Int × Bool)
 | 0, _, _ => none
 | k + 1, x0, x13 => if x13 = true then (some (0, false)) else (spec_Number.l0 k x0 0 0)
def spec_Number.l0 : Nat → ByteArray → Int → Int → Option (Int × Bool)
 | 0, _, _, _ => none
 | k + 1, x0, x4, x5 => if x5 < (x0.size : Int) then (if 0 ≤ x5 then (if (bt x0 x5) < 48 then (some (0, false)) else (if (bt x0 x5) > 57 then (some (0, false)) else (spec_Number.l0 k x0 (wrap64 ((wrap64 ((wrap64 (10 * x4)) + (wrap64 (bt x0 x5)))) - 48)) (wrap64 (x5 + 1))))) else (none)) else ((spec_Digits.f k x4).bind fun t202 => (if t202.toList = x0.toList then (some (x4, true)) else (some (0, false))))
end
def spec_Number.f (k : Nat) (a0 : ByteArray) : Option (Int × Bool) := if (a0.size : Int) < 1 then (spec_Number.j0 k a0 true) else (spec_Number.j0 k a0 (decide ((a0.size : Int) > 6)))
theorem spec_Number.mono_l : ∀ k, (∀ y0 y1, LeO (spec_Number.j0 k y0 y1) (spec_Number.j0 (k + 1) y0 y1)) ∧ (∀ y0 y1 y2, LeO (spec_Number.l0 k y0 y1 y2) (spec_Number.l0 (k + 1) y0 y1 y2))
 | 0 => ⟨fun _ _ r h => by simp [spec_Number.j0] at h, fun _ _ _ r h => by simp [spec_Number.l0] at h⟩
 | k + 1 => by
  obtain ⟨ih0, ih1⟩ := spec_Number.mono_l k
  refine ⟨?_, ?_⟩
  ·
   intro y0 y1
   unfold spec_Number.j0
   repeat' first | (with_reducible exact ih0 _ _) | (with_reducible exact ih1 _ _ _) | (with_reducible exact spec_Digits.mono _ _) | (with_reducible exact LeO.refl _) | (with_reducible exact LeO.none _) | (with_reducible refine LeO.ite ?_ ?_) | (with_reducible refine LeO.bind ?_ (fun _ => ?_))
  intro y0 y1 y2
  unfold spec_Number.l0
  repeat' first | (with_reducible exact ih0 _ _) | (with_reducible exact ih1 _ _ _) | (with_reducible exact spec_Digits.mono _ _) | (with_reducible exact LeO.refl _) | (with_reducible exact LeO.none _) | (with_reducible refine LeO.ite ?_ ?_) | (with_reducible refine LeO.bind ?_ (fun _ => ?_))
theorem spec_Number.mono : ∀ a0 k, LeO (spec_Number.f k a0) (spec_Number.f (k + 1) a0) := by
 intro a0 k
 obtain ⟨ih0, ih1⟩ := spec_Number.mono_l k
 unfold spec_Number.f
 repeat' first | (with_reducible exact ih0 _ _) | (with_reducible exact ih1 _ _ _) | (with_reducible exact spec_Digits.mono _ _) | (with_reducible exact LeO.refl _) | (with_reducible exact LeO.none _) | (with_reducible refine LeO.ite ?_ ?_) | (with_reducible refine LeO.bind ?_ (fun _ => ?_))
set_option maxHeartbeats 8000000 in
set_option maxRecDepth 100000 in
theorem spec_Number.calls (k : Nat) (a0 : ByteArray) (r1 : Int) (r2 : Bool) (w : World) (h : spec_Number.f k a0 = some (r1, r2)) :
  Calls Try.prog 84 #[.string a0] w fun e w' => e = .returned (.tuple #[.int .i64 r1, .bool r2]) ∧ Below w.heap.size w w' := by
 have HB := Aside0.mk (Below.refl w.heap.size w); have H : (if (a0.size : Int) < 1 then (spec_Number.j0 k a0 true) else (spec_Number.j0 k a0 (decide ((a0.size : Int) > 6)))) = some (r1, r2) := h; clear h; have HC2 := Aside0.mk H; clear H
 go_enter Try.func84, Try.ntmps84
 go_upto_region 1 with (fail)
 go_cut [13] (fun v13 wc => ∃ (kq : Nat) (x13_1 : Bool), v13 = .bool x13_1 ∧ Aside0 (spec_Number.j0 kq a0 x13_1 = some (r1, r2)) ∧ Aside0 (kq ≤ k) ∧ Aside0 (Below w.heap.size w wc))
 case first =>
  have H := HC2.out; clear HC2
  by_cases c3 : (a0.size : Int) < 1
  ·
   rw [if_pos c3] at H
   have c3b0 : decide ((a0.size : Int) < 1) = true := decide_eq_true c3
   have c3b1 : decide (a0.size < 1) = true := decide_eq_true (by omega)
   clear c3
   (first | rw [c3b0] | (simp only [i64_w, i32_w]; rw [c3b0]) | skip)
   have H' := Aside0.mk H; clear H
   go_wp2
   go_meet
   case rel => exact ⟨_, (true), y0_21, H', ⟨y0_22⟩, ⟨bI HB.out⟩⟩
  rw [if_neg c3] at H
  have c3b0 : decide ((a0.size : Int) < 1) = false := decide_eq_false c3
  have c3b1 : decide (a0.size < 1) = false := decide_eq_false (by omega)
  clear c3
  (first | rw [c3b0] | (simp only [i64_w, i32_w]; rw [c3b0]) | skip)
  have H' := Aside0.mk H; clear H
  go_wp2
  go_meet
  case rel => exact ⟨_, (decide ((a0.size : Int) > 6)), y0_21, H', ⟨y0_22⟩, ⟨bI HB.out⟩⟩
 case rest =>
  clear HC2
  try clear p2
  try clear c3
  try clear c3b0
  try clear c3b1
  obtain ⟨kq, x13_1, rfl, HA, HJ1, HB⟩ := hcut; cases kq with
  | zero => exact absurd HA.out (by simp [spec_Number.j0])
  | succ kj1 =>
   have H := HA.out; clear HA
   simp only [spec_Number.j0] at H
   by_cases c4 : x13_1 = true
   ·
    subst c4
    rw [if_pos rfl] at H
    simp only [Option.some.injEq, Prod.mk.injEq] at H
    obtain ⟨rfl, rfl⟩ := H
    go_wp2
    go_ret2
    exact ⟨y0_16, bI HB.out⟩
   replace c4 := Bool.eq_false_iff.mpr c4; subst c4
   rw [if_neg (show ¬ (false = true) by decide)] at H
   have H' := Aside0.mk H; clear H
   go_wp2
   go_loopg [4, 5] kj1 (fun kq v4 v5 w' => ∃ (x4_2 : Int) (x5_2 : Int), v4 = .int .i64 x4_2 ∧ v5 = .int .i64 x5_2 ∧ Aside0 (spec_Number.l0 kq a0 x4_2 x5_2 = some (r1, r2)) ∧ Aside0 (kq ≤ kj1) ∧ Aside0 (Below w.heap.size w w'))
   case atStart => exact ⟨(0), (0), y0_21, y0_21, H', ⟨Nat.le_refl _⟩, ⟨bI HB.out⟩⟩
   case round =>
    clear H'
    try clear p2
    try clear c3
    try clear c3b0
    try clear c3b1
    try clear c4
    try clear p2
    obtain ⟨x4_2, x5_2, rfl, rfl, HA, HK2, HB⟩ := hrel; cases gk with
    | zero => exact absurd HA.out (by simp [spec_Number.l0])
    | succ k2 =>
     have H := HA.out; clear HA
     simp only [spec_Number.l0] at H
     by_cases c5 : x5_2 < (a0.size : Int)
     ·
      rw [if_pos c5] at H
      have c5b0 : decide (x5_2 < (a0.size : Int)) = true := decide_eq_true c5; clear c5
      by_cases c6 : 0 ≤ x5_2
      rotate_left
      ·
       rw [if_neg c6] at H
       exact absurd H (by simp)
      rw [if_pos c6] at H
      have c6b0 : decide (0 ≤ x5_2) = true := decide_eq_true c6; clear c6
      by_cases c8 : (bt a0 x5_2) < 48
      ·
       rw [if_pos c8] at H
       have c8b0 : decide ((bt a0 x5_2) < 48) = true := decide_eq_true c8; clear c8
       simp only [Option.some.injEq, Prod.mk.injEq] at H
       obtain ⟨rfl, rfl⟩ := H; have p7 : 0 ≤ (x5_2 : Int) := of_decide_eq_true y0_20; have q7 : x5_2 < (a0.size : Int) := of_decide_eq_true y0_20; have hx7 := bt_at a0 x5_2; replace p7 := eq_true p7; replace q7 := eq_true q7
       go_wp2
       go_ret2
       exact ⟨y0_16, bI HB.out⟩
      rw [if_neg c8] at H
      have c8b0 : decide ((bt a0 x5_2) < 48) = false := decide_eq_false c8; clear c8
      by_cases c10 : (bt a0 x5_2) > 57
      ·
       rw [if_pos c10] at H
       have c10b0 : decide (57 < (bt a0 x5_2)) = true := decide_eq_true c10; clear c10
       simp only [Option.some.injEq, Prod.mk.injEq] at H
       obtain ⟨rfl, rfl⟩ := H; have p7 : 0 ≤ (x5_2 : Int) := of_decide_eq_true y0_20; have q7 : x5_2 < (a0.size : Int) := of_decide_eq_true y0_20; have hx7 := bt_at a0 x5_2; replace p7 := eq_true p7; replace q7 := eq_true q7; have p9 : 0 ≤ (x5_2 : Int) := of_decide_eq_true y0_20; have q9 : x5_2 < (a0.size : Int) := of_decide_eq_true y0_20; have hx9 := bt_at a0 x5_2; replace p9 := eq_true p9; replace q9 := eq_true q9
       go_wp2
       go_ret2
       exact ⟨y0_16, bI HB.out⟩
      rw [if_neg c10] at H
      have c10b0 : decide (57 < (bt a0 x5_2)) = false := decide_eq_false c10; clear c10; have H' := Aside0.mk H; clear H; have p7 : 0 ≤ (x5_2 : Int) := of_decide_eq_true y0_20; have q7 : x5_2 < (a0.size : Int) := of_decide_eq_true y0_20; have hx7 := bt_at a0 x5_2; replace p7 := eq_true p7; replace q7 := eq_true q7; have p9 : 0 ≤ (x5_2 : Int) := of_decide_eq_true y0_20; have q9 : x5_2 < (a0.size : Int) := of_decide_eq_true y0_20; have hx9 := bt_at a0 x5_2; replace p9 := eq_true p9; replace q9 := eq_true q9; have p11 : 0 ≤ (x5_2 : Int) := of_decide_eq_true y0_20; have q11 : x5_2 < (a0.size : Int) := of_decide_eq_true y0_20; have hx11 := bt_at a0 x5_2; replace p11 := eq_true p11; replace q11 := eq_true q11
      go_wp2
      go_roundg k2
      case measure => have := HJ1.out; have := HK2.out; omega
      case rel => exact ⟨(wrap64 ((wrap64 ((wrap64 (10 * x4_2)) + (wrap64 (bt a0 x5_2)))) - 48)), (wrap64 (x5_2 + 1)), y0_21, y0_21, H', ⟨by have := HJ1.out; have := HK2.out; omega⟩, ⟨bI HB.out⟩⟩
     rw [if_neg c5] at H
     have c5b0 : decide (x5_2 < (a0.size : Int)) = false := decide_eq_false c5; clear c5; obtain ⟨t202, A120, H⟩ := Option.bind_eq_some_iff.mp H
     try dsimp only at H
     have A12 := Aside0.mk A120; clear A120
     by_cases c13 : t202.toList = a0.toList
     ·
      rw [if_pos c13] at H
      have c13b0 : (t202.toList == a0.toList) = true := beq_iff_eq.mpr c13; have c13b1 : (t202.toList != a0.toList) = false := bne_eq_false_iff_eq.mpr c13; clear c13
      simp only [Option.some.injEq, Prod.mk.injEq] at H
      obtain ⟨rfl, rfl⟩ := H
      go_wp2_with (first | ((with_reducible refine gate_callee (f := 78) rfl ?_); refine gB (some 39) Try.func78 #[.int .i64 x4_2] ?_; (with_reducible refine (spec_Digits.calls k2 x4_2 t202 _ A12.out).mono ?_); rintro e w14 ⟨rfl, hb⟩; refine ⟨_, rfl, ?_⟩; replace HB := bs HB hb; (try clear hb); (try clear hb2); (try clear hk); (try clear hi)))
      go_ret2
      exact ⟨y0_16, bI HB.out⟩
     rw [if_neg c13] at H
     have c13b0 : (t202.toList == a0.toList) = false := beq_eq_false_iff_ne.mpr c13; have c13b1 : (t202.toList != a0.toList) = true := bne_iff_ne.mpr c13
     simp only [Option.some.injEq, Prod.mk.injEq] at H
     obtain ⟨rfl, rfl⟩ := H
     go_wp2_with (first | ((with_reducible refine gate_callee (f := 78) rfl ?_); refine gB (some 39) Try.func78 #[.int .i64 x4_2] ?_; (with_reducible refine (spec_Digits.calls k2 x4_2 t202 _ A12.out).mono ?_); rintro e w15 ⟨rfl, hb⟩; refine ⟨_, rfl, ?_⟩; replace HB := bs HB hb; (try clear hb); (try clear hb2); (try clear hk); (try clear hi)))
     go_ret2
     exact ⟨y0_16, bI HB.out⟩

/-! ### spec_TxOk: function 80 -/
def spec_TxOk.f (a0_0 : Int) (a0_1 : Int) (a0_2 : Int) (a0_3 : Int) : Option (Bool) := (spec_l1In.f a0_0 0 3).bind fun t204 => (if t204 = true then ((spec_l1In.f a0_1 0 3).bind fun t205 => (if t205 = true then ((spec_l1In.f a0_2 0 1000).bind fun t206 => (if t206 = true then ((spec_l1In.f a0_3 0 99).bind fun t207 => (some t207)) else (some false))) else (some false))) else (some false))
set_option maxHeartbeats 8000000 in
set_option maxRecDepth 100000 in
theorem spec_TxOk.calls (a0_0 : Int) (a0_1 : Int) (a0_2 : Int) (a0_3 : Int) (r : Bool) (w : World) (h : spec_TxOk.f a0_0 a0_1 a0_2 a0_3 = some r) :
  Calls Try.prog 80 #[.agg #[.int .i64 a0_0, .int .i64 a0_1, .int .i64 a0_2, .int .i64 a0_3]] w fun e w' => e = .returned (.bool r) ∧ Below w.heap.size w w' := by
 have hu87 := Try.underlying87; have HB := Aside0.mk (Below.refl w.heap.size w)
 have H : ((spec_l1In.f a0_0 0 3).bind fun t204 => (if t204 = true then ((spec_l1In.f a0_1 0 3).bind fun t205 => (if t205 = true then ((spec_l1In.f a0_2 0 1000).bind fun t206 => (if t206 = true then ((spec_l1In.f a0_3 0 99).bind fun t207 => (some t207)) else (some false))) else (some false))) else (some false))) = some r := h
 clear h; obtain ⟨t204, A20, H⟩ := Option.bind_eq_some_iff.mp H
 try dsimp only at H
 have A2 := Aside0.mk A20; clear A20
 by_cases c3 : t204 = true
 ·
  subst c3
  rw [if_pos rfl] at H
  obtain ⟨t205, A40, H⟩ := Option.bind_eq_some_iff.mp H
  try dsimp only at H
  have A4 := Aside0.mk A40; clear A40
  by_cases c5 : t205 = true
  ·
   subst c5
   rw [if_pos rfl] at H
   obtain ⟨t206, A60, H⟩ := Option.bind_eq_some_iff.mp H
   try dsimp only at H
   have A6 := Aside0.mk A60; clear A60
   by_cases c7 : t206 = true
   ·
    subst c7
    rw [if_pos rfl] at H
    obtain ⟨t207, A80, H⟩ := Option.bind_eq_some_iff.mp H
    try dsimp only at H
    have A8 := Aside0.mk A80; clear A80; obtain rfl := Option.some.inj H
    go_enter Try.func80, Try.ntmps80
    go_wp2_with (first | ((with_reducible refine gd 1 ?_); refine bA 1 #[.int .i64 a0_0, .int .i64 a0_1, .int .i64 a0_2, .int .i64 a0_3] 87 ?_; intro gb203 hg w9 hbox hb; have BK203 := Aside0.mk (hbox); have GW203 := bg hg HB; have GJ203 := gi GW203; have GE203 := GW203; replace HB := bs HB hb; clear hb hbox hg; obtain ⟨hcz10_0, hcz10_1, hcz10_2, hcz10_3, hfz10_0, hfz10_1, hfz10_2, hfz10_3⟩ := cs4 BK203) | ((with_reducible refine gate_callee (f := 51) rfl ?_); refine gB (some 5) Try.func51 #[.int .i64 a0_0, .int .i64 0, .int .i64 3] ?_; (with_reducible refine (spec_l1In.calls a0_0 0 3 true _ A2.out).mono ?_); rintro e w' ⟨rfl, ⟨nd, rfl⟩⟩; refine ⟨_, rfl, ?_⟩) | (go_at_call 51; (with_reducible refine (spec_l1In.calls a0_1 0 3 true _ A4.out).mono ?_); rintro e w' ⟨rfl, ⟨nd, rfl⟩⟩) | (go_at_call 51; (with_reducible refine (spec_l1In.calls a0_2 0 1000 true _ A6.out).mono ?_); rintro e w' ⟨rfl, ⟨nd, rfl⟩⟩) | (go_at_call 51; (with_reducible refine (spec_l1In.calls a0_3 0 99 t207 _ A8.out).mono ?_); rintro e w' ⟨rfl, ⟨nd, rfl⟩⟩))
    go_ret
    exact ⟨y0_16, bI HB.out⟩
   replace c7 := Bool.eq_false_iff.mpr c7; subst c7
   rw [if_neg (show ¬ (false = true) by decide)] at H
   obtain rfl := Option.some.inj H
   go_enter Try.func80, Try.ntmps80
   go_wp2_with (first | ((with_reducible refine gd 1 ?_); refine bA 1 #[.int .i64 a0_0, .int .i64 a0_1, .int .i64 a0_2, .int .i64 a0_3] 87 ?_; intro gb203 hg w11 hbox hb; have BK203 := Aside0.mk (hbox); have GW203 := bg hg HB; have GJ203 := gi GW203; have GE203 := GW203; replace HB := bs HB hb; clear hb hbox hg; obtain ⟨hcz12_0, hcz12_1, hcz12_2, hcz12_3, hfz12_0, hfz12_1, hfz12_2, hfz12_3⟩ := cs4 BK203) | ((with_reducible refine gate_callee (f := 51) rfl ?_); refine gB (some 5) Try.func51 #[.int .i64 a0_0, .int .i64 0, .int .i64 3] ?_; (with_reducible refine (spec_l1In.calls a0_0 0 3 true _ A2.out).mono ?_); rintro e w' ⟨rfl, ⟨nd, rfl⟩⟩; refine ⟨_, rfl, ?_⟩) | (go_at_call 51; (with_reducible refine (spec_l1In.calls a0_1 0 3 true _ A4.out).mono ?_); rintro e w' ⟨rfl, ⟨nd, rfl⟩⟩) | (go_at_call 51; (with_reducible refine (spec_l1In.calls a0_2 0 1000 false _ A6.out).mono ?_); rintro e w' ⟨rfl, ⟨nd, rfl⟩⟩))
   go_ret
   exact ⟨y0_16, bI HB.out⟩
  replace c5 := Bool.eq_false_iff.mpr c5; subst c5
  rw [if_neg (show ¬ (false = true) by decide)] at H
  obtain rfl := Option.some.inj H
  go_enter Try.func80, Try.ntmps80
  go_wp2_with (first | ((with_reducible refine gd 1 ?_); refine bA 1 #[.int .i64 a0_0, .int .i64 a0_1, .int .i64 a0_2, .int .i64 a0_3] 87 ?_; intro gb203 hg w13 hbox hb; have BK203 := Aside0.mk (hbox); have GW203 := bg hg HB; have GJ203 := gi GW203; have GE203 := GW203; replace HB := bs HB hb; clear hb hbox hg; obtain ⟨hcz14_0, hcz14_1, hcz14_2, hcz14_3, hfz14_0, hfz14_1, hfz14_2, hfz14_3⟩ := cs4 BK203) | ((with_reducible refine gate_callee (f := 51) rfl ?_); refine gB (some 5) Try.func51 #[.int .i64 a0_0, .int .i64 0, .int .i64 3] ?_; (with_reducible refine (spec_l1In.calls a0_0 0 3 true _ A2.out).mono ?_); rintro e w' ⟨rfl, ⟨nd, rfl⟩⟩; refine ⟨_, rfl, ?_⟩) | (go_at_call 51; (with_reducible refine (spec_l1In.calls a0_1 0 3 false _ A4.out).mono ?_); rintro e w' ⟨rfl, ⟨nd, rfl⟩⟩))
  go_ret
  exact ⟨y0_16, bI HB.out⟩
 replace c3 := Bool.eq_false_iff.mpr c3; subst c3
 rw [if_neg (show ¬ (false = true) by decide)] at H
 obtain rfl := Option.some.inj H
 go_enter Try.func80, Try.ntmps80
 go_wp2_with (first | ((with_reducible refine gd 1 ?_); refine bA 1 #[.int .i64 a0_0, .int .i64 a0_1, .int .i64 a0_2, .int .i64 a0_3] 87 ?_; intro gb203 hg w15 hbox hb; have BK203 := Aside0.mk (hbox); have GW203 := bg hg HB; have GJ203 := gi GW203; have GE203 := GW203; replace HB := bs HB hb; clear hb hbox hg; obtain ⟨hcz16_0, hcz16_1, hcz16_2, hcz16_3, hfz16_0, hfz16_1, hfz16_2, hfz16_3⟩ := cs4 BK203) | ((with_reducible refine gate_callee (f := 51) rfl ?_); refine gB (some 5) Try.func51 #[.int .i64 a0_0, .int .i64 0, .int .i64 3] ?_; (with_reducible refine (spec_l1In.calls a0_0 0 3 false _ A2.out).mono ?_); rintro e w' ⟨rfl, ⟨nd, rfl⟩⟩; refine ⟨_, rfl, ?_⟩))
 go_ret
 exact ⟨y0_16, bI HB.out⟩

/-! ### spec_TxText: function 87 -/
def spec_TxText.f (k : Nat) (a0_0 : Int) (a0_1 : Int) (a0_2 : Int) (a0_3 : Int) : Option (ByteArray) := (spec_TxOk.f a0_0 a0_1 a0_2 a0_3).bind fun t209 => (if t209 = true then ((spec_Digits.f k a0_0).bind fun t210 => (if t210.size + 1 ≤ 9223372036854775807 then ((spec_Digits.f k a0_1).bind fun t211 => (if (t210 ++ (⟨#[62]⟩ : ByteArray)).size + t211.size ≤ 9223372036854775807 then (if ((t210 ++ (⟨#[62]⟩ : ByteArray)) ++ t211).size + 1 ≤ 9223372036854775807 then ((spec_Digits.f k a0_2).bind fun t212 => (if (((t210 ++ (⟨#[62]⟩ : ByteArray)) ++ t211) ++ (⟨#[58]⟩ : ByteArray)).size + t212.size ≤ 9223372036854775807 then (if ((((t210 ++ (⟨#[62]⟩ : ByteArray)) ++ t211) ++ (⟨#[58]⟩ : ByteArray)) ++ t212).size + 1 ≤ 9223372036854775807 then ((spec_Digits.f k a0_3).bind fun t213 => (if (((((t210 ++ (⟨#[62]⟩ : ByteArray)) ++ t211) ++ (⟨#[58]⟩ : ByteArray)) ++ t212) ++ (⟨#[35]⟩ : ByteArray)).size + t213.size ≤ 9223372036854775807 then (some ((((((t210 ++ (⟨#[62]⟩ : ByteArray)) ++ t211) ++ (⟨#[58]⟩ : ByteArray)) ++ t212) ++ (⟨#[35]⟩ : ByteArray)) ++ t213)) else (none))) else (none)) else (none))) else (none)) else (none))) else (none))) else (some (⟨#[]⟩ : ByteArray)))
theorem spec_TxText.mono : ∀ a0 a1 a2 a3 k, LeO (spec_TxText.f k a0 a1 a2 a3) (spec_TxText.f (k + 1) a0 a1 a2 a3) := by
 intro a0 a1 a2 a3 k
 unfold spec_TxText.f
 repeat' first | (with_reducible exact spec_Digits.mono _ _) | (with_reducible exact LeO.refl _) | (with_reducible exact LeO.none _) | (with_reducible refine LeO.ite ?_ ?_) | (with_reducible refine LeO.bind ?_ (fun _ => ?_))
def spec_TxText.T3 : Bool × List (List Nat × List Nat) := (true, [([], []), ([0], [0]), ([1], [1]), ([2], [2]), ([], []), ([4], [4]), ([5, 2], [5]), ([3, 6], [3, 6]), ([7], [7]), ([], []), ([9], [9]), ([10, 6], [10]), ([8, 11], [8, 11]), ([12], [12]), ([], []), ([14], [14]), ([15, 11], [15]), ([13, 16], [13, 16]), ([17, 16, 0, 1, 2, 3, 4, 5, 6, 7, 8, 9, 10, 11, 12, 13, 14, 15, 16, 17], [17])])
def spec_TxText.B3 : List Nat := [0, 1, 3, 7, 0, 16, 55, 127, 255, 0, 512, 1655, 4095, 8191, 0, 16384, 52855, 131071, 262143]
theorem spec_TxText.tab3 : rtab .any (opsOf Try.f87 3) = spec_TxText.T3 := by kernel_rfl
theorem spec_TxText.bits3 : waitsOk spec_TxText.T3.2 spec_TxText.B3 = true := by kernel_rfl
set_option maxHeartbeats 8000000 in
set_option maxRecDepth 100000 in
theorem spec_TxText.calls (k : Nat) (a0_0 : Int) (a0_1 : Int) (a0_2 : Int) (a0_3 : Int) (r : ByteArray) (w : World) (h : spec_TxText.f k a0_0 a0_1 a0_2 a0_3 = some r) :
  Calls Try.prog 87 #[.agg #[.int .i64 a0_0, .int .i64 a0_1, .int .i64 a0_2, .int .i64 a0_3]] w fun e w' => e = .returned (.string r) ∧ Below w.heap.size w w' := by
 have hu87 := Try.underlying87; have HB := Aside0.mk (Below.refl w.heap.size w)
 have H : ((spec_TxOk.f a0_0 a0_1 a0_2 a0_3).bind fun t209 => (if t209 = true then ((spec_Digits.f k a0_0).bind fun t210 => (if t210.size + 1 ≤ 9223372036854775807 then ((spec_Digits.f k a0_1).bind fun t211 => (if (t210 ++ (⟨#[62]⟩ : ByteArray)).size + t211.size ≤ 9223372036854775807 then (if ((t210 ++ (⟨#[62]⟩ : ByteArray)) ++ t211).size + 1 ≤ 9223372036854775807 then ((spec_Digits.f k a0_2).bind fun t212 => (if (((t210 ++ (⟨#[62]⟩ : ByteArray)) ++ t211) ++ (⟨#[58]⟩ : ByteArray)).size + t212.size ≤ 9223372036854775807 then (if ((((t210 ++ (⟨#[62]⟩ : ByteArray)) ++ t211) ++ (⟨#[58]⟩ : ByteArray)) ++ t212).size + 1 ≤ 9223372036854775807 then ((spec_Digits.f k a0_3).bind fun t213 => (if (((((t210 ++ (⟨#[62]⟩ : ByteArray)) ++ t211) ++ (⟨#[58]⟩ : ByteArray)) ++ t212) ++ (⟨#[35]⟩ : ByteArray)).size + t213.size ≤ 9223372036854775807 then (some ((((((t210 ++ (⟨#[62]⟩ : ByteArray)) ++ t211) ++ (⟨#[58]⟩ : ByteArray)) ++ t212) ++ (⟨#[35]⟩ : ByteArray)) ++ t213)) else (none))) else (none)) else (none))) else (none)) else (none))) else (none))) else (some (⟨#[]⟩ : ByteArray)))) = some r := h
 clear h; obtain ⟨t209, A20, H⟩ := Option.bind_eq_some_iff.mp H
 try dsimp only at H
 have A2 := Aside0.mk A20; clear A20
 by_cases c3 : t209 = true
 ·
  subst c3
  rw [if_pos rfl] at H
  obtain ⟨t210, A40, H⟩ := Option.bind_eq_some_iff.mp H
  try dsimp only at H
  have A4 := Aside0.mk A40; clear A40
  by_cases c5 : t210.size + 1 ≤ 9223372036854775807
  rotate_left
  ·
   rw [if_neg c5] at H
   exact absurd H (by simp)
  rw [if_pos c5] at H
  have c5b0 := eq_true c5; have c5b1 : decide (t210.size + 1 ≤ 9223372036854775807) = true := decide_eq_true c5
  try have c5b2 : (9223372036854775807 < t210.size + 1) = False := eq_false (Nat.not_lt.2 c5)
  obtain ⟨t211, A60, H⟩ := Option.bind_eq_some_iff.mp H
  try dsimp only at H
  have A6 := Aside0.mk A60; clear A60
  by_cases c7 : (t210 ++ (⟨#[62]⟩ : ByteArray)).size + t211.size ≤ 9223372036854775807
  rotate_left
  ·
   rw [if_neg c7] at H
   exact absurd H (by simp)
  rw [if_pos c7] at H
  have c7b0 := eq_true c7; have c7b1 : decide ((t210 ++ (⟨#[62]⟩ : ByteArray)).size + t211.size ≤ 9223372036854775807) = true := decide_eq_true c7
  try have c7b2 : (9223372036854775807 < (t210 ++ (⟨#[62]⟩ : ByteArray)).size + t211.size) = False := eq_false (Nat.not_lt.2 c7)
  (try have c7b3 : (9223372036854775807 < t210.size + 1 + t211.size) = False := eq_false (by have h_ := c7; simp only [ByteArray.size_append, ByteArray.size_extract, show (⟨#[62]⟩ : ByteArray).size = 1 from rfl] at h_; omega))
  by_cases c8 : ((t210 ++ (⟨#[62]⟩ : ByteArray)) ++ t211).size + 1 ≤ 9223372036854775807
  rotate_left
  ·
   rw [if_neg c8] at H
   exact absurd H (by simp)
  rw [if_pos c8] at H
  have c8b0 := eq_true c8; have c8b1 : decide (((t210 ++ (⟨#[62]⟩ : ByteArray)) ++ t211).size + 1 ≤ 9223372036854775807) = true := decide_eq_true c8
  try have c8b2 : (9223372036854775807 < ((t210 ++ (⟨#[62]⟩ : ByteArray)) ++ t211).size + 1) = False := eq_false (Nat.not_lt.2 c8)
  (try have c8b3 : (9223372036854775807 < t210.size + 1 + t211.size + 1) = False := eq_false (by have h_ := c8; simp only [ByteArray.size_append, ByteArray.size_extract, show (⟨#[62]⟩ : ByteArray).size = 1 from rfl] at h_; omega))
  obtain ⟨t212, A90, H⟩ := Option.bind_eq_some_iff.mp H
  try dsimp only at H
  have A9 := Aside0.mk A90; clear A90
  by_cases c10 : (((t210 ++ (⟨#[62]⟩ : ByteArray)) ++ t211) ++ (⟨#[58]⟩ : ByteArray)).size + t212.size ≤ 9223372036854775807
  rotate_left
  ·
   rw [if_neg c10] at H
   exact absurd H (by simp)
  rw [if_pos c10] at H
  have c10b0 := eq_true c10; have c10b1 : decide ((((t210 ++ (⟨#[62]⟩ : ByteArray)) ++ t211) ++ (⟨#[58]⟩ : ByteArray)).size + t212.size ≤ 9223372036854775807) = true := decide_eq_true c10
  try have c10b2 : (9223372036854775807 < (((t210 ++ (⟨#[62]⟩ : ByteArray)) ++ t211) ++ (⟨#[58]⟩ : ByteArray)).size + t212.size) = False := eq_false (Nat.not_lt.2 c10)
  (try have c10b3 : (9223372036854775807 < t210.size + 1 + t211.size + 1 + t212.size) = False := eq_false (by have h_ := c10; simp only [ByteArray.size_append, ByteArray.size_extract, show (⟨#[58]⟩ : ByteArray).size = 1 from rfl, show (⟨#[62]⟩ : ByteArray).size = 1 from rfl] at h_; omega))
  by_cases c11 : ((((t210 ++ (⟨#[62]⟩ : ByteArray)) ++ t211) ++ (⟨#[58]⟩ : ByteArray)) ++ t212).size + 1 ≤ 9223372036854775807
  rotate_left
  ·
   rw [if_neg c11] at H
   exact absurd H (by simp)
  rw [if_pos c11] at H
  have c11b0 := eq_true c11; have c11b1 : decide (((((t210 ++ (⟨#[62]⟩ : ByteArray)) ++ t211) ++ (⟨#[58]⟩ : ByteArray)) ++ t212).size + 1 ≤ 9223372036854775807) = true := decide_eq_true c11
  try have c11b2 : (9223372036854775807 < ((((t210 ++ (⟨#[62]⟩ : ByteArray)) ++ t211) ++ (⟨#[58]⟩ : ByteArray)) ++ t212).size + 1) = False := eq_false (Nat.not_lt.2 c11)
  (try have c11b3 : (9223372036854775807 < t210.size + 1 + t211.size + 1 + t212.size + 1) = False := eq_false (by have h_ := c11; simp only [ByteArray.size_append, ByteArray.size_extract, show (⟨#[58]⟩ : ByteArray).size = 1 from rfl, show (⟨#[62]⟩ : ByteArray).size = 1 from rfl] at h_; omega))
  obtain ⟨t213, A120, H⟩ := Option.bind_eq_some_iff.mp H
  try dsimp only at H
  have A12 := Aside0.mk A120; clear A120
  by_cases c13 : (((((t210 ++ (⟨#[62]⟩ : ByteArray)) ++ t211) ++ (⟨#[58]⟩ : ByteArray)) ++ t212) ++ (⟨#[35]⟩ : ByteArray)).size + t213.size ≤ 9223372036854775807
  rotate_left
  ·
   rw [if_neg c13] at H
   exact absurd H (by simp)
  rw [if_pos c13] at H
  have c13b0 := eq_true c13; have c13b1 : decide ((((((t210 ++ (⟨#[62]⟩ : ByteArray)) ++ t211) ++ (⟨#[58]⟩ : ByteArray)) ++ t212) ++ (⟨#[35]⟩ : ByteArray)).size + t213.size ≤ 9223372036854775807) = true := decide_eq_true c13
  try have c13b2 : (9223372036854775807 < (((((t210 ++ (⟨#[62]⟩ : ByteArray)) ++ t211) ++ (⟨#[58]⟩ : ByteArray)) ++ t212) ++ (⟨#[35]⟩ : ByteArray)).size + t213.size) = False := eq_false (Nat.not_lt.2 c13)
  (try have c13b3 : (9223372036854775807 < t210.size + 1 + t211.size + 1 + t212.size + 1 + t213.size) = False := eq_false (by have h_ := c13; simp only [ByteArray.size_append, ByteArray.size_extract, show (⟨#[35]⟩ : ByteArray).size = 1 from rfl, show (⟨#[58]⟩ : ByteArray).size = 1 from rfl, show (⟨#[62]⟩ : ByteArray).size = 1 from rfl] at h_; omega))
  obtain rfl := Option.some.inj H
  go_enter Try.func87, Try.ntmps87
  try go_wp2_with (first | ((with_reducible refine gd 1 ?_); refine bA 1 #[.int .i64 a0_0, .int .i64 a0_1, .int .i64 a0_2, .int .i64 a0_3] 87 ?_; intro gb208 hg w14 hbox hb; have BK208 := Aside0.mk (hbox); have GW208 := bg hg HB; have GJ208 := gi GW208; have GE208 := GW208; replace HB := bs HB hb; clear hb hbox hg; obtain ⟨hcz15_0, hcz15_1, hcz15_2, hcz15_3, hfz15_0, hfz15_1, hfz15_2, hfz15_3⟩ := cs4 BK208) | ((with_reducible refine gate_callee (f := 80) rfl ?_); refine gB (some 4) Try.func80 #[.agg #[.int .i64 a0_0, .int .i64 a0_1, .int .i64 a0_2, .int .i64 a0_3]] ?_; (with_reducible refine (spec_TxOk.calls a0_0 a0_1 a0_2 a0_3 true _ A2.out).mono ?_); rintro e w16 ⟨rfl, hb⟩; refine ⟨_, rfl, ?_⟩; replace BK208 := bk BK208 hb; replace HB := bs HB hb; (try clear hb); (try clear hb2); (try clear hk); (try clear hi)))
  replace BK208 := Aside0.mk (blk_drew BK208.out); replace HB := Aside0.mk (below_drew1 HB.out)
  refine start_ (n := 19) (S := fun w' => w'.cell? ⟨gb208, 0, none⟩ = some (.int .i64 a0_0) ∧ w'.cell? ⟨gb208, 1, none⟩ = some (.int .i64 a0_1) ∧ w'.cell? ⟨gb208, 2, none⟩ = some (.int .i64 a0_2) ∧ w'.cell? ⟨gb208, 3, none⟩ = some (.int .i64 a0_3)) (ds := []) #[false, false, false, false, false, false, false, false, false, false, false, false, false, false, false, false, false, false, false] (by kernel_rfl) rfl rfl ⟨bc0 BK208.out, bc1 BK208.out, bc2 BK208.out, bc3 BK208.out⟩ (fun hHeld => ?_); refine with_tabW spec_TxText.tab3 spec_TxText.bits3 (fun HT_ HW_ => ?_)
  generalize w16.drew = w17 at BK208 HB hHeld ⊢
  refine pA 0 (some 6) (bz 19 1) HT_ ?_
  refine pA 4 (some 10) (bz 19 17) HT_ ?_
  refine pA 9 (some 15) (bz 19 529) HT_ ?_
  refine pA 14 (some 20) (bz 19 0x4211) HT_ ?_
  refine tA 1 (some 7) (bz 19 0x4213) HT_ HW_ hHeld ?_
  refine tA 5 (some 11) (bz 19 0x4233) HT_ HW_ hHeld ?_
  refine tA 10 (some 16) (bz 19 0x4633) HT_ HW_ hHeld ?_
  refine tA 15 (some 21) (bz 19 0xc633) HT_ HW_ hHeld ?_
  refine oA 2 (some 8) (bz 19 0xc637) HT_ (fun K hK => ?_)
  refine gA Try.func78 #[.int .i64 a0_0] ?_
  with_reducible refine (spec_Digits.calls k a0_0 t210 _ A4.out).mono ?_
  rintro e w18 ⟨rfl, hb⟩
  refine ⟨_, rfl, ?_⟩
  replace BK208 := bk BK208 hb; replace HB := bs HB hb
  (try clear hb)
  (try clear hb2)
  (try clear hk)
  (try clear hi)
  refine hK.out _ _ ⟨bc0 BK208.out, bc1 BK208.out, bc2 BK208.out, bc3 BK208.out⟩ (fun hHeld => ?_)
  clear hK K
  refine nA (some 8) ?_
  refine pA 3 (some 9) (bz 19 0xc63f) HT_ ?_
  refine oA 6 (some 12) (bz 19 0xc67f) HT_ (fun K hK => ?_)
  refine gA Try.func78 #[.int .i64 a0_1] ?_
  with_reducible refine (spec_Digits.calls k a0_1 t211 _ A6.out).mono ?_
  rintro e w19 ⟨rfl, hb⟩
  refine ⟨_, rfl, ?_⟩
  replace BK208 := bk BK208 hb; replace HB := bs HB hb
  (try clear hb)
  (try clear hb2)
  (try clear hk)
  (try clear hi)
  refine hK.out _ _ ⟨bc0 BK208.out, bc1 BK208.out, bc2 BK208.out, bc3 BK208.out⟩ (fun hHeld => ?_)
  clear hK K
  refine nA (some 12) ?_
  refine pA 7 (some 13) (bz 19 0xc6ff) HT_ ?_
  refine pA 8 (some 14) (bz 19 0xc7ff) HT_ ?_
  refine oA 11 (some 17) (bz 19 0xcfff) HT_ (fun K hK => ?_)
  refine gA Try.func78 #[.int .i64 a0_2] ?_
  with_reducible refine (spec_Digits.calls k a0_2 t212 _ A9.out).mono ?_
  rintro e w20 ⟨rfl, hb⟩
  refine ⟨_, rfl, ?_⟩
  replace BK208 := bk BK208 hb; replace HB := bs HB hb
  (try clear hb)
  (try clear hb2)
  (try clear hk)
  (try clear hi)
  refine hK.out _ _ ⟨bc0 BK208.out, bc1 BK208.out, bc2 BK208.out, bc3 BK208.out⟩ (fun hHeld => ?_)
  clear hK K
  refine nA (some 17) ?_
  refine pA 12 (some 18) (bz 19 0xdfff) HT_ ?_
  refine pA 13 (some 19) (bz 19 0xffff) HT_ ?_
  refine oA 16 (some 22) (bz 19 0x1ffff) HT_ (fun K hK => ?_)
  refine gA Try.func78 #[.int .i64 a0_3] ?_
  with_reducible refine (spec_Digits.calls k a0_3 t213 _ A12.out).mono ?_
  rintro e w21 ⟨rfl, hb⟩
  refine ⟨_, rfl, ?_⟩
  replace BK208 := bk BK208 hb; replace HB := bs HB hb
  (try clear hb)
  (try clear hb2)
  (try clear hk)
  (try clear hi)
  refine hK.out _ _ ⟨bc0 BK208.out, bc1 BK208.out, bc2 BK208.out, bc3 BK208.out⟩ (fun hHeld => ?_)
  clear hK K
  refine nA (some 22) ?_
  refine pA 17 (some 23) (bz 19 0x3ffff) HT_ ?_
  refine pA 18 (some 2) (bz 19 0x7ffff) HT_ ?_
  refine done_ (done_of HT_.out (by kernel_rfl)) ?_
  try go_wp2
  go_ret
  exact ⟨y0_16, bI HB.out⟩
 replace c3 := Bool.eq_false_iff.mpr c3; subst c3
 rw [if_neg (show ¬ (false = true) by decide)] at H
 obtain rfl := Option.some.inj H
 go_enter Try.func87, Try.ntmps87
 go_wp2_with (first | ((with_reducible refine gd 1 ?_); refine bA 1 #[.int .i64 a0_0, .int .i64 a0_1, .int .i64 a0_2, .int .i64 a0_3] 87 ?_; intro gb208 hg w22 hbox hb; have BK208 := Aside0.mk (hbox); have GW208 := bg hg HB; have GJ208 := gi GW208; have GE208 := GW208; replace HB := bs HB hb; clear hb hbox hg; obtain ⟨hcz23_0, hcz23_1, hcz23_2, hcz23_3, hfz23_0, hfz23_1, hfz23_2, hfz23_3⟩ := cs4 BK208) | ((with_reducible refine gate_callee (f := 80) rfl ?_); refine gB (some 4) Try.func80 #[.agg #[.int .i64 a0_0, .int .i64 a0_1, .int .i64 a0_2, .int .i64 a0_3]] ?_; (with_reducible refine (spec_TxOk.calls a0_0 a0_1 a0_2 a0_3 false _ A2.out).mono ?_); rintro e w24 ⟨rfl, hb⟩; refine ⟨_, rfl, ?_⟩; replace BK208 := bk BK208 hb; replace HB := bs HB hb; (try clear hb); (try clear hb2); (try clear hk); (try clear hi)))
 go_ret
 exact ⟨y0_16, bI HB.out⟩

/-! ### spec_TxOf: function 88 -/
def spec_TxOf.f (k : Nat) (a0 : ByteArray) : Option (Int × Int × Int × Int × Bool) := (spec_l2Cut.f k a0 62).bind fun bt215 => ((spec_l2Cut.f k bt215.2.1 58).bind fun bt218 => ((spec_l2Cut.f k bt218.2.1 35).bind fun bt221 => ((spec_Number.f k bt215.1).bind fun bt225 => ((spec_Number.f k bt218.1).bind fun bt227 => ((spec_Number.f k bt221.1).bind fun bt229 => ((spec_Number.f k bt221.2.1).bind fun bt231 => (if a0.toList = ([] : List UInt8) then (some (0, 0, 0, 0, false)) else ((spec_TxText.f k bt225.1 bt227.1 bt229.1 bt231.1).bind fun t233 => (if t233.toList = a0.toList then (some (bt225.1, bt227.1, bt229.1, bt231.1, true)) else (some (0, 0, 0, 0, false)))))))))))
theorem spec_TxOf.mono : ∀ a0 k, LeO (spec_TxOf.f k a0) (spec_TxOf.f (k + 1) a0) := by
 intro a0 k
 unfold spec_TxOf.f
 repeat' first | (with_reducible exact spec_Number.mono _ _) | (with_reducible exact spec_TxText.mono _ _ _ _ _) | (with_reducible exact spec_l2Cut.mono _ _ _) | (with_reducible exact LeO.refl _) | (with_reducible exact LeO.none _) | (with_reducible refine LeO.ite ?_ ?_) | (with_reducible refine LeO.bind ?_ (fun _ => ?_))
set_option maxHeartbeats 8000000 in
set_option maxRecDepth 100000 in
theorem spec_TxOf.calls (k : Nat) (a0 : ByteArray) (r1 : Int) (r2 : Int) (r3 : Int) (r4 : Int) (r5 : Bool) (w : World) (h : spec_TxOf.f k a0 = some (r1, r2, r3, r4, r5)) :
  Calls Try.prog 88 #[.string a0] w fun e w' => e = .returned (.tuple #[.agg #[.int .i64 r1, .int .i64 r2, .int .i64 r3, .int .i64 r4], .bool r5]) ∧ Below w.heap.size w w' := by
 have hu87 := Try.underlying87; have HB := Aside0.mk (Below.refl w.heap.size w)
 have H : ((spec_l2Cut.f k a0 62).bind fun bt215 => ((spec_l2Cut.f k bt215.2.1 58).bind fun bt218 => ((spec_l2Cut.f k bt218.2.1 35).bind fun bt221 => ((spec_Number.f k bt215.1).bind fun bt225 => ((spec_Number.f k bt218.1).bind fun bt227 => ((spec_Number.f k bt221.1).bind fun bt229 => ((spec_Number.f k bt221.2.1).bind fun bt231 => (if a0.toList = ([] : List UInt8) then (some (0, 0, 0, 0, false)) else ((spec_TxText.f k bt225.1 bt227.1 bt229.1 bt231.1).bind fun t233 => (if t233.toList = a0.toList then (some (bt225.1, bt227.1, bt229.1, bt231.1, true)) else (some (0, 0, 0, 0, false)))))))))))) = some (r1, r2, r3, r4, r5) := h
 clear h; obtain ⟨⟨t215, t216, t217⟩, A20, H⟩ := Option.bind_eq_some_iff.mp H
 try dsimp only at H
 have A2 := Aside0.mk A20; clear A20; obtain ⟨⟨t218, t219, t220⟩, A30, H⟩ := Option.bind_eq_some_iff.mp H
 try dsimp only at H
 have A3 := Aside0.mk A30; clear A30; obtain ⟨⟨t221, t222, t223⟩, A40, H⟩ := Option.bind_eq_some_iff.mp H
 try dsimp only at H
 have A4 := Aside0.mk A40; clear A40; obtain ⟨⟨t225, t226⟩, A50, H⟩ := Option.bind_eq_some_iff.mp H
 try dsimp only at H
 have A5 := Aside0.mk A50; clear A50; obtain ⟨⟨t227, t228⟩, A60, H⟩ := Option.bind_eq_some_iff.mp H
 try dsimp only at H
 have A6 := Aside0.mk A60; clear A60; obtain ⟨⟨t229, t230⟩, A70, H⟩ := Option.bind_eq_some_iff.mp H
 try dsimp only at H
 have A7 := Aside0.mk A70; clear A70; obtain ⟨⟨t231, t232⟩, A80, H⟩ := Option.bind_eq_some_iff.mp H
 try dsimp only at H
 have A8 := Aside0.mk A80; clear A80
 by_cases c9 : a0.toList = ([] : List UInt8)
 ·
  rw [if_pos c9] at H
  have c9b0 : (a0.toList == ([] : List UInt8)) = true := beq_iff_eq.mpr c9; have c9b1 : (a0.toList != ([] : List UInt8)) = false := bne_eq_false_iff_eq.mpr c9; clear c9
  simp only [Option.some.injEq, Prod.mk.injEq] at H
  obtain ⟨rfl, rfl, rfl, rfl, rfl⟩ := H
  go_enter Try.func88, Try.ntmps88
  go_wp2_with (first | ((with_reducible refine gd 2 ?_); refine bA 2 #[.int .i64 0, .int .i64 0, .int .i64 0, .int .i64 0] 87 ?_; intro gb214 hg w10 hbox hb; have BK214 := Aside0.mk (hbox); have GW214 := bg hg HB; have GJ214 := gi GW214; have GE214 := GW214; replace HB := bs HB hb; clear hb hbox hg) | ((with_reducible refine gate_callee (f := 83) rfl ?_); refine gB (some 16) Try.func83 #[.string a0, .int .u8 62] ?_; (with_reducible refine (spec_l2Cut.calls k a0 62 t215 t216 t217 _ A2.out).mono ?_); rintro e w' ⟨rfl, ⟨nd, rfl⟩⟩; refine ⟨_, rfl, ?_⟩; (try (rw [drewN_self w10]; generalize hq_ : World.drewN w10 _ = w10; have n0_ : Aside0 (w10.heap[gb214]? = some (.cells #[.int .i64 0, .int .i64 0, .int .i64 0, .int .i64 0] 87 (0, 0))) := ⟨y0_23⟩; have n1_ : Aside0 (Below w.heap.size w w10) := ⟨y0_24⟩; clear BK214 HB hq_; have BK214 := n0_; have HB := n1_; clear n0_ n1_))) | ((with_reducible refine gate_callee (f := 83) rfl ?_); refine gB (some 22) Try.func83 #[.string t216, .int .u8 58] ?_; (with_reducible refine (spec_l2Cut.calls k t216 58 t218 t219 t220 _ A3.out).mono ?_); rintro e w' ⟨rfl, ⟨nd, rfl⟩⟩; refine ⟨_, rfl, ?_⟩; (try (rw [drewN_self w10]; generalize hq_ : World.drewN w10 _ = w10; have n0_ : Aside0 (w10.heap[gb214]? = some (.cells #[.int .i64 0, .int .i64 0, .int .i64 0, .int .i64 0] 87 (0, 0))) := ⟨y0_23⟩; have n1_ : Aside0 (Below w.heap.size w w10) := ⟨y0_24⟩; clear BK214 HB hq_; have BK214 := n0_; have HB := n1_; clear n0_ n1_))) | ((with_reducible refine gate_callee (f := 83) rfl ?_); refine gB (some 28) Try.func83 #[.string t219, .int .u8 35] ?_; (with_reducible refine (spec_l2Cut.calls k t219 35 t221 t222 t223 _ A4.out).mono ?_); rintro e w' ⟨rfl, ⟨nd, rfl⟩⟩; refine ⟨_, rfl, ?_⟩; (try (rw [drewN_self w10]; generalize hq_ : World.drewN w10 _ = w10; have n0_ : Aside0 (w10.heap[gb214]? = some (.cells #[.int .i64 0, .int .i64 0, .int .i64 0, .int .i64 0] 87 (0, 0))) := ⟨y0_23⟩; have n1_ : Aside0 (Below w.heap.size w w10) := ⟨y0_24⟩; clear BK214 HB hq_; have BK214 := n0_; have HB := n1_; clear n0_ n1_))) | ((with_reducible refine gd 13 ?_); refine bA 13 #[.int .i64 0, .int .i64 0, .int .i64 0, .int .i64 0] 87 ?_; intro gb224 hg w11 hbox hb; have BK224 := Aside0.mk (hbox); have GW224 := bg hg HB; have GJ224 := gi GW224; have GE224 := GW224; replace HB := bs HB hb; have NB214_224 := b1 BK214 hg; have NI214_224 := ni NB214_224; have NB224_214 := b2 BK214 hg; have NI224_214 := ni NB224_214; replace BK214 := bk BK214 hb; clear hb hbox hg; have hnb12 := NB224_214.out; have hnc12 := NB214_224.out; obtain ⟨hcz13_0, hcz13_1, hcz13_2, hcz13_3, hfz13_0, hfz13_1, hfz13_2, hfz13_3⟩ := cs4 BK224) | ((with_reducible refine gate_callee (f := 84) rfl ?_); refine gB (some 35) Try.func84 #[.string t215] ?_; (with_reducible refine (spec_Number.calls k t215 t225 t226 _ A5.out).mono ?_); rintro e w14 ⟨rfl, hb⟩; refine ⟨_, rfl, ?_⟩; replace BK214 := Aside0.mk (blk_below (g := gb214) (o := .cells #[.int .i64 0, .int .i64 0, .int .i64 0, .int .i64 0] 87 (0, 0)) (gI BK214.out) hb); replace BK224 := bp BK224 hb #[.int .i64 0, .int .i64 0, .int .i64 0, .int .i64 0]; replace HB := bs HB hb; (try clear hb); (try clear hb2); (try clear hk); (try clear hi); obtain ⟨hcz15_0, hcz15_1, hcz15_2, hcz15_3, hfz15_0, hfz15_1, hfz15_2, hfz15_3⟩ := cs4 BK224) | ((with_reducible refine gate_callee (f := 84) rfl ?_); refine gB (some 41) Try.func84 #[.string t218] ?_; (with_reducible refine (spec_Number.calls k t218 t227 t228 _ A6.out).mono ?_); rintro e w16 ⟨rfl, hb⟩; refine ⟨_, rfl, ?_⟩; replace BK214 := Aside0.mk (blk_below (g := gb214) (o := .cells #[.int .i64 0, .int .i64 0, .int .i64 0, .int .i64 0] 87 (0, 0)) (gI BK214.out) hb); replace BK224 := bp BK224 hb #[.int .i64 t225, .int .i64 0, .int .i64 0, .int .i64 0]; replace HB := bs HB hb; (try clear hb); (try clear hb2); (try clear hk); (try clear hi); obtain ⟨hcz17_0, hcz17_1, hcz17_2, hcz17_3, hfz17_0, hfz17_1, hfz17_2, hfz17_3⟩ := cs4 BK224) | ((with_reducible refine gate_callee (f := 84) rfl ?_); refine gB (some 47) Try.func84 #[.string t221] ?_; (with_reducible refine (spec_Number.calls k t221 t229 t230 _ A7.out).mono ?_); rintro e w18 ⟨rfl, hb⟩; refine ⟨_, rfl, ?_⟩; replace BK214 := Aside0.mk (blk_below (g := gb214) (o := .cells #[.int .i64 0, .int .i64 0, .int .i64 0, .int .i64 0] 87 (0, 0)) (gI BK214.out) hb); replace BK224 := bp BK224 hb #[.int .i64 t225, .int .i64 t227, .int .i64 0, .int .i64 0]; replace HB := bs HB hb; (try clear hb); (try clear hb2); (try clear hk); (try clear hi); obtain ⟨hcz19_0, hcz19_1, hcz19_2, hcz19_3, hfz19_0, hfz19_1, hfz19_2, hfz19_3⟩ := cs4 BK224) | ((with_reducible refine gate_callee (f := 84) rfl ?_); refine gB (some 53) Try.func84 #[.string t222] ?_; (with_reducible refine (spec_Number.calls k t222 t231 t232 _ A8.out).mono ?_); rintro e w20 ⟨rfl, hb⟩; refine ⟨_, rfl, ?_⟩; replace BK214 := Aside0.mk (blk_below (g := gb214) (o := .cells #[.int .i64 0, .int .i64 0, .int .i64 0, .int .i64 0] 87 (0, 0)) (gI BK214.out) hb); replace BK224 := bp BK224 hb #[.int .i64 t225, .int .i64 t227, .int .i64 t229, .int .i64 0]; replace HB := bs HB hb; (try clear hb); (try clear hb2); (try clear hk); (try clear hi); obtain ⟨hcz21_0, hcz21_1, hcz21_2, hcz21_3, hfz21_0, hfz21_1, hfz21_2, hfz21_3⟩ := cs4 BK224; obtain ⟨hcz22_0, hcz22_1, hcz22_2, hcz22_3, hfz22_0, hfz22_1, hfz22_2, hfz22_3⟩ := cs4 BK214))
  refine bodyPost_ret (results_ct rfl _ _ gb214 87 #[.int .i64 0, .int .i64 0, .int .i64 0, .int .i64 0] (0, 0) _ rfl (pI BK214) Try.underlying87 rfl (by kernel_rfl)) rfl ?_
  exact ⟨y0_16, bI HB.out⟩
 rw [if_neg c9] at H
 have c9b0 : (a0.toList == ([] : List UInt8)) = false := beq_eq_false_iff_ne.mpr c9; have c9b1 : (a0.toList != ([] : List UInt8)) = true := bne_iff_ne.mpr c9; obtain ⟨t233, A230, H⟩ := Option.bind_eq_some_iff.mp H
 try dsimp only at H
 have A23 := Aside0.mk A230; clear A230
 by_cases c24 : t233.toList = a0.toList
 ·
  rw [if_pos c24] at H
  have c24b0 : (t233.toList == a0.toList) = true := beq_iff_eq.mpr c24; have c24b1 : (t233.toList != a0.toList) = false := bne_eq_false_iff_eq.mpr c24; clear c24
  simp only [Option.some.injEq, Prod.mk.injEq] at H
  obtain ⟨rfl, rfl, rfl, rfl, rfl⟩ := H
  go_enter Try.func88, Try.ntmps88
  go_wp2_with (first | ((with_reducible refine gd 2 ?_); refine bA 2 #[.int .i64 0, .int .i64 0, .int .i64 0, .int .i64 0] 87 ?_; intro gb214 hg w25 hbox hb; have BK214 := Aside0.mk (hbox); have GW214 := bg hg HB; have GJ214 := gi GW214; have GE214 := GW214; replace HB := bs HB hb; clear hb hbox hg) | ((with_reducible refine gate_callee (f := 83) rfl ?_); refine gB (some 16) Try.func83 #[.string a0, .int .u8 62] ?_; (with_reducible refine (spec_l2Cut.calls k a0 62 t215 t216 t217 _ A2.out).mono ?_); rintro e w' ⟨rfl, ⟨nd, rfl⟩⟩; refine ⟨_, rfl, ?_⟩; (try (rw [drewN_self w25]; generalize hq_ : World.drewN w25 _ = w25; have n0_ : Aside0 (w25.heap[gb214]? = some (.cells #[.int .i64 0, .int .i64 0, .int .i64 0, .int .i64 0] 87 (0, 0))) := ⟨y0_23⟩; have n1_ : Aside0 (Below w.heap.size w w25) := ⟨y0_24⟩; clear BK214 HB hq_; have BK214 := n0_; have HB := n1_; clear n0_ n1_))) | ((with_reducible refine gate_callee (f := 83) rfl ?_); refine gB (some 22) Try.func83 #[.string t216, .int .u8 58] ?_; (with_reducible refine (spec_l2Cut.calls k t216 58 t218 t219 t220 _ A3.out).mono ?_); rintro e w' ⟨rfl, ⟨nd, rfl⟩⟩; refine ⟨_, rfl, ?_⟩; (try (rw [drewN_self w25]; generalize hq_ : World.drewN w25 _ = w25; have n0_ : Aside0 (w25.heap[gb214]? = some (.cells #[.int .i64 0, .int .i64 0, .int .i64 0, .int .i64 0] 87 (0, 0))) := ⟨y0_23⟩; have n1_ : Aside0 (Below w.heap.size w w25) := ⟨y0_24⟩; clear BK214 HB hq_; have BK214 := n0_; have HB := n1_; clear n0_ n1_))) | ((with_reducible refine gate_callee (f := 83) rfl ?_); refine gB (some 28) Try.func83 #[.string t219, .int .u8 35] ?_; (with_reducible refine (spec_l2Cut.calls k t219 35 t221 t222 t223 _ A4.out).mono ?_); rintro e w' ⟨rfl, ⟨nd, rfl⟩⟩; refine ⟨_, rfl, ?_⟩; (try (rw [drewN_self w25]; generalize hq_ : World.drewN w25 _ = w25; have n0_ : Aside0 (w25.heap[gb214]? = some (.cells #[.int .i64 0, .int .i64 0, .int .i64 0, .int .i64 0] 87 (0, 0))) := ⟨y0_23⟩; have n1_ : Aside0 (Below w.heap.size w w25) := ⟨y0_24⟩; clear BK214 HB hq_; have BK214 := n0_; have HB := n1_; clear n0_ n1_))) | ((with_reducible refine gd 13 ?_); refine bA 13 #[.int .i64 0, .int .i64 0, .int .i64 0, .int .i64 0] 87 ?_; intro gb224 hg w26 hbox hb; have BK224 := Aside0.mk (hbox); have GW224 := bg hg HB; have GJ224 := gi GW224; have GE224 := GW224; replace HB := bs HB hb; have NB214_224 := b1 BK214 hg; have NI214_224 := ni NB214_224; have NB224_214 := b2 BK214 hg; have NI224_214 := ni NB224_214; replace BK214 := bk BK214 hb; clear hb hbox hg; have hnb27 := NB224_214.out; have hnc27 := NB214_224.out; obtain ⟨hcz28_0, hcz28_1, hcz28_2, hcz28_3, hfz28_0, hfz28_1, hfz28_2, hfz28_3⟩ := cs4 BK224) | ((with_reducible refine gate_callee (f := 84) rfl ?_); refine gB (some 35) Try.func84 #[.string t215] ?_; (with_reducible refine (spec_Number.calls k t215 t225 t226 _ A5.out).mono ?_); rintro e w29 ⟨rfl, hb⟩; refine ⟨_, rfl, ?_⟩; replace BK214 := Aside0.mk (blk_below (g := gb214) (o := .cells #[.int .i64 0, .int .i64 0, .int .i64 0, .int .i64 0] 87 (0, 0)) (gI BK214.out) hb); replace BK224 := bp BK224 hb #[.int .i64 0, .int .i64 0, .int .i64 0, .int .i64 0]; replace HB := bs HB hb; (try clear hb); (try clear hb2); (try clear hk); (try clear hi); obtain ⟨hcz30_0, hcz30_1, hcz30_2, hcz30_3, hfz30_0, hfz30_1, hfz30_2, hfz30_3⟩ := cs4 BK224) | ((with_reducible refine gate_callee (f := 84) rfl ?_); refine gB (some 41) Try.func84 #[.string t218] ?_; (with_reducible refine (spec_Number.calls k t218 t227 t228 _ A6.out).mono ?_); rintro e w31 ⟨rfl, hb⟩; refine ⟨_, rfl, ?_⟩; replace BK214 := Aside0.mk (blk_below (g := gb214) (o := .cells #[.int .i64 0, .int .i64 0, .int .i64 0, .int .i64 0] 87 (0, 0)) (gI BK214.out) hb); replace BK224 := bp BK224 hb #[.int .i64 t225, .int .i64 0, .int .i64 0, .int .i64 0]; replace HB := bs HB hb; (try clear hb); (try clear hb2); (try clear hk); (try clear hi); obtain ⟨hcz32_0, hcz32_1, hcz32_2, hcz32_3, hfz32_0, hfz32_1, hfz32_2, hfz32_3⟩ := cs4 BK224) | ((with_reducible refine gate_callee (f := 84) rfl ?_); refine gB (some 47) Try.func84 #[.string t221] ?_; (with_reducible refine (spec_Number.calls k t221 t229 t230 _ A7.out).mono ?_); rintro e w33 ⟨rfl, hb⟩; refine ⟨_, rfl, ?_⟩; replace BK214 := Aside0.mk (blk_below (g := gb214) (o := .cells #[.int .i64 0, .int .i64 0, .int .i64 0, .int .i64 0] 87 (0, 0)) (gI BK214.out) hb); replace BK224 := bp BK224 hb #[.int .i64 t225, .int .i64 t227, .int .i64 0, .int .i64 0]; replace HB := bs HB hb; (try clear hb); (try clear hb2); (try clear hk); (try clear hi); obtain ⟨hcz34_0, hcz34_1, hcz34_2, hcz34_3, hfz34_0, hfz34_1, hfz34_2, hfz34_3⟩ := cs4 BK224) | ((with_reducible refine gate_callee (f := 84) rfl ?_); refine gB (some 53) Try.func84 #[.string t222] ?_; (with_reducible refine (spec_Number.calls k t222 t231 t232 _ A8.out).mono ?_); rintro e w35 ⟨rfl, hb⟩; refine ⟨_, rfl, ?_⟩; replace BK214 := Aside0.mk (blk_below (g := gb214) (o := .cells #[.int .i64 0, .int .i64 0, .int .i64 0, .int .i64 0] 87 (0, 0)) (gI BK214.out) hb); replace BK224 := bp BK224 hb #[.int .i64 t225, .int .i64 t227, .int .i64 t229, .int .i64 0]; replace HB := bs HB hb; (try clear hb); (try clear hb2); (try clear hk); (try clear hi); obtain ⟨hcz36_0, hcz36_1, hcz36_2, hcz36_3, hfz36_0, hfz36_1, hfz36_2, hfz36_3⟩ := cs4 BK224) | (go_at_call 87; (with_reducible refine (spec_TxText.calls k t225 t227 t229 t231 t233 _ A23.out).mono ?_); rintro e w37 ⟨rfl, hb⟩; replace BK214 := Aside0.mk (blk_below (g := gb214) (o := .cells #[.int .i64 0, .int .i64 0, .int .i64 0, .int .i64 0] 87 (0, 0)) (gI BK214.out) hb); replace BK224 := bp BK224 hb #[.int .i64 t225, .int .i64 t227, .int .i64 t229, .int .i64 t231]; replace HB := bs HB hb; (try clear hb); (try clear hb2); (try clear hk); (try clear hi); obtain ⟨hcz38_0, hcz38_1, hcz38_2, hcz38_3, hfz38_0, hfz38_1, hfz38_2, hfz38_3⟩ := cs4 BK224; obtain ⟨hcz39_0, hcz39_1, hcz39_2, hcz39_3, hfz39_0, hfz39_1, hfz39_2, hfz39_3⟩ := cs4 BK214))
  refine bodyPost_ret (results_ct rfl _ _ gb214 87 #[.int .i64 t225, .int .i64 t227, .int .i64 t229, .int .i64 t231] (0, 0) _ rfl (pI BK214) Try.underlying87 rfl (by kernel_rfl)) rfl ?_
  exact ⟨y0_16, bI HB.out⟩
 rw [if_neg c24] at H
 have c24b0 : (t233.toList == a0.toList) = false := beq_eq_false_iff_ne.mpr c24; have c24b1 : (t233.toList != a0.toList) = true := bne_iff_ne.mpr c24
 simp only [Option.some.injEq, Prod.mk.injEq] at H
 obtain ⟨rfl, rfl, rfl, rfl, rfl⟩ := H
 go_enter Try.func88, Try.ntmps88
 go_wp2_with (first | ((with_reducible refine gd 2 ?_); refine bA 2 #[.int .i64 0, .int .i64 0, .int .i64 0, .int .i64 0] 87 ?_; intro gb214 hg w40 hbox hb; have BK214 := Aside0.mk (hbox); have GW214 := bg hg HB; have GJ214 := gi GW214; have GE214 := GW214; replace HB := bs HB hb; clear hb hbox hg) | ((with_reducible refine gate_callee (f := 83) rfl ?_); refine gB (some 16) Try.func83 #[.string a0, .int .u8 62] ?_; (with_reducible refine (spec_l2Cut.calls k a0 62 t215 t216 t217 _ A2.out).mono ?_); rintro e w' ⟨rfl, ⟨nd, rfl⟩⟩; refine ⟨_, rfl, ?_⟩; (try (rw [drewN_self w40]; generalize hq_ : World.drewN w40 _ = w40; have n0_ : Aside0 (w40.heap[gb214]? = some (.cells #[.int .i64 0, .int .i64 0, .int .i64 0, .int .i64 0] 87 (0, 0))) := ⟨y0_23⟩; have n1_ : Aside0 (Below w.heap.size w w40) := ⟨y0_24⟩; clear BK214 HB hq_; have BK214 := n0_; have HB := n1_; clear n0_ n1_))) | ((with_reducible refine gate_callee (f := 83) rfl ?_); refine gB (some 22) Try.func83 #[.string t216, .int .u8 58] ?_; (with_reducible refine (spec_l2Cut.calls k t216 58 t218 t219 t220 _ A3.out).mono ?_); rintro e w' ⟨rfl, ⟨nd, rfl⟩⟩; refine ⟨_, rfl, ?_⟩; (try (rw [drewN_self w40]; generalize hq_ : World.drewN w40 _ = w40; have n0_ : Aside0 (w40.heap[gb214]? = some (.cells #[.int .i64 0, .int .i64 0, .int .i64 0, .int .i64 0] 87 (0, 0))) := ⟨y0_23⟩; have n1_ : Aside0 (Below w.heap.size w w40) := ⟨y0_24⟩; clear BK214 HB hq_; have BK214 := n0_; have HB := n1_; clear n0_ n1_))) | ((with_reducible refine gate_callee (f := 83) rfl ?_); refine gB (some 28) Try.func83 #[.string t219, .int .u8 35] ?_; (with_reducible refine (spec_l2Cut.calls k t219 35 t221 t222 t223 _ A4.out).mono ?_); rintro e w' ⟨rfl, ⟨nd, rfl⟩⟩; refine ⟨_, rfl, ?_⟩; (try (rw [drewN_self w40]; generalize hq_ : World.drewN w40 _ = w40; have n0_ : Aside0 (w40.heap[gb214]? = some (.cells #[.int .i64 0, .int .i64 0, .int .i64 0, .int .i64 0] 87 (0, 0))) := ⟨y0_23⟩; have n1_ : Aside0 (Below w.heap.size w w40) := ⟨y0_24⟩; clear BK214 HB hq_; have BK214 := n0_; have HB := n1_; clear n0_ n1_))) | ((with_reducible refine gd 13 ?_); refine bA 13 #[.int .i64 0, .int .i64 0, .int .i64 0, .int .i64 0] 87 ?_; intro gb224 hg w41 hbox hb; have BK224 := Aside0.mk (hbox); have GW224 := bg hg HB; have GJ224 := gi GW224; have GE224 := GW224; replace HB := bs HB hb; have NB214_224 := b1 BK214 hg; have NI214_224 := ni NB214_224; have NB224_214 := b2 BK214 hg; have NI224_214 := ni NB224_214; replace BK214 := bk BK214 hb; clear hb hbox hg; have hnb42 := NB224_214.out; have hnc42 := NB214_224.out; obtain ⟨hcz43_0, hcz43_1, hcz43_2, hcz43_3, hfz43_0, hfz43_1, hfz43_2, hfz43_3⟩ := cs4 BK224) | ((with_reducible refine gate_callee (f := 84) rfl ?_); refine gB (some 35) Try.func84 #[.string t215] ?_; (with_reducible refine (spec_Number.calls k t215 t225 t226 _ A5.out).mono ?_); rintro e w44 ⟨rfl, hb⟩; refine ⟨_, rfl, ?_⟩; replace BK214 := Aside0.mk (blk_below (g := gb214) (o := .cells #[.int .i64 0, .int .i64 0, .int .i64 0, .int .i64 0] 87 (0, 0)) (gI BK214.out) hb); replace BK224 := bp BK224 hb #[.int .i64 0, .int .i64 0, .int .i64 0, .int .i64 0]; replace HB := bs HB hb; (try clear hb); (try clear hb2); (try clear hk); (try clear hi); obtain ⟨hcz45_0, hcz45_1, hcz45_2, hcz45_3, hfz45_0, hfz45_1, hfz45_2, hfz45_3⟩ := cs4 BK224) | ((with_reducible refine gate_callee (f := 84) rfl ?_); refine gB (some 41) Try.func84 #[.string t218] ?_; (with_reducible refine (spec_Number.calls k t218 t227 t228 _ A6.out).mono ?_); rintro e w46 ⟨rfl, hb⟩; refine ⟨_, rfl, ?_⟩; replace BK214 := Aside0.mk (blk_below (g := gb214) (o := .cells #[.int .i64 0, .int .i64 0, .int .i64 0, .int .i64 0] 87 (0, 0)) (gI BK214.out) hb); replace BK224 := bp BK224 hb #[.int .i64 t225, .int .i64 0, .int .i64 0, .int .i64 0]; replace HB := bs HB hb; (try clear hb); (try clear hb2); (try clear hk); (try clear hi); obtain ⟨hcz47_0, hcz47_1, hcz47_2, hcz47_3, hfz47_0, hfz47_1, hfz47_2, hfz47_3⟩ := cs4 BK224) | ((with_reducible refine gate_callee (f := 84) rfl ?_); refine gB (some 47) Try.func84 #[.string t221] ?_; (with_reducible refine (spec_Number.calls k t221 t229 t230 _ A7.out).mono ?_); rintro e w48 ⟨rfl, hb⟩; refine ⟨_, rfl, ?_⟩; replace BK214 := Aside0.mk (blk_below (g := gb214) (o := .cells #[.int .i64 0, .int .i64 0, .int .i64 0, .int .i64 0] 87 (0, 0)) (gI BK214.out) hb); replace BK224 := bp BK224 hb #[.int .i64 t225, .int .i64 t227, .int .i64 0, .int .i64 0]; replace HB := bs HB hb; (try clear hb); (try clear hb2); (try clear hk); (try clear hi); obtain ⟨hcz49_0, hcz49_1, hcz49_2, hcz49_3, hfz49_0, hfz49_1, hfz49_2, hfz49_3⟩ := cs4 BK224) | ((with_reducible refine gate_callee (f := 84) rfl ?_); refine gB (some 53) Try.func84 #[.string t222] ?_; (with_reducible refine (spec_Number.calls k t222 t231 t232 _ A8.out).mono ?_); rintro e w50 ⟨rfl, hb⟩; refine ⟨_, rfl, ?_⟩; replace BK214 := Aside0.mk (blk_below (g := gb214) (o := .cells #[.int .i64 0, .int .i64 0, .int .i64 0, .int .i64 0] 87 (0, 0)) (gI BK214.out) hb); replace BK224 := bp BK224 hb #[.int .i64 t225, .int .i64 t227, .int .i64 t229, .int .i64 0]; replace HB := bs HB hb; (try clear hb); (try clear hb2); (try clear hk); (try clear hi); obtain ⟨hcz51_0, hcz51_1, hcz51_2, hcz51_3, hfz51_0, hfz51_1, hfz51_2, hfz51_3⟩ := cs4 BK224) | (go_at_call 87; (with_reducible refine (spec_TxText.calls k t225 t227 t229 t231 t233 _ A23.out).mono ?_); rintro e w52 ⟨rfl, hb⟩; replace BK214 := Aside0.mk (blk_below (g := gb214) (o := .cells #[.int .i64 0, .int .i64 0, .int .i64 0, .int .i64 0] 87 (0, 0)) (gI BK214.out) hb); replace BK224 := bp BK224 hb #[.int .i64 t225, .int .i64 t227, .int .i64 t229, .int .i64 t231]; replace HB := bs HB hb; (try clear hb); (try clear hb2); (try clear hk); (try clear hi); obtain ⟨hcz53_0, hcz53_1, hcz53_2, hcz53_3, hfz53_0, hfz53_1, hfz53_2, hfz53_3⟩ := cs4 BK214))
 refine bodyPost_ret (results_ct rfl _ _ gb214 87 #[.int .i64 0, .int .i64 0, .int .i64 0, .int .i64 0] (0, 0) _ rfl (pI BK214) Try.underlying87 rfl (by kernel_rfl)) rfl ?_
 exact ⟨y0_16, bI HB.out⟩

end Go.Proofs.Ytemjmefacifdeaa.PFnDropsBelow
