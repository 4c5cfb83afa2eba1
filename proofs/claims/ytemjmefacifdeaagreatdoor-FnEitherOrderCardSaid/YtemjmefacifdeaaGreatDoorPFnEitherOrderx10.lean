-- By a program of this session, out of the translation (the print of the kit, with turns of its own). Lean checks it.
import Derived.Test.YtemjmefacifdeaaGreatDoorPFnEitherOrderx0
import Derived.Test.YtemjmefacifdeaaGreatDoorPFnEitherOrderx1
import Derived.Test.YtemjmefacifdeaaGreatDoorPFnEitherOrderx3
import Derived.Test.YtemjmefacifdeaaGreatDoorPFnEitherOrderx9
namespace Go.Proofs.YtemjmefacifdeaaGreatDoor.PFnEitherOrder
open Go.RowKit Go.Proofs.YtemjmefacifdeaaGreatDoorW.PrintWords Go.Proofs.YtemjmefacifdeaaGreatDoorW.PrintLast Go.Proofs.YtemjmefacifdeaaGreatDoorW.PrintMore
attribute [local go_sem] max2_int min2_int max_two min_two max_three min_three max_four min_four   -- for this text's walks alone
attribute [local go_sem] cell_in frozen_in
set_option synthInstance.maxSize 1000000
set_option synthInstance.maxHeartbeats 2000000
set_option linter.unusedVariables false
set_option linter.unusedSimpArgs false

/-! ### spec_NameOf: function 78 -/
def spec_NameOf.l0 : Nat → ByteArray → Int → List (S99) → Int → Option (ByteArray)
 | 0, _, _, _, _ => none
 | k + 1, x0, x1, x2, x7 => if x7 < (x2.length : Int) then (if 0 ≤ x7 then ((spec_TxOk.f ((rd_T99 x2 x7).f0) ((rd_T99 x2 x7).f1) ((rd_T99 x2 x7).f2) ((rd_T99 x2 x7).f3)).bind fun t497 => (if t497 = true then (spec_NameOf.l0 k x0 x1 x2 (wrap64 (x7 + 1))) else (some (⟨#[]⟩ : ByteArray)))) else (none)) else (if x0.size + 1 ≤ 9223372036854775807 then ((spec_Digits.f k x1).bind fun t498 => (if (x0 ++ (⟨#[47]⟩ : ByteArray)).size + t498.size ≤ 9223372036854775807 then (if ((x0 ++ (⟨#[47]⟩ : ByteArray)) ++ t498).size + 1 ≤ 9223372036854775807 then ((spec_TxsText.f k x2).bind fun t499 => (if (((x0 ++ (⟨#[47]⟩ : ByteArray)) ++ t498) ++ (⟨#[124]⟩ : ByteArray)).size + t499.size ≤ 9223372036854775807 then ((spec_NameOk.f k ((((x0 ++ (⟨#[47]⟩ : ByteArray)) ++ t498) ++ (⟨#[124]⟩ : ByteArray)) ++ t499)).bind fun t500 => (if t500 = true then (some ((((x0 ++ (⟨#[47]⟩ : ByteArray)) ++ t498) ++ (⟨#[124]⟩ : ByteArray)) ++ t499)) else (some (⟨#[]⟩ : ByteArray)))) else (none))) else (none)) else (none))) else (none))
def spec_NameOf.f (k : Nat) (a0 : ByteArray) (a1 : Int) (l2 : List (S99)) : Option (ByteArray) := spec_NameOf.l0 k a0 a1 l2 0
theorem spec_NameOf.mono_l : ∀ k, (∀ y0 y1 y2 y3, LeO (spec_NameOf.l0 k y0 y1 y2 y3) (spec_NameOf.l0 (k + 1) y0 y1 y2 y3))
 | 0 => fun _ _ _ _ r h => by simp [spec_NameOf.l0] at h
 | k + 1 => by
  have ih0 := spec_NameOf.mono_l k
  intro y0 y1 y2 y3
  unfold spec_NameOf.l0
  repeat' first | (with_reducible exact ih0 _ _ _ _) | (with_reducible exact spec_Digits.mono _ _) | (with_reducible exact spec_NameOk.mono _ _) | (with_reducible exact spec_TxsText.mono _ _) | (with_reducible exact LeO.refl _) | (with_reducible exact LeO.none _) | (with_reducible refine LeO.ite ?_ ?_) | (with_reducible refine LeO.bind ?_ (fun _ => ?_))
theorem spec_NameOf.mono : ∀ a0 a1 a2 k, LeO (spec_NameOf.f k a0 a1 a2) (spec_NameOf.f (k + 1) a0 a1 a2) := by
 intro a0 a1 a2 k
 have ih0 := spec_NameOf.mono_l k
 unfold spec_NameOf.f
 repeat' first | (with_reducible exact ih0 _ _ _ _) | (with_reducible exact spec_Digits.mono _ _) | (with_reducible exact spec_NameOk.mono _ _) | (with_reducible exact spec_TxsText.mono _ _) | (with_reducible exact LeO.refl _) | (with_reducible exact LeO.none _) | (with_reducible refine LeO.ite ?_ ?_) | (with_reducible refine LeO.bind ?_ (fun _ => ?_))
set_option maxHeartbeats 8000000 in
set_option maxRecDepth 100000 in
theorem spec_NameOf.calls (k : Nat) (a0 : ByteArray) (a1 : Int) (A2 : Option Addr) (c2 : Nat) (l2 : List (S99)) (r : ByteArray) (w : World) (hr2 : Kd.C k99 w A2 l2.length l2) (hc2 : l2.length ≤ c2) (h : spec_NameOf.f k a0 a1 l2 = some r) :
  Calls Tryz.prog 78 #[.string a0, .int .i64 a1, .slice A2 l2.length c2] w fun e w' => e = .returned (.string r) ∧ Below w.heap.size w w' := by
 have hu99 := Tryz.underlying99; have HR2 := Aside0.mk hr2; have HC2 := Aside0.mk hc2; clear hr2 hc2; have HB := Aside0.mk (Below.refl w.heap.size w); have H : (spec_NameOf.l0 k a0 a1 l2 0) = some r := h; clear h; have H' := Aside0.mk H; clear H
 go_enter Tryz.func78, Tryz.ntmps78
 go_wp2
 go_loopg [7] k (fun kq v7 w' => ∃ (x7_1 : Int), v7 = .int .i64 x7_1 ∧ Aside0 (spec_NameOf.l0 kq a0 a1 l2 x7_1 = some r) ∧ Aside0 (kq ≤ k) ∧ Aside0 (Below w.heap.size w w'))
 case atStart => exact ⟨(0), y0_19, H', ⟨Nat.le_refl _⟩, ⟨bI HB.out⟩⟩
 case round =>
  clear H'
  try clear c2
  try clear p2
  obtain ⟨x7_1, rfl, HA, HK1, HB⟩ := hrel; cases gk with
  | zero => exact absurd HA.out (by simp [spec_NameOf.l0])
  | succ k1 =>
   have H := HA.out; clear HA
   simp only [spec_NameOf.l0] at H
   by_cases c4 : x7_1 < (l2.length : Int)
   ·
    rw [if_pos c4] at H
    have c4b0 : decide (x7_1 < (l2.length : Int)) = true := decide_eq_true c4; clear c4
    by_cases c5 : 0 ≤ x7_1
    rotate_left
    ·
     rw [if_neg c5] at H
     exact absurd H (by simp)
    rw [if_pos c5] at H
    have c5b0 : decide (0 ≤ x7_1) = true := decide_eq_true c5; clear c5; obtain ⟨t497, A60, H⟩ := Option.bind_eq_some_iff.mp H
    try dsimp only at H
    have A6 := Aside0.mk A60; clear A60
    by_cases c7 : t497 = true
    ·
     subst c7
     rw [if_pos rfl] at H
     have H' := Aside0.mk H; clear H; have p496 : 0 ≤ (x7_1 : Int) := of_decide_eq_true y0_18; have q496 : x7_1 < (l2.length : Int) := of_decide_eq_true y0_18; obtain ⟨ad496, e496, hx496_0, hx496_1, hx496_2, hx496_3⟩ := at_T99 HR2.out x7_1 p496 q496; cases e496; replace hx496_0 := bx HB hx496_0; replace hx496_1 := bx HB hx496_1; replace hx496_2 := bx HB hx496_2; replace hx496_3 := bx HB hx496_3; replace p496 := eq_true p496; replace q496 := eq_true q496
     go_wp2_with (first | ((with_reducible refine gate_callee (f := 107) rfl ?_); refine gB (some 19) Tryz.func107 #[.agg #[.int .i64 ((rd_T99 l2 x7_1).f0), .int .i64 ((rd_T99 l2 x7_1).f1), .int .i64 ((rd_T99 l2 x7_1).f2), .int .i64 ((rd_T99 l2 x7_1).f3)]] ?_; (with_reducible refine (spec_TxOk.calls ((rd_T99 l2 x7_1).f0) ((rd_T99 l2 x7_1).f1) ((rd_T99 l2 x7_1).f2) ((rd_T99 l2 x7_1).f3) true _ A6.out).mono ?_); rintro e w8 ⟨rfl, hb⟩; refine ⟨_, rfl, ?_⟩; replace HB := bs HB hb; (try clear hb); (try clear hb2); (try clear hk); (try clear hi)))
     go_roundg k1
     case measure => have := HK1.out; omega
     case rel => exact ⟨(wrap64 (x7_1 + 1)), y0_19, H', ⟨y0_21⟩, ⟨bI HB.out⟩⟩
    replace c7 := Bool.eq_false_iff.mpr c7; subst c7
    rw [if_neg (show ¬ (false = true) by decide)] at H
    obtain rfl := Option.some.inj H; have p496 : 0 ≤ (x7_1 : Int) := of_decide_eq_true y0_18; have q496 : x7_1 < (l2.length : Int) := of_decide_eq_true y0_18; obtain ⟨ad496, e496, hx496_0, hx496_1, hx496_2, hx496_3⟩ := at_T99 HR2.out x7_1 p496 q496; cases e496; replace hx496_0 := bx HB hx496_0; replace hx496_1 := bx HB hx496_1; replace hx496_2 := bx HB hx496_2; replace hx496_3 := bx HB hx496_3; replace p496 := eq_true p496; replace q496 := eq_true q496
    go_wp2_with (first | ((with_reducible refine gate_callee (f := 107) rfl ?_); refine gB (some 19) Tryz.func107 #[.agg #[.int .i64 ((rd_T99 l2 x7_1).f0), .int .i64 ((rd_T99 l2 x7_1).f1), .int .i64 ((rd_T99 l2 x7_1).f2), .int .i64 ((rd_T99 l2 x7_1).f3)]] ?_; (with_reducible refine (spec_TxOk.calls ((rd_T99 l2 x7_1).f0) ((rd_T99 l2 x7_1).f1) ((rd_T99 l2 x7_1).f2) ((rd_T99 l2 x7_1).f3) false _ A6.out).mono ?_); rintro e w9 ⟨rfl, hb⟩; refine ⟨_, rfl, ?_⟩; replace HB := bs HB hb; (try clear hb); (try clear hb2); (try clear hk); (try clear hi)))
    go_ret
    exact ⟨y0_14, bI HB.out⟩
   rw [if_neg c4] at H
   have c4b0 : decide (x7_1 < (l2.length : Int)) = false := decide_eq_false c4; clear c4
   by_cases c10 : a0.size + 1 ≤ 9223372036854775807
   ·
    rw [if_pos c10] at H
    have c10b0 := eq_true c10; have c10b1 : decide (a0.size + 1 ≤ 9223372036854775807) = true := decide_eq_true c10
    try have c10b2 : (9223372036854775807 < a0.size + 1) = False := eq_false (Nat.not_lt.2 c10)
    obtain ⟨t498, A110, H⟩ := Option.bind_eq_some_iff.mp H
    try dsimp only at H
    have A11 := Aside0.mk A110; clear A110
    by_cases c12 : (a0 ++ (⟨#[47]⟩ : ByteArray)).size + t498.size ≤ 9223372036854775807
    rotate_left
    ·
     rw [if_neg c12] at H
     exact absurd H (by simp)
    rw [if_pos c12] at H
    have c12b0 := eq_true c12; have c12b1 : decide ((a0 ++ (⟨#[47]⟩ : ByteArray)).size + t498.size ≤ 9223372036854775807) = true := decide_eq_true c12
    try have c12b2 : (9223372036854775807 < (a0 ++ (⟨#[47]⟩ : ByteArray)).size + t498.size) = False := eq_false (Nat.not_lt.2 c12)
    (try have c12b3 : (9223372036854775807 < a0.size + 1 + t498.size) = False := eq_false (by have h_ := c12; simp only [ByteArray.size_append, ByteArray.size_extract, show (⟨#[47]⟩ : ByteArray).size = 1 from rfl] at h_; omega))
    by_cases c13 : ((a0 ++ (⟨#[47]⟩ : ByteArray)) ++ t498).size + 1 ≤ 9223372036854775807
    rotate_left
    ·
     rw [if_neg c13] at H
     exact absurd H (by simp)
    rw [if_pos c13] at H
    have c13b0 := eq_true c13; have c13b1 : decide (((a0 ++ (⟨#[47]⟩ : ByteArray)) ++ t498).size + 1 ≤ 9223372036854775807) = true := decide_eq_true c13
    try have c13b2 : (9223372036854775807 < ((a0 ++ (⟨#[47]⟩ : ByteArray)) ++ t498).size + 1) = False := eq_false (Nat.not_lt.2 c13)
    (try have c13b3 : (9223372036854775807 < a0.size + 1 + t498.size + 1) = False := eq_false (by have h_ := c13; simp only [ByteArray.size_append, ByteArray.size_extract, show (⟨#[47]⟩ : ByteArray).size = 1 from rfl] at h_; omega))
    obtain ⟨t499, A140, H⟩ := Option.bind_eq_some_iff.mp H
    try dsimp only at H
    have A14 := Aside0.mk A140; clear A140
    by_cases c15 : (((a0 ++ (⟨#[47]⟩ : ByteArray)) ++ t498) ++ (⟨#[124]⟩ : ByteArray)).size + t499.size ≤ 9223372036854775807
    rotate_left
    ·
     rw [if_neg c15] at H
     exact absurd H (by simp)
    rw [if_pos c15] at H
    have c15b0 := eq_true c15; have c15b1 : decide ((((a0 ++ (⟨#[47]⟩ : ByteArray)) ++ t498) ++ (⟨#[124]⟩ : ByteArray)).size + t499.size ≤ 9223372036854775807) = true := decide_eq_true c15
    try have c15b2 : (9223372036854775807 < (((a0 ++ (⟨#[47]⟩ : ByteArray)) ++ t498) ++ (⟨#[124]⟩ : ByteArray)).size + t499.size) = False := eq_false (Nat.not_lt.2 c15)
    (try have c15b3 : (9223372036854775807 < a0.size + 1 + t498.size + 1 + t499.size) = False := eq_false (by have h_ := c15; simp only [ByteArray.size_append, ByteArray.size_extract, show (⟨#[124]⟩ : ByteArray).size = 1 from rfl, show (⟨#[47]⟩ : ByteArray).size = 1 from rfl] at h_; omega))
    obtain ⟨t500, A160, H⟩ := Option.bind_eq_some_iff.mp H
    try dsimp only at H
    have A16 := Aside0.mk A160; clear A160
    by_cases c17 : t500 = true
    ·
     subst c17
     rw [if_pos rfl] at H
     obtain rfl := Option.some.inj H
     go_wp2_with (first | ((with_reducible refine gate_callee (f := 108) rfl ?_); refine gB (some 24) Tryz.func108 #[.int .i64 a1] ?_; (with_reducible refine (spec_Digits.calls k1 a1 t498 _ A11.out).mono ?_); rintro e w18 ⟨rfl, hb⟩; refine ⟨_, rfl, ?_⟩; replace HB := bs HB hb; (try clear hb); (try clear hb2); (try clear hk); (try clear hi)) | ((with_reducible refine gate_callee (f := 109) rfl ?_); refine gB (some 28) Tryz.func109 #[.slice A2 l2.length c2] ?_; (with_reducible refine (spec_TxsText.calls k1 _ _ l2 t499 _ ?side1 ?side2 A14.out).mono ?_); (case side1 => exact ch HR2 HB); (case side2 => exact HC2.out); rintro e w19 ⟨rfl, hb⟩; refine ⟨_, rfl, ?_⟩; replace HB := bs HB hb; (try clear hb); (try clear hb2); (try clear hk); (try clear hi)) | ((with_reducible refine gate_callee (f := 97) rfl ?_); refine gB (some 31) Tryz.func97 #[.string ((((a0 ++ (⟨#[47]⟩ : ByteArray)) ++ t498) ++ (⟨#[124]⟩ : ByteArray)) ++ t499)] ?_; (with_reducible refine (spec_NameOk.calls k1 ((((a0 ++ (⟨#[47]⟩ : ByteArray)) ++ t498) ++ (⟨#[124]⟩ : ByteArray)) ++ t499) true _ A16.out).mono ?_); rintro e w20 ⟨rfl, hb⟩; refine ⟨_, rfl, ?_⟩; replace HB := bs HB hb; (try clear hb); (try clear hb2); (try clear hk); (try clear hi)))
     go_ret
     exact ⟨y0_14, bI HB.out⟩
    replace c17 := Bool.eq_false_iff.mpr c17; subst c17
    rw [if_neg (show ¬ (false = true) by decide)] at H
    obtain rfl := Option.some.inj H
    go_wp2_with (first | ((with_reducible refine gate_callee (f := 108) rfl ?_); refine gB (some 24) Tryz.func108 #[.int .i64 a1] ?_; (with_reducible refine (spec_Digits.calls k1 a1 t498 _ A11.out).mono ?_); rintro e w21 ⟨rfl, hb⟩; refine ⟨_, rfl, ?_⟩; replace HB := bs HB hb; (try clear hb); (try clear hb2); (try clear hk); (try clear hi)) | ((with_reducible refine gate_callee (f := 109) rfl ?_); refine gB (some 28) Tryz.func109 #[.slice A2 l2.length c2] ?_; (with_reducible refine (spec_TxsText.calls k1 _ _ l2 t499 _ ?side1 ?side2 A14.out).mono ?_); (case side1 => exact ch HR2 HB); (case side2 => exact HC2.out); rintro e w22 ⟨rfl, hb⟩; refine ⟨_, rfl, ?_⟩; replace HB := bs HB hb; (try clear hb); (try clear hb2); (try clear hk); (try clear hi)) | ((with_reducible refine gate_callee (f := 97) rfl ?_); refine gB (some 31) Tryz.func97 #[.string ((((a0 ++ (⟨#[47]⟩ : ByteArray)) ++ t498) ++ (⟨#[124]⟩ : ByteArray)) ++ t499)] ?_; (with_reducible refine (spec_NameOk.calls k1 ((((a0 ++ (⟨#[47]⟩ : ByteArray)) ++ t498) ++ (⟨#[124]⟩ : ByteArray)) ++ t499) false _ A16.out).mono ?_); rintro e w23 ⟨rfl, hb⟩; refine ⟨_, rfl, ?_⟩; replace HB := bs HB hb; (try clear hb); (try clear hb2); (try clear hk); (try clear hi)))
    go_ret
    exact ⟨y0_14, bI HB.out⟩
   rw [if_neg c10] at H
   exact absurd H (by simp)

/-! ### spec_l1PickInt: function 116 -/
def spec_l1PickInt.f (s0_0 : List Int) (s0_1 : Int) (s0_2 : Int) (l1 : List Int) : Option (Int × Int × Int) := (spec_l1Below.f s0_0 s0_1 s0_2 (l1.length : Int)).bind fun bt501 => (if 0 ≤ bt501.1 then (if bt501.1 < (l1.length : Int) then (some (rd l1 bt501.1, bt501.2.1, bt501.2.2)) else (none)) else (none))
set_option maxHeartbeats 8000000 in
set_option maxRecDepth 100000 in
theorem spec_l1PickInt.calls (g : Nat) (s0_0 : List Int) (s0_1 : Int) (s0_2 : Int) (A1 : Option Addr) (c1 : Nat) (l1 : List Int) (r1 : Int) (r2 : Int) (r3 : Int) (w0 w : World) (hI : IsS124 w0 w g s0_0 s0_1 s0_2) (hB : Below w0.heap.size w0 w) (hr1 : Kd.C (Kd.int .i64) w A1 l1.length l1) (hc1 : l1.length ≤ c1) (hf1 : ∀ ad, A1 = some ad → 0 < l1.length → ad.block ≠ g) (h : spec_l1PickInt.f s0_0 s0_1 s0_2 l1 = some (r1, r2, r3)) :
  Calls Tryz.prog 116 #[.pointer (some ⟨g, 0, none⟩), .slice A1 l1.length c1] w fun e w' => e = .returned (.int .i64 r1) ∧ IsS124 w0 w' g s0_0 r2 r3 ∧ Below w0.heap.size w0 w' ∧ KeepBut w w' g none := by
 have HR1 := Aside0.mk hr1; have HC1 := Aside0.mk hc1; clear hr1 hc1; have HI0 := Aside0.mk hI; have HK := Aside0.mk (KeepBut.refl w g none); have HL := Aside0.mk hB.size; clear hI; have HW0 := Aside0.mk hB.size; have HB := Aside0.mk hB; clear hB
 have H : ((spec_l1Below.f s0_0 s0_1 s0_2 (l1.length : Int)).bind fun bt501 => (if 0 ≤ bt501.1 then (if bt501.1 < (l1.length : Int) then (some (rd l1 bt501.1, bt501.2.1, bt501.2.2)) else (none)) else (none))) = some (r1, r2, r3) := h
 clear h; obtain ⟨⟨t501, t502, t503⟩, A30, H⟩ := Option.bind_eq_some_iff.mp H
 try dsimp only at H
 have A3 := Aside0.mk A30; clear A30
 by_cases c4 : 0 ≤ t501
 ·
  rw [if_pos c4] at H
  have c4b0 : decide (0 ≤ t501) = true := decide_eq_true c4; clear c4
  by_cases c5 : t501 < (l1.length : Int)
  rotate_left
  ·
   rw [if_neg c5] at H
   exact absurd H (by simp)
  rw [if_pos c5] at H
  have c5b0 : decide (t501 < (l1.length : Int)) = true := decide_eq_true c5; clear c5
  simp only [Option.some.injEq, Prod.mk.injEq] at H
  obtain ⟨rfl, rfl, rfl⟩ := H
  go_enter Tryz.func116, Tryz.ntmps116
  go_wp2_with (first | ((with_reducible refine gate_callee (f := 114) rfl ?_); refine gB (some 9) Tryz.func114 #[.pointer (some ⟨g, 0, none⟩), .int .i64 (l1.length : Int)] ?_; (with_reducible refine (spec_l1Below.calls g s0_0 s0_1 s0_2 (l1.length : Int) t501 t502 t503 w0 _ ?side1 ?side2 A3.out).mono ?_); (case side1 => repeat (first | (with_reducible first | exact HI0.out | apply IsS124.alloc | apply IsS124.drewN | apply IsS124.drew | apply IsS124.set_1 | apply IsS124.set_2) | exact HI0.out)); (case side2 => repeat (first | (with_reducible first | exact HB.out | apply below_alloc | apply pw_below_drewN | apply below_drew1 | refine below_set ?_ (IsS124.ge HI0.out)) | exact HB.out)); rintro e w6 ⟨rfl, hi, hb, hk⟩; refine ⟨_, rfl, ?_⟩; replace HK := kt HK hk; replace HB := Aside0.mk (hb); replace HI0 := Aside0.mk (hi); (try clear hb); (try clear hb2); (try clear hk); (try clear hi); have p504 : 0 ≤ (t501 : Int) := of_decide_eq_true y0_18; have q504 : t501 < (l1.length : Int) := of_decide_eq_true y0_18; obtain ⟨ad504, e504, hx504_0⟩ := Kd.at_int HR1.out t501 p504 q504; cases e504; replace hx504_0 := keep_cell HK.out hx504_0 (by first | (rw [add_block]; exact hf1 _ rfl (by omega)) | exact hf1 _ rfl (by omega) | exact hf1 ad504 rfl (by omega)); replace p504 := eq_true p504; replace q504 := eq_true q504))
  go_ret
  exact ⟨y0_14, y0_6, y0_7, hI HK.out⟩
 rw [if_neg c4] at H
 exact absurd H (by simp)

/-! ### spec_l2DrawRight: function 140 -/
def spec_l2DrawRight.f (s0_0 : List Int) (s0_1 : Int) (s0_2 : Int) : Option (Int × Int × Int × Int × Int × Int) := (spec_l1Below.f s0_0 s0_1 s0_2 4).bind fun bt506 => ((spec_l1Below.f s0_0 bt506.2.1 bt506.2.2 4).bind fun bt509 => ((spec_l1PickInt.f s0_0 bt509.2.1 bt509.2.2 (([0, 5, 60, 100, 1000] : List Int))).bind fun bt515 => ((spec_l1Below.f s0_0 bt515.2.1 bt515.2.2 3).bind fun bt518 => (some (bt506.1, bt509.1, bt515.1, bt518.1, bt518.2.1, bt518.2.2)))))
set_option maxHeartbeats 8000000 in
set_option maxRecDepth 100000 in
theorem spec_l2DrawRight.calls (g : Nat) (s0_0 : List Int) (s0_1 : Int) (s0_2 : Int) (r1 : Int) (r2 : Int) (r3 : Int) (r4 : Int) (r5 : Int) (r6 : Int) (w0 w : World) (hI : IsS124 w0 w g s0_0 s0_1 s0_2) (hB : Below w0.heap.size w0 w) (h : spec_l2DrawRight.f s0_0 s0_1 s0_2 = some (r1, r2, r3, r4, r5, r6)) :
  Calls Tryz.prog 140 #[.pointer (some ⟨g, 0, none⟩)] w fun e w' => e = .returned (.agg #[.int .i64 r1, .int .i64 r2, .int .i64 r3, .int .i64 r4]) ∧ IsS124 w0 w' g s0_0 r5 r6 ∧ Below w0.heap.size w0 w' ∧ KeepBut w w' g none := by
 have hu99 := Tryz.underlying99; have HI0 := Aside0.mk hI; have HK := Aside0.mk (KeepBut.refl w g none); have HL := Aside0.mk hB.size; clear hI; have HW0 := Aside0.mk hB.size; have HB := Aside0.mk hB; clear hB
 have H : ((spec_l1Below.f s0_0 s0_1 s0_2 4).bind fun bt506 => ((spec_l1Below.f s0_0 bt506.2.1 bt506.2.2 4).bind fun bt509 => ((spec_l1PickInt.f s0_0 bt509.2.1 bt509.2.2 (([0, 5, 60, 100, 1000] : List Int))).bind fun bt515 => ((spec_l1Below.f s0_0 bt515.2.1 bt515.2.2 3).bind fun bt518 => (some (bt506.1, bt509.1, bt515.1, bt518.1, bt518.2.1, bt518.2.2)))))) = some (r1, r2, r3, r4, r5, r6) := h
 clear h; obtain ⟨⟨t506, t507, t508⟩, A20, H⟩ := Option.bind_eq_some_iff.mp H
 try dsimp only at H
 have A2 := Aside0.mk A20; clear A20; obtain ⟨⟨t509, t510, t511⟩, A30, H⟩ := Option.bind_eq_some_iff.mp H
 try dsimp only at H
 have A3 := Aside0.mk A30; clear A30; obtain ⟨y512, hy512⟩ : ∃ y_ : List Int, y_ = (([0, 5, 60, 100, 1000] : List Int)) := ⟨_, rfl⟩
 replace H : ((spec_l1PickInt.f s0_0 t510 t511 y512).bind fun bt515 => ((spec_l1Below.f s0_0 bt515.2.1 bt515.2.2 3).bind fun bt518 => (some (t506, t509, bt515.1, bt518.1, bt518.2.1, bt518.2.2)))) = some (r1, r2, r3, r4, r5, r6) := by first | (rw [hy512]; with_reducible exact H) | (have H2_ := (Option.bind_some _ _).symm.trans H; rw [hy512]; with_reducible exact H2_) | (have H2_ := (Option.bind_some _ _).symm.trans H; with_reducible exact H2_) | with_reducible exact H | (rw [hy512]; exact H) | exact H
 have Ny512 := Aside0.mk hy512; clear hy512; obtain ⟨⟨t515, t516, t517⟩, A40, H⟩ := Option.bind_eq_some_iff.mp H
 try dsimp only at H
 have A4 := Aside0.mk A40; clear A40; obtain ⟨⟨t518, t519, t520⟩, A50, H⟩ := Option.bind_eq_some_iff.mp H
 try dsimp only at H
 have A5 := Aside0.mk A50; clear A50
 simp only [Option.some.injEq, Prod.mk.injEq] at H
 obtain ⟨rfl, rfl, rfl, rfl, rfl, rfl⟩ := H; have i0_ := iB124 HI0; have i1_ : LB w0 w := ⟨HB.out⟩
 go_enter Tryz.func140, Tryz.ntmps140
 go_wp2_with (first | ((with_reducible refine gd 2 ?_); refine bL 2 #[.int .i64 0, .int .i64 0, .int .i64 0, .int .i64 0] 99 ?_; intro gb505 w6 _ _ _) | ((with_reducible refine gate_callee (f := 114) rfl ?_); refine gK (some 4) Tryz.func114 (spec_l1Below.calls (hI := iS124 HI0) (hB := UpW.out) (w := _) (h := A2.out)) ?_; intro w7 _ _ _ HI8) | ((with_reducible refine gate_callee (f := 114) rfl ?_); refine gK (some 6) Tryz.func114 (spec_l1Below.calls (hI := iS124 HI8) (hB := UpW.out) (w := _) (h := A3.out)) ?_; intro w9 _ _ _ HI10) | ((with_reducible refine gate_dst (N := 8) rfl ?_); refine lL 8 3 (Kd.int .i64) rfl Ny512 ?_; intro Ao513 co513 w11 _ HO514) | ((with_reducible refine gate_callee (f := 116) rfl ?_); refine gK (some 9) Tryz.func116 (spec_l1PickInt.calls (hI := iS124 HI10) (hB := UpW.out) (hr1 := rC HO514) (hc1 := rL HO514) (hf1 := fS HO514) (w := _) (h := A4.out)) ?_; intro w12 _ _ _ HI13) | ((with_reducible refine gate_callee (f := 114) rfl ?_); refine gK (some 11) Tryz.func114 (spec_l1Below.calls (hI := iS124 HI13) (hB := UpW.out) (w := _) (h := A5.out)) ?_; intro w14 _ _ _ HI15))
 refine bodyPost_ret (results_cell_row rfl _ _ gb505 99 #[.int .i64 t506, .int .i64 t509, .int .i64 t515, .int .i64 t518] (0, 0) _ rfl xB Tryz.underlying99 rfl (by kernel_rfl)) rfl ?_
 exact ⟨y0_19, iS124 HI15, UpW.out, UpB.out⟩

/-! ### spec_l5DrawRight: function 124 -/
mutual
def spec_l5DrawRight.l0 : Nat → ByteArray → Int → Int → List Int → Int → Int → Option (ByteArray × Int × Int)
 | 0, _, _, _, _, _, _ => none
 | k + 1, x3, x4, x5, x1000, x1001, x1002 => (spec_l1Below.f x1000 x1001 x1002 6).bind fun bt521 => (if x5 < bt521.1 then ((spec_l1Below.f x1000 bt521.2.1 bt521.2.2 4).bind fun bt524 => (spec_l5DrawRight.l1 k x3 (wrap64 ((wrap64 (x4 + 1)) + (wrap64 (Int.tdiv bt524.1 3)))) x5 (([] : List (S99))) 0 x1000 bt524.2.1 bt524.2.2)) else (some (x3, bt521.2.1, bt521.2.2)))
def spec_l5DrawRight.l1 : Nat → ByteArray → Int → Int → List (S99) → Int → List Int → Int → Int → Option (ByteArray × Int × Int)
 | 0, _, _, _, _, _, _, _, _ => none
 | k + 1, x3, x4, x5, x6, x7, x1000, x1001, x1002 => (spec_l1Below.f x1000 x1001 x1002 3).bind fun bt530 => (if x7 < bt530.1 then ((spec_l2DrawRight.f x1000 bt530.2.1 bt530.2.2).bind fun bt533 => (if x6.length < 4398046511104 then (spec_l5DrawRight.l1 k x3 x4 x5 (x6 ++ [(⟨bt533.1, bt533.2.1, bt533.2.2.1, bt533.2.2.2.1⟩ : S99)]) (wrap64 (x7 + 1)) x1000 bt533.2.2.2.2.1 bt533.2.2.2.2.2) else (none))) else ((spec_NameOf.f k x3 x4 x6).bind fun t542 => (spec_l5DrawRight.l0 k t542 x4 (wrap64 (x5 + 1)) x1000 bt530.2.1 bt530.2.2)))
end
def spec_l5DrawRight.f (k : Nat) (s0_0 : List Int) (s0_1 : Int) (s0_2 : Int) : Option (ByteArray × Int × Int) := spec_l5DrawRight.l0 k (⟨#[]⟩ : ByteArray) 0 0 s0_0 s0_1 s0_2
theorem spec_l5DrawRight.mono_l : ∀ k, (∀ y0 y1 y2 y3 y4 y5, LeO (spec_l5DrawRight.l0 k y0 y1 y2 y3 y4 y5) (spec_l5DrawRight.l0 (k + 1) y0 y1 y2 y3 y4 y5)) ∧ (∀ y0 y1 y2 y3 y4 y5 y6 y7, LeO (spec_l5DrawRight.l1 k y0 y1 y2 y3 y4 y5 y6 y7) (spec_l5DrawRight.l1 (k + 1) y0 y1 y2 y3 y4 y5 y6 y7))
 | 0 => ⟨fun _ _ _ _ _ _ r h => by simp [spec_l5DrawRight.l0] at h, fun _ _ _ _ _ _ _ _ r h => by simp [spec_l5DrawRight.l1] at h⟩
 | k + 1 => by
  obtain ⟨ih0, ih1⟩ := spec_l5DrawRight.mono_l k
  refine ⟨?_, ?_⟩
  ·
   intro y0 y1 y2 y3 y4 y5
   unfold spec_l5DrawRight.l0
   repeat' first | (with_reducible exact ih0 _ _ _ _ _ _) | (with_reducible exact ih1 _ _ _ _ _ _ _ _) | (with_reducible exact spec_NameOf.mono _ _ _ _) | (with_reducible exact LeO.refl _) | (with_reducible exact LeO.none _) | (with_reducible refine LeO.ite ?_ ?_) | (with_reducible refine LeO.bind ?_ (fun _ => ?_))
  intro y0 y1 y2 y3 y4 y5 y6 y7
  unfold spec_l5DrawRight.l1
  repeat' first | (with_reducible exact ih0 _ _ _ _ _ _) | (with_reducible exact ih1 _ _ _ _ _ _ _ _) | (with_reducible exact spec_NameOf.mono _ _ _ _) | (with_reducible exact LeO.refl _) | (with_reducible exact LeO.none _) | (with_reducible refine LeO.ite ?_ ?_) | (with_reducible refine LeO.bind ?_ (fun _ => ?_))
theorem spec_l5DrawRight.mono : ∀ a0 a1 a2 k, LeO (spec_l5DrawRight.f k a0 a1 a2) (spec_l5DrawRight.f (k + 1) a0 a1 a2) := by
 intro a0 a1 a2 k
 obtain ⟨ih0, ih1⟩ := spec_l5DrawRight.mono_l k
 unfold spec_l5DrawRight.f
 repeat' first | (with_reducible exact ih0 _ _ _ _ _ _) | (with_reducible exact ih1 _ _ _ _ _ _ _ _) | (with_reducible exact spec_NameOf.mono _ _ _ _) | (with_reducible exact LeO.refl _) | (with_reducible exact LeO.none _) | (with_reducible refine LeO.ite ?_ ?_) | (with_reducible refine LeO.bind ?_ (fun _ => ?_))
set_option maxHeartbeats 8000000 in
set_option maxRecDepth 100000 in
theorem spec_l5DrawRight.calls (k : Nat) (g : Nat) (s0_0 : List Int) (s0_1 : Int) (s0_2 : Int) (r1 : ByteArray) (r2 : Int) (r3 : Int) (w0 w : World) (hI : IsS124 w0 w g s0_0 s0_1 s0_2) (hB : Below w0.heap.size w0 w) (h : spec_l5DrawRight.f k s0_0 s0_1 s0_2 = some (r1, r2, r3)) :
  Calls Tryz.prog 124 #[.pointer (some ⟨g, 0, none⟩)] w fun e w' => e = .returned (.string r1) ∧ IsS124 w0 w' g s0_0 r2 r3 ∧ Below w0.heap.size w0 w' ∧ KeepBut w w' g none := by
 have HI0 := Aside0.mk hI; have HK := Aside0.mk (KeepBut.refl w g none); have HL := Aside0.mk hB.size; clear hI; have HW0 := Aside0.mk hB.size; have HB := Aside0.mk hB; clear hB; have H : (spec_l5DrawRight.l0 k (⟨#[]⟩ : ByteArray) 0 0 s0_0 s0_1 s0_2) = some (r1, r2, r3) := h; clear h; have H' := Aside0.mk H; clear H
 go_enter Tryz.func124, Tryz.ntmps124
 go_wp2
 go_loopg [3, 4, 5] k (fun kq v3 v4 v5 w' => ∃ (x3_1 : ByteArray) (x4_1 : Int) (x5_1 : Int) (x1001_1 : Int) (x1002_1 : Int), v3 = .string x3_1 ∧ v4 = .int .i64 x4_1 ∧ v5 = .int .i64 x5_1 ∧ Aside0 (spec_l5DrawRight.l0 kq x3_1 x4_1 x5_1 s0_0 x1001_1 x1002_1 = some (r1, r2, r3)) ∧ Aside0 (kq ≤ k) ∧ Aside0 (IsS124 w0 w' g s0_0 x1001_1 x1002_1) ∧ Aside0 (KeepBut w w' g none) ∧ Aside0 (Below w0.heap.size w0 w'))
 case atStart => exact ⟨((⟨#[]⟩ : ByteArray)), (0), (0), (s0_1), (s0_2), y0_19, y0_19, y0_19, H', ⟨Nat.le_refl _⟩, ⟨y0_6⟩, ⟨hI HK.out⟩, ⟨y0_7⟩⟩
 case round =>
  clear H'
  try clear c1
  obtain ⟨x3_1, x4_1, x5_1, x1001_1, x1002_1, rfl, rfl, rfl, HA, HK1, HI0, HK, HB⟩ := hrel; cases gk with
  | zero => exact absurd HA.out (by simp [spec_l5DrawRight.l0])
  | succ k1 =>
   have H := HA.out; clear HA
   simp only [spec_l5DrawRight.l0] at H
   obtain ⟨⟨t521, t522, t523⟩, A20, H⟩ := Option.bind_eq_some_iff.mp H
   try dsimp only at H
   have A2 := Aside0.mk A20; clear A20
   by_cases c3 : x5_1 < t521
   ·
    rw [if_pos c3] at H
    have c3b0 : decide (x5_1 < t521) = true := decide_eq_true c3; clear c3; obtain ⟨⟨t524, t525, t526⟩, A40, H⟩ := Option.bind_eq_some_iff.mp H
    try dsimp only at H
    have A4 := Aside0.mk A40; clear A40; obtain ⟨y527, hy527⟩ : ∃ y_ : List (S99), y_ = (([] : List (S99))) := ⟨_, rfl⟩
    replace H : (spec_l5DrawRight.l1 k1 x3_1 (wrap64 ((wrap64 (x4_1 + 1)) + (wrap64 (Int.tdiv t524 3)))) x5_1 y527 0 s0_0 t525 t526) = some (r1, r2, r3) := by first | (rw [hy527]; with_reducible exact H) | (have H2_ := (Option.bind_some _ _).symm.trans H; rw [hy527]; with_reducible exact H2_) | (have H2_ := (Option.bind_some _ _).symm.trans H; with_reducible exact H2_) | with_reducible exact H | (rw [hy527]; exact H) | exact H
    have Ny527 := Aside0.mk hy527; clear hy527; have H' := Aside0.mk H; clear H
    go_wp2_with (first | ((with_reducible refine gate_callee (f := 114) rfl ?_); refine gB (some 10) Tryz.func114 #[.pointer (some ⟨g, 0, none⟩), .int .i64 6] ?_; (with_reducible refine (spec_l1Below.calls g s0_0 x1001_1 x1002_1 6 t521 t522 t523 w0 _ ?side1 ?side2 A2.out).mono ?_); (case side1 => repeat (first | (with_reducible first | exact HI0.out | apply IsS124.alloc | apply IsS124.drewN | apply IsS124.drew | apply IsS124.set_1 | apply IsS124.set_2) | exact HI0.out)); (case side2 => repeat (first | (with_reducible first | exact HB.out | apply below_alloc | apply pw_below_drewN | apply below_drew1 | refine below_set ?_ (IsS124.ge HI0.out)) | exact HB.out)); rintro e w5 ⟨rfl, hi, hb, hk⟩; refine ⟨_, rfl, ?_⟩; replace HK := kt HK hk; replace HB := Aside0.mk (hb); replace HI0 := Aside0.mk (hi); (try clear hb); (try clear hb2); (try clear hk); (try clear hi)) | ((with_reducible refine gate_callee (f := 114) rfl ?_); refine gB (some 17) Tryz.func114 #[.pointer (some ⟨g, 0, none⟩), .int .i64 4] ?_; (with_reducible refine (spec_l1Below.calls g s0_0 t522 t523 4 t524 t525 t526 w0 _ ?side1 ?side2 A4.out).mono ?_); (case side1 => repeat (first | (with_reducible first | exact HI0.out | apply IsS124.alloc | apply IsS124.drewN | apply IsS124.drew | apply IsS124.set_1 | apply IsS124.set_2) | exact HI0.out)); (case side2 => repeat (first | (with_reducible first | exact HB.out | apply below_alloc | apply pw_below_drewN | apply below_drew1 | refine below_set ?_ (IsS124.ge HI0.out)) | exact HB.out)); rintro e w6 ⟨rfl, hi, hb, hk⟩; refine ⟨_, rfl, ?_⟩; replace HK := kt HK hk; replace HB := Aside0.mk (hb); replace HI0 := Aside0.mk (hi); (try clear hb); (try clear hb2); (try clear hk); (try clear hi)) | ((with_reducible refine gate_dst (N := 20) rfl ?_); refine Kd.R_lit k99 _ 99 ?hg (N := 20) ?hd (xs := ([] : List (S99))) (inner := []) (ok := fun _ => True) (okp := fun _ => True) ?hr ?hp (fun _ hk => hk) trivial (Below.refl _ _) (Nat.le_refl _) (by simp) ?_; (case hd => rfl); (case hg => rfl); (case hr => first | (go_simp; done) | (go_simp; rfl)); (case hp => exact (Reps.none _ _)); intro v528 w7 ho8 hb hg_ hnew_; clear hg_ hnew_; (first | rw [← Ny527.out] at ho8 | (simp only [Int.reduceToNat] at ho8; rw [← Ny527.out] at ho8)); have HO529 := Aside0.mk (Kd.R_lower ho8 (keep_size (w := w) (g := g) (row := none) (hI HK.out))); replace HK := kb HK hb; replace HB : Aside0 (Below w0.heap.size w0 _) := Aside0.mk (below_step y0_7 hb); replace HI0 := Aside0.mk (IsS124.below y0_6 hb); clear hb ho8))
    go_loopg [6, 7] k1 (fun kq v6 v7 w' => ∃ (x6_2 : List (S99)) (x7_2 : Int) (x1001_2 : Int) (x1002_2 : Int), v7 = .int .i64 x7_2 ∧ Aside0 (spec_l5DrawRight.l1 kq x3_1 (wrap64 ((wrap64 (x4_1 + 1)) + (wrap64 (Int.tdiv t524 3)))) x5_1 x6_2 x7_2 s0_0 x1001_2 x1002_2 = some (r1, r2, r3)) ∧ Aside0 (kq ≤ k1) ∧ Aside0 (Kd.R k99 99 w' w.heap.size (fun _ => True) v6 x6_2) ∧ Aside0 (IsS124 w0 w' g s0_0 x1001_2 x1002_2) ∧ Aside0 (KeepBut w w' g none) ∧ Aside0 (Below w0.heap.size w0 w'))
    case atStart => exact ⟨(y527), (0), (t525), (t526), y0_19, H', ⟨Nat.le_refl _⟩, ⟨by (with_reducible repeat (first | apply Kd.R_alloc | apply Kd.R_drewN | apply Kd.R_drew)); exact HO529.out⟩, ⟨y0_6⟩, ⟨hI HK.out⟩, ⟨y0_7⟩⟩
    case round =>
     clear H'
     try clear c1
     try clear p2
     try clear c3
     try clear c3b0
     try clear p6
     obtain ⟨x6_2, x7_2, x1001_2, x1002_2, rfl, HA, HK2, HO_6, HI0, HK, HB⟩ := hrel; cases gk with
     | zero => exact absurd HA.out (by simp [spec_l5DrawRight.l1])
     | succ k2 =>
      have H := HA.out; clear HA
      simp only [spec_l5DrawRight.l1] at H
      obtain ⟨⟨t530, t531, t532⟩, A90, H⟩ := Option.bind_eq_some_iff.mp H
      try dsimp only at H
      have A9 := Aside0.mk A90; clear A90
      by_cases c10 : x7_2 < t530
      ·
       rw [if_pos c10] at H
       have c10b0 : decide (x7_2 < t530) = true := decide_eq_true c10; clear c10; obtain ⟨⟨t533, t534, t535, t536, t537, t538⟩, A110, H⟩ := Option.bind_eq_some_iff.mp H
       try dsimp only at H
       have A11 := Aside0.mk A110; clear A110
       by_cases c12 : x6_2.length < 4398046511104
       rotate_left
       ·
        rw [if_neg c12] at H
        exact absurd H (by simp)
       rw [if_pos c12] at H
       have LMc12 := Aside0.mk c12; clear c12; obtain ⟨y539, hy539⟩ : ∃ y_ : List (S99), y_ = (x6_2 ++ [(⟨t533, t534, t535, t536⟩ : S99)]) := ⟨_, rfl⟩
       replace H : (spec_l5DrawRight.l1 k2 x3_1 (wrap64 ((wrap64 (x4_1 + 1)) + (wrap64 (Int.tdiv t524 3)))) x5_1 y539 (wrap64 (x7_2 + 1)) s0_0 t537 t538) = some (r1, r2, r3) := by first | (rw [hy539]; with_reducible exact H) | (have H2_ := (Option.bind_some _ _).symm.trans H; rw [hy539]; with_reducible exact H2_) | (have H2_ := (Option.bind_some _ _).symm.trans H; with_reducible exact H2_) | with_reducible exact H | (rw [hy539]; exact H) | exact H
       have Ny539 := Aside0.mk hy539; clear hy539; have H' := Aside0.mk H; clear H
       go_wp2_with (first | ((with_reducible refine gate_callee (f := 114) rfl ?_); refine gB (some 23) Tryz.func114 #[.pointer (some ⟨g, 0, none⟩), .int .i64 3] ?_; (with_reducible refine (spec_l1Below.calls g s0_0 x1001_2 x1002_2 3 t530 t531 t532 w0 _ ?side1 ?side2 A9.out).mono ?_); (case side1 => repeat (first | (with_reducible first | exact HI0.out | apply IsS124.alloc | apply IsS124.drewN | apply IsS124.drew | apply IsS124.set_1 | apply IsS124.set_2) | exact HI0.out)); (case side2 => repeat (first | (with_reducible first | exact HB.out | apply below_alloc | apply pw_below_drewN | apply below_drew1 | refine below_set ?_ (IsS124.ge HI0.out)) | exact HB.out)); rintro e w13 ⟨rfl, hi, hb, hk⟩; refine ⟨_, rfl, ?_⟩; replace HO_6 := Aside0.mk (Kd.R_mono (Kd.R_keep (IsS124.apart (show IsS124 w0 _ g s0_0 x1001_2 x1002_2 from y0_6) (rI HO_6.out) (by decide)) hk (fun _ h => h.2)) (fun _ h => h.1)); replace HK := kt HK hk; replace HB := Aside0.mk (hb); replace HI0 := Aside0.mk (hi); (try clear hb); (try clear hb2); (try clear hk); (try clear hi)) | ((with_reducible refine gate_callee (f := 140) rfl ?_); refine gB (some 29) Tryz.func140 #[.pointer (some ⟨g, 0, none⟩)] ?_; (with_reducible refine (spec_l2DrawRight.calls g s0_0 t531 t532 t533 t534 t535 t536 t537 t538 w0 _ ?side1 ?side2 A11.out).mono ?_); (case side1 => repeat (first | (with_reducible first | exact HI0.out | apply IsS124.alloc | apply IsS124.drewN | apply IsS124.drew | apply IsS124.set_1 | apply IsS124.set_2) | exact HI0.out)); (case side2 => repeat (first | (with_reducible first | exact HB.out | apply below_alloc | apply pw_below_drewN | apply below_drew1 | refine below_set ?_ (IsS124.ge HI0.out)) | exact HB.out)); rintro e w14 ⟨rfl, hi, hb, hk⟩; refine ⟨_, rfl, ?_⟩; replace HO_6 := Aside0.mk (Kd.R_mono (Kd.R_keep (IsS124.apart (show IsS124 w0 _ g s0_0 t531 t532 from y0_6) (rI HO_6.out) (by decide)) hk (fun _ h => h.2)) (fun _ h => h.1)); replace HK := kt HK hk; replace HB := Aside0.mk (hb); replace HI0 := Aside0.mk (hi); (try clear hb); (try clear hb2); (try clear hk); (try clear hi)) | ((with_reducible refine gate_builtin (b := .append) (xs := #[.tmp 27, .tmp 30]) rfl ?_); at_builtin; refine Kd.R_append k99 w.heap.size rfl (.tmp 27) (.tmp 30) 59 99 (.agg #[(.int .i64 0), (.int .i64 0), (.int .i64 0), (.int .i64 0)]) 32 rfl Tryz.underlying59 info99 rfl (by decide) (by omega) u6 x6_2 (⟨t533, t534, t535, t536⟩ : S99) [.int .i64 t533, .int .i64 t534, .int .i64 t535, .int .i64 t536] (fun _ => True) (fun _ => False) rfl rfl ?aP (fun _ hk => hk.elim) ?aF ?aO (Below.refl _ _) ?aS ?aL ?_; (case aP => exact k99_mkM _ _ _ (⟨t533, t534, t535, t536⟩ : S99)); (case aF => exact (fun _ _ => trivial)); (case aO => exact (rI HO_6.out)); (case aS => exact (keep_size (w := w) (g := g) (row := none) (hI HK.out))); (case aL => have := LMc12.out; omega); intro v540 w15 ho hb hg hat; rw [← Ny539.out] at ho; have n0_ := Aside0.mk (IsS124.grown y0_6 hg (IsS124.own_ne HI0.out HO_6.out (by decide))); have n1_ := Aside0.mk (below_weaken y0_7 HL.out hb); have n2_ := Aside0.mk (KeepBut.trans (hI HK.out) (KeepBut.of_grown hg g) (Kd.R_base2 HO_6.out)); have n3_ := Aside0.mk (ho); clear HI0; clear HB; clear HK; clear HO_6; have HI0 := n0_; have HB := n1_; have HK := n2_; have HO541 := n3_; clear n0_ n1_ n2_ n3_; clear ho hb hg hat))
       go_roundg k2
       case measure => have := HK1.out; have := HK2.out; omega
       case rel => exact ⟨(y539), (wrap64 (x7_2 + 1)), (t537), (t538), y0_19, H', ⟨by have := HK1.out; have := HK2.out; omega⟩, ⟨by (with_reducible repeat (first | apply Kd.R_alloc | apply Kd.R_drewN | apply Kd.R_drew)); exact HO541.out⟩, ⟨y0_6⟩, ⟨hI HK.out⟩, ⟨y0_7⟩⟩
      rw [if_neg c10] at H
      have c10b0 : decide (x7_2 < t530) = false := decide_eq_false c10; clear c10; obtain ⟨t542, A160, H⟩ := Option.bind_eq_some_iff.mp H
      try dsimp only at H
      have A16 := Aside0.mk A160; clear A160; have H' := Aside0.mk H; clear H
      go_wp2_with (first | ((with_reducible refine gate_callee (f := 114) rfl ?_); refine gB (some 23) Tryz.func114 #[.pointer (some ⟨g, 0, none⟩), .int .i64 3] ?_; (with_reducible refine (spec_l1Below.calls g s0_0 x1001_2 x1002_2 3 t530 t531 t532 w0 _ ?side1 ?side2 A9.out).mono ?_); (case side1 => repeat (first | (with_reducible first | exact HI0.out | apply IsS124.alloc | apply IsS124.drewN | apply IsS124.drew | apply IsS124.set_1 | apply IsS124.set_2) | exact HI0.out)); (case side2 => repeat (first | (with_reducible first | exact HB.out | apply below_alloc | apply pw_below_drewN | apply below_drew1 | refine below_set ?_ (IsS124.ge HI0.out)) | exact HB.out)); rintro e w17 ⟨rfl, hi, hb, hk⟩; refine ⟨_, rfl, ?_⟩; replace HO_6 := Aside0.mk (Kd.R_mono (Kd.R_keep (IsS124.apart (show IsS124 w0 _ g s0_0 x1001_2 x1002_2 from y0_6) (rI HO_6.out) (by decide)) hk (fun _ h => h.2)) (fun _ h => h.1)); replace HK := kt HK hk; replace HB := Aside0.mk (hb); replace HI0 := Aside0.mk (hi); (try clear hb); (try clear hb2); (try clear hk); (try clear hi); obtain ⟨Ao18, co18, eo18⟩ := Kd.R_slice HO_6.out; subst eo18) | ((with_reducible refine gate_callee (f := 78) rfl ?_); refine gB (some 35) Tryz.func78 #[.string x3_1, .int .i64 (wrap64 ((wrap64 (x4_1 + 1)) + (wrap64 (Int.tdiv t524 3)))), .slice Ao18 x6_2.length co18] ?_; (with_reducible refine (spec_NameOf.calls k2 x3_1 (wrap64 ((wrap64 (x4_1 + 1)) + (wrap64 (Int.tdiv t524 3)))) _ _ x6_2 t542 _ ?side1 ?side2 A16.out).mono ?_); (case side1 => repeat (first | exact (Kd.R_reads' HO_6.out).2.2 | (with_reducible refine Kd.C_alloc ?_ _) | (with_reducible refine Kd.C_drewN ?_ _) | (with_reducible refine Kd.C_drew ?_))); (case side2 => exact (Kd.R_reads' HO_6.out).2.1); rintro e w19 ⟨rfl, hb⟩; refine ⟨_, rfl, ?_⟩; replace HO_6 := rb HO_6 hb; replace HK := kb HK hb; replace HB : Aside0 (Below w0.heap.size w0 _) := Aside0.mk (below_step y0_7 hb); replace HI0 := Aside0.mk (IsS124.below y0_6 hb); (try clear hb); (try clear hb2); (try clear hk); (try clear hi)))
      go_roundg k2
      case measure => have := HK1.out; have := HK2.out; omega
      case rel => exact ⟨(t542), ((wrap64 ((wrap64 (x4_1 + 1)) + (wrap64 (Int.tdiv t524 3))))), (wrap64 (x5_1 + 1)), (t531), (t532), y0_19, y0_19, y0_19, H', ⟨by have := HK1.out; have := HK2.out; omega⟩, ⟨y0_6⟩, ⟨hI HK.out⟩, ⟨y0_7⟩⟩
   rw [if_neg c3] at H
   have c3b0 : decide (x5_1 < t521) = false := decide_eq_false c3; clear c3
   simp only [Option.some.injEq, Prod.mk.injEq] at H
   obtain ⟨rfl, rfl, rfl⟩ := H
   go_wp2_with (first | ((with_reducible refine gate_callee (f := 114) rfl ?_); refine gB (some 10) Tryz.func114 #[.pointer (some ⟨g, 0, none⟩), .int .i64 6] ?_; (with_reducible refine (spec_l1Below.calls g s0_0 x1001_1 x1002_1 6 t521 t522 t523 w0 _ ?side1 ?side2 A2.out).mono ?_); (case side1 => repeat (first | (with_reducible first | exact HI0.out | apply IsS124.alloc | apply IsS124.drewN | apply IsS124.drew | apply IsS124.set_1 | apply IsS124.set_2) | exact HI0.out)); (case side2 => repeat (first | (with_reducible first | exact HB.out | apply below_alloc | apply pw_below_drewN | apply below_drew1 | refine below_set ?_ (IsS124.ge HI0.out)) | exact HB.out)); rintro e w20 ⟨rfl, hi, hb, hk⟩; refine ⟨_, rfl, ?_⟩; replace HK := kt HK hk; replace HB := Aside0.mk (hb); replace HI0 := Aside0.mk (hi); (try clear hb); (try clear hb2); (try clear hk); (try clear hi)))
   go_ret
   exact ⟨y0_14, y0_6, y0_7, hI HK.out⟩

/-! ### spec_l1Pick: function 151 -/
def spec_l1Pick.f (s0_0 : List Int) (s0_1 : Int) (s0_2 : Int) (l1 : List ByteArray) : Option (ByteArray × Int × Int) := (spec_l1Below.f s0_0 s0_1 s0_2 (l1.length : Int)).bind fun bt543 => (if 0 ≤ bt543.1 then (if bt543.1 < (l1.length : Int) then (some (rdOf ByteArray.empty l1 bt543.1, bt543.2.1, bt543.2.2)) else (none)) else (none))
set_option maxHeartbeats 8000000 in
set_option maxRecDepth 100000 in
theorem spec_l1Pick.calls (g : Nat) (s0_0 : List Int) (s0_1 : Int) (s0_2 : Int) (A1 : Option Addr) (c1 : Nat) (l1 : List ByteArray) (r1 : ByteArray) (r2 : Int) (r3 : Int) (w0 w : World) (hI : IsS124 w0 w g s0_0 s0_1 s0_2) (hB : Below w0.heap.size w0 w) (hr1 : Kd.C Kd.string w A1 l1.length l1) (hc1 : l1.length ≤ c1) (hf1 : ∀ ad, A1 = some ad → 0 < l1.length → ad.block ≠ g) (h : spec_l1Pick.f s0_0 s0_1 s0_2 l1 = some (r1, r2, r3)) :
  Calls Tryz.prog 151 #[.pointer (some ⟨g, 0, none⟩), .slice A1 l1.length c1] w fun e w' => e = .returned (.string r1) ∧ IsS124 w0 w' g s0_0 r2 r3 ∧ Below w0.heap.size w0 w' ∧ KeepBut w w' g none := by
 have HR1 := Aside0.mk hr1; have HC1 := Aside0.mk hc1; clear hr1 hc1; have HI0 := Aside0.mk hI; have HK := Aside0.mk (KeepBut.refl w g none); have HL := Aside0.mk hB.size; clear hI; have HW0 := Aside0.mk hB.size; have HB := Aside0.mk hB; clear hB
 have H : ((spec_l1Below.f s0_0 s0_1 s0_2 (l1.length : Int)).bind fun bt543 => (if 0 ≤ bt543.1 then (if bt543.1 < (l1.length : Int) then (some (rdOf ByteArray.empty l1 bt543.1, bt543.2.1, bt543.2.2)) else (none)) else (none))) = some (r1, r2, r3) := h
 clear h; obtain ⟨⟨t543, t544, t545⟩, A30, H⟩ := Option.bind_eq_some_iff.mp H
 try dsimp only at H
 have A3 := Aside0.mk A30; clear A30
 by_cases c4 : 0 ≤ t543
 ·
  rw [if_pos c4] at H
  have c4b0 : decide (0 ≤ t543) = true := decide_eq_true c4; clear c4
  by_cases c5 : t543 < (l1.length : Int)
  rotate_left
  ·
   rw [if_neg c5] at H
   exact absurd H (by simp)
  rw [if_pos c5] at H
  have c5b0 : decide (t543 < (l1.length : Int)) = true := decide_eq_true c5; clear c5
  simp only [Option.some.injEq, Prod.mk.injEq] at H
  obtain ⟨rfl, rfl, rfl⟩ := H
  go_enter Tryz.func151, Tryz.ntmps151
  go_wp2_with (first | ((with_reducible refine gate_callee (f := 114) rfl ?_); refine gB (some 9) Tryz.func114 #[.pointer (some ⟨g, 0, none⟩), .int .i64 (l1.length : Int)] ?_; (with_reducible refine (spec_l1Below.calls g s0_0 s0_1 s0_2 (l1.length : Int) t543 t544 t545 w0 _ ?side1 ?side2 A3.out).mono ?_); (case side1 => repeat (first | (with_reducible first | exact HI0.out | apply IsS124.alloc | apply IsS124.drewN | apply IsS124.drew | apply IsS124.set_1 | apply IsS124.set_2) | exact HI0.out)); (case side2 => repeat (first | (with_reducible first | exact HB.out | apply below_alloc | apply pw_below_drewN | apply below_drew1 | refine below_set ?_ (IsS124.ge HI0.out)) | exact HB.out)); rintro e w6 ⟨rfl, hi, hb, hk⟩; refine ⟨_, rfl, ?_⟩; replace HK := kt HK hk; replace HB := Aside0.mk (hb); replace HI0 := Aside0.mk (hi); (try clear hb); (try clear hb2); (try clear hk); (try clear hi); have p546 : 0 ≤ (t543 : Int) := of_decide_eq_true y0_18; have q546 : t543 < (l1.length : Int) := of_decide_eq_true y0_18; obtain ⟨ad546, e546, hx546_0⟩ := Kd.at_string HR1.out t543 p546 q546; cases e546; replace hx546_0 := keep_cell HK.out hx546_0 (by first | (rw [add_block]; exact hf1 _ rfl (by omega)) | exact hf1 _ rfl (by omega) | exact hf1 ad546 rfl (by omega)); replace p546 := eq_true p546; replace q546 := eq_true q546))
  go_ret
  exact ⟨y0_14, y0_6, y0_7, hI HK.out⟩
 rw [if_neg c4] at H
 exact absurd H (by simp)

/-! ### spec_l2Dent: function 139 -/
def spec_l2Dent.f (s0_0 : List Int) (s0_1 : Int) (s0_2 : Int) (a1 : ByteArray) : Option (ByteArray × Int × Int) := (spec_l1Below.f s0_0 s0_1 s0_2 (wrap64 ((a1.size : Int) + 1))).bind fun bt547 => ((spec_l1Below.f s0_0 bt547.2.1 bt547.2.2 5).bind fun bt550 => (if bt550.1 = 0 then (if 0 ≤ bt547.1 then (if bt547.1 ≤ (a1.size : Int) then (some (a1.extract 0 (bt547.1 : Int).toNat, bt550.2.1, bt550.2.2)) else (none)) else (none)) else (if bt550.1 = 1 then (if 0 ≤ bt547.1 then (if bt547.1 ≤ (a1.size : Int) then ((spec_l1Pick.f s0_0 bt550.2.1 bt550.2.2 (([(⟨#[48]⟩ : ByteArray), (⟨#[44]⟩ : ByteArray), (⟨#[62]⟩ : ByteArray), (⟨#[47]⟩ : ByteArray), (⟨#[124]⟩ : ByteArray), (⟨#[120]⟩ : ByteArray), (⟨#[49]⟩ : ByteArray)] : List ByteArray))).bind fun bt556 => (if (a1.extract 0 (bt547.1 : Int).toNat).size + bt556.1.size ≤ 9223372036854775807 then (if ((a1.extract 0 (bt547.1 : Int).toNat) ++ bt556.1).size + (a1.extract (bt547.1 : Int).toNat a1.size).size ≤ 9223372036854775807 then (some (((a1.extract 0 (bt547.1 : Int).toNat) ++ bt556.1) ++ (a1.extract (bt547.1 : Int).toNat a1.size), bt556.2.1, bt556.2.2)) else (none)) else (none))) else (none)) else (none)) else (some (a1, bt550.2.1, bt550.2.2)))))
def spec_l2Dent.T6 : Bool × List (List Nat × List Nat) := (true, [([], []), ([], []), ([0, 1], [0, 1]), ([], []), ([], []), ([3, 4], [3, 4]), ([2, 5], [2, 5]), ([], []), ([], []), ([7, 8], [7, 8]), ([6, 9], [6, 9]), ([10, 5, 0, 1, 2, 3, 4, 5, 6, 7, 8, 9, 10], [10])])
def spec_l2Dent.B6 : List Nat := [0, 0, 3, 0, 0, 24, 63, 0, 0, 384, 1023, 2047]
theorem spec_l2Dent.tab6 : rtab .any (opsOf Tryz.f139 6) = spec_l2Dent.T6 := by kernel_rfl
theorem spec_l2Dent.bits6 : waitsOk spec_l2Dent.T6.2 spec_l2Dent.B6 = true := by kernel_rfl
set_option maxHeartbeats 8000000 in
set_option maxRecDepth 100000 in
theorem spec_l2Dent.calls (g : Nat) (s0_0 : List Int) (s0_1 : Int) (s0_2 : Int) (a1 : ByteArray) (r1 : ByteArray) (r2 : Int) (r3 : Int) (w0 w : World) (hI : IsS124 w0 w g s0_0 s0_1 s0_2) (hB : Below w0.heap.size w0 w) (h : spec_l2Dent.f s0_0 s0_1 s0_2 a1 = some (r1, r2, r3)) :
  Calls Tryz.prog 139 #[.pointer (some ⟨g, 0, none⟩), .string a1] w fun e w' => e = .returned (.string r1) ∧ IsS124 w0 w' g s0_0 r2 r3 ∧ Below w0.heap.size w0 w' ∧ KeepBut w w' g none := by
 have HI0 := Aside0.mk hI; have HK := Aside0.mk (KeepBut.refl w g none); have HL := Aside0.mk hB.size; clear hI; have HW0 := Aside0.mk hB.size; have HB := Aside0.mk hB; clear hB
 have H : ((spec_l1Below.f s0_0 s0_1 s0_2 (wrap64 ((a1.size : Int) + 1))).bind fun bt547 => ((spec_l1Below.f s0_0 bt547.2.1 bt547.2.2 5).bind fun bt550 => (if bt550.1 = 0 then (if 0 ≤ bt547.1 then (if bt547.1 ≤ (a1.size : Int) then (some (a1.extract 0 (bt547.1 : Int).toNat, bt550.2.1, bt550.2.2)) else (none)) else (none)) else (if bt550.1 = 1 then (if 0 ≤ bt547.1 then (if bt547.1 ≤ (a1.size : Int) then ((spec_l1Pick.f s0_0 bt550.2.1 bt550.2.2 (([(⟨#[48]⟩ : ByteArray), (⟨#[44]⟩ : ByteArray), (⟨#[62]⟩ : ByteArray), (⟨#[47]⟩ : ByteArray), (⟨#[124]⟩ : ByteArray), (⟨#[120]⟩ : ByteArray), (⟨#[49]⟩ : ByteArray)] : List ByteArray))).bind fun bt556 => (if (a1.extract 0 (bt547.1 : Int).toNat).size + bt556.1.size ≤ 9223372036854775807 then (if ((a1.extract 0 (bt547.1 : Int).toNat) ++ bt556.1).size + (a1.extract (bt547.1 : Int).toNat a1.size).size ≤ 9223372036854775807 then (some (((a1.extract 0 (bt547.1 : Int).toNat) ++ bt556.1) ++ (a1.extract (bt547.1 : Int).toNat a1.size), bt556.2.1, bt556.2.2)) else (none)) else (none))) else (none)) else (none)) else (some (a1, bt550.2.1, bt550.2.2)))))) = some (r1, r2, r3) := h
 clear h; obtain ⟨⟨t547, t548, t549⟩, A30, H⟩ := Option.bind_eq_some_iff.mp H
 try dsimp only at H
 have A3 := Aside0.mk A30; clear A30; obtain ⟨⟨t550, t551, t552⟩, A40, H⟩ := Option.bind_eq_some_iff.mp H
 try dsimp only at H
 have A4 := Aside0.mk A40; clear A40
 by_cases c5 : t550 = 0
 ·
  rw [if_pos c5] at H
  have c5b0 : (t550 == 0) = true := beq_iff_eq.mpr c5; have c5b1 : (t550 != 0) = false := bne_eq_false_iff_eq.mpr c5; clear c5
  by_cases c6 : 0 ≤ t547
  rotate_left
  ·
   rw [if_neg c6] at H
   exact absurd H (by simp)
  rw [if_pos c6] at H
  have c6b0 := eq_true c6; have c6b1 : decide (0 ≤ t547) = true := decide_eq_true c6; clear c6
  by_cases c7 : t547 ≤ (a1.size : Int)
  rotate_left
  ·
   rw [if_neg c7] at H
   exact absurd H (by simp)
  rw [if_pos c7] at H
  have c7b0 := eq_true c7; have c7b1 : decide (t547 ≤ (a1.size : Int)) = true := decide_eq_true c7; clear c7
  simp only [Option.some.injEq, Prod.mk.injEq] at H
  obtain ⟨rfl, rfl, rfl⟩ := H
  go_enter Tryz.func139, Tryz.ntmps139
  go_wp2_with (first | ((with_reducible refine gate_callee (f := 114) rfl ?_); refine gB (some 10) Tryz.func114 #[.pointer (some ⟨g, 0, none⟩), .int .i64 (wrap64 ((a1.size : Int) + 1))] ?_; (with_reducible refine (spec_l1Below.calls g s0_0 s0_1 s0_2 (wrap64 ((a1.size : Int) + 1)) t547 t548 t549 w0 _ ?side1 ?side2 A3.out).mono ?_); (case side1 => repeat (first | (with_reducible first | exact HI0.out | apply IsS124.alloc | apply IsS124.drewN | apply IsS124.drew | apply IsS124.set_1 | apply IsS124.set_2) | exact HI0.out)); (case side2 => repeat (first | (with_reducible first | exact HB.out | apply below_alloc | apply pw_below_drewN | apply below_drew1 | refine below_set ?_ (IsS124.ge HI0.out)) | exact HB.out)); rintro e w8 ⟨rfl, hi, hb, hk⟩; refine ⟨_, rfl, ?_⟩; replace HK := kt HK hk; replace HB := Aside0.mk (hb); replace HI0 := Aside0.mk (hi); (try clear hb); (try clear hb2); (try clear hk); (try clear hi)) | ((with_reducible refine gate_callee (f := 114) rfl ?_); refine gB (some 12) Tryz.func114 #[.pointer (some ⟨g, 0, none⟩), .int .i64 5] ?_; (with_reducible refine (spec_l1Below.calls g s0_0 t548 t549 5 t550 t551 t552 w0 _ ?side1 ?side2 A4.out).mono ?_); (case side1 => repeat (first | (with_reducible first | exact HI0.out | apply IsS124.alloc | apply IsS124.drewN | apply IsS124.drew | apply IsS124.set_1 | apply IsS124.set_2) | exact HI0.out)); (case side2 => repeat (first | (with_reducible first | exact HB.out | apply below_alloc | apply pw_below_drewN | apply below_drew1 | refine below_set ?_ (IsS124.ge HI0.out)) | exact HB.out)); rintro e w9 ⟨rfl, hi, hb, hk⟩; refine ⟨_, rfl, ?_⟩; replace HK := kt HK hk; replace HB := Aside0.mk (hb); replace HI0 := Aside0.mk (hi); (try clear hb); (try clear hb2); (try clear hk); (try clear hi)))
  go_ret
  exact ⟨y0_14, y0_6, y0_7, hI HK.out⟩
 rw [if_neg c5] at H
 have c5b0 : (t550 == 0) = false := beq_eq_false_iff_ne.mpr c5; have c5b1 : (t550 != 0) = true := bne_iff_ne.mpr c5
 by_cases c10 : t550 = 1
 ·
  rw [if_pos c10] at H
  have c10b0 : (t550 == 1) = true := beq_iff_eq.mpr c10; have c10b1 : (t550 != 1) = false := bne_eq_false_iff_eq.mpr c10; clear c10
  by_cases c11 : 0 ≤ t547
  rotate_left
  ·
   rw [if_neg c11] at H
   exact absurd H (by simp)
  rw [if_pos c11] at H
  have c11b0 := eq_true c11; have c11b1 : decide (0 ≤ t547) = true := decide_eq_true c11; clear c11
  by_cases c12 : t547 ≤ (a1.size : Int)
  rotate_left
  ·
   rw [if_neg c12] at H
   exact absurd H (by simp)
  rw [if_pos c12] at H
  have c12b0 := eq_true c12; have c12b1 : decide (t547 ≤ (a1.size : Int)) = true := decide_eq_true c12; clear c12; obtain ⟨y553, hy553⟩ : ∃ y_ : List ByteArray, y_ = (([(⟨#[48]⟩ : ByteArray), (⟨#[44]⟩ : ByteArray), (⟨#[62]⟩ : ByteArray), (⟨#[47]⟩ : ByteArray), (⟨#[124]⟩ : ByteArray), (⟨#[120]⟩ : ByteArray), (⟨#[49]⟩ : ByteArray)] : List ByteArray)) := ⟨_, rfl⟩
  replace H : ((spec_l1Pick.f s0_0 t551 t552 y553).bind fun bt556 => (if (a1.extract 0 (t547 : Int).toNat).size + bt556.1.size ≤ 9223372036854775807 then (if ((a1.extract 0 (t547 : Int).toNat) ++ bt556.1).size + (a1.extract (t547 : Int).toNat a1.size).size ≤ 9223372036854775807 then (some (((a1.extract 0 (t547 : Int).toNat) ++ bt556.1) ++ (a1.extract (t547 : Int).toNat a1.size), bt556.2.1, bt556.2.2)) else (none)) else (none))) = some (r1, r2, r3) := by first | (rw [hy553]; with_reducible exact H) | (have H2_ := (Option.bind_some _ _).symm.trans H; rw [hy553]; with_reducible exact H2_) | (have H2_ := (Option.bind_some _ _).symm.trans H; with_reducible exact H2_) | with_reducible exact H | (rw [hy553]; exact H) | exact H
  have Ny553 := Aside0.mk hy553; clear hy553; obtain ⟨⟨t556, t557, t558⟩, A130, H⟩ := Option.bind_eq_some_iff.mp H
  try dsimp only at H
  have A13 := Aside0.mk A130; clear A130
  by_cases c14 : (a1.extract 0 (t547 : Int).toNat).size + t556.size ≤ 9223372036854775807
  rotate_left
  ·
   rw [if_neg c14] at H
   exact absurd H (by simp)
  rw [if_pos c14] at H
  have c14b0 := eq_true c14; have c14b1 : decide ((a1.extract 0 (t547 : Int).toNat).size + t556.size ≤ 9223372036854775807) = true := decide_eq_true c14
  try have c14b2 : (9223372036854775807 < (a1.extract 0 (t547 : Int).toNat).size + t556.size) = False := eq_false (Nat.not_lt.2 c14)
  (try have c14b3 : (9223372036854775807 < t547.toNat + t556.size) = False := eq_false (by have h_ := c14; simp only [ByteArray.size_append, ByteArray.size_extract] at h_; have h0_ : (t547 : Int) ≤ (a1.size : Int) := of_decide_eq_true (by assumption); omega))
  have c15b0 := eq_true (of_decide_eq_true y0_18 : 0 ≤ t547); have c16b0 := eq_true (of_decide_eq_true y0_18 : t547 ≤ (a1.size : Int))
  by_cases c17 : ((a1.extract 0 (t547 : Int).toNat) ++ t556).size + (a1.extract (t547 : Int).toNat a1.size).size ≤ 9223372036854775807
  rotate_left
  ·
   rw [if_neg c17] at H
   exact absurd H (by simp)
  rw [if_pos c17] at H
  have c17b0 := eq_true c17; have c17b1 : decide (((a1.extract 0 (t547 : Int).toNat) ++ t556).size + (a1.extract (t547 : Int).toNat a1.size).size ≤ 9223372036854775807) = true := decide_eq_true c17
  try have c17b2 : (9223372036854775807 < ((a1.extract 0 (t547 : Int).toNat) ++ t556).size + (a1.extract (t547 : Int).toNat a1.size).size) = False := eq_false (Nat.not_lt.2 c17)
  (try have c17b3 : (9223372036854775807 < t547.toNat + t556.size + (a1.size - t547.toNat)) = False := eq_false (by have h_ := c17; simp only [ByteArray.size_append, ByteArray.size_extract] at h_; have h0_ : (t547 : Int) ≤ (a1.size : Int) := of_decide_eq_true (by assumption); omega))
  simp only [Option.some.injEq, Prod.mk.injEq] at H
  obtain ⟨rfl, rfl, rfl⟩ := H
  go_enter Tryz.func139, Tryz.ntmps139
  try go_wp2_with (first | ((with_reducible refine gate_callee (f := 114) rfl ?_); refine gB (some 10) Tryz.func114 #[.pointer (some ⟨g, 0, none⟩), .int .i64 (wrap64 ((a1.size : Int) + 1))] ?_; (with_reducible refine (spec_l1Below.calls g s0_0 s0_1 s0_2 (wrap64 ((a1.size : Int) + 1)) t547 t548 t549 w0 _ ?side1 ?side2 A3.out).mono ?_); (case side1 => repeat (first | (with_reducible first | exact HI0.out | apply IsS124.alloc | apply IsS124.drewN | apply IsS124.drew | apply IsS124.set_1 | apply IsS124.set_2) | exact HI0.out)); (case side2 => repeat (first | (with_reducible first | exact HB.out | apply below_alloc | apply pw_below_drewN | apply below_drew1 | refine below_set ?_ (IsS124.ge HI0.out)) | exact HB.out)); rintro e w18 ⟨rfl, hi, hb, hk⟩; refine ⟨_, rfl, ?_⟩; replace HK := kt HK hk; replace HB := Aside0.mk (hb); replace HI0 := Aside0.mk (hi); (try clear hb); (try clear hb2); (try clear hk); (try clear hi)) | ((with_reducible refine gate_callee (f := 114) rfl ?_); refine gB (some 12) Tryz.func114 #[.pointer (some ⟨g, 0, none⟩), .int .i64 5] ?_; (with_reducible refine (spec_l1Below.calls g s0_0 t548 t549 5 t550 t551 t552 w0 _ ?side1 ?side2 A4.out).mono ?_); (case side1 => repeat (first | (with_reducible first | exact HI0.out | apply IsS124.alloc | apply IsS124.drewN | apply IsS124.drew | apply IsS124.set_1 | apply IsS124.set_2) | exact HI0.out)); (case side2 => repeat (first | (with_reducible first | exact HB.out | apply below_alloc | apply pw_below_drewN | apply below_drew1 | refine below_set ?_ (IsS124.ge HI0.out)) | exact HB.out)); rintro e w19 ⟨rfl, hi, hb, hk⟩; refine ⟨_, rfl, ?_⟩; replace HK := kt HK hk; replace HB := Aside0.mk (hb); replace HI0 := Aside0.mk (hi); (try clear hb); (try clear hb2); (try clear hk); (try clear hi)))
  replace HI0 := Aside0.mk (IsS124.drew HI0.out); replace HK := Aside0.mk (keep_drew HK.out); replace HB := Aside0.mk (below_drew1 HB.out)
  refine start_ (n := 12) (S := fun w' => True) (ds := []) #[false, false, false, false, false, false, false, false, false, false, false, false] (by kernel_rfl) rfl rfl trivial (fun hHeld => ?_); refine with_tabW spec_l2Dent.tab6 spec_l2Dent.bits6 (fun HT_ HW_ => ?_)
  generalize w19.drew = w20 at HI0 HK HB hHeld ⊢
  refine pA 0 (some 20) (bz 12 1) HT_ ?_
  refine pA 1 (some 21) (bz 12 3) HT_ ?_
  refine pA 2 (some 22) (bz 12 7) HT_ ?_
  refine pA 3 (some 23) (bz 12 15) HT_ ?_
  refine pA 7 (some 27) (bz 12 143) HT_ ?_
  refine pA 8 (some 28) (bz 12 399) HT_ ?_
  refine pA 9 (some 29) (bz 12 911) HT_ ?_
  refine oA 4 (some 24) (bz 12 927) HT_ (fun K hK => ?_)
  refine Kd.R_lit_step Kd.string _ 9 ?hg (N := 24) ?hd (xs := ([(⟨#[48]⟩ : ByteArray), (⟨#[44]⟩ : ByteArray), (⟨#[62]⟩ : ByteArray), (⟨#[47]⟩ : ByteArray), (⟨#[124]⟩ : ByteArray), (⟨#[120]⟩ : ByteArray), (⟨#[49]⟩ : ByteArray)] : List ByteArray)) (inner := [.string (⟨#[48]⟩ : ByteArray), .string (⟨#[44]⟩ : ByteArray), .string (⟨#[62]⟩ : ByteArray), .string (⟨#[47]⟩ : ByteArray), .string (⟨#[124]⟩ : ByteArray), .string (⟨#[120]⟩ : ByteArray), .string (⟨#[49]⟩ : ByteArray)]) (ok := fun _ => True) (okp := fun _ => True) ?hr ?hp (fun _ hk => hk) trivial (Below.refl _ _) (Nat.le_refl _) (by simp) ?_; (case hd => rfl); (case hg => rfl); (case hr => first | (go_simp; done) | (go_simp; rfl)); (case hp => exact (Reps.one (show Kd.M Kd.string _ _ _ (⟨#[48]⟩ : ByteArray) [.string (⟨#[48]⟩ : ByteArray)] from rfl) (Reps.one (show Kd.M Kd.string _ _ _ (⟨#[44]⟩ : ByteArray) [.string (⟨#[44]⟩ : ByteArray)] from rfl) (Reps.one (show Kd.M Kd.string _ _ _ (⟨#[62]⟩ : ByteArray) [.string (⟨#[62]⟩ : ByteArray)] from rfl) (Reps.one (show Kd.M Kd.string _ _ _ (⟨#[47]⟩ : ByteArray) [.string (⟨#[47]⟩ : ByteArray)] from rfl) (Reps.one (show Kd.M Kd.string _ _ _ (⟨#[124]⟩ : ByteArray) [.string (⟨#[124]⟩ : ByteArray)] from rfl) (Reps.one (show Kd.M Kd.string _ _ _ (⟨#[120]⟩ : ByteArray) [.string (⟨#[120]⟩ : ByteArray)] from rfl) (Reps.one (show Kd.M Kd.string _ _ _ (⟨#[49]⟩ : ByteArray) [.string (⟨#[49]⟩ : ByteArray)] from rfl) (Reps.none _ _)))))))))
  intro v554 w21 ho22 hb hg_ hnew_
  clear hg_ hnew_
  (first | rw [← Ny553.out] at ho22 | (simp only [Int.reduceToNat] at ho22; rw [← Ny553.out] at ho22))
  have HO555 := Aside0.mk (Kd.R_lower ho22 (keep_size (w := w) (g := g) (row := none) (hI HK.out))); replace HK := kb HK hb; replace HB : Aside0 (Below w0.heap.size w0 _) := Aside0.mk (below_step y0_7 hb); replace HI0 := Aside0.mk (IsS124.below y0_6 hb); clear hb ho22; obtain ⟨Ao23, co23, eo23⟩ := Kd.R_slice HO555.out
  (first | subst eo23 | (injection eo23 with f1_ f2_ f3_; have f4_ := f1_.symm; have f5_ := f3_.symm; clear f1_ f2_ f3_; subst f4_; subst f5_))
  refine hK.out _ _ trivial (fun hHeld => ?_)
  clear hK K
  refine nA (some 24) ?_
  refine oA 5 (some 25) (bz 12 959) HT_ (fun K hK => ?_)
  refine gA Tryz.func151 #[.pointer (some ⟨g, 0, none⟩), .slice Ao23 y553.length co23] ?_
  with_reducible refine (spec_l1Pick.calls g s0_0 t551 t552 _ _ y553 t556 t557 t558 w0 _ ?side1 ?side2 ?side3 ?side4 ?side5 A13.out).mono ?_
  (case side1 => repeat (first | (with_reducible first | exact HI0.out | apply IsS124.alloc | apply IsS124.drewN | apply IsS124.drew | apply IsS124.set_1 | apply IsS124.set_2) | exact HI0.out))
  (case side2 => repeat (first | (with_reducible first | exact HB.out | apply below_alloc | apply pw_below_drewN | apply below_drew1 | refine below_set ?_ (IsS124.ge HI0.out)) | exact HB.out))
  (case side3 => repeat (first | exact (Kd.R_reads' HO555.out).2.2 | (with_reducible refine Kd.C_alloc ?_ _) | (with_reducible refine Kd.C_drewN ?_ _) | (with_reducible refine Kd.C_drew ?_)))
  (case side4 => exact (Kd.R_reads' HO555.out).2.1)
  (case side5 => exact far_slice (IsS124.own_ne HI0.out HO555.out (by decide)))
  rintro e w24 ⟨rfl, hi, hb, hk⟩
  refine ⟨_, rfl, ?_⟩
  replace HO555 := Aside0.mk (Kd.R_mono (Kd.R_keep (IsS124.apart (show IsS124 w0 _ g s0_0 t551 t552 from y0_6) (rI HO555.out) (by decide)) hk (fun _ h => h.2)) (fun _ h => h.1))
  replace HK := kt HK hk; replace HB := Aside0.mk (hb); replace HI0 := Aside0.mk (hi)
  (try clear hb)
  (try clear hb2)
  (try clear hk)
  (try clear hi)
  refine hK.out _ _ trivial (fun hHeld => ?_)
  clear hK K
  refine nA (some 25) ?_
  refine pA 6 (some 26) (bz 12 1023) HT_ ?_
  refine pA 10 (some 30) (bz 12 2047) HT_ ?_
  refine pA 11 (some 4) (bz 12 4095) HT_ ?_
  refine done_ (done_of HT_.out (by kernel_rfl)) ?_
  try go_wp2
  go_ret
  exact ⟨y0_14, y0_6, y0_7, hI HK.out⟩
 rw [if_neg c10] at H
 have c10b0 : (t550 == 1) = false := beq_eq_false_iff_ne.mpr c10; have c10b1 : (t550 != 1) = true := bne_iff_ne.mpr c10
 simp only [Option.some.injEq, Prod.mk.injEq] at H
 obtain ⟨rfl, rfl, rfl⟩ := H
 go_enter Tryz.func139, Tryz.ntmps139
 go_wp2_with (first | ((with_reducible refine gate_callee (f := 114) rfl ?_); refine gB (some 10) Tryz.func114 #[.pointer (some ⟨g, 0, none⟩), .int .i64 (wrap64 ((a1.size : Int) + 1))] ?_; (with_reducible refine (spec_l1Below.calls g s0_0 s0_1 s0_2 (wrap64 ((a1.size : Int) + 1)) t547 t548 t549 w0 _ ?side1 ?side2 A3.out).mono ?_); (case side1 => repeat (first | (with_reducible first | exact HI0.out | apply IsS124.alloc | apply IsS124.drewN | apply IsS124.drew | apply IsS124.set_1 | apply IsS124.set_2) | exact HI0.out)); (case side2 => repeat (first | (with_reducible first | exact HB.out | apply below_alloc | apply pw_below_drewN | apply below_drew1 | refine below_set ?_ (IsS124.ge HI0.out)) | exact HB.out)); rintro e w25 ⟨rfl, hi, hb, hk⟩; refine ⟨_, rfl, ?_⟩; replace HK := kt HK hk; replace HB := Aside0.mk (hb); replace HI0 := Aside0.mk (hi); (try clear hb); (try clear hb2); (try clear hk); (try clear hi)) | ((with_reducible refine gate_callee (f := 114) rfl ?_); refine gB (some 12) Tryz.func114 #[.pointer (some ⟨g, 0, none⟩), .int .i64 5] ?_; (with_reducible refine (spec_l1Below.calls g s0_0 t548 t549 5 t550 t551 t552 w0 _ ?side1 ?side2 A4.out).mono ?_); (case side1 => repeat (first | (with_reducible first | exact HI0.out | apply IsS124.alloc | apply IsS124.drewN | apply IsS124.drew | apply IsS124.set_1 | apply IsS124.set_2) | exact HI0.out)); (case side2 => repeat (first | (with_reducible first | exact HB.out | apply below_alloc | apply pw_below_drewN | apply below_drew1 | refine below_set ?_ (IsS124.ge HI0.out)) | exact HB.out)); rintro e w26 ⟨rfl, hi, hb, hk⟩; refine ⟨_, rfl, ?_⟩; replace HK := kt HK hk; replace HB := Aside0.mk (hb); replace HI0 := Aside0.mk (hi); (try clear hb); (try clear hb2); (try clear hk); (try clear hi)))
 go_ret
 exact ⟨y0_14, y0_6, y0_7, hI HK.out⟩

end Go.Proofs.YtemjmefacifdeaaGreatDoor.PFnEitherOrder
