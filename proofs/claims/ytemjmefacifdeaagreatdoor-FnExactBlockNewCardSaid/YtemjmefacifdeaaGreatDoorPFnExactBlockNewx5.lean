-- By a program of this session, out of the translation (the print of the kit, with turns of its own). Lean checks it.
import Derived.Test.YtemjmefacifdeaaGreatDoorPFnExactBlockNewx0
import Derived.Test.YtemjmefacifdeaaGreatDoorPFnExactBlockNewx2
import Derived.Test.YtemjmefacifdeaaGreatDoorPFnExactBlockNewx4
namespace Go.Proofs.YtemjmefacifdeaaGreatDoor.PFnExactBlockNew
open Go.RowKit Go.Proofs.YtemjmefacifdeaaGreatDoorW.PrintWords Go.Proofs.YtemjmefacifdeaaGreatDoorW.PrintLast Go.Proofs.YtemjmefacifdeaaGreatDoorW.PrintMore
attribute [local go_sem] max2_int min2_int max_two min_two max_three min_three max_four min_four   -- for this text's walks alone
set_option linter.unusedVariables false
set_option linter.unusedSimpArgs false

/-! ### spec_NameOf: function 78 -/
def spec_NameOf.l0 : Nat → ByteArray → Int → List (S99) → Int → Option (ByteArray)
 | 0, _, _, _, _ => none
 | k + 1, x0, x1, x2, x7 => if x7 < (x2.length : Int) then (if 0 ≤ x7 then ((spec_TxOk.f ((rd_T99 x2 x7).f0) ((rd_T99 x2 x7).f1) ((rd_T99 x2 x7).f2) ((rd_T99 x2 x7).f3)).bind fun t237 => (if t237 = true then (spec_NameOf.l0 k x0 x1 x2 (wrap64 (x7 + 1))) else (some (⟨#[]⟩ : ByteArray)))) else (none)) else (if x0.size + 1 ≤ 9223372036854775807 then ((spec_Digits.f k x1).bind fun t238 => (if (x0 ++ (⟨#[47]⟩ : ByteArray)).size + t238.size ≤ 9223372036854775807 then (if ((x0 ++ (⟨#[47]⟩ : ByteArray)) ++ t238).size + 1 ≤ 9223372036854775807 then ((spec_TxsText.f k x2).bind fun t239 => (if (((x0 ++ (⟨#[47]⟩ : ByteArray)) ++ t238) ++ (⟨#[124]⟩ : ByteArray)).size + t239.size ≤ 9223372036854775807 then ((spec_NameOk.f k ((((x0 ++ (⟨#[47]⟩ : ByteArray)) ++ t238) ++ (⟨#[124]⟩ : ByteArray)) ++ t239)).bind fun t240 => (if t240 = true then (some ((((x0 ++ (⟨#[47]⟩ : ByteArray)) ++ t238) ++ (⟨#[124]⟩ : ByteArray)) ++ t239)) else (some (⟨#[]⟩ : ByteArray)))) else (none))) else (none)) else (none))) else (none))
def spec_NameOf.f (k : Nat) (a0 : ByteArray) (a1 : Int) (l2 : List (S99)) : Option (ByteArray) := spec_NameOf.l0 k a0 a1 l2 0
theorem spec_NameOf.mono_l : ∀ k, (∀ y0 y1 y2 y3, LeO (spec_NameOf.l0 k y0 y1 y2 y3) (spec_NameOf.l0 (k + 1) y0 y1 y2 y3))
 | 0 => fun _ _ _ _ r h => by simp [spec_NameOf.l0] at h
 | k + 1 => by
  have ih0 := spec_NameOf.mono_l k
  intro y0 y1 y2 y3
  unfold spec_NameOf.l0
  repeat' first | (with_reducible exact ih0 _ _ _ _) | (with_reducible exact spec_Digits.mono _ _) | (with_reducible exact spec_NameOk.mono _ _) | (with_reducible exact spec_TxsText.mono _ _) | (with_reducible exact LeO.refl _) | (with_reducible exact LeO.none _) | (with_reducible refine LeO.ite ?_ ?_) | (with_reducible refine LeO.bind ?_ (fun _ => ?_))
theorem spec_NameOf.mono : ∀ a0 a1 a2 k, LeO (spec_NameOf.f k a0 a1 a2) (spec_NameOf.f (k + 1) a0 a1 a2) := by
 intro a0 a1 a2 k
 have ih0 := spec_NameOf.mono_l k
 unfold spec_NameOf.f
 repeat' first | (with_reducible exact ih0 _ _ _ _) | (with_reducible exact spec_Digits.mono _ _) | (with_reducible exact spec_NameOk.mono _ _) | (with_reducible exact spec_TxsText.mono _ _) | (with_reducible exact LeO.refl _) | (with_reducible exact LeO.none _) | (with_reducible refine LeO.ite ?_ ?_) | (with_reducible refine LeO.bind ?_ (fun _ => ?_))
set_option maxHeartbeats 8000000 in
set_option maxRecDepth 100000 in
theorem spec_NameOf.calls (k : Nat) (a0 : ByteArray) (a1 : Int) (A2 : Option Addr) (c2 : Nat) (l2 : List (S99)) (r : ByteArray) (w : World) (hr2 : Kd.C k99 w A2 l2.length l2) (hc2 : l2.length ≤ c2) (h : spec_NameOf.f k a0 a1 l2 = some r) :
  Calls Tryz.prog 78 #[.string a0, .int .i64 a1, .slice A2 l2.length c2] w fun e w' => e = .returned (.string r) ∧ Below w.heap.size w w' := by
 have hu99 := Tryz.underlying99; have HR2 := Aside0.mk hr2; have HC2 := Aside0.mk hc2; clear hr2 hc2; have HB := Aside0.mk (Below.refl w.heap.size w); have H : (spec_NameOf.l0 k a0 a1 l2 0) = some r := h; clear h; have H' := Aside0.mk H; clear H
 go_enter Tryz.func78, Tryz.ntmps78
 go_wp2
 go_loopg [7] k (fun kq v7 w' => ∃ (x7_1 : Int), v7 = .int .i64 x7_1 ∧ Aside0 (spec_NameOf.l0 kq a0 a1 l2 x7_1 = some r) ∧ Aside0 (kq ≤ k) ∧ Aside0 (Below w.heap.size w w'))
 case atStart => exact ⟨(0), y0_13, H', ⟨Nat.le_refl _⟩, ⟨bI HB.out⟩⟩
 case round =>
  clear H'
  try clear c2
  try clear p2
  obtain ⟨x7_1, rfl, HA, HK1, HB⟩ := hrel; cases gk with
  | zero => exact absurd HA.out (by simp [spec_NameOf.l0])
  | succ k1 =>
   have H := HA.out; clear HA
   simp only [spec_NameOf.l0] at H
   by_cases c4 : x7_1 < (l2.length : Int)
   ·
    rw [if_pos c4] at H
    have c4b0 : decide (x7_1 < (l2.length : Int)) = true := decide_eq_true c4; clear c4
    by_cases c5 : 0 ≤ x7_1
    rotate_left
    ·
     rw [if_neg c5] at H
     exact absurd H (by simp)
    rw [if_pos c5] at H
    have c5b0 : decide (0 ≤ x7_1) = true := decide_eq_true c5; clear c5; obtain ⟨t237, A60, H⟩ := Option.bind_eq_some_iff.mp H
    try dsimp only at H
    have A6 := Aside0.mk A60; clear A60
    by_cases c7 : t237 = true
    ·
     subst c7
     rw [if_pos rfl] at H
     have H' := Aside0.mk H; clear H; have p236 : 0 ≤ (x7_1 : Int) := of_decide_eq_true y0_12; have q236 : x7_1 < (l2.length : Int) := of_decide_eq_true y0_12; obtain ⟨ad236, e236, hx236_0, hx236_1, hx236_2, hx236_3⟩ := at_T99 HR2.out x7_1 p236 q236; cases e236; replace hx236_0 := bx HB hx236_0; replace hx236_1 := bx HB hx236_1; replace hx236_2 := bx HB hx236_2; replace hx236_3 := bx HB hx236_3; replace p236 := eq_true p236; replace q236 := eq_true q236
     go_wp2_with (first | ((with_reducible refine gate_callee (f := 107) rfl ?_); refine gB (some 19) Tryz.func107 #[.agg #[.int .i64 ((rd_T99 l2 x7_1).f0), .int .i64 ((rd_T99 l2 x7_1).f1), .int .i64 ((rd_T99 l2 x7_1).f2), .int .i64 ((rd_T99 l2 x7_1).f3)]] ?_; (with_reducible refine (spec_TxOk.calls ((rd_T99 l2 x7_1).f0) ((rd_T99 l2 x7_1).f1) ((rd_T99 l2 x7_1).f2) ((rd_T99 l2 x7_1).f3) true _ A6.out).mono ?_); rintro e w8 ⟨rfl, hb⟩; refine ⟨_, rfl, ?_⟩; replace HB := bs HB hb; (try clear hb); (try clear hb2); (try clear hk); (try clear hi)))
     go_roundg k1
     case measure => have := HK1.out; omega
     case rel => exact ⟨(wrap64 (x7_1 + 1)), y0_13, H', ⟨y0_18⟩, ⟨bI HB.out⟩⟩
    replace c7 := Bool.eq_false_iff.mpr c7; subst c7
    rw [if_neg (show ¬ (false = true) by decide)] at H
    obtain rfl := Option.some.inj H; have p236 : 0 ≤ (x7_1 : Int) := of_decide_eq_true y0_12; have q236 : x7_1 < (l2.length : Int) := of_decide_eq_true y0_12; obtain ⟨ad236, e236, hx236_0, hx236_1, hx236_2, hx236_3⟩ := at_T99 HR2.out x7_1 p236 q236; cases e236; replace hx236_0 := bx HB hx236_0; replace hx236_1 := bx HB hx236_1; replace hx236_2 := bx HB hx236_2; replace hx236_3 := bx HB hx236_3; replace p236 := eq_true p236; replace q236 := eq_true q236
    go_wp2_with (first | ((with_reducible refine gate_callee (f := 107) rfl ?_); refine gB (some 19) Tryz.func107 #[.agg #[.int .i64 ((rd_T99 l2 x7_1).f0), .int .i64 ((rd_T99 l2 x7_1).f1), .int .i64 ((rd_T99 l2 x7_1).f2), .int .i64 ((rd_T99 l2 x7_1).f3)]] ?_; (with_reducible refine (spec_TxOk.calls ((rd_T99 l2 x7_1).f0) ((rd_T99 l2 x7_1).f1) ((rd_T99 l2 x7_1).f2) ((rd_T99 l2 x7_1).f3) false _ A6.out).mono ?_); rintro e w9 ⟨rfl, hb⟩; refine ⟨_, rfl, ?_⟩; replace HB := bs HB hb; (try clear hb); (try clear hb2); (try clear hk); (try clear hi)))
    go_ret
    exact ⟨y0_10, bI HB.out⟩
   rw [if_neg c4] at H
   have c4b0 : decide (x7_1 < (l2.length : Int)) = false := decide_eq_false c4; clear c4
   by_cases c10 : a0.size + 1 ≤ 9223372036854775807
   ·
    rw [if_pos c10] at H
    have c10b0 := eq_true c10; have c10b1 : decide (a0.size + 1 ≤ 9223372036854775807) = true := decide_eq_true c10
    try have c10b2 : (9223372036854775807 < a0.size + 1) = False := eq_false (Nat.not_lt.2 c10)
    obtain ⟨t238, A110, H⟩ := Option.bind_eq_some_iff.mp H
    try dsimp only at H
    have A11 := Aside0.mk A110; clear A110
    by_cases c12 : (a0 ++ (⟨#[47]⟩ : ByteArray)).size + t238.size ≤ 9223372036854775807
    rotate_left
    ·
     rw [if_neg c12] at H
     exact absurd H (by simp)
    rw [if_pos c12] at H
    have c12b0 := eq_true c12; have c12b1 : decide ((a0 ++ (⟨#[47]⟩ : ByteArray)).size + t238.size ≤ 9223372036854775807) = true := decide_eq_true c12
    try have c12b2 : (9223372036854775807 < (a0 ++ (⟨#[47]⟩ : ByteArray)).size + t238.size) = False := eq_false (Nat.not_lt.2 c12)
    (try have c12b3 : (9223372036854775807 < a0.size + 1 + t238.size) = False := eq_false (by have h_ := c12; simp only [ByteArray.size_append, ByteArray.size_extract, show (⟨#[47]⟩ : ByteArray).size = 1 from rfl] at h_; omega))
    by_cases c13 : ((a0 ++ (⟨#[47]⟩ : ByteArray)) ++ t238).size + 1 ≤ 9223372036854775807
    rotate_left
    ·
     rw [if_neg c13] at H
     exact absurd H (by simp)
    rw [if_pos c13] at H
    have c13b0 := eq_true c13; have c13b1 : decide (((a0 ++ (⟨#[47]⟩ : ByteArray)) ++ t238).size + 1 ≤ 9223372036854775807) = true := decide_eq_true c13
    try have c13b2 : (9223372036854775807 < ((a0 ++ (⟨#[47]⟩ : ByteArray)) ++ t238).size + 1) = False := eq_false (Nat.not_lt.2 c13)
    (try have c13b3 : (9223372036854775807 < a0.size + 1 + t238.size + 1) = False := eq_false (by have h_ := c13; simp only [ByteArray.size_append, ByteArray.size_extract, show (⟨#[47]⟩ : ByteArray).size = 1 from rfl] at h_; omega))
    obtain ⟨t239, A140, H⟩ := Option.bind_eq_some_iff.mp H
    try dsimp only at H
    have A14 := Aside0.mk A140; clear A140
    by_cases c15 : (((a0 ++ (⟨#[47]⟩ : ByteArray)) ++ t238) ++ (⟨#[124]⟩ : ByteArray)).size + t239.size ≤ 9223372036854775807
    rotate_left
    ·
     rw [if_neg c15] at H
     exact absurd H (by simp)
    rw [if_pos c15] at H
    have c15b0 := eq_true c15; have c15b1 : decide ((((a0 ++ (⟨#[47]⟩ : ByteArray)) ++ t238) ++ (⟨#[124]⟩ : ByteArray)).size + t239.size ≤ 9223372036854775807) = true := decide_eq_true c15
    try have c15b2 : (9223372036854775807 < (((a0 ++ (⟨#[47]⟩ : ByteArray)) ++ t238) ++ (⟨#[124]⟩ : ByteArray)).size + t239.size) = False := eq_false (Nat.not_lt.2 c15)
    (try have c15b3 : (9223372036854775807 < a0.size + 1 + t238.size + 1 + t239.size) = False := eq_false (by have h_ := c15; simp only [ByteArray.size_append, ByteArray.size_extract, show (⟨#[124]⟩ : ByteArray).size = 1 from rfl, show (⟨#[47]⟩ : ByteArray).size = 1 from rfl] at h_; omega))
    obtain ⟨t240, A160, H⟩ := Option.bind_eq_some_iff.mp H
    try dsimp only at H
    have A16 := Aside0.mk A160; clear A160
    by_cases c17 : t240 = true
    ·
     subst c17
     rw [if_pos rfl] at H
     obtain rfl := Option.some.inj H
     go_wp2_with (first | ((with_reducible refine gate_callee (f := 108) rfl ?_); refine gB (some 24) Tryz.func108 #[.int .i64 a1] ?_; (with_reducible refine (spec_Digits.calls k1 a1 t238 _ A11.out).mono ?_); rintro e w18 ⟨rfl, hb⟩; refine ⟨_, rfl, ?_⟩; replace HB := bs HB hb; (try clear hb); (try clear hb2); (try clear hk); (try clear hi)) | ((with_reducible refine gate_callee (f := 109) rfl ?_); refine gB (some 28) Tryz.func109 #[.slice A2 l2.length c2] ?_; (with_reducible refine (spec_TxsText.calls k1 _ _ l2 t239 _ ?side1 ?side2 A14.out).mono ?_); (case side1 => exact ch HR2 HB); (case side2 => exact HC2.out); rintro e w19 ⟨rfl, hb⟩; refine ⟨_, rfl, ?_⟩; replace HB := bs HB hb; (try clear hb); (try clear hb2); (try clear hk); (try clear hi)) | ((with_reducible refine gate_callee (f := 97) rfl ?_); refine gB (some 31) Tryz.func97 #[.string ((((a0 ++ (⟨#[47]⟩ : ByteArray)) ++ t238) ++ (⟨#[124]⟩ : ByteArray)) ++ t239)] ?_; (with_reducible refine (spec_NameOk.calls k1 ((((a0 ++ (⟨#[47]⟩ : ByteArray)) ++ t238) ++ (⟨#[124]⟩ : ByteArray)) ++ t239) true _ A16.out).mono ?_); rintro e w20 ⟨rfl, hb⟩; refine ⟨_, rfl, ?_⟩; replace HB := bs HB hb; (try clear hb); (try clear hb2); (try clear hk); (try clear hi)))
     go_ret
     exact ⟨y0_10, bI HB.out⟩
    replace c17 := Bool.eq_false_iff.mpr c17; subst c17
    rw [if_neg (show ¬ (false = true) by decide)] at H
    obtain rfl := Option.some.inj H
    go_wp2_with (first | ((with_reducible refine gate_callee (f := 108) rfl ?_); refine gB (some 24) Tryz.func108 #[.int .i64 a1] ?_; (with_reducible refine (spec_Digits.calls k1 a1 t238 _ A11.out).mono ?_); rintro e w21 ⟨rfl, hb⟩; refine ⟨_, rfl, ?_⟩; replace HB := bs HB hb; (try clear hb); (try clear hb2); (try clear hk); (try clear hi)) | ((with_reducible refine gate_callee (f := 109) rfl ?_); refine gB (some 28) Tryz.func109 #[.slice A2 l2.length c2] ?_; (with_reducible refine (spec_TxsText.calls k1 _ _ l2 t239 _ ?side1 ?side2 A14.out).mono ?_); (case side1 => exact ch HR2 HB); (case side2 => exact HC2.out); rintro e w22 ⟨rfl, hb⟩; refine ⟨_, rfl, ?_⟩; replace HB := bs HB hb; (try clear hb); (try clear hb2); (try clear hk); (try clear hi)) | ((with_reducible refine gate_callee (f := 97) rfl ?_); refine gB (some 31) Tryz.func97 #[.string ((((a0 ++ (⟨#[47]⟩ : ByteArray)) ++ t238) ++ (⟨#[124]⟩ : ByteArray)) ++ t239)] ?_; (with_reducible refine (spec_NameOk.calls k1 ((((a0 ++ (⟨#[47]⟩ : ByteArray)) ++ t238) ++ (⟨#[124]⟩ : ByteArray)) ++ t239) false _ A16.out).mono ?_); rintro e w23 ⟨rfl, hb⟩; refine ⟨_, rfl, ?_⟩; replace HB := bs HB hb; (try clear hb); (try clear hb2); (try clear hk); (try clear hi)))
    go_ret
    exact ⟨y0_10, bI HB.out⟩
   rw [if_neg c10] at H
   exact absurd H (by simp)

/-! ### spec_l7Copy: function 79 -/
def spec_l7Copy.f (a0_0 : Int) (a0_1 : ByteArray) (l0_2 : List Int) : Option (Int × ByteArray × List Int) := (some (([] : List Int) : List Int)).bind fun y243 => (if y243.length + l0_2.length < 17592186044416 then (some (a0_0, a0_1, (y243 ++ l0_2))) else (none))
set_option maxHeartbeats 8000000 in
set_option maxRecDepth 100000 in
theorem spec_l7Copy.calls (a0_0 : Int) (a0_1 : ByteArray) (A0_2 : Option Addr) (c0_2 : Nat) (l0_2 : List Int) (r1 : Int) (r2 : ByteArray) (r3 : List Int) (w : World) (hr0_2 : Kd.C (Kd.int .i64) w A0_2 l0_2.length l0_2) (hc0_2 : l0_2.length ≤ c0_2) (h : spec_l7Copy.f a0_0 a0_1 l0_2 = some (r1, r2, r3)) :
  Calls Tryz.prog 79 #[.agg #[.int .i64 a0_0, .string a0_1, .slice A0_2 l0_2.length c0_2]] w fun e w' => ∃ v2_ : Value, e = .returned (.agg #[.int .i64 r1, .string r2, v2_]) ∧ Kd.R (Kd.int .i64) 3 w' w.heap.size (fun _ => True) v2_ r3 ∧ Below w.heap.size w w' := by
 have hu33 := Tryz.underlying33; have HR0_2 := Aside0.mk hr0_2; have HC0_2 := Aside0.mk hc0_2; clear hr0_2 hc0_2; have HB := Aside0.mk (Below.refl w.heap.size w)
 have H : ((some (([] : List Int) : List Int)).bind fun y243 => (if y243.length + l0_2.length < 17592186044416 then (some (a0_0, a0_1, (y243 ++ l0_2))) else (none))) = some (r1, r2, r3) := h
 clear h; obtain ⟨y243, hy243⟩ : ∃ y_ : List Int, y_ = (([] : List Int)) := ⟨_, rfl⟩
 replace H : (if y243.length + l0_2.length < 17592186044416 then (some (a0_0, a0_1, (y243 ++ l0_2))) else (none)) = some (r1, r2, r3) := by first | (rw [hy243]; with_reducible exact H) | (have H2_ := (Option.bind_some _ _).symm.trans H; rw [hy243]; with_reducible exact H2_) | (have H2_ := (Option.bind_some _ _).symm.trans H; with_reducible exact H2_) | with_reducible exact H | (rw [hy243]; exact H) | exact H
 have Ny243 := Aside0.mk hy243; clear hy243
 by_cases c2 : y243.length + l0_2.length < 17592186044416
 ·
  rw [if_pos c2] at H
  have LMc2 := Aside0.mk c2; clear c2; obtain ⟨y246, hy246⟩ : ∃ y_ : List Int, y_ = (y243 ++ l0_2) := ⟨_, rfl⟩
  replace H : (some (a0_0, a0_1, y246)) = some (r1, r2, r3) := by first | (rw [hy246]; with_reducible exact H) | (have H2_ := (Option.bind_some _ _).symm.trans H; rw [hy246]; with_reducible exact H2_) | (have H2_ := (Option.bind_some _ _).symm.trans H; with_reducible exact H2_) | with_reducible exact H | (rw [hy246]; exact H) | exact H
  have Ny246 := Aside0.mk hy246; clear hy246
  simp only [Option.some.injEq, Prod.mk.injEq] at H
  obtain ⟨rfl, rfl, rfl⟩ := H
  go_enter Tryz.func79, Tryz.ntmps79
  go_wp2_with (first | ((with_reducible refine gd 1 ?_); refine bA 1 #[.int .i64 a0_0, .string a0_1, .slice A0_2 l0_2.length c0_2] 33 ?_; intro gb241 hg w3 hbox hb; have BK241 := Aside0.mk (hbox); have GW241 := bg hg HB; have GJ241 := gi GW241; have GE241 := GW241; replace HB := bs HB hb; clear hb hbox hg) | ((with_reducible refine gd 2 ?_); refine bA 2 #[.int .i64 0, .string (⟨#[]⟩ : ByteArray), .slice none 0 0] 33 ?_; intro gb242 hg w4 hbox hb; have BK242 := Aside0.mk (hbox); have GW242 := bg hg HB; have GJ242 := gi GW242; have GE242 := GW242; replace HB := bs HB hb; have NB241_242 := b1 BK241 hg; have NI241_242 := ni NB241_242; have NB242_241 := b2 BK241 hg; have NI242_241 := ni NB242_241; replace BK241 := bk BK241 hb; clear hb hbox hg) | ((with_reducible refine gate_dst (N := 3) rfl ?_); refine Kd.R_lit (Kd.int .i64) _ 3 ?hg (N := 3) ?hd (xs := ([] : List Int)) (inner := []) (ok := fun _ => True) (okp := fun _ => True) ?hr ?hp (fun _ hk => hk) trivial (Below.refl _ _) (Nat.le_refl _) (by simp) ?_; (case hd => rfl); (case hg => rfl); (case hr => first | (go_simp; done) | (go_simp; rfl)); (case hp => exact (Reps.none _ _)); intro v244 w5 ho6 hb hg_ hnew_; clear hg_ hnew_; (first | rw [← Ny243.out] at ho6 | (simp only [Int.reduceToNat] at ho6; rw [← Ny243.out] at ho6)); have HO245 := Aside0.mk (Kd.R_lower ho6 (below_size (bI HB.out))); replace BK241 := bk BK241 hb; replace BK242 := bk BK242 hb; replace HB := bs HB hb; clear hb ho6; have hnb7 := NB241_242.out; have hnc7 := NB242_241.out; obtain ⟨hcz8_0, hcz8_1, hcz8_2, hfz8_0, hfz8_1, hfz8_2⟩ := cs3 BK241) | ((with_reducible refine gate_builtin (b := .append) (xs := #[.tmp 3, .tmp 5]) rfl ?_); at_builtin; refine Kd.R_append_rows (Kd.int .i64) (w0 := w) w.heap.size rfl (.tmp 3) (.tmp 5) 24 3 (.int .i64 0) 8 rfl Tryz.underlying24 info3 rfl (by decide) (by omega) v244 y243 l0_2 _ _ _ (fun _ => True) (fun _ => False) rfl rfl ?aO ?aR (fun _ _ h => h) (fun _ h => h.elim) ?aF ?aB ?aS ?aL ?_; (case aR => exact ch HR0_2 HB); (case aB => exact (bI HB.out)); (case aF => exact (fun _ _ => trivial)); (case aO => exact (rI HO245.out)); (case aS => exact (below_size (bI HB.out))); (case aL => have := LMc2.out; omega); intro v247 w9 ho hb hg hat; rw [← Ny246.out] at ho; have n0_ := bn BK241 hg (Kd.R_ne HO245.out BK241.out (by decide)); have n1_ := bn BK242 hg (Kd.R_ne HO245.out BK242.out (by decide)); have n2_ := Aside0.mk (hb); have n3_ := Aside0.mk (ho); clear BK241; clear BK242; clear HB; clear HO245; have BK241 := n0_; have BK242 := n1_; have HB := n2_; have HO248 := n3_; clear n0_ n1_ n2_ n3_; clear ho hb hg hat; obtain ⟨Ao10, co10, eo10⟩ := Kd.R_slice HO248.out; subst eo10; obtain ⟨hcz11_0, hcz11_1, hcz11_2, hfz11_0, hfz11_1, hfz11_2⟩ := cs3 BK241; obtain ⟨hcz12_0, hcz12_1, hcz12_2, hfz12_0, hfz12_1, hfz12_2⟩ := cs3 BK242))
  refine bodyPost_ret (results_cell_row rfl _ _ gb242 33 #[.int .i64 a0_0, .string a0_1, .slice Ao10 y246.length co10] (0, 0) _ rfl (pI BK242) Tryz.underlying33 rfl (by kernel_rfl)) rfl ?_
  exact ⟨_, y0_10, by (with_reducible repeat (first | apply Kd.R_alloc | apply Kd.R_drewN | apply Kd.R_drew)); exact Kd.R_mono (Kd.R_far (p := ⟨gb242, 2, none⟩) (Kd.R_far (p := ⟨gb242, 1, none⟩) (Kd.R_far (p := ⟨gb242, 0, none⟩) (Kd.R_far (p := ⟨gb241, 2, none⟩) (Kd.R_types (Kd.R_types HO248.out BK241.out (by decide)) BK242.out (by decide)) (fun _ hk => hk.1.2) (.slice Ao10 y246.length co10)) (fun _ hk => hk.2) (.int .i64 a0_0)) (fun _ hk => hk.2) (.string a0_1)) (fun _ hk => hk.2) (.slice Ao10 y246.length co10)) (fun _ hk => trivial), bI HB.out⟩
 rw [if_neg c2] at H
 exact absurd H (by simp)

/-! ### spec_ConfOk: function 55 -/
def spec_ConfOk.f (a0_0 : Int) (a0_1 : Int) : Option (Bool) := (spec_l1In.f a0_0 4 7).bind fun t250 => (if t250 = true then ((spec_l1In.f a0_1 1 6).bind fun t251 => (some t251)) else (some false))
set_option maxHeartbeats 8000000 in
set_option maxRecDepth 100000 in
theorem spec_ConfOk.calls (a0_0 : Int) (a0_1 : Int) (r : Bool) (w : World) (h : spec_ConfOk.f a0_0 a0_1 = some r) :
  Calls Tryz.prog 55 #[.agg #[.int .i64 a0_0, .int .i64 a0_1]] w fun e w' => e = .returned (.bool r) ∧ Below w.heap.size w w' := by
 have hu38 := Tryz.underlying38; have HB := Aside0.mk (Below.refl w.heap.size w)
 have H : ((spec_l1In.f a0_0 4 7).bind fun t250 => (if t250 = true then ((spec_l1In.f a0_1 1 6).bind fun t251 => (some t251)) else (some false))) = some r := h
 clear h; obtain ⟨t250, A20, H⟩ := Option.bind_eq_some_iff.mp H
 try dsimp only at H
 have A2 := Aside0.mk A20; clear A20
 by_cases c3 : t250 = true
 ·
  subst c3
  rw [if_pos rfl] at H
  obtain ⟨t251, A40, H⟩ := Option.bind_eq_some_iff.mp H
  try dsimp only at H
  have A4 := Aside0.mk A40; clear A40; obtain rfl := Option.some.inj H
  go_enter Tryz.func55, Tryz.ntmps55
  go_wp2_with (first | ((with_reducible refine gd 1 ?_); refine bA 1 #[.int .i64 a0_0, .int .i64 a0_1] 38 ?_; intro gb249 hg w5 hbox hb; have BK249 := Aside0.mk (hbox); have GW249 := bg hg HB; have GJ249 := gi GW249; have GE249 := GW249; replace HB := bs HB hb; clear hb hbox hg; obtain ⟨hcz6_0, hcz6_1, hfz6_0, hfz6_1⟩ := cs2 BK249) | ((with_reducible refine gate_callee (f := 100) rfl ?_); refine gB (some 5) Tryz.func100 #[.int .i64 a0_0, .int .i64 4, .int .i64 7] ?_; (with_reducible refine (spec_l1In.calls a0_0 4 7 true _ A2.out).mono ?_); rintro e w' ⟨rfl, ⟨nd, rfl⟩⟩; refine ⟨_, rfl, ?_⟩) | (go_at_call 100; (with_reducible refine (spec_l1In.calls a0_1 1 6 t251 _ A4.out).mono ?_); rintro e w' ⟨rfl, ⟨nd, rfl⟩⟩))
  go_ret
  exact ⟨y0_10, bI HB.out⟩
 replace c3 := Bool.eq_false_iff.mpr c3; subst c3
 rw [if_neg (show ¬ (false = true) by decide)] at H
 obtain rfl := Option.some.inj H
 go_enter Tryz.func55, Tryz.ntmps55
 go_wp2_with (first | ((with_reducible refine gd 1 ?_); refine bA 1 #[.int .i64 a0_0, .int .i64 a0_1] 38 ?_; intro gb249 hg w7 hbox hb; have BK249 := Aside0.mk (hbox); have GW249 := bg hg HB; have GJ249 := gi GW249; have GE249 := GW249; replace HB := bs HB hb; clear hb hbox hg; obtain ⟨hcz8_0, hcz8_1, hfz8_0, hfz8_1⟩ := cs2 BK249) | ((with_reducible refine gate_callee (f := 100) rfl ?_); refine gB (some 5) Tryz.func100 #[.int .i64 a0_0, .int .i64 4, .int .i64 7] ?_; (with_reducible refine (spec_l1In.calls a0_0 4 7 false _ A2.out).mono ?_); rintro e w' ⟨rfl, ⟨nd, rfl⟩⟩; refine ⟨_, rfl, ?_⟩))
 go_ret
 exact ⟨y0_10, bI HB.out⟩

/-! ### spec_Quorum: function 53 -/
def spec_Quorum.f (a0_0 : Int) (a0_1 : Int) : Option (Int) := (spec_ConfOk.f a0_0 a0_1).bind fun t253 => (if t253 = true then (some (wrap64 (a0_0 - (wrap64 (Int.tdiv (wrap64 (a0_0 - 1)) 3))))) else (some 0))
set_option maxHeartbeats 8000000 in
set_option maxRecDepth 100000 in
theorem spec_Quorum.calls (a0_0 : Int) (a0_1 : Int) (r : Int) (w : World) (h : spec_Quorum.f a0_0 a0_1 = some r) :
  Calls Tryz.prog 53 #[.agg #[.int .i64 a0_0, .int .i64 a0_1]] w fun e w' => e = .returned (.int .i64 r) ∧ Below w.heap.size w w' := by
 have hu38 := Tryz.underlying38; have HB := Aside0.mk (Below.refl w.heap.size w)
 have H : ((spec_ConfOk.f a0_0 a0_1).bind fun t253 => (if t253 = true then (some (wrap64 (a0_0 - (wrap64 (Int.tdiv (wrap64 (a0_0 - 1)) 3))))) else (some 0))) = some r := h
 clear h; obtain ⟨t253, A20, H⟩ := Option.bind_eq_some_iff.mp H
 try dsimp only at H
 have A2 := Aside0.mk A20; clear A20
 by_cases c3 : t253 = true
 ·
  subst c3
  rw [if_pos rfl] at H
  obtain rfl := Option.some.inj H
  go_enter Tryz.func53, Tryz.ntmps53
  go_wp2_with (first | ((with_reducible refine gd 1 ?_); refine bA 1 #[.int .i64 a0_0, .int .i64 a0_1] 38 ?_; intro gb252 hg w4 hbox hb; have BK252 := Aside0.mk (hbox); have GW252 := bg hg HB; have GJ252 := gi GW252; have GE252 := GW252; replace HB := bs HB hb; clear hb hbox hg; obtain ⟨hcz5_0, hcz5_1, hfz5_0, hfz5_1⟩ := cs2 BK252) | ((with_reducible refine gate_callee (f := 55) rfl ?_); refine gB (some 4) Tryz.func55 #[.agg #[.int .i64 a0_0, .int .i64 a0_1]] ?_; (with_reducible refine (spec_ConfOk.calls a0_0 a0_1 true _ A2.out).mono ?_); rintro e w6 ⟨rfl, hb⟩; refine ⟨_, rfl, ?_⟩; replace BK252 := bk BK252 hb; replace HB := bs HB hb; (try clear hb); (try clear hb2); (try clear hk); (try clear hi); obtain ⟨hcz7_0, hcz7_1, hfz7_0, hfz7_1⟩ := cs2 BK252))
  go_ret
  exact ⟨y0_10, bI HB.out⟩
 replace c3 := Bool.eq_false_iff.mpr c3; subst c3
 rw [if_neg (show ¬ (false = true) by decide)] at H
 obtain rfl := Option.some.inj H
 go_enter Tryz.func53, Tryz.ntmps53
 go_wp2_with (first | ((with_reducible refine gd 1 ?_); refine bA 1 #[.int .i64 a0_0, .int .i64 a0_1] 38 ?_; intro gb252 hg w8 hbox hb; have BK252 := Aside0.mk (hbox); have GW252 := bg hg HB; have GJ252 := gi GW252; have GE252 := GW252; replace HB := bs HB hb; clear hb hbox hg; obtain ⟨hcz9_0, hcz9_1, hfz9_0, hfz9_1⟩ := cs2 BK252) | ((with_reducible refine gate_callee (f := 55) rfl ?_); refine gB (some 4) Tryz.func55 #[.agg #[.int .i64 a0_0, .int .i64 a0_1]] ?_; (with_reducible refine (spec_ConfOk.calls a0_0 a0_1 false _ A2.out).mono ?_); rintro e w10 ⟨rfl, hb⟩; refine ⟨_, rfl, ?_⟩; replace BK252 := bk BK252 hb; replace HB := bs HB hb; (try clear hb); (try clear hb2); (try clear hk); (try clear hi)))
 go_ret
 exact ⟨y0_10, bI HB.out⟩

/-! ### spec_SetOk: function 98 -/
def spec_SetOk.l0 : Nat → Int → List Int → Int → Option (Bool)
 | 0, _, _, _ => none
 | k + 1, x0, x1, x5 => if x5 < (x1.length : Int) then (if 0 ≤ x5 then (if (rd x1 x5) < 0 then (some false) else (if (rd x1 x5) ≥ x0 then (some false) else (if x5 > 0 then (if 0 ≤ (wrap64 (x5 - 1)) then (if (wrap64 (x5 - 1)) < (x1.length : Int) then (if (rd x1 (wrap64 (x5 - 1))) ≥ (rd x1 x5) then (some false) else (spec_SetOk.l0 k x0 x1 (wrap64 (x5 + 1)))) else (none)) else (none)) else (spec_SetOk.l0 k x0 x1 (wrap64 (x5 + 1)))))) else (none)) else (some true)
def spec_SetOk.f (k : Nat) (a0 : Int) (l1 : List Int) : Option (Bool) := spec_SetOk.l0 k a0 l1 0
theorem spec_SetOk.mono_l : ∀ k, (∀ y0 y1 y2, LeO (spec_SetOk.l0 k y0 y1 y2) (spec_SetOk.l0 (k + 1) y0 y1 y2))
 | 0 => fun _ _ _ r h => by simp [spec_SetOk.l0] at h
 | k + 1 => by
  have ih0 := spec_SetOk.mono_l k
  intro y0 y1 y2
  unfold spec_SetOk.l0
  repeat' first | (with_reducible exact ih0 _ _ _) | (with_reducible exact LeO.refl _) | (with_reducible exact LeO.none _) | (with_reducible refine LeO.ite ?_ ?_) | (with_reducible refine LeO.bind ?_ (fun _ => ?_))
theorem spec_SetOk.mono : ∀ a0 a1 k, LeO (spec_SetOk.f k a0 a1) (spec_SetOk.f (k + 1) a0 a1) := by
 intro a0 a1 k
 have ih0 := spec_SetOk.mono_l k
 unfold spec_SetOk.f
 repeat' first | (with_reducible exact ih0 _ _ _) | (with_reducible exact LeO.refl _) | (with_reducible exact LeO.none _) | (with_reducible refine LeO.ite ?_ ?_) | (with_reducible refine LeO.bind ?_ (fun _ => ?_))
set_option maxHeartbeats 8000000 in
set_option maxRecDepth 100000 in
theorem spec_SetOk.calls (k : Nat) (a0 : Int) (A1 : Option Addr) (c1 : Nat) (l1 : List Int) (r : Bool) (w : World) (hr1 : Kd.C (Kd.int .i64) w A1 l1.length l1) (hc1 : l1.length ≤ c1) (h : spec_SetOk.f k a0 l1 = some r) :
  Calls Tryz.prog 98 #[.int .i64 a0, .slice A1 l1.length c1] w fun e w' => e = .returned (.bool r) ∧ Drawn0 w w' := by
 have HR1 := Aside0.mk hr1; have HC1 := Aside0.mk hc1; clear hr1 hc1; have H : (spec_SetOk.l0 k a0 l1 0) = some r := h; clear h; have H' := Aside0.mk H; clear H
 go_enter Tryz.func98, Tryz.ntmps98
 go_wp2
 repeat (go_quiet (fail); try go_wp2)
 go_loopg [5] k (fun kq v5 w' => ∃ (x5_1 : Int), v5 = .int .i64 x5_1 ∧ Aside0 (spec_SetOk.l0 kq a0 l1 x5_1 = some r) ∧ Aside0 (kq ≤ k) ∧ Drawn0 w w')
 case atStart => exact ⟨(0), y0_13, H', ⟨Nat.le_refl _⟩, y0_11⟩
 case round =>
  clear H'
  try clear c1
  try clear p2
  obtain ⟨x5_1, rfl, HA, HK1, ⟨m1, rfl⟩⟩ := hrel; cases gk with
  | zero => exact absurd HA.out (by simp [spec_SetOk.l0])
  | succ k1 =>
   have H := HA.out; clear HA
   simp only [spec_SetOk.l0] at H
   by_cases c3 : x5_1 < (l1.length : Int)
   ·
    rw [if_pos c3] at H
    have c3b0 : decide (x5_1 < (l1.length : Int)) = true := decide_eq_true c3; clear c3
    by_cases c4 : 0 ≤ x5_1
    rotate_left
    ·
     rw [if_neg c4] at H
     exact absurd H (by simp)
    rw [if_pos c4] at H
    have c4b0 : decide (0 ≤ x5_1) = true := decide_eq_true c4; clear c4
    by_cases c5 : (rd l1 x5_1) < 0
    ·
     rw [if_pos c5] at H
     have c5b0 : decide ((rd l1 x5_1) < 0) = true := decide_eq_true c5; clear c5; obtain rfl := Option.some.inj H; have p254 : 0 ≤ (x5_1 : Int) := of_decide_eq_true y0_12; have q254 : x5_1 < (l1.length : Int) := of_decide_eq_true y0_12; obtain ⟨ad254, e254, hx254_0⟩ := Kd.at_int HR1.out x5_1 p254 q254; cases e254; replace p254 := eq_true p254; replace q254 := eq_true q254
     go_wp2
     repeat (go_quiet (fail); try go_wp2)
     go_ret
     exact ⟨y0_13, y0_11⟩
    rw [if_neg c5] at H
    have c5b0 : decide ((rd l1 x5_1) < 0) = false := decide_eq_false c5; clear c5
    by_cases c6 : (rd l1 x5_1) ≥ a0
    ·
     rw [if_pos c6] at H
     have c6b0 : decide (a0 ≤ (rd l1 x5_1)) = true := decide_eq_true c6; clear c6; obtain rfl := Option.some.inj H; have p254 : 0 ≤ (x5_1 : Int) := of_decide_eq_true y0_12; have q254 : x5_1 < (l1.length : Int) := of_decide_eq_true y0_12; obtain ⟨ad254, e254, hx254_0⟩ := Kd.at_int HR1.out x5_1 p254 q254; cases e254; replace p254 := eq_true p254; replace q254 := eq_true q254; have p255 : 0 ≤ (x5_1 : Int) := of_decide_eq_true y0_12; have q255 : x5_1 < (l1.length : Int) := of_decide_eq_true y0_12; obtain ⟨ad255, e255, hx255_0⟩ := Kd.at_int HR1.out x5_1 p255 q255
     obtain rfl : ad254 = ad255 := (by injection e255)
     replace p255 := eq_true p255; replace q255 := eq_true q255
     go_wp2
     repeat (go_quiet (fail); try go_wp2)
     go_ret
     exact ⟨y0_13, y0_11⟩
    rw [if_neg c6] at H
    have c6b0 : decide (a0 ≤ (rd l1 x5_1)) = false := decide_eq_false c6; clear c6
    by_cases c7 : x5_1 > 0
    ·
     rw [if_pos c7] at H
     have c7b0 : decide (0 < x5_1) = true := decide_eq_true c7; clear c7; obtain ⟨ji8, hji8⟩ : ∃ j_ : Int, (wrap64 (x5_1 - 1)) = j_ := ⟨_, rfl⟩
     replace H : (if 0 ≤ (ji8) then (if (ji8) < (l1.length : Int) then (if (rd l1 (ji8)) ≥ (rd l1 x5_1) then (some false) else (spec_SetOk.l0 k1 a0 l1 (wrap64 (x5_1 + 1)))) else (none)) else (none)) = some r := by first | (rw [hji8] at H; exact H) | (simp only [hji8] at H ⊢; exact H)
     have hji8w : (IntKind.i64.wrap (x5_1 - 1)) = ji8 := (i64_w _).trans hji8
     by_cases c9 : 0 ≤ (ji8)
     rotate_left
     ·
      rw [if_neg c9] at H
      exact absurd H (by simp)
     rw [if_pos c9] at H
     have c9b0 : decide (0 ≤ (ji8)) = true := decide_eq_true c9; clear c9
     by_cases c10 : (ji8) < (l1.length : Int)
     rotate_left
     ·
      rw [if_neg c10] at H
      exact absurd H (by simp)
     rw [if_pos c10] at H
     have c10b0 : decide ((ji8) < (l1.length : Int)) = true := decide_eq_true c10; clear c10
     by_cases c11 : (rd l1 (ji8)) ≥ (rd l1 x5_1)
     ·
      rw [if_pos c11] at H
      have c11b0 : decide ((rd l1 x5_1) ≤ (rd l1 (ji8))) = true := decide_eq_true c11; clear c11; obtain rfl := Option.some.inj H; have p254 : 0 ≤ (x5_1 : Int) := of_decide_eq_true y0_12; have q254 : x5_1 < (l1.length : Int) := of_decide_eq_true y0_12; obtain ⟨ad254, e254, hx254_0⟩ := Kd.at_int HR1.out x5_1 p254 q254; cases e254; replace p254 := eq_true p254; replace q254 := eq_true q254; have p255 : 0 ≤ (x5_1 : Int) := of_decide_eq_true y0_12; have q255 : x5_1 < (l1.length : Int) := of_decide_eq_true y0_12; obtain ⟨ad255, e255, hx255_0⟩ := Kd.at_int HR1.out x5_1 p255 q255
      obtain rfl : ad254 = ad255 := (by injection e255)
      replace p255 := eq_true p255; replace q255 := eq_true q255; have p256 : 0 ≤ ((ji8) : Int) := of_decide_eq_true y0_12; have q256 : (ji8) < (l1.length : Int) := of_decide_eq_true y0_12; obtain ⟨ad256, e256, hx256_0⟩ := Kd.at_int HR1.out (ji8) p256 q256
      obtain rfl : ad254 = ad256 := (by injection e256)
      replace p256 := eq_true p256; replace q256 := eq_true q256; have p257 : 0 ≤ (x5_1 : Int) := of_decide_eq_true y0_12; have q257 : x5_1 < (l1.length : Int) := of_decide_eq_true y0_12; obtain ⟨ad257, e257, hx257_0⟩ := Kd.at_int HR1.out x5_1 p257 q257
      obtain rfl : ad254 = ad257 := (by injection e257)
      replace p257 := eq_true p257; replace q257 := eq_true q257
      go_wp2
      repeat (go_quiet (fail); try go_wp2)
      go_ret
      exact ⟨by first | rfl | (simp; done) | (simp only [← hji8] <;> (first | rfl | simp)) | (simp [*]; done), y0_11⟩
     rw [if_neg c11] at H
     have c11b0 : decide ((rd l1 x5_1) ≤ (rd l1 (ji8))) = false := decide_eq_false c11; clear c11; have H' := Aside0.mk H; clear H; have p254 : 0 ≤ (x5_1 : Int) := of_decide_eq_true y0_12; have q254 : x5_1 < (l1.length : Int) := of_decide_eq_true y0_12; obtain ⟨ad254, e254, hx254_0⟩ := Kd.at_int HR1.out x5_1 p254 q254; cases e254; replace p254 := eq_true p254; replace q254 := eq_true q254; have p255 : 0 ≤ (x5_1 : Int) := of_decide_eq_true y0_12; have q255 : x5_1 < (l1.length : Int) := of_decide_eq_true y0_12; obtain ⟨ad255, e255, hx255_0⟩ := Kd.at_int HR1.out x5_1 p255 q255
     obtain rfl : ad254 = ad255 := (by injection e255)
     replace p255 := eq_true p255; replace q255 := eq_true q255; have p256 : 0 ≤ ((ji8) : Int) := of_decide_eq_true y0_12; have q256 : (ji8) < (l1.length : Int) := of_decide_eq_true y0_12; obtain ⟨ad256, e256, hx256_0⟩ := Kd.at_int HR1.out (ji8) p256 q256
     obtain rfl : ad254 = ad256 := (by injection e256)
     replace p256 := eq_true p256; replace q256 := eq_true q256; have p257 : 0 ≤ (x5_1 : Int) := of_decide_eq_true y0_12; have q257 : x5_1 < (l1.length : Int) := of_decide_eq_true y0_12; obtain ⟨ad257, e257, hx257_0⟩ := Kd.at_int HR1.out x5_1 p257 q257
     obtain rfl : ad254 = ad257 := (by injection e257)
     replace p257 := eq_true p257; replace q257 := eq_true q257
     go_wp2
     repeat (go_quiet (fail); try go_wp2)
     go_roundg k1
     case measure => have := HK1.out; omega
     case rel => exact ⟨(wrap64 (x5_1 + 1)), y0_13, H', ⟨y0_18⟩, y0_11⟩
    rw [if_neg c7] at H
    have c7b0 : decide (0 < x5_1) = false := decide_eq_false c7; clear c7; have H' := Aside0.mk H; clear H; have p254 : 0 ≤ (x5_1 : Int) := of_decide_eq_true y0_12; have q254 : x5_1 < (l1.length : Int) := of_decide_eq_true y0_12; obtain ⟨ad254, e254, hx254_0⟩ := Kd.at_int HR1.out x5_1 p254 q254; cases e254; replace p254 := eq_true p254; replace q254 := eq_true q254; have p255 : 0 ≤ (x5_1 : Int) := of_decide_eq_true y0_12; have q255 : x5_1 < (l1.length : Int) := of_decide_eq_true y0_12; obtain ⟨ad255, e255, hx255_0⟩ := Kd.at_int HR1.out x5_1 p255 q255
    obtain rfl : ad254 = ad255 := (by injection e255)
    replace p255 := eq_true p255; replace q255 := eq_true q255
    go_wp2
    repeat (go_quiet (fail); try go_wp2)
    go_roundg k1
    case measure => have := HK1.out; omega
    case rel => exact ⟨(wrap64 (x5_1 + 1)), y0_13, H', ⟨y0_18⟩, y0_11⟩
   rw [if_neg c3] at H
   have c3b0 : decide (x5_1 < (l1.length : Int)) = false := decide_eq_false c3; clear c3; obtain rfl := Option.some.inj H
   go_wp2
   repeat (go_quiet (fail); try go_wp2)
   go_ret
   exact ⟨y0_13, y0_11⟩

end Go.Proofs.YtemjmefacifdeaaGreatDoor.PFnExactBlockNew
