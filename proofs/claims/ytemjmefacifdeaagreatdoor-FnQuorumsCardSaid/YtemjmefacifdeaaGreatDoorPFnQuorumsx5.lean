-- By a program of this session, out of the translation (the print of the kit, with turns of its own). Lean checks it.
import Derived.Test.YtemjmefacifdeaaGreatDoorPFnQuorumsx0
import Derived.Test.YtemjmefacifdeaaGreatDoorPFnQuorumsx2
import Derived.Test.YtemjmefacifdeaaGreatDoorPFnQuorumsx3
import Derived.Test.YtemjmefacifdeaaGreatDoorPFnQuorumsx4
namespace Go.Proofs.YtemjmefacifdeaaGreatDoor.PFnQuorums
open Go.RowKit Go.Proofs.YtemjmefacifdeaaGreatDoorW.PrintWords Go.Proofs.YtemjmefacifdeaaGreatDoorW.PrintLast Go.Proofs.YtemjmefacifdeaaGreatDoorW.PrintMore
attribute [local go_sem] max2_int min2_int max_two min_two max_three min_three max_four min_four   -- for this text's walks alone
attribute [local go_sem] cell_in frozen_in
set_option synthInstance.maxSize 1000000
set_option synthInstance.maxHeartbeats 2000000
set_option linter.unusedVariables false
set_option linter.unusedSimpArgs false

/-! ### spec_NameOf: function 78 -/
def spec_NameOf.l0 : Nat → ByteArray → Int → List (S99) → Int → Option (ByteArray)
 | 0, _, _, _, _ => none
 | k + 1, x0, x1, x2, x7 => if x7 < (x2.length : Int) then (if 0 ≤ x7 then ((spec_TxOk.f ((rd_T99 x2 x7).f0) ((rd_T99 x2 x7).f1) ((rd_T99 x2 x7).f2) ((rd_T99 x2 x7).f3)).bind fun t239 => (if t239 = true then (spec_NameOf.l0 k x0 x1 x2 (wrap64 (x7 + 1))) else (some (⟨#[]⟩ : ByteArray)))) else (none)) else (if x0.size + 1 ≤ 9223372036854775807 then ((spec_Digits.f k x1).bind fun t240 => (if (x0 ++ (⟨#[47]⟩ : ByteArray)).size + t240.size ≤ 9223372036854775807 then (if ((x0 ++ (⟨#[47]⟩ : ByteArray)) ++ t240).size + 1 ≤ 9223372036854775807 then ((spec_TxsText.f k x2).bind fun t241 => (if (((x0 ++ (⟨#[47]⟩ : ByteArray)) ++ t240) ++ (⟨#[124]⟩ : ByteArray)).size + t241.size ≤ 9223372036854775807 then ((spec_NameOk.f k ((((x0 ++ (⟨#[47]⟩ : ByteArray)) ++ t240) ++ (⟨#[124]⟩ : ByteArray)) ++ t241)).bind fun t242 => (if t242 = true then (some ((((x0 ++ (⟨#[47]⟩ : ByteArray)) ++ t240) ++ (⟨#[124]⟩ : ByteArray)) ++ t241)) else (some (⟨#[]⟩ : ByteArray)))) else (none))) else (none)) else (none))) else (none))
def spec_NameOf.f (k : Nat) (a0 : ByteArray) (a1 : Int) (l2 : List (S99)) : Option (ByteArray) := spec_NameOf.l0 k a0 a1 l2 0
theorem spec_NameOf.mono_l : ∀ k, (∀ y0 y1 y2 y3, LeO (spec_NameOf.l0 k y0 y1 y2 y3) (spec_NameOf.l0 (k + 1) y0 y1 y2 y3))
 | 0 => fun _ _ _ _ r h => by simp [spec_NameOf.l0] at h
 | k + 1 => by
  have ih0 := spec_NameOf.mono_l k
  intro y0 y1 y2 y3
  unfold spec_NameOf.l0
  repeat' first | (with_reducible exact ih0 _ _ _ _) | (with_reducible exact spec_Digits.mono _ _) | (with_reducible exact spec_NameOk.mono _ _) | (with_reducible exact spec_TxsText.mono _ _) | (with_reducible exact LeO.refl _) | (with_reducible exact LeO.none _) | (with_reducible refine LeO.ite ?_ ?_) | (with_reducible refine LeO.bind ?_ (fun _ => ?_))
theorem spec_NameOf.mono : ∀ a0 a1 a2 k, LeO (spec_NameOf.f k a0 a1 a2) (spec_NameOf.f (k + 1) a0 a1 a2) := by
 intro a0 a1 a2 k
 have ih0 := spec_NameOf.mono_l k
 unfold spec_NameOf.f
 repeat' first | (with_reducible exact ih0 _ _ _ _) | (with_reducible exact spec_Digits.mono _ _) | (with_reducible exact spec_NameOk.mono _ _) | (with_reducible exact spec_TxsText.mono _ _) | (with_reducible exact LeO.refl _) | (with_reducible exact LeO.none _) | (with_reducible refine LeO.ite ?_ ?_) | (with_reducible refine LeO.bind ?_ (fun _ => ?_))
set_option maxHeartbeats 8000000 in
set_option maxRecDepth 100000 in
theorem spec_NameOf.calls (k : Nat) (a0 : ByteArray) (a1 : Int) (A2 : Option Addr) (c2 : Nat) (l2 : List (S99)) (r : ByteArray) (w : World) (hr2 : Kd.C k99 w A2 l2.length l2) (hc2 : l2.length ≤ c2) (h : spec_NameOf.f k a0 a1 l2 = some r) :
  Calls Tryz.prog 78 #[.string a0, .int .i64 a1, .slice A2 l2.length c2] w fun e w' => e = .returned (.string r) ∧ Below w.heap.size w w' := by
 have hu99 := Tryz.underlying99; have HR2 := Aside0.mk hr2; have HC2 := Aside0.mk hc2; clear hr2 hc2; have HB := Aside0.mk (Below.refl w.heap.size w); have H := h; unfold spec_NameOf.f at H; clear h; have H' := Aside0.mk H; clear H
 go_enter Tryz.func78, Tryz.ntmps78
 go_wp2
 go_loopg [7] k (fun kq v7 w' => ∃ (x7_1 : Int), v7 = .int .i64 x7_1 ∧ Aside0 (spec_NameOf.l0 kq a0 a1 l2 x7_1 = some r) ∧ Aside0 (kq ≤ k) ∧ Aside0 (Below w.heap.size w w'))
 case atStart => exact ⟨(0), y0_15, H', ⟨Nat.le_refl _⟩, ⟨bI HB.out⟩⟩
 case round =>
  clear H'
  try clear c2
  try clear p2
  obtain ⟨x7_1, rfl, HA, HK1, HB⟩ := hrel; cases gk with
  | zero => exact absurd HA.out (by simp [spec_NameOf.l0])
  | succ k1 =>
   have H := HA.out; clear HA
   simp only [spec_NameOf.l0] at H
   by_cases c4 : x7_1 < (l2.length : Int)
   ·
    rw [if_pos c4] at H
    have c4b0 : decide (x7_1 < (l2.length : Int)) = true := decide_eq_true c4; clear c4
    by_cases c5 : 0 ≤ x7_1
    rotate_left
    ·
     rw [if_neg c5] at H
     exact absurd H (by simp)
    rw [if_pos c5] at H
    have c5b0 : decide (0 ≤ x7_1) = true := decide_eq_true c5; clear c5; obtain ⟨t239, A6, H⟩ := oB H; (try dsimp only at H)
    by_cases c7 : t239 = true
    ·
     subst c7
     rw [if_pos rfl] at H
     have H' := Aside0.mk H; clear H; have p238 : 0 ≤ (x7_1 : Int) := of_decide_eq_true y0_14; have q238 : x7_1 < (l2.length : Int) := of_decide_eq_true y0_14; obtain ⟨ad238, e238, hx238_0, hx238_1, hx238_2, hx238_3⟩ := at_T99 HR2.out x7_1 p238 q238; cases e238; replace hx238_0 := bx HB hx238_0; replace hx238_1 := bx HB hx238_1; replace hx238_2 := bx HB hx238_2; replace hx238_3 := bx HB hx238_3; replace p238 := eq_true p238; replace q238 := eq_true q238
     go_wp2_with (first | ((with_reducible refine gate_callee (f := 107) rfl ?_); refine gB (some 19) Tryz.func107 #[.agg #[.int .i64 ((rd_T99 l2 x7_1).f0), .int .i64 ((rd_T99 l2 x7_1).f1), .int .i64 ((rd_T99 l2 x7_1).f2), .int .i64 ((rd_T99 l2 x7_1).f3)]] ?_; (with_reducible refine (spec_TxOk.calls ((rd_T99 l2 x7_1).f0) ((rd_T99 l2 x7_1).f1) ((rd_T99 l2 x7_1).f2) ((rd_T99 l2 x7_1).f3) true _ A6.out).mono ?_); rintro e w8 ⟨rfl, hb⟩; refine ⟨_, rfl, ?_⟩; replace HB := bs HB hb; (try clear hb); (try clear hb2); (try clear hk); (try clear hi)))
     go_roundg k1
     case measure => have := HK1.out; omega
     case rel => exact ⟨(wrap64 (x7_1 + 1)), y0_15, H', ⟨y0_17⟩, ⟨bI HB.out⟩⟩
    replace c7 := Bool.eq_false_iff.mpr c7; subst c7
    rw [if_neg (show ¬ (false = true) by decide)] at H
    obtain rfl := Option.some.inj H; have p238 : 0 ≤ (x7_1 : Int) := of_decide_eq_true y0_14; have q238 : x7_1 < (l2.length : Int) := of_decide_eq_true y0_14; obtain ⟨ad238, e238, hx238_0, hx238_1, hx238_2, hx238_3⟩ := at_T99 HR2.out x7_1 p238 q238; cases e238; replace hx238_0 := bx HB hx238_0; replace hx238_1 := bx HB hx238_1; replace hx238_2 := bx HB hx238_2; replace hx238_3 := bx HB hx238_3; replace p238 := eq_true p238; replace q238 := eq_true q238
    go_wp2_with (first | ((with_reducible refine gate_callee (f := 107) rfl ?_); refine gB (some 19) Tryz.func107 #[.agg #[.int .i64 ((rd_T99 l2 x7_1).f0), .int .i64 ((rd_T99 l2 x7_1).f1), .int .i64 ((rd_T99 l2 x7_1).f2), .int .i64 ((rd_T99 l2 x7_1).f3)]] ?_; (with_reducible refine (spec_TxOk.calls ((rd_T99 l2 x7_1).f0) ((rd_T99 l2 x7_1).f1) ((rd_T99 l2 x7_1).f2) ((rd_T99 l2 x7_1).f3) false _ A6.out).mono ?_); rintro e w9 ⟨rfl, hb⟩; refine ⟨_, rfl, ?_⟩; replace HB := bs HB hb; (try clear hb); (try clear hb2); (try clear hk); (try clear hi)))
    go_ret
    exact ⟨y0_11, bI HB.out⟩
   rw [if_neg c4] at H
   have c4b0 : decide (x7_1 < (l2.length : Int)) = false := decide_eq_false c4; clear c4
   by_cases c10 : a0.size + 1 ≤ 9223372036854775807
   ·
    rw [if_pos c10] at H
    have c10b0 := eq_true c10; have c10b1 : decide (a0.size + 1 ≤ 9223372036854775807) = true := decide_eq_true c10
    try have c10b2 : (9223372036854775807 < a0.size + 1) = False := eq_false (Nat.not_lt.2 c10)
    obtain ⟨t240, A11, H⟩ := oB H; (try dsimp only at H)
    by_cases c12 : (a0 ++ (⟨#[47]⟩ : ByteArray)).size + t240.size ≤ 9223372036854775807
    rotate_left
    ·
     rw [if_neg c12] at H
     exact absurd H (by simp)
    rw [if_pos c12] at H
    have c12b0 := eq_true c12; have c12b1 : decide ((a0 ++ (⟨#[47]⟩ : ByteArray)).size + t240.size ≤ 9223372036854775807) = true := decide_eq_true c12
    try have c12b2 : (9223372036854775807 < (a0 ++ (⟨#[47]⟩ : ByteArray)).size + t240.size) = False := eq_false (Nat.not_lt.2 c12)
    (try have c12b3 : (9223372036854775807 < a0.size + 1 + t240.size) = False := eq_false (by have h_ := c12; simp only [ByteArray.size_append, ByteArray.size_extract, show (⟨#[47]⟩ : ByteArray).size = 1 from rfl] at h_; omega))
    by_cases c13 : ((a0 ++ (⟨#[47]⟩ : ByteArray)) ++ t240).size + 1 ≤ 9223372036854775807
    rotate_left
    ·
     rw [if_neg c13] at H
     exact absurd H (by simp)
    rw [if_pos c13] at H
    have c13b0 := eq_true c13; have c13b1 : decide (((a0 ++ (⟨#[47]⟩ : ByteArray)) ++ t240).size + 1 ≤ 9223372036854775807) = true := decide_eq_true c13
    try have c13b2 : (9223372036854775807 < ((a0 ++ (⟨#[47]⟩ : ByteArray)) ++ t240).size + 1) = False := eq_false (Nat.not_lt.2 c13)
    (try have c13b3 : (9223372036854775807 < a0.size + 1 + t240.size + 1) = False := eq_false (by have h_ := c13; simp only [ByteArray.size_append, ByteArray.size_extract, show (⟨#[47]⟩ : ByteArray).size = 1 from rfl] at h_; omega))
    obtain ⟨t241, A14, H⟩ := oB H; (try dsimp only at H)
    by_cases c15 : (((a0 ++ (⟨#[47]⟩ : ByteArray)) ++ t240) ++ (⟨#[124]⟩ : ByteArray)).size + t241.size ≤ 9223372036854775807
    rotate_left
    ·
     rw [if_neg c15] at H
     exact absurd H (by simp)
    rw [if_pos c15] at H
    have c15b0 := eq_true c15; have c15b1 : decide ((((a0 ++ (⟨#[47]⟩ : ByteArray)) ++ t240) ++ (⟨#[124]⟩ : ByteArray)).size + t241.size ≤ 9223372036854775807) = true := decide_eq_true c15
    try have c15b2 : (9223372036854775807 < (((a0 ++ (⟨#[47]⟩ : ByteArray)) ++ t240) ++ (⟨#[124]⟩ : ByteArray)).size + t241.size) = False := eq_false (Nat.not_lt.2 c15)
    (try have c15b3 : (9223372036854775807 < a0.size + 1 + t240.size + 1 + t241.size) = False := eq_false (by have h_ := c15; simp only [ByteArray.size_append, ByteArray.size_extract, show (⟨#[124]⟩ : ByteArray).size = 1 from rfl, show (⟨#[47]⟩ : ByteArray).size = 1 from rfl] at h_; omega))
    obtain ⟨t242, A16, H⟩ := oB H; (try dsimp only at H)
    by_cases c17 : t242 = true
    ·
     subst c17
     rw [if_pos rfl] at H
     obtain rfl := Option.some.inj H
     go_wp2_with (first | ((with_reducible refine gate_callee (f := 108) rfl ?_); refine gB (some 24) Tryz.func108 #[.int .i64 a1] ?_; (with_reducible refine (spec_Digits.calls k1 a1 t240 _ A11.out).mono ?_); rintro e w18 ⟨rfl, hb⟩; refine ⟨_, rfl, ?_⟩; replace HB := bs HB hb; (try clear hb); (try clear hb2); (try clear hk); (try clear hi)) | ((with_reducible refine gate_callee (f := 109) rfl ?_); refine gB (some 28) Tryz.func109 #[.slice A2 l2.length c2] ?_; (with_reducible refine (spec_TxsText.calls k1 _ _ l2 t241 _ ?side1 ?side2 A14.out).mono ?_); (case side1 => exact ch HR2 HB); (case side2 => exact HC2.out); rintro e w19 ⟨rfl, hb⟩; refine ⟨_, rfl, ?_⟩; replace HB := bs HB hb; (try clear hb); (try clear hb2); (try clear hk); (try clear hi)) | ((with_reducible refine gate_callee (f := 97) rfl ?_); refine gB (some 31) Tryz.func97 #[.string ((((a0 ++ (⟨#[47]⟩ : ByteArray)) ++ t240) ++ (⟨#[124]⟩ : ByteArray)) ++ t241)] ?_; (with_reducible refine (spec_NameOk.calls k1 ((((a0 ++ (⟨#[47]⟩ : ByteArray)) ++ t240) ++ (⟨#[124]⟩ : ByteArray)) ++ t241) true _ A16.out).mono ?_); rintro e w20 ⟨rfl, hb⟩; refine ⟨_, rfl, ?_⟩; replace HB := bs HB hb; (try clear hb); (try clear hb2); (try clear hk); (try clear hi)))
     go_ret
     exact ⟨y0_11, bI HB.out⟩
    replace c17 := Bool.eq_false_iff.mpr c17; subst c17
    rw [if_neg (show ¬ (false = true) by decide)] at H
    obtain rfl := Option.some.inj H
    go_wp2_with (first | ((with_reducible refine gate_callee (f := 108) rfl ?_); refine gB (some 24) Tryz.func108 #[.int .i64 a1] ?_; (with_reducible refine (spec_Digits.calls k1 a1 t240 _ A11.out).mono ?_); rintro e w21 ⟨rfl, hb⟩; refine ⟨_, rfl, ?_⟩; replace HB := bs HB hb; (try clear hb); (try clear hb2); (try clear hk); (try clear hi)) | ((with_reducible refine gate_callee (f := 109) rfl ?_); refine gB (some 28) Tryz.func109 #[.slice A2 l2.length c2] ?_; (with_reducible refine (spec_TxsText.calls k1 _ _ l2 t241 _ ?side1 ?side2 A14.out).mono ?_); (case side1 => exact ch HR2 HB); (case side2 => exact HC2.out); rintro e w22 ⟨rfl, hb⟩; refine ⟨_, rfl, ?_⟩; replace HB := bs HB hb; (try clear hb); (try clear hb2); (try clear hk); (try clear hi)) | ((with_reducible refine gate_callee (f := 97) rfl ?_); refine gB (some 31) Tryz.func97 #[.string ((((a0 ++ (⟨#[47]⟩ : ByteArray)) ++ t240) ++ (⟨#[124]⟩ : ByteArray)) ++ t241)] ?_; (with_reducible refine (spec_NameOk.calls k1 ((((a0 ++ (⟨#[47]⟩ : ByteArray)) ++ t240) ++ (⟨#[124]⟩ : ByteArray)) ++ t241) false _ A16.out).mono ?_); rintro e w23 ⟨rfl, hb⟩; refine ⟨_, rfl, ?_⟩; replace HB := bs HB hb; (try clear hb); (try clear hb2); (try clear hk); (try clear hi)))
    go_ret
    exact ⟨y0_11, bI HB.out⟩
   rw [if_neg c10] at H
   exact absurd H (by simp)

/-! ### spec_l1PickInt: function 116 -/
def spec_l1PickInt.f (s0_0 : List Int) (s0_1 : Int) (s0_2 : Int) (l1 : List Int) : Option (Int × Int × Int) := (spec_l1Below.f s0_0 s0_1 s0_2 (l1.length : Int)).bind fun bt243 => (if 0 ≤ bt243.1 then (if bt243.1 < (l1.length : Int) then (some (rd l1 bt243.1, bt243.2.1, bt243.2.2)) else (none)) else (none))
set_option maxHeartbeats 8000000 in
set_option maxRecDepth 100000 in
theorem spec_l1PickInt.calls (g : Nat) (s0_0 : List Int) (s0_1 : Int) (s0_2 : Int) (A1 : Option Addr) (c1 : Nat) (l1 : List Int) (r1 : Int) (r2 : Int) (r3 : Int) (w0 w : World) (hI : IsS124 w0 w g s0_0 s0_1 s0_2) (hB : Below w0.heap.size w0 w) (hr1 : Kd.C (Kd.int .i64) w A1 l1.length l1) (hc1 : l1.length ≤ c1) (hf1 : ∀ ad, A1 = some ad → 0 < l1.length → ad.block ≠ g) (h : spec_l1PickInt.f s0_0 s0_1 s0_2 l1 = some (r1, r2, r3)) :
  Calls Tryz.prog 116 #[.pointer (some ⟨g, 0, none⟩), .slice A1 l1.length c1] w fun e w' => e = .returned (.int .i64 r1) ∧ IsS124 w0 w' g s0_0 r2 r3 ∧ Below w0.heap.size w0 w' ∧ KeepBut w w' g none := by
 have HR1 := Aside0.mk hr1; have HC1 := Aside0.mk hc1; clear hr1 hc1; have HI0 := Aside0.mk hI; have HK := Aside0.mk (KeepBut.refl w g none); have HL := Aside0.mk hB.size; clear hI; have HW0 := Aside0.mk hB.size; have HB := Aside0.mk hB; clear hB
 have H := h; unfold spec_l1PickInt.f at H
 clear h; obtain ⟨⟨t243, t244, t245⟩, A3, H⟩ := oB H; (try dsimp only at H)
 by_cases c4 : 0 ≤ t243
 ·
  rw [if_pos c4] at H
  have c4b0 : decide (0 ≤ t243) = true := decide_eq_true c4; clear c4
  by_cases c5 : t243 < (l1.length : Int)
  rotate_left
  ·
   rw [if_neg c5] at H
   exact absurd H (by simp)
  rw [if_pos c5] at H
  have c5b0 : decide (t243 < (l1.length : Int)) = true := decide_eq_true c5; clear c5
  simp only [Option.some.injEq, Prod.mk.injEq] at H
  obtain ⟨rfl, rfl, rfl⟩ := H
  go_enter Tryz.func116, Tryz.ntmps116
  go_wp2_with (first | ((with_reducible refine gate_callee (f := 114) rfl ?_); refine gB (some 9) Tryz.func114 #[.pointer (some ⟨g, 0, none⟩), .int .i64 (l1.length : Int)] ?_; (with_reducible refine (spec_l1Below.calls g s0_0 s0_1 s0_2 (l1.length : Int) t243 t244 t245 w0 _ ?side1 ?side2 A3.out).mono ?_); (case side1 => repeat (first | (with_reducible first | exact HI0.out | apply IsS124.alloc | apply IsS124.drewN | apply IsS124.drew | apply IsS124.set_1 | apply IsS124.set_2) | exact HI0.out)); (case side2 => repeat (first | (with_reducible first | exact HB.out | apply below_alloc | apply pw_below_drewN | apply below_drew1 | refine below_set ?_ (IsS124.ge HI0.out)) | exact HB.out)); rintro e w6 ⟨rfl, hi, hb, hk⟩; refine ⟨_, rfl, ?_⟩; replace HK := kt HK hk; replace HB := Aside0.mk (hb); replace HI0 := Aside0.mk (hi); (try clear hb); (try clear hb2); (try clear hk); (try clear hi); have p246 : 0 ≤ (t243 : Int) := of_decide_eq_true y0_14; have q246 : t243 < (l1.length : Int) := of_decide_eq_true y0_14; obtain ⟨ad246, e246, hx246_0⟩ := Kd.at_int HR1.out t243 p246 q246; cases e246; replace hx246_0 := keep_cell HK.out hx246_0 (by first | (rw [add_block]; exact hf1 _ rfl (by omega)) | exact hf1 _ rfl (by omega) | exact hf1 ad246 rfl (by omega)); replace p246 := eq_true p246; replace q246 := eq_true q246))
  go_ret
  exact ⟨y0_11, y0_4, y0_5, hI HK.out⟩
 rw [if_neg c4] at H
 exact absurd H (by simp)

/-! ### spec_l2DrawRight: function 140 -/
def spec_l2DrawRight.f (s0_0 : List Int) (s0_1 : Int) (s0_2 : Int) : Option (Int × Int × Int × Int × Int × Int) := (spec_l1Below.f s0_0 s0_1 s0_2 4).bind fun bt248 => ((spec_l1Below.f s0_0 bt248.2.1 bt248.2.2 4).bind fun bt251 => ((spec_l1PickInt.f s0_0 bt251.2.1 bt251.2.2 (([0, 5, 60, 100, 1000] : List Int))).bind fun bt257 => ((spec_l1Below.f s0_0 bt257.2.1 bt257.2.2 3).bind fun bt260 => (some (bt248.1, bt251.1, bt257.1, bt260.1, bt260.2.1, bt260.2.2)))))
set_option maxHeartbeats 8000000 in
set_option maxRecDepth 100000 in
theorem spec_l2DrawRight.calls (g : Nat) (s0_0 : List Int) (s0_1 : Int) (s0_2 : Int) (r1 : Int) (r2 : Int) (r3 : Int) (r4 : Int) (r5 : Int) (r6 : Int) (w0 w : World) (hI : IsS124 w0 w g s0_0 s0_1 s0_2) (hB : Below w0.heap.size w0 w) (h : spec_l2DrawRight.f s0_0 s0_1 s0_2 = some (r1, r2, r3, r4, r5, r6)) :
  Calls Tryz.prog 140 #[.pointer (some ⟨g, 0, none⟩)] w fun e w' => e = .returned (.agg #[.int .i64 r1, .int .i64 r2, .int .i64 r3, .int .i64 r4]) ∧ IsS124 w0 w' g s0_0 r5 r6 ∧ Below w0.heap.size w0 w' ∧ KeepBut w w' g none := by
 have hu99 := Tryz.underlying99; have HI0 := Aside0.mk hI; have HK := Aside0.mk (KeepBut.refl w g none); have HL := Aside0.mk hB.size; clear hI; have HW0 := Aside0.mk hB.size; have HB := Aside0.mk hB; clear hB
 have H := h; unfold spec_l2DrawRight.f at H
 clear h; obtain ⟨⟨t248, t249, t250⟩, A2, H⟩ := oB H; (try dsimp only at H); obtain ⟨⟨t251, t252, t253⟩, A3, H⟩ := oB H; (try dsimp only at H); obtain ⟨y254, hy254⟩ : ∃ y_ : List Int, y_ = (([0, 5, 60, 100, 1000] : List Int)) := ⟨_, rfl⟩
 replace H : ((spec_l1PickInt.f s0_0 t252 t253 y254).bind fun bt257 => ((spec_l1Below.f s0_0 bt257.2.1 bt257.2.2 3).bind fun bt260 => (some (t248, t251, bt257.1, bt260.1, bt260.2.1, bt260.2.2)))) = some (r1, r2, r3, r4, r5, r6) := by first | (rw [hy254]; with_reducible exact H) | (have H2_ := (Option.bind_some _ _).symm.trans H; rw [hy254]; with_reducible exact H2_) | (have H2_ := (Option.bind_some _ _).symm.trans H; with_reducible exact H2_) | with_reducible exact H | (rw [hy254]; exact H) | exact H
 have Ny254 := Aside0.mk hy254; clear hy254; obtain ⟨⟨t257, t258, t259⟩, A4, H⟩ := oB H; (try dsimp only at H); obtain ⟨⟨t260, t261, t262⟩, A5, H⟩ := oB H; (try dsimp only at H)
 simp only [Option.some.injEq, Prod.mk.injEq] at H
 obtain ⟨rfl, rfl, rfl, rfl, rfl, rfl⟩ := H; have i0_ := iB124 HI0; have i1_ : LB w0 w := ⟨HB.out⟩
 go_enter Tryz.func140, Tryz.ntmps140
 go_wp2_with (first | ((with_reducible refine gd 2 ?_); refine bL 2 #[.int .i64 0, .int .i64 0, .int .i64 0, .int .i64 0] 99 ?_; intro gb247 w6 _ _ _) | ((with_reducible refine gate_callee (f := 114) rfl ?_); refine gK (some 4) Tryz.func114 (spec_l1Below.calls (hI := iS124 HI0) (hB := UpW.out) (w := _) (h := A2.out)) ?_; intro w7 _ _ _ HI8) | ((with_reducible refine gate_callee (f := 114) rfl ?_); refine gK (some 6) Tryz.func114 (spec_l1Below.calls (hI := iS124 HI8) (hB := UpW.out) (w := _) (h := A3.out)) ?_; intro w9 _ _ _ HI10) | ((with_reducible refine gate_dst (N := 8) rfl ?_); refine lL 8 3 (Kd.int .i64) rfl Ny254 ?_; intro Ao255 co255 w11 _ HO256) | ((with_reducible refine gate_callee (f := 116) rfl ?_); refine gK (some 9) Tryz.func116 (spec_l1PickInt.calls (hI := iS124 HI10) (hB := UpW.out) (hr1 := rC HO256) (hc1 := rL HO256) (hf1 := fS HO256) (w := _) (h := A4.out)) ?_; intro w12 _ _ _ HI13) | ((with_reducible refine gate_callee (f := 114) rfl ?_); refine gK (some 11) Tryz.func114 (spec_l1Below.calls (hI := iS124 HI13) (hB := UpW.out) (w := _) (h := A5.out)) ?_; intro w14 _ _ _ HI15))
 refine bodyPost_ret (results_cell_row rfl _ _ gb247 99 #[.int .i64 t248, .int .i64 t251, .int .i64 t257, .int .i64 t260] (0, 0) _ rfl xB Tryz.underlying99 rfl (by kernel_rfl)) rfl ?_
 exact ⟨y0_15, iS124 HI15, UpW.out, UpB.out⟩

/-! ### spec_l5DrawRight: function 124 -/
mutual
def spec_l5DrawRight.l0 : Nat → ByteArray → Int → Int → List Int → Int → Int → Option (ByteArray × Int × Int)
 | 0, _, _, _, _, _, _ => none
 | k + 1, x3, x4, x5, x1000, x1001, x1002 => (spec_l1Below.f x1000 x1001 x1002 6).bind fun bt263 => (if x5 < bt263.1 then ((spec_l1Below.f x1000 bt263.2.1 bt263.2.2 4).bind fun bt266 => (spec_l5DrawRight.l1 k x3 (wrap64 ((wrap64 (x4 + 1)) + (wrap64 (Int.tdiv bt266.1 3)))) x5 (([] : List (S99))) 0 x1000 bt266.2.1 bt266.2.2)) else (some (x3, bt263.2.1, bt263.2.2)))
def spec_l5DrawRight.l1 : Nat → ByteArray → Int → Int → List (S99) → Int → List Int → Int → Int → Option (ByteArray × Int × Int)
 | 0, _, _, _, _, _, _, _, _ => none
 | k + 1, x3, x4, x5, x6, x7, x1000, x1001, x1002 => (spec_l1Below.f x1000 x1001 x1002 3).bind fun bt272 => (if x7 < bt272.1 then ((spec_l2DrawRight.f x1000 bt272.2.1 bt272.2.2).bind fun bt275 => (if x6.length < 4398046511104 then (spec_l5DrawRight.l1 k x3 x4 x5 (x6 ++ [(⟨bt275.1, bt275.2.1, bt275.2.2.1, bt275.2.2.2.1⟩ : S99)]) (wrap64 (x7 + 1)) x1000 bt275.2.2.2.2.1 bt275.2.2.2.2.2) else (none))) else ((spec_NameOf.f k x3 x4 x6).bind fun t284 => (spec_l5DrawRight.l0 k t284 x4 (wrap64 (x5 + 1)) x1000 bt272.2.1 bt272.2.2)))
end
def spec_l5DrawRight.f (k : Nat) (s0_0 : List Int) (s0_1 : Int) (s0_2 : Int) : Option (ByteArray × Int × Int) := spec_l5DrawRight.l0 k (⟨#[]⟩ : ByteArray) 0 0 s0_0 s0_1 s0_2
theorem spec_l5DrawRight.mono_l : ∀ k, (∀ y0 y1 y2 y3 y4 y5, LeO (spec_l5DrawRight.l0 k y0 y1 y2 y3 y4 y5) (spec_l5DrawRight.l0 (k + 1) y0 y1 y2 y3 y4 y5)) ∧ (∀ y0 y1 y2 y3 y4 y5 y6 y7, LeO (spec_l5DrawRight.l1 k y0 y1 y2 y3 y4 y5 y6 y7) (spec_l5DrawRight.l1 (k + 1) y0 y1 y2 y3 y4 y5 y6 y7))
 | 0 => ⟨fun _ _ _ _ _ _ r h => by simp [spec_l5DrawRight.l0] at h, fun _ _ _ _ _ _ _ _ r h => by simp [spec_l5DrawRight.l1] at h⟩
 | k + 1 => by
  obtain ⟨ih0, ih1⟩ := spec_l5DrawRight.mono_l k
  refine ⟨?_, ?_⟩
  ·
   intro y0 y1 y2 y3 y4 y5
   unfold spec_l5DrawRight.l0
   repeat' first | (with_reducible exact ih0 _ _ _ _ _ _) | (with_reducible exact ih1 _ _ _ _ _ _ _ _) | (with_reducible exact spec_NameOf.mono _ _ _ _) | (with_reducible exact LeO.refl _) | (with_reducible exact LeO.none _) | (with_reducible refine LeO.ite ?_ ?_) | (with_reducible refine LeO.bind ?_ (fun _ => ?_))
  intro y0 y1 y2 y3 y4 y5 y6 y7
  unfold spec_l5DrawRight.l1
  repeat' first | (with_reducible exact ih0 _ _ _ _ _ _) | (with_reducible exact ih1 _ _ _ _ _ _ _ _) | (with_reducible exact spec_NameOf.mono _ _ _ _) | (with_reducible exact LeO.refl _) | (with_reducible exact LeO.none _) | (with_reducible refine LeO.ite ?_ ?_) | (with_reducible refine LeO.bind ?_ (fun _ => ?_))
theorem spec_l5DrawRight.mono : ∀ a0 a1 a2 k, LeO (spec_l5DrawRight.f k a0 a1 a2) (spec_l5DrawRight.f (k + 1) a0 a1 a2) := by
 intro a0 a1 a2 k
 obtain ⟨ih0, ih1⟩ := spec_l5DrawRight.mono_l k
 unfold spec_l5DrawRight.f
 repeat' first | (with_reducible exact ih0 _ _ _ _ _ _) | (with_reducible exact ih1 _ _ _ _ _ _ _ _) | (with_reducible exact spec_NameOf.mono _ _ _ _) | (with_reducible exact LeO.refl _) | (with_reducible exact LeO.none _) | (with_reducible refine LeO.ite ?_ ?_) | (with_reducible refine LeO.bind ?_ (fun _ => ?_))
set_option maxHeartbeats 8000000 in
set_option maxRecDepth 100000 in
theorem spec_l5DrawRight.calls (k : Nat) (g : Nat) (s0_0 : List Int) (s0_1 : Int) (s0_2 : Int) (r1 : ByteArray) (r2 : Int) (r3 : Int) (w0 w : World) (hI : IsS124 w0 w g s0_0 s0_1 s0_2) (hB : Below w0.heap.size w0 w) (h : spec_l5DrawRight.f k s0_0 s0_1 s0_2 = some (r1, r2, r3)) :
  Calls Tryz.prog 124 #[.pointer (some ⟨g, 0, none⟩)] w fun e w' => e = .returned (.string r1) ∧ IsS124 w0 w' g s0_0 r2 r3 ∧ Below w0.heap.size w0 w' ∧ KeepBut w w' g none := by
 have HI0 := Aside0.mk hI; have HK := Aside0.mk (KeepBut.refl w g none); have HL := Aside0.mk hB.size; clear hI; have HW0 := Aside0.mk hB.size; have HB := Aside0.mk hB; clear hB; have H := h; unfold spec_l5DrawRight.f at H; clear h; have i0_ := iB124 HI0; have i1_ : LB w0 w := ⟨HB.out⟩
 go_enter Tryz.func124, Tryz.ntmps124
 have H' := Aside0.mk H; clear H
 go_wp2
 refine wC ?_; intro w2 _
 go_loopg [3, 4, 5] k (fun kq v3 v4 v5 w' => ∃ (x3_1 : ByteArray) (x4_1 : Int) (x5_1 : Int) (x1001_1 : Int) (x1002_1 : Int), v3 = .string x3_1 ∧ v4 = .int .i64 x4_1 ∧ v5 = .int .i64 x5_1 ∧ Aside0 (spec_l5DrawRight.l0 kq x3_1 x4_1 x5_1 s0_0 x1001_1 x1002_1 = some (r1, r2, r3)) ∧ Aside0 (kq ≤ k) ∧ StB g w' 124 ∧ Aside0 (IsS124 w0 w' g s0_0 x1001_1 x1002_1) ∧ KL w2 [g] w' ∧ LB w0 w' ∧ KS w g w')
 case atStart => exact ⟨((⟨#[]⟩ : ByteArray)), (0), (0), (s0_1), (s0_2), y0_15, y0_15, y0_15, H', ⟨Nat.le_refl _⟩, iB124 ⟨iS124 HI0⟩, ⟨iS124 HI0⟩, ⟨UpL.out⟩, ⟨UpW.out⟩, ⟨UpB.out⟩⟩
 case round =>
  clear H'; obtain ⟨x3_1, x4_1, x5_1, x1001_1, x1002_1, rfl, rfl, rfl, HA, HK1, _, HI3, _, _, _⟩ := hrel; cases gk with
  | zero => exact absurd HA.out (by simp [spec_l5DrawRight.l0])
  | succ k1 =>
   have H := HA.out; clear HA
   simp only [spec_l5DrawRight.l0] at H
   obtain ⟨⟨t263, t264, t265⟩, A4, H⟩ := oB H; (try dsimp only at H); have H' := Aside0.mk H; clear H
   go_upto_if 11 with (first | ((with_reducible refine gate_callee (f := 114) rfl ?_); refine gK (some 10) Tryz.func114 (spec_l1Below.calls (hI := iS124 HI3) (hB := UpW.out) (w := _) (h := A4.out)) ?_; intro w5 _ _ _ HI6))
   have H := H'.out; clear H'
   by_cases c7 : x5_1 < t263
   ·
    rw [if_pos c7] at H
    have c7b0 : decide (x5_1 < t263) = true := decide_eq_true c7; clear c7
    (first | rw [c7b0] | (simp only [i64_w, i32_w]; rw [c7b0]) | skip)
    obtain ⟨⟨t266, t267, t268⟩, A8, H⟩ := oB H; (try dsimp only at H); obtain ⟨y269, hy269⟩ : ∃ y_ : List (S99), y_ = (([] : List (S99))) := ⟨_, rfl⟩
    replace H : (spec_l5DrawRight.l1 k1 x3_1 (wrap64 ((wrap64 (x4_1 + 1)) + (wrap64 (Int.tdiv t266 3)))) x5_1 y269 0 s0_0 t267 t268) = some (r1, r2, r3) := by first | (rw [hy269]; with_reducible exact H) | (have H2_ := (Option.bind_some _ _).symm.trans H; rw [hy269]; with_reducible exact H2_) | (have H2_ := (Option.bind_some _ _).symm.trans H; with_reducible exact H2_) | with_reducible exact H | (rw [hy269]; exact H) | exact H
    have Ny269 := Aside0.mk hy269; clear hy269; have H' := Aside0.mk H; clear H
    go_wp2_with (first | ((with_reducible refine gate_callee (f := 114) rfl ?_); refine gK (some 17) Tryz.func114 (spec_l1Below.calls (hI := iS124 HI6) (hB := UpW.out) (w := _) (h := A8.out)) ?_; intro w9 _ _ _ HI10) | ((with_reducible refine gate_dst (N := 20) rfl ?_); refine lE 20 99 k99 Ny269 ?_; intro Ao270 co270 w11 _ HO271))
    refine wC ?_; intro w12 _
    go_loopg [6, 7] k1 (fun kq v6 v7 w' => ∃ (x6_2 : List (S99)) (x7_2 : Int) (x1001_2 : Int) (x1002_2 : Int) (Ao6_2 : Option Addr) (co6_2 : Nat), v6 = .slice Ao6_2 x6_2.length co6_2 ∧ v7 = .int .i64 x7_2 ∧ Aside0 (spec_l5DrawRight.l1 kq x3_1 (wrap64 ((wrap64 (x4_1 + 1)) + (wrap64 (Int.tdiv t266 3)))) x5_1 x6_2 x7_2 s0_0 x1001_2 x1002_2 = some (r1, r2, r3)) ∧ Aside0 (kq ≤ k1) ∧ Aside0 (Kd.R k99 99 w' w9.heap.size (iv w9 w') (.slice Ao6_2 x6_2.length co6_2) x6_2) ∧ StB g w' 124 ∧ Aside0 (IsS124 w0 w' g s0_0 x1001_2 x1002_2) ∧ KT w12 [g] w9 _ k99 99 w' ∧ LB w0 w' ∧ KS w g w')
    case atStart => exact ⟨(y269), (0), (t267), (t268), (Ao270), (co270), y0_15, y0_15, H', ⟨Nat.le_refl _⟩, ⟨rJ HO271⟩, iB124 ⟨iS124 HI10⟩, ⟨iS124 HI10⟩, ⟨UpT.out⟩, ⟨UpW.out⟩, ⟨UpB.out⟩⟩
    case round =>
     clear H'; obtain ⟨x6_2, x7_2, x1001_2, x1002_2, Ao6_2, co6_2, rfl, rfl, HA, HK2, HO_6, _, HI13, _, _, _⟩ := hrel; have HO_20 := HO271; cases gk with
     | zero => exact absurd HA.out (by simp [spec_l5DrawRight.l1])
     | succ k2 =>
      have H := HA.out; clear HA
      simp only [spec_l5DrawRight.l1] at H
      obtain ⟨⟨t272, t273, t274⟩, A14, H⟩ := oB H; (try dsimp only at H); have H' := Aside0.mk H; clear H
      go_upto_if 24 with (first | ((with_reducible refine gate_callee (f := 114) rfl ?_); refine gK (some 23) Tryz.func114 (spec_l1Below.calls (hI := iS124 HI13) (hB := UpW.out) (w := _) (h := A14.out)) ?_; intro w15 _ _ _ HI16))
      have H := H'.out; clear H'
      by_cases c17 : x7_2 < t272
      ·
       rw [if_pos c17] at H
       have c17b0 : decide (x7_2 < t272) = true := decide_eq_true c17; clear c17
       (first | rw [c17b0] | (simp only [i64_w, i32_w]; rw [c17b0]) | skip)
       obtain ⟨⟨t275, t276, t277, t278, t279, t280⟩, A18, H⟩ := oB H; (try dsimp only at H)
       by_cases c19 : x6_2.length < 4398046511104
       rotate_left
       ·
        rw [if_neg c19] at H
        exact absurd H (by simp)
       rw [if_pos c19] at H
       have LMc19 := Aside0.mk c19; clear c19; obtain ⟨y281, hy281⟩ : ∃ y_ : List (S99), y_ = (x6_2 ++ [(⟨t275, t276, t277, t278⟩ : S99)]) := ⟨_, rfl⟩
       replace H : (spec_l5DrawRight.l1 k2 x3_1 (wrap64 ((wrap64 (x4_1 + 1)) + (wrap64 (Int.tdiv t266 3)))) x5_1 y281 (wrap64 (x7_2 + 1)) s0_0 t279 t280) = some (r1, r2, r3) := by first | (rw [hy281]; with_reducible exact H) | (have H2_ := (Option.bind_some _ _).symm.trans H; rw [hy281]; with_reducible exact H2_) | (have H2_ := (Option.bind_some _ _).symm.trans H; with_reducible exact H2_) | with_reducible exact H | (rw [hy281]; exact H) | exact H
       have Ny281 := Aside0.mk hy281; clear hy281; have H' := Aside0.mk H; clear H
       go_wp2_with (first | ((with_reducible refine gate_callee (f := 140) rfl ?_); refine gK (some 29) Tryz.func140 (spec_l2DrawRight.calls (hI := iS124 HI16) (hB := UpW.out) (w := _) (h := A18.out)) ?_; intro w20 _ _ _ HI21) | ((with_reducible refine gate_builtin (b := .append) (xs := #[.tmp 27, .tmp 30]) rfl ?_); at_builtin; refine gA k99 (.tmp 27) (.tmp 30) 59 99 (.agg #[(.int .i64 0), (.int .i64 0), (.int .i64 0), (.int .i64 0)]) 32 (⟨t275, t276, t277, t278⟩ : S99) [.int .i64 t275, .int .i64 t276, .int .i64 t277, .int .i64 t278] w9 Ny281 HO_6 (k99_mkM _ _ _ (⟨t275, t276, t277, t278⟩ : S99)) (by have := LMc19.out; omega) ?_ (ht := Tryz.underlying59) (hinfo := info99); intro Ao282 co282 w22 _ _ HO283))
       go_roundg k2
       case measure => have := HK1.out; have := HK2.out; omega
       case rel => exact ⟨(y281), (wrap64 (x7_2 + 1)), (t279), (t280), (Ao282), (co282), y0_15, y0_15, H', ⟨by have := HK1.out; have := HK2.out; omega⟩, ⟨rJ HO283⟩, iB124 ⟨iS124 HI21⟩, ⟨iS124 HI21⟩, ⟨UpT.out⟩, ⟨UpW.out⟩, ⟨UpB.out⟩⟩
      rw [if_neg c17] at H
      have c17b0 : decide (x7_2 < t272) = false := decide_eq_false c17; clear c17
      (first | rw [c17b0] | (simp only [i64_w, i32_w]; rw [c17b0]) | skip)
      obtain ⟨t284, A23, H⟩ := oB H; (try dsimp only at H); have H' := Aside0.mk H; clear H
      go_wp2_with (first | ((with_reducible refine gate_callee (f := 78) rfl ?_); refine gC (some 35) Tryz.func78 (spec_NameOf.calls (hr2 := rC HO_6) (hc2 := rL HO_6) (w := _) (h := A23.out)) ?_; intro w24 _))
      go_roundg k2
      case measure => have := HK1.out; have := HK2.out; omega
      case rel => exact ⟨(t284), ((wrap64 ((wrap64 (x4_1 + 1)) + (wrap64 (Int.tdiv t266 3))))), (wrap64 (x5_1 + 1)), (t273), (t274), y0_15, y0_15, y0_15, H', ⟨by have := HK1.out; have := HK2.out; omega⟩, iB124 ⟨iS124 HI16⟩, ⟨iS124 HI16⟩, ⟨UpL.out⟩, ⟨UpW.out⟩, ⟨UpB.out⟩⟩
   rw [if_neg c7] at H
   have c7b0 : decide (x5_1 < t263) = false := decide_eq_false c7; clear c7
   (first | rw [c7b0] | (simp only [i64_w, i32_w]; rw [c7b0]) | skip)
   simp only [Option.some.injEq, Prod.mk.injEq] at H
   obtain ⟨rfl, rfl, rfl⟩ := H
   go_wp2
   go_ret
   exact ⟨y0_15, iS124 HI6, UpW.out, UpB.out⟩

/-! ### spec_l1Pick: function 151 -/
def spec_l1Pick.f (s0_0 : List Int) (s0_1 : Int) (s0_2 : Int) (l1 : List ByteArray) : Option (ByteArray × Int × Int) := (spec_l1Below.f s0_0 s0_1 s0_2 (l1.length : Int)).bind fun bt285 => (if 0 ≤ bt285.1 then (if bt285.1 < (l1.length : Int) then (some (rdOf ByteArray.empty l1 bt285.1, bt285.2.1, bt285.2.2)) else (none)) else (none))
set_option maxHeartbeats 8000000 in
set_option maxRecDepth 100000 in
theorem spec_l1Pick.calls (g : Nat) (s0_0 : List Int) (s0_1 : Int) (s0_2 : Int) (A1 : Option Addr) (c1 : Nat) (l1 : List ByteArray) (r1 : ByteArray) (r2 : Int) (r3 : Int) (w0 w : World) (hI : IsS124 w0 w g s0_0 s0_1 s0_2) (hB : Below w0.heap.size w0 w) (hr1 : Kd.C Kd.string w A1 l1.length l1) (hc1 : l1.length ≤ c1) (hf1 : ∀ ad, A1 = some ad → 0 < l1.length → ad.block ≠ g) (h : spec_l1Pick.f s0_0 s0_1 s0_2 l1 = some (r1, r2, r3)) :
  Calls Tryz.prog 151 #[.pointer (some ⟨g, 0, none⟩), .slice A1 l1.length c1] w fun e w' => e = .returned (.string r1) ∧ IsS124 w0 w' g s0_0 r2 r3 ∧ Below w0.heap.size w0 w' ∧ KeepBut w w' g none := by
 have HR1 := Aside0.mk hr1; have HC1 := Aside0.mk hc1; clear hr1 hc1; have HI0 := Aside0.mk hI; have HK := Aside0.mk (KeepBut.refl w g none); have HL := Aside0.mk hB.size; clear hI; have HW0 := Aside0.mk hB.size; have HB := Aside0.mk hB; clear hB
 have H := h; unfold spec_l1Pick.f at H
 clear h; obtain ⟨⟨t285, t286, t287⟩, A3, H⟩ := oB H; (try dsimp only at H)
 by_cases c4 : 0 ≤ t285
 ·
  rw [if_pos c4] at H
  have c4b0 : decide (0 ≤ t285) = true := decide_eq_true c4; clear c4
  by_cases c5 : t285 < (l1.length : Int)
  rotate_left
  ·
   rw [if_neg c5] at H
   exact absurd H (by simp)
  rw [if_pos c5] at H
  have c5b0 : decide (t285 < (l1.length : Int)) = true := decide_eq_true c5; clear c5
  simp only [Option.some.injEq, Prod.mk.injEq] at H
  obtain ⟨rfl, rfl, rfl⟩ := H
  go_enter Tryz.func151, Tryz.ntmps151
  go_wp2_with (first | ((with_reducible refine gate_callee (f := 114) rfl ?_); refine gB (some 9) Tryz.func114 #[.pointer (some ⟨g, 0, none⟩), .int .i64 (l1.length : Int)] ?_; (with_reducible refine (spec_l1Below.calls g s0_0 s0_1 s0_2 (l1.length : Int) t285 t286 t287 w0 _ ?side1 ?side2 A3.out).mono ?_); (case side1 => repeat (first | (with_reducible first | exact HI0.out | apply IsS124.alloc | apply IsS124.drewN | apply IsS124.drew | apply IsS124.set_1 | apply IsS124.set_2) | exact HI0.out)); (case side2 => repeat (first | (with_reducible first | exact HB.out | apply below_alloc | apply pw_below_drewN | apply below_drew1 | refine below_set ?_ (IsS124.ge HI0.out)) | exact HB.out)); rintro e w6 ⟨rfl, hi, hb, hk⟩; refine ⟨_, rfl, ?_⟩; replace HK := kt HK hk; replace HB := Aside0.mk (hb); replace HI0 := Aside0.mk (hi); (try clear hb); (try clear hb2); (try clear hk); (try clear hi); have p288 : 0 ≤ (t285 : Int) := of_decide_eq_true y0_14; have q288 : t285 < (l1.length : Int) := of_decide_eq_true y0_14; obtain ⟨ad288, e288, hx288_0⟩ := Kd.at_string HR1.out t285 p288 q288; cases e288; replace hx288_0 := keep_cell HK.out hx288_0 (by first | (rw [add_block]; exact hf1 _ rfl (by omega)) | exact hf1 _ rfl (by omega) | exact hf1 ad288 rfl (by omega)); replace p288 := eq_true p288; replace q288 := eq_true q288))
  go_ret
  exact ⟨y0_11, y0_4, y0_5, hI HK.out⟩
 rw [if_neg c4] at H
 exact absurd H (by simp)

/-! ### spec_l2Dent: function 139 -/
def spec_l2Dent.f (s0_0 : List Int) (s0_1 : Int) (s0_2 : Int) (a1 : ByteArray) : Option (ByteArray × Int × Int) := (spec_l1Below.f s0_0 s0_1 s0_2 (wrap64 ((a1.size : Int) + 1))).bind fun bt289 => ((spec_l1Below.f s0_0 bt289.2.1 bt289.2.2 5).bind fun bt292 => (if bt292.1 = 0 then (if 0 ≤ bt289.1 then (if bt289.1 ≤ (a1.size : Int) then (some (a1.extract 0 (bt289.1 : Int).toNat, bt292.2.1, bt292.2.2)) else (none)) else (none)) else (if bt292.1 = 1 then (if 0 ≤ bt289.1 then (if bt289.1 ≤ (a1.size : Int) then ((spec_l1Pick.f s0_0 bt292.2.1 bt292.2.2 (([(⟨#[48]⟩ : ByteArray), (⟨#[44]⟩ : ByteArray), (⟨#[62]⟩ : ByteArray), (⟨#[47]⟩ : ByteArray), (⟨#[124]⟩ : ByteArray), (⟨#[120]⟩ : ByteArray), (⟨#[49]⟩ : ByteArray)] : List ByteArray))).bind fun bt298 => (if (a1.extract 0 (bt289.1 : Int).toNat).size + bt298.1.size ≤ 9223372036854775807 then (if ((a1.extract 0 (bt289.1 : Int).toNat) ++ bt298.1).size + (a1.extract (bt289.1 : Int).toNat a1.size).size ≤ 9223372036854775807 then (some (((a1.extract 0 (bt289.1 : Int).toNat) ++ bt298.1) ++ (a1.extract (bt289.1 : Int).toNat a1.size), bt298.2.1, bt298.2.2)) else (none)) else (none))) else (none)) else (none)) else (some (a1, bt292.2.1, bt292.2.2)))))
def spec_l2Dent.T6 : Bool × List (List Nat × List Nat) := (true, [([], []), ([], []), ([0, 1], [0, 1]), ([], []), ([], []), ([3, 4], [3, 4]), ([2, 5], [2, 5]), ([], []), ([], []), ([7, 8], [7, 8]), ([6, 9], [6, 9]), ([10, 5, 0, 1, 2, 3, 4, 5, 6, 7, 8, 9, 10], [10])])
def spec_l2Dent.B6 : List Nat := [0, 0, 3, 0, 0, 24, 63, 0, 0, 384, 1023, 2047]
theorem spec_l2Dent.tab6 : rtab .any (opsOf Tryz.f139 6) = spec_l2Dent.T6 := by kernel_rfl
theorem spec_l2Dent.bits6 : waitsOk spec_l2Dent.T6.2 spec_l2Dent.B6 = true := by kernel_rfl
set_option maxHeartbeats 8000000 in
set_option maxRecDepth 100000 in
theorem spec_l2Dent.calls (g : Nat) (s0_0 : List Int) (s0_1 : Int) (s0_2 : Int) (a1 : ByteArray) (r1 : ByteArray) (r2 : Int) (r3 : Int) (w0 w : World) (hI : IsS124 w0 w g s0_0 s0_1 s0_2) (hB : Below w0.heap.size w0 w) (h : spec_l2Dent.f s0_0 s0_1 s0_2 a1 = some (r1, r2, r3)) :
  Calls Tryz.prog 139 #[.pointer (some ⟨g, 0, none⟩), .string a1] w fun e w' => e = .returned (.string r1) ∧ IsS124 w0 w' g s0_0 r2 r3 ∧ Below w0.heap.size w0 w' ∧ KeepBut w w' g none := by
 have HI0 := Aside0.mk hI; have HK := Aside0.mk (KeepBut.refl w g none); have HL := Aside0.mk hB.size; clear hI; have HW0 := Aside0.mk hB.size; have HB := Aside0.mk hB; clear hB
 have H := h; unfold spec_l2Dent.f at H
 clear h; obtain ⟨⟨t289, t290, t291⟩, A3, H⟩ := oB H; (try dsimp only at H); obtain ⟨⟨t292, t293, t294⟩, A4, H⟩ := oB H; (try dsimp only at H)
 by_cases c5 : t292 = 0
 ·
  rw [if_pos c5] at H
  have c5b0 : (t292 == 0) = true := beq_iff_eq.mpr c5; have c5b1 : (t292 != 0) = false := bne_eq_false_iff_eq.mpr c5; clear c5
  by_cases c6 : 0 ≤ t289
  rotate_left
  ·
   rw [if_neg c6] at H
   exact absurd H (by simp)
  rw [if_pos c6] at H
  have c6b0 := eq_true c6; have c6b1 : decide (0 ≤ t289) = true := decide_eq_true c6; clear c6
  by_cases c7 : t289 ≤ (a1.size : Int)
  rotate_left
  ·
   rw [if_neg c7] at H
   exact absurd H (by simp)
  rw [if_pos c7] at H
  have c7b0 := eq_true c7; have c7b1 : decide (t289 ≤ (a1.size : Int)) = true := decide_eq_true c7; clear c7
  simp only [Option.some.injEq, Prod.mk.injEq] at H
  obtain ⟨rfl, rfl, rfl⟩ := H
  go_enter Tryz.func139, Tryz.ntmps139
  go_wp2_with (first | ((with_reducible refine gate_callee (f := 114) rfl ?_); refine gB (some 10) Tryz.func114 #[.pointer (some ⟨g, 0, none⟩), .int .i64 (wrap64 ((a1.size : Int) + 1))] ?_; (with_reducible refine (spec_l1Below.calls g s0_0 s0_1 s0_2 (wrap64 ((a1.size : Int) + 1)) t289 t290 t291 w0 _ ?side1 ?side2 A3.out).mono ?_); (case side1 => repeat (first | (with_reducible first | exact HI0.out | apply IsS124.alloc | apply IsS124.drewN | apply IsS124.drew | apply IsS124.set_1 | apply IsS124.set_2) | exact HI0.out)); (case side2 => repeat (first | (with_reducible first | exact HB.out | apply below_alloc | apply pw_below_drewN | apply below_drew1 | refine below_set ?_ (IsS124.ge HI0.out)) | exact HB.out)); rintro e w8 ⟨rfl, hi, hb, hk⟩; refine ⟨_, rfl, ?_⟩; replace HK := kt HK hk; replace HB := Aside0.mk (hb); replace HI0 := Aside0.mk (hi); (try clear hb); (try clear hb2); (try clear hk); (try clear hi)) | ((with_reducible refine gate_callee (f := 114) rfl ?_); refine gB (some 12) Tryz.func114 #[.pointer (some ⟨g, 0, none⟩), .int .i64 5] ?_; (with_reducible refine (spec_l1Below.calls g s0_0 t290 t291 5 t292 t293 t294 w0 _ ?side1 ?side2 A4.out).mono ?_); (case side1 => repeat (first | (with_reducible first | exact HI0.out | apply IsS124.alloc | apply IsS124.drewN | apply IsS124.drew | apply IsS124.set_1 | apply IsS124.set_2) | exact HI0.out)); (case side2 => repeat (first | (with_reducible first | exact HB.out | apply below_alloc | apply pw_below_drewN | apply below_drew1 | refine below_set ?_ (IsS124.ge HI0.out)) | exact HB.out)); rintro e w9 ⟨rfl, hi, hb, hk⟩; refine ⟨_, rfl, ?_⟩; replace HK := kt HK hk; replace HB := Aside0.mk (hb); replace HI0 := Aside0.mk (hi); (try clear hb); (try clear hb2); (try clear hk); (try clear hi)))
  go_ret
  exact ⟨y0_11, y0_4, y0_5, hI HK.out⟩
 rw [if_neg c5] at H
 have c5b0 : (t292 == 0) = false := beq_eq_false_iff_ne.mpr c5; have c5b1 : (t292 != 0) = true := bne_iff_ne.mpr c5
 by_cases c10 : t292 = 1
 ·
  rw [if_pos c10] at H
  have c10b0 : (t292 == 1) = true := beq_iff_eq.mpr c10; have c10b1 : (t292 != 1) = false := bne_eq_false_iff_eq.mpr c10; clear c10
  by_cases c11 : 0 ≤ t289
  rotate_left
  ·
   rw [if_neg c11] at H
   exact absurd H (by simp)
  rw [if_pos c11] at H
  have c11b0 := eq_true c11; have c11b1 : decide (0 ≤ t289) = true := decide_eq_true c11; clear c11
  by_cases c12 : t289 ≤ (a1.size : Int)
  rotate_left
  ·
   rw [if_neg c12] at H
   exact absurd H (by simp)
  rw [if_pos c12] at H
  have c12b0 := eq_true c12; have c12b1 : decide (t289 ≤ (a1.size : Int)) = true := decide_eq_true c12; clear c12; obtain ⟨y295, hy295⟩ : ∃ y_ : List ByteArray, y_ = (([(⟨#[48]⟩ : ByteArray), (⟨#[44]⟩ : ByteArray), (⟨#[62]⟩ : ByteArray), (⟨#[47]⟩ : ByteArray), (⟨#[124]⟩ : ByteArray), (⟨#[120]⟩ : ByteArray), (⟨#[49]⟩ : ByteArray)] : List ByteArray)) := ⟨_, rfl⟩
  replace H : ((spec_l1Pick.f s0_0 t293 t294 y295).bind fun bt298 => (if (a1.extract 0 (t289 : Int).toNat).size + bt298.1.size ≤ 9223372036854775807 then (if ((a1.extract 0 (t289 : Int).toNat) ++ bt298.1).size + (a1.extract (t289 : Int).toNat a1.size).size ≤ 9223372036854775807 then (some (((a1.extract 0 (t289 : Int).toNat) ++ bt298.1) ++ (a1.extract (t289 : Int).toNat a1.size), bt298.2.1, bt298.2.2)) else (none)) else (none))) = some (r1, r2, r3) := by first | (rw [hy295]; with_reducible exact H) | (have H2_ := (Option.bind_some _ _).symm.trans H; rw [hy295]; with_reducible exact H2_) | (have H2_ := (Option.bind_some _ _).symm.trans H; with_reducible exact H2_) | with_reducible exact H | (rw [hy295]; exact H) | exact H
  have Ny295 := Aside0.mk hy295; clear hy295; obtain ⟨⟨t298, t299, t300⟩, A13, H⟩ := oB H; (try dsimp only at H)
  by_cases c14 : (a1.extract 0 (t289 : Int).toNat).size + t298.size ≤ 9223372036854775807
  rotate_left
  ·
   rw [if_neg c14] at H
   exact absurd H (by simp)
  rw [if_pos c14] at H
  have c14b0 := eq_true c14; have c14b1 : decide ((a1.extract 0 (t289 : Int).toNat).size + t298.size ≤ 9223372036854775807) = true := decide_eq_true c14
  try have c14b2 : (9223372036854775807 < (a1.extract 0 (t289 : Int).toNat).size + t298.size) = False := eq_false (Nat.not_lt.2 c14)
  (try have c14b3 : (9223372036854775807 < t289.toNat + t298.size) = False := eq_false (by have h_ := c14; simp only [ByteArray.size_append, ByteArray.size_extract] at h_; have h0_ : (t289 : Int) ≤ (a1.size : Int) := of_decide_eq_true (by assumption); omega))
  have c15b0 := eq_true (of_decide_eq_true y0_14 : 0 ≤ t289); have c16b0 := eq_true (of_decide_eq_true y0_14 : t289 ≤ (a1.size : Int))
  by_cases c17 : ((a1.extract 0 (t289 : Int).toNat) ++ t298).size + (a1.extract (t289 : Int).toNat a1.size).size ≤ 9223372036854775807
  rotate_left
  ·
   rw [if_neg c17] at H
   exact absurd H (by simp)
  rw [if_pos c17] at H
  have c17b0 := eq_true c17; have c17b1 : decide (((a1.extract 0 (t289 : Int).toNat) ++ t298).size + (a1.extract (t289 : Int).toNat a1.size).size ≤ 9223372036854775807) = true := decide_eq_true c17
  try have c17b2 : (9223372036854775807 < ((a1.extract 0 (t289 : Int).toNat) ++ t298).size + (a1.extract (t289 : Int).toNat a1.size).size) = False := eq_false (Nat.not_lt.2 c17)
  (try have c17b3 : (9223372036854775807 < t289.toNat + t298.size + (a1.size - t289.toNat)) = False := eq_false (by have h_ := c17; simp only [ByteArray.size_append, ByteArray.size_extract] at h_; have h0_ : (t289 : Int) ≤ (a1.size : Int) := of_decide_eq_true (by assumption); omega))
  simp only [Option.some.injEq, Prod.mk.injEq] at H
  obtain ⟨rfl, rfl, rfl⟩ := H
  go_enter Tryz.func139, Tryz.ntmps139
  try go_wp2_with (first | ((with_reducible refine gate_callee (f := 114) rfl ?_); refine gB (some 10) Tryz.func114 #[.pointer (some ⟨g, 0, none⟩), .int .i64 (wrap64 ((a1.size : Int) + 1))] ?_; (with_reducible refine (spec_l1Below.calls g s0_0 s0_1 s0_2 (wrap64 ((a1.size : Int) + 1)) t289 t290 t291 w0 _ ?side1 ?side2 A3.out).mono ?_); (case side1 => repeat (first | (with_reducible first | exact HI0.out | apply IsS124.alloc | apply IsS124.drewN | apply IsS124.drew | apply IsS124.set_1 | apply IsS124.set_2) | exact HI0.out)); (case side2 => repeat (first | (with_reducible first | exact HB.out | apply below_alloc | apply pw_below_drewN | apply below_drew1 | refine below_set ?_ (IsS124.ge HI0.out)) | exact HB.out)); rintro e w18 ⟨rfl, hi, hb, hk⟩; refine ⟨_, rfl, ?_⟩; replace HK := kt HK hk; replace HB := Aside0.mk (hb); replace HI0 := Aside0.mk (hi); (try clear hb); (try clear hb2); (try clear hk); (try clear hi)) | ((with_reducible refine gate_callee (f := 114) rfl ?_); refine gB (some 12) Tryz.func114 #[.pointer (some ⟨g, 0, none⟩), .int .i64 5] ?_; (with_reducible refine (spec_l1Below.calls g s0_0 t290 t291 5 t292 t293 t294 w0 _ ?side1 ?side2 A4.out).mono ?_); (case side1 => repeat (first | (with_reducible first | exact HI0.out | apply IsS124.alloc | apply IsS124.drewN | apply IsS124.drew | apply IsS124.set_1 | apply IsS124.set_2) | exact HI0.out)); (case side2 => repeat (first | (with_reducible first | exact HB.out | apply below_alloc | apply pw_below_drewN | apply below_drew1 | refine below_set ?_ (IsS124.ge HI0.out)) | exact HB.out)); rintro e w19 ⟨rfl, hi, hb, hk⟩; refine ⟨_, rfl, ?_⟩; replace HK := kt HK hk; replace HB := Aside0.mk (hb); replace HI0 := Aside0.mk (hi); (try clear hb); (try clear hb2); (try clear hk); (try clear hi)))
  replace HI0 := Aside0.mk (IsS124.drew HI0.out); replace HK := Aside0.mk (keep_drew HK.out); replace HB := Aside0.mk (below_drew1 HB.out)
  refine start_ (n := 12) (S := fun w' => True) (ds := []) #[false, false, false, false, false, false, false, false, false, false, false, false] (by kernel_rfl) rfl rfl trivial (fun hHeld => ?_); refine with_tabW spec_l2Dent.tab6 spec_l2Dent.bits6 (fun HT_ HW_ => ?_)
  generalize w19.drew = w20 at HI0 HK HB hHeld ⊢
  refine pA 0 (some 20) (bz 12 1) HT_ ?_
  refine pA 1 (some 21) (bz 12 3) HT_ ?_
  refine pA 2 (some 22) (bz 12 7) HT_ ?_
  refine pA 3 (some 23) (bz 12 15) HT_ ?_
  refine pA 7 (some 27) (bz 12 143) HT_ ?_
  refine pA 8 (some 28) (bz 12 399) HT_ ?_
  refine pA 9 (some 29) (bz 12 911) HT_ ?_
  refine oA 4 (some 24) (bz 12 927) HT_ (fun K hK => ?_)
  refine Kd.R_lit_step Kd.string _ 9 ?hg (N := 24) ?hd (xs := ([(⟨#[48]⟩ : ByteArray), (⟨#[44]⟩ : ByteArray), (⟨#[62]⟩ : ByteArray), (⟨#[47]⟩ : ByteArray), (⟨#[124]⟩ : ByteArray), (⟨#[120]⟩ : ByteArray), (⟨#[49]⟩ : ByteArray)] : List ByteArray)) (inner := [.string (⟨#[48]⟩ : ByteArray), .string (⟨#[44]⟩ : ByteArray), .string (⟨#[62]⟩ : ByteArray), .string (⟨#[47]⟩ : ByteArray), .string (⟨#[124]⟩ : ByteArray), .string (⟨#[120]⟩ : ByteArray), .string (⟨#[49]⟩ : ByteArray)]) (ok := fun _ => True) (okp := fun _ => True) ?hr ?hp (fun _ hk => hk) trivial (Below.refl _ _) (Nat.le_refl _) (by simp) ?_; (case hd => rfl); (case hg => rfl); (case hr => first | (go_simp; done) | (go_simp; rfl)); (case hp => exact (Reps.one (show Kd.M Kd.string _ _ _ (⟨#[48]⟩ : ByteArray) [.string (⟨#[48]⟩ : ByteArray)] from rfl) (Reps.one (show Kd.M Kd.string _ _ _ (⟨#[44]⟩ : ByteArray) [.string (⟨#[44]⟩ : ByteArray)] from rfl) (Reps.one (show Kd.M Kd.string _ _ _ (⟨#[62]⟩ : ByteArray) [.string (⟨#[62]⟩ : ByteArray)] from rfl) (Reps.one (show Kd.M Kd.string _ _ _ (⟨#[47]⟩ : ByteArray) [.string (⟨#[47]⟩ : ByteArray)] from rfl) (Reps.one (show Kd.M Kd.string _ _ _ (⟨#[124]⟩ : ByteArray) [.string (⟨#[124]⟩ : ByteArray)] from rfl) (Reps.one (show Kd.M Kd.string _ _ _ (⟨#[120]⟩ : ByteArray) [.string (⟨#[120]⟩ : ByteArray)] from rfl) (Reps.one (show Kd.M Kd.string _ _ _ (⟨#[49]⟩ : ByteArray) [.string (⟨#[49]⟩ : ByteArray)] from rfl) (Reps.none _ _)))))))))
  intro v296 w21 ho22 hb hg_ hnew_
  clear hg_ hnew_
  (first | rw [← Ny295.out] at ho22 | (simp only [Int.reduceToNat] at ho22; rw [← Ny295.out] at ho22))
  have HO297 := Aside0.mk (Kd.R_lower ho22 (keep_size (w := w) (g := g) (row := none) (hI HK.out))); replace HK := kb HK hb; replace HB : Aside0 (Below w0.heap.size w0 _) := Aside0.mk (below_step y0_5 hb); replace HI0 := Aside0.mk (IsS124.below y0_4 hb); clear hb ho22; obtain ⟨Ao23, co23, eo23⟩ := Kd.R_slice HO297.out
  (first | subst eo23 | (injection eo23 with f1_ f2_ f3_; have f4_ := f1_.symm; have f5_ := f3_.symm; clear f1_ f2_ f3_; subst f4_; subst f5_))
  refine hK.out _ _ trivial (fun hHeld => ?_)
  clear hK K
  refine nA (some 24) ?_
  refine oA 5 (some 25) (bz 12 959) HT_ (fun K hK => ?_)
  refine gA Tryz.func151 #[.pointer (some ⟨g, 0, none⟩), .slice Ao23 y295.length co23] ?_
  with_reducible refine (spec_l1Pick.calls g s0_0 t293 t294 _ _ y295 t298 t299 t300 w0 _ ?side1 ?side2 ?side3 ?side4 ?side5 A13.out).mono ?_
  (case side1 => repeat (first | (with_reducible first | exact HI0.out | apply IsS124.alloc | apply IsS124.drewN | apply IsS124.drew | apply IsS124.set_1 | apply IsS124.set_2) | exact HI0.out))
  (case side2 => repeat (first | (with_reducible first | exact HB.out | apply below_alloc | apply pw_below_drewN | apply below_drew1 | refine below_set ?_ (IsS124.ge HI0.out)) | exact HB.out))
  (case side3 => repeat (first | exact (Kd.R_reads' HO297.out).2.2 | (with_reducible refine Kd.C_alloc ?_ _) | (with_reducible refine Kd.C_drewN ?_ _) | (with_reducible refine Kd.C_drew ?_)))
  (case side4 => exact (Kd.R_reads' HO297.out).2.1)
  (case side5 => exact far_slice (IsS124.own_ne HI0.out HO297.out (by decide)))
  rintro e w24 ⟨rfl, hi, hb, hk⟩
  refine ⟨_, rfl, ?_⟩
  replace HO297 := Aside0.mk (Kd.R_mono (Kd.R_keep (IsS124.apart (show IsS124 w0 _ g s0_0 t293 t294 from y0_4) (rI HO297.out) (by decide)) hk (fun _ h => h.2)) (fun _ h => h.1))
  replace HK := kt HK hk; replace HB := Aside0.mk (hb); replace HI0 := Aside0.mk (hi)
  (try clear hb)
  (try clear hb2)
  (try clear hk)
  (try clear hi)
  refine hK.out _ _ trivial (fun hHeld => ?_)
  clear hK K
  refine nA (some 25) ?_
  refine pA 6 (some 26) (bz 12 1023) HT_ ?_
  refine pA 10 (some 30) (bz 12 2047) HT_ ?_
  refine pA 11 (some 4) (bz 12 4095) HT_ ?_
  refine done_ (done_of HT_.out (by kernel_rfl)) ?_
  try go_wp2
  go_ret
  exact ⟨y0_11, y0_4, y0_5, hI HK.out⟩
 rw [if_neg c10] at H
 have c10b0 : (t292 == 1) = false := beq_eq_false_iff_ne.mpr c10; have c10b1 : (t292 != 1) = true := bne_iff_ne.mpr c10
 simp only [Option.some.injEq, Prod.mk.injEq] at H
 obtain ⟨rfl, rfl, rfl⟩ := H
 go_enter Tryz.func139, Tryz.ntmps139
 go_wp2_with (first | ((with_reducible refine gate_callee (f := 114) rfl ?_); refine gB (some 10) Tryz.func114 #[.pointer (some ⟨g, 0, none⟩), .int .i64 (wrap64 ((a1.size : Int) + 1))] ?_; (with_reducible refine (spec_l1Below.calls g s0_0 s0_1 s0_2 (wrap64 ((a1.size : Int) + 1)) t289 t290 t291 w0 _ ?side1 ?side2 A3.out).mono ?_); (case side1 => repeat (first | (with_reducible first | exact HI0.out | apply IsS124.alloc | apply IsS124.drewN | apply IsS124.drew | apply IsS124.set_1 | apply IsS124.set_2) | exact HI0.out)); (case side2 => repeat (first | (with_reducible first | exact HB.out | apply below_alloc | apply pw_below_drewN | apply below_drew1 | refine below_set ?_ (IsS124.ge HI0.out)) | exact HB.out)); rintro e w25 ⟨rfl, hi, hb, hk⟩; refine ⟨_, rfl, ?_⟩; replace HK := kt HK hk; replace HB := Aside0.mk (hb); replace HI0 := Aside0.mk (hi); (try clear hb); (try clear hb2); (try clear hk); (try clear hi)) | ((with_reducible refine gate_callee (f := 114) rfl ?_); refine gB (some 12) Tryz.func114 #[.pointer (some ⟨g, 0, none⟩), .int .i64 5] ?_; (with_reducible refine (spec_l1Below.calls g s0_0 t290 t291 5 t292 t293 t294 w0 _ ?side1 ?side2 A4.out).mono ?_); (case side1 => repeat (first | (with_reducible first | exact HI0.out | apply IsS124.alloc | apply IsS124.drewN | apply IsS124.drew | apply IsS124.set_1 | apply IsS124.set_2) | exact HI0.out)); (case side2 => repeat (first | (with_reducible first | exact HB.out | apply below_alloc | apply pw_below_drewN | apply below_drew1 | refine below_set ?_ (IsS124.ge HI0.out)) | exact HB.out)); rintro e w26 ⟨rfl, hi, hb, hk⟩; refine ⟨_, rfl, ?_⟩; replace HK := kt HK hk; replace HB := Aside0.mk (hb); replace HI0 := Aside0.mk (hi); (try clear hb); (try clear hb2); (try clear hk); (try clear hi)))
 go_ret
 exact ⟨y0_11, y0_4, y0_5, hI HK.out⟩

end Go.Proofs.YtemjmefacifdeaaGreatDoor.PFnQuorums
