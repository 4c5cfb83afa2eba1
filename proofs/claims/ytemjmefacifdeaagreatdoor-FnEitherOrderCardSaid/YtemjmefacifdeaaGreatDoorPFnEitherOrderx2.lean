-- By a program of this session, out of the translation (the print of the kit, with turns of its own). Lean checks it.
import Derived.Test.YtemjmefacifdeaaGreatDoorPFnEitherOrderx0
import Derived.Test.YtemjmefacifdeaaGreatDoorPFnEitherOrderx1
namespace Go.Proofs.YtemjmefacifdeaaGreatDoor.PFnEitherOrder
open Go.RowKit Go.Proofs.YtemjmefacifdeaaGreatDoorW.PrintWords Go.Proofs.YtemjmefacifdeaaGreatDoorW.PrintLast Go.Proofs.YtemjmefacifdeaaGreatDoorW.PrintMore
attribute [local go_sem] max2_int min2_int max_two min_two max_three min_three max_four min_four   -- for this text's walks alone
attribute [local go_sem] cell_in frozen_in
set_option synthInstance.maxSize 1000000
set_option synthInstance.maxHeartbeats 2000000
set_option linter.unusedVariables false
set_option linter.unusedSimpArgs false

/-! ### spec_TxText: function 133 -/
def spec_TxText.f (k : Nat) (a0_0 : Int) (a0_1 : Int) (a0_2 : Int) (a0_3 : Int) : Option (ByteArray) := (spec_TxOk.f a0_0 a0_1 a0_2 a0_3).bind fun t128 => (if t128 = true then ((spec_Digits.f k a0_0).bind fun t129 => (if t129.size + 1 ≤ 9223372036854775807 then ((spec_Digits.f k a0_1).bind fun t130 => (if (t129 ++ (⟨#[62]⟩ : ByteArray)).size + t130.size ≤ 9223372036854775807 then (if ((t129 ++ (⟨#[62]⟩ : ByteArray)) ++ t130).size + 1 ≤ 9223372036854775807 then ((spec_Digits.f k a0_2).bind fun t131 => (if (((t129 ++ (⟨#[62]⟩ : ByteArray)) ++ t130) ++ (⟨#[58]⟩ : ByteArray)).size + t131.size ≤ 9223372036854775807 then (if ((((t129 ++ (⟨#[62]⟩ : ByteArray)) ++ t130) ++ (⟨#[58]⟩ : ByteArray)) ++ t131).size + 1 ≤ 9223372036854775807 then ((spec_Digits.f k a0_3).bind fun t132 => (if (((((t129 ++ (⟨#[62]⟩ : ByteArray)) ++ t130) ++ (⟨#[58]⟩ : ByteArray)) ++ t131) ++ (⟨#[35]⟩ : ByteArray)).size + t132.size ≤ 9223372036854775807 then (some ((((((t129 ++ (⟨#[62]⟩ : ByteArray)) ++ t130) ++ (⟨#[58]⟩ : ByteArray)) ++ t131) ++ (⟨#[35]⟩ : ByteArray)) ++ t132)) else (none))) else (none)) else (none))) else (none)) else (none))) else (none))) else (some (⟨#[]⟩ : ByteArray)))
theorem spec_TxText.mono : ∀ a0 a1 a2 a3 k, LeO (spec_TxText.f k a0 a1 a2 a3) (spec_TxText.f (k + 1) a0 a1 a2 a3) := by
 intro a0 a1 a2 a3 k
 unfold spec_TxText.f
 repeat' first | (with_reducible exact spec_Digits.mono _ _) | (with_reducible exact LeO.refl _) | (with_reducible exact LeO.none _) | (with_reducible refine LeO.ite ?_ ?_) | (with_reducible refine LeO.bind ?_ (fun _ => ?_))
def spec_TxText.T3 : Bool × List (List Nat × List Nat) := (true, [([], []), ([0], [0]), ([1], [1]), ([2], [2]), ([], []), ([4], [4]), ([5, 2], [5]), ([3, 6], [3, 6]), ([7], [7]), ([], []), ([9], [9]), ([10, 6], [10]), ([8, 11], [8, 11]), ([12], [12]), ([], []), ([14], [14]), ([15, 11], [15]), ([13, 16], [13, 16]), ([17, 16, 0, 1, 2, 3, 4, 5, 6, 7, 8, 9, 10, 11, 12, 13, 14, 15, 16, 17], [17])])
def spec_TxText.B3 : List Nat := [0, 1, 3, 7, 0, 16, 55, 127, 255, 0, 512, 1655, 4095, 8191, 0, 16384, 52855, 131071, 262143]
theorem spec_TxText.tab3 : rtab .any (opsOf Tryz.f133 3) = spec_TxText.T3 := by kernel_rfl
theorem spec_TxText.bits3 : waitsOk spec_TxText.T3.2 spec_TxText.B3 = true := by kernel_rfl
set_option maxHeartbeats 8000000 in
set_option maxRecDepth 100000 in
theorem spec_TxText.calls (k : Nat) (a0_0 : Int) (a0_1 : Int) (a0_2 : Int) (a0_3 : Int) (r : ByteArray) (w : World) (h : spec_TxText.f k a0_0 a0_1 a0_2 a0_3 = some r) :
  Calls Tryz.prog 133 #[.agg #[.int .i64 a0_0, .int .i64 a0_1, .int .i64 a0_2, .int .i64 a0_3]] w fun e w' => e = .returned (.string r) ∧ Below w.heap.size w w' := by
 have hu99 := Tryz.underlying99; have HB := Aside0.mk (Below.refl w.heap.size w)
 have H : ((spec_TxOk.f a0_0 a0_1 a0_2 a0_3).bind fun t128 => (if t128 = true then ((spec_Digits.f k a0_0).bind fun t129 => (if t129.size + 1 ≤ 9223372036854775807 then ((spec_Digits.f k a0_1).bind fun t130 => (if (t129 ++ (⟨#[62]⟩ : ByteArray)).size + t130.size ≤ 9223372036854775807 then (if ((t129 ++ (⟨#[62]⟩ : ByteArray)) ++ t130).size + 1 ≤ 9223372036854775807 then ((spec_Digits.f k a0_2).bind fun t131 => (if (((t129 ++ (⟨#[62]⟩ : ByteArray)) ++ t130) ++ (⟨#[58]⟩ : ByteArray)).size + t131.size ≤ 9223372036854775807 then (if ((((t129 ++ (⟨#[62]⟩ : ByteArray)) ++ t130) ++ (⟨#[58]⟩ : ByteArray)) ++ t131).size + 1 ≤ 9223372036854775807 then ((spec_Digits.f k a0_3).bind fun t132 => (if (((((t129 ++ (⟨#[62]⟩ : ByteArray)) ++ t130) ++ (⟨#[58]⟩ : ByteArray)) ++ t131) ++ (⟨#[35]⟩ : ByteArray)).size + t132.size ≤ 9223372036854775807 then (some ((((((t129 ++ (⟨#[62]⟩ : ByteArray)) ++ t130) ++ (⟨#[58]⟩ : ByteArray)) ++ t131) ++ (⟨#[35]⟩ : ByteArray)) ++ t132)) else (none))) else (none)) else (none))) else (none)) else (none))) else (none))) else (some (⟨#[]⟩ : ByteArray)))) = some r := h
 clear h; obtain ⟨t128, A20, H⟩ := Option.bind_eq_some_iff.mp H
 try dsimp only at H
 have A2 := Aside0.mk A20; clear A20
 by_cases c3 : t128 = true
 ·
  subst c3
  rw [if_pos rfl] at H
  obtain ⟨t129, A40, H⟩ := Option.bind_eq_some_iff.mp H
  try dsimp only at H
  have A4 := Aside0.mk A40; clear A40
  by_cases c5 : t129.size + 1 ≤ 9223372036854775807
  rotate_left
  ·
   rw [if_neg c5] at H
   exact absurd H (by simp)
  rw [if_pos c5] at H
  have c5b0 := eq_true c5; have c5b1 : decide (t129.size + 1 ≤ 9223372036854775807) = true := decide_eq_true c5
  try have c5b2 : (9223372036854775807 < t129.size + 1) = False := eq_false (Nat.not_lt.2 c5)
  obtain ⟨t130, A60, H⟩ := Option.bind_eq_some_iff.mp H
  try dsimp only at H
  have A6 := Aside0.mk A60; clear A60
  by_cases c7 : (t129 ++ (⟨#[62]⟩ : ByteArray)).size + t130.size ≤ 9223372036854775807
  rotate_left
  ·
   rw [if_neg c7] at H
   exact absurd H (by simp)
  rw [if_pos c7] at H
  have c7b0 := eq_true c7; have c7b1 : decide ((t129 ++ (⟨#[62]⟩ : ByteArray)).size + t130.size ≤ 9223372036854775807) = true := decide_eq_true c7
  try have c7b2 : (9223372036854775807 < (t129 ++ (⟨#[62]⟩ : ByteArray)).size + t130.size) = False := eq_false (Nat.not_lt.2 c7)
  (try have c7b3 : (9223372036854775807 < t129.size + 1 + t130.size) = False := eq_false (by have h_ := c7; simp only [ByteArray.size_append, ByteArray.size_extract, show (⟨#[62]⟩ : ByteArray).size = 1 from rfl] at h_; omega))
  by_cases c8 : ((t129 ++ (⟨#[62]⟩ : ByteArray)) ++ t130).size + 1 ≤ 9223372036854775807
  rotate_left
  ·
   rw [if_neg c8] at H
   exact absurd H (by simp)
  rw [if_pos c8] at H
  have c8b0 := eq_true c8; have c8b1 : decide (((t129 ++ (⟨#[62]⟩ : ByteArray)) ++ t130).size + 1 ≤ 9223372036854775807) = true := decide_eq_true c8
  try have c8b2 : (9223372036854775807 < ((t129 ++ (⟨#[62]⟩ : ByteArray)) ++ t130).size + 1) = False := eq_false (Nat.not_lt.2 c8)
  (try have c8b3 : (9223372036854775807 < t129.size + 1 + t130.size + 1) = False := eq_false (by have h_ := c8; simp only [ByteArray.size_append, ByteArray.size_extract, show (⟨#[62]⟩ : ByteArray).size = 1 from rfl] at h_; omega))
  obtain ⟨t131, A90, H⟩ := Option.bind_eq_some_iff.mp H
  try dsimp only at H
  have A9 := Aside0.mk A90; clear A90
  by_cases c10 : (((t129 ++ (⟨#[62]⟩ : ByteArray)) ++ t130) ++ (⟨#[58]⟩ : ByteArray)).size + t131.size ≤ 9223372036854775807
  rotate_left
  ·
   rw [if_neg c10] at H
   exact absurd H (by simp)
  rw [if_pos c10] at H
  have c10b0 := eq_true c10; have c10b1 : decide ((((t129 ++ (⟨#[62]⟩ : ByteArray)) ++ t130) ++ (⟨#[58]⟩ : ByteArray)).size + t131.size ≤ 9223372036854775807) = true := decide_eq_true c10
  try have c10b2 : (9223372036854775807 < (((t129 ++ (⟨#[62]⟩ : ByteArray)) ++ t130) ++ (⟨#[58]⟩ : ByteArray)).size + t131.size) = False := eq_false (Nat.not_lt.2 c10)
  (try have c10b3 : (9223372036854775807 < t129.size + 1 + t130.size + 1 + t131.size) = False := eq_false (by have h_ := c10; simp only [ByteArray.size_append, ByteArray.size_extract, show (⟨#[58]⟩ : ByteArray).size = 1 from rfl, show (⟨#[62]⟩ : ByteArray).size = 1 from rfl] at h_; omega))
  by_cases c11 : ((((t129 ++ (⟨#[62]⟩ : ByteArray)) ++ t130) ++ (⟨#[58]⟩ : ByteArray)) ++ t131).size + 1 ≤ 9223372036854775807
  rotate_left
  ·
   rw [if_neg c11] at H
   exact absurd H (by simp)
  rw [if_pos c11] at H
  have c11b0 := eq_true c11; have c11b1 : decide (((((t129 ++ (⟨#[62]⟩ : ByteArray)) ++ t130) ++ (⟨#[58]⟩ : ByteArray)) ++ t131).size + 1 ≤ 9223372036854775807) = true := decide_eq_true c11
  try have c11b2 : (9223372036854775807 < ((((t129 ++ (⟨#[62]⟩ : ByteArray)) ++ t130) ++ (⟨#[58]⟩ : ByteArray)) ++ t131).size + 1) = False := eq_false (Nat.not_lt.2 c11)
  (try have c11b3 : (9223372036854775807 < t129.size + 1 + t130.size + 1 + t131.size + 1) = False := eq_false (by have h_ := c11; simp only [ByteArray.size_append, ByteArray.size_extract, show (⟨#[58]⟩ : ByteArray).size = 1 from rfl, show (⟨#[62]⟩ : ByteArray).size = 1 from rfl] at h_; omega))
  obtain ⟨t132, A120, H⟩ := Option.bind_eq_some_iff.mp H
  try dsimp only at H
  have A12 := Aside0.mk A120; clear A120
  by_cases c13 : (((((t129 ++ (⟨#[62]⟩ : ByteArray)) ++ t130) ++ (⟨#[58]⟩ : ByteArray)) ++ t131) ++ (⟨#[35]⟩ : ByteArray)).size + t132.size ≤ 9223372036854775807
  rotate_left
  ·
   rw [if_neg c13] at H
   exact absurd H (by simp)
  rw [if_pos c13] at H
  have c13b0 := eq_true c13; have c13b1 : decide ((((((t129 ++ (⟨#[62]⟩ : ByteArray)) ++ t130) ++ (⟨#[58]⟩ : ByteArray)) ++ t131) ++ (⟨#[35]⟩ : ByteArray)).size + t132.size ≤ 9223372036854775807) = true := decide_eq_true c13
  try have c13b2 : (9223372036854775807 < (((((t129 ++ (⟨#[62]⟩ : ByteArray)) ++ t130) ++ (⟨#[58]⟩ : ByteArray)) ++ t131) ++ (⟨#[35]⟩ : ByteArray)).size + t132.size) = False := eq_false (Nat.not_lt.2 c13)
  (try have c13b3 : (9223372036854775807 < t129.size + 1 + t130.size + 1 + t131.size + 1 + t132.size) = False := eq_false (by have h_ := c13; simp only [ByteArray.size_append, ByteArray.size_extract, show (⟨#[35]⟩ : ByteArray).size = 1 from rfl, show (⟨#[58]⟩ : ByteArray).size = 1 from rfl, show (⟨#[62]⟩ : ByteArray).size = 1 from rfl] at h_; omega))
  obtain rfl := Option.some.inj H
  go_enter Tryz.func133, Tryz.ntmps133
  try go_wp2_with (first | ((with_reducible refine gd 1 ?_); refine bL 1 #[.int .i64 a0_0, .int .i64 a0_1, .int .i64 a0_2, .int .i64 a0_3] 99 ?_; intro gb127 w14 _ _ _) | ((with_reducible refine gate_callee (f := 107) rfl ?_); refine gC (some 4) Tryz.func107 (spec_TxOk.calls (w := _) (h := A2.out)) ?_; intro w15 _))
  refine sB [] spec_TxText.tab3 spec_TxText.bits3 ?_; intro w16 _ HT_ HW_
  refine pA 0 (some 6) (bz 19 1) HT_ ?_
  refine tB 1 (some 7) (bz 19 3) HT_ HW_ ?_
  refine pA 4 (some 10) (bz 19 19) HT_ ?_
  refine tB 5 (some 11) (bz 19 51) HT_ HW_ ?_
  refine pA 9 (some 15) (bz 19 563) HT_ ?_
  refine tB 10 (some 16) (bz 19 1587) HT_ HW_ ?_
  refine pA 14 (some 20) (bz 19 0x4633) HT_ ?_
  refine tB 15 (some 21) (bz 19 0xc633) HT_ HW_ ?_
  refine o1 2 (some 8) (bz 19 0xc637) HT_ rfl (kC Tryz.func108 (spec_Digits.calls (w := _) (h := A4.out)) ?_); intro w17 _
  refine nA (some 8) ?_
  refine pA 3 (some 9) (bz 19 0xc63f) HT_ ?_
  refine o1 6 (some 12) (bz 19 0xc67f) HT_ rfl (kC Tryz.func108 (spec_Digits.calls (w := _) (h := A6.out)) ?_); intro w18 _
  refine nA (some 12) ?_
  refine pA 7 (some 13) (bz 19 0xc6ff) HT_ ?_
  refine pA 8 (some 14) (bz 19 0xc7ff) HT_ ?_
  refine o1 11 (some 17) (bz 19 0xcfff) HT_ rfl (kC Tryz.func108 (spec_Digits.calls (w := _) (h := A9.out)) ?_); intro w19 _
  refine nA (some 17) ?_
  refine pA 12 (some 18) (bz 19 0xdfff) HT_ ?_
  refine pA 13 (some 19) (bz 19 0xffff) HT_ ?_
  refine o1 16 (some 22) (bz 19 0x1ffff) HT_ rfl (kC Tryz.func108 (spec_Digits.calls (w := _) (h := A12.out)) ?_); intro w20 _
  refine nA (some 22) ?_
  refine pA 17 (some 23) (bz 19 0x3ffff) HT_ ?_
  refine pA 18 (some 2) (bz 19 0x7ffff) HT_ ?_
  refine done_ (done_of HT_.out (by kernel_rfl)) ?_
  try go_wp2
  go_ret
  exact ⟨y0_19, UpW.out⟩
 replace c3 := Bool.eq_false_iff.mpr c3; subst c3
 rw [if_neg (show ¬ (false = true) by decide)] at H
 obtain rfl := Option.some.inj H
 go_enter Tryz.func133, Tryz.ntmps133
 go_wp2_with (first | ((with_reducible refine gd 1 ?_); refine bL 1 #[.int .i64 a0_0, .int .i64 a0_1, .int .i64 a0_2, .int .i64 a0_3] 99 ?_; intro gb127 w21 _ _ _) | ((with_reducible refine gate_callee (f := 107) rfl ?_); refine gC (some 4) Tryz.func107 (spec_TxOk.calls (w := _) (h := A2.out)) ?_; intro w22 _))
 go_ret
 exact ⟨y0_19, UpW.out⟩

/-! ### spec_TxOf: function 146 -/
def spec_TxOf.f (k : Nat) (a0 : ByteArray) : Option (Int × Int × Int × Int × Bool) := (spec_l2Cut.f k a0 62).bind fun bt134 => ((spec_l2Cut.f k bt134.2.1 58).bind fun bt137 => ((spec_l2Cut.f k bt137.2.1 35).bind fun bt140 => ((spec_Number.f k bt134.1).bind fun bt144 => ((spec_Number.f k bt137.1).bind fun bt146 => ((spec_Number.f k bt140.1).bind fun bt148 => ((spec_Number.f k bt140.2.1).bind fun bt150 => (if a0.toList = ([] : List UInt8) then (some (0, 0, 0, 0, false)) else ((spec_TxText.f k bt144.1 bt146.1 bt148.1 bt150.1).bind fun t152 => (if t152.toList = a0.toList then (some (bt144.1, bt146.1, bt148.1, bt150.1, true)) else (some (0, 0, 0, 0, false)))))))))))
theorem spec_TxOf.mono : ∀ a0 k, LeO (spec_TxOf.f k a0) (spec_TxOf.f (k + 1) a0) := by
 intro a0 k
 unfold spec_TxOf.f
 repeat' first | (with_reducible exact spec_Number.mono _ _) | (with_reducible exact spec_TxText.mono _ _ _ _ _) | (with_reducible exact spec_l2Cut.mono _ _ _) | (with_reducible exact LeO.refl _) | (with_reducible exact LeO.none _) | (with_reducible refine LeO.ite ?_ ?_) | (with_reducible refine LeO.bind ?_ (fun _ => ?_))
set_option maxHeartbeats 8000000 in
set_option maxRecDepth 100000 in
theorem spec_TxOf.calls (k : Nat) (a0 : ByteArray) (r1 : Int) (r2 : Int) (r3 : Int) (r4 : Int) (r5 : Bool) (w : World) (h : spec_TxOf.f k a0 = some (r1, r2, r3, r4, r5)) :
  Calls Tryz.prog 146 #[.string a0] w fun e w' => e = .returned (.tuple #[.agg #[.int .i64 r1, .int .i64 r2, .int .i64 r3, .int .i64 r4], .bool r5]) ∧ Below w.heap.size w w' := by
 have hu99 := Tryz.underlying99; have HB := Aside0.mk (Below.refl w.heap.size w)
 have H : ((spec_l2Cut.f k a0 62).bind fun bt134 => ((spec_l2Cut.f k bt134.2.1 58).bind fun bt137 => ((spec_l2Cut.f k bt137.2.1 35).bind fun bt140 => ((spec_Number.f k bt134.1).bind fun bt144 => ((spec_Number.f k bt137.1).bind fun bt146 => ((spec_Number.f k bt140.1).bind fun bt148 => ((spec_Number.f k bt140.2.1).bind fun bt150 => (if a0.toList = ([] : List UInt8) then (some (0, 0, 0, 0, false)) else ((spec_TxText.f k bt144.1 bt146.1 bt148.1 bt150.1).bind fun t152 => (if t152.toList = a0.toList then (some (bt144.1, bt146.1, bt148.1, bt150.1, true)) else (some (0, 0, 0, 0, false)))))))))))) = some (r1, r2, r3, r4, r5) := h
 clear h; obtain ⟨⟨t134, t135, t136⟩, A20, H⟩ := Option.bind_eq_some_iff.mp H
 try dsimp only at H
 have A2 := Aside0.mk A20; clear A20; obtain ⟨⟨t137, t138, t139⟩, A30, H⟩ := Option.bind_eq_some_iff.mp H
 try dsimp only at H
 have A3 := Aside0.mk A30; clear A30; obtain ⟨⟨t140, t141, t142⟩, A40, H⟩ := Option.bind_eq_some_iff.mp H
 try dsimp only at H
 have A4 := Aside0.mk A40; clear A40; obtain ⟨⟨t144, t145⟩, A50, H⟩ := Option.bind_eq_some_iff.mp H
 try dsimp only at H
 have A5 := Aside0.mk A50; clear A50; obtain ⟨⟨t146, t147⟩, A60, H⟩ := Option.bind_eq_some_iff.mp H
 try dsimp only at H
 have A6 := Aside0.mk A60; clear A60; obtain ⟨⟨t148, t149⟩, A70, H⟩ := Option.bind_eq_some_iff.mp H
 try dsimp only at H
 have A7 := Aside0.mk A70; clear A70; obtain ⟨⟨t150, t151⟩, A80, H⟩ := Option.bind_eq_some_iff.mp H
 try dsimp only at H
 have A8 := Aside0.mk A80; clear A80
 by_cases c9 : a0.toList = ([] : List UInt8)
 ·
  rw [if_pos c9] at H
  have c9b0 : (a0.toList == ([] : List UInt8)) = true := beq_iff_eq.mpr c9; have c9b1 : (a0.toList != ([] : List UInt8)) = false := bne_eq_false_iff_eq.mpr c9; clear c9
  simp only [Option.some.injEq, Prod.mk.injEq] at H
  obtain ⟨rfl, rfl, rfl, rfl, rfl⟩ := H
  go_enter Tryz.func146, Tryz.ntmps146
  go_wp2_with (first | ((with_reducible refine gd 2 ?_); refine bL 2 #[.int .i64 0, .int .i64 0, .int .i64 0, .int .i64 0] 99 ?_; intro gb133 w10 _ _ _) | ((with_reducible refine gate_callee (f := 128) rfl ?_); refine gD (some 16) Tryz.func128 (spec_l2Cut.calls (w := _) (h := A2.out)) ?_; intro w11 _) | ((with_reducible refine gate_callee (f := 128) rfl ?_); refine gD (some 22) Tryz.func128 (spec_l2Cut.calls (w := _) (h := A3.out)) ?_; intro w12 _) | ((with_reducible refine gate_callee (f := 128) rfl ?_); refine gD (some 28) Tryz.func128 (spec_l2Cut.calls (w := _) (h := A4.out)) ?_; intro w13 _) | ((with_reducible refine gd 13 ?_); refine bL 13 #[.int .i64 0, .int .i64 0, .int .i64 0, .int .i64 0] 99 ?_; intro gb143 w14 _ _ _) | ((with_reducible refine gate_callee (f := 129) rfl ?_); refine gC (some 35) Tryz.func129 (spec_Number.calls (w := _) (h := A5.out)) ?_; intro w15 _) | ((with_reducible refine gate_callee (f := 129) rfl ?_); refine gC (some 41) Tryz.func129 (spec_Number.calls (w := _) (h := A6.out)) ?_; intro w16 _) | ((with_reducible refine gate_callee (f := 129) rfl ?_); refine gC (some 47) Tryz.func129 (spec_Number.calls (w := _) (h := A7.out)) ?_; intro w17 _) | ((with_reducible refine gate_callee (f := 129) rfl ?_); refine gC (some 53) Tryz.func129 (spec_Number.calls (w := _) (h := A8.out)) ?_; intro w18 _))
  refine bodyPost_ret (results_ct rfl _ _ gb133 99 #[.int .i64 0, .int .i64 0, .int .i64 0, .int .i64 0] (0, 0) _ rfl xB Tryz.underlying99 rfl (by kernel_rfl)) rfl ?_
  exact ⟨y0_19, UpW.out⟩
 rw [if_neg c9] at H
 have c9b0 : (a0.toList == ([] : List UInt8)) = false := beq_eq_false_iff_ne.mpr c9; have c9b1 : (a0.toList != ([] : List UInt8)) = true := bne_iff_ne.mpr c9; obtain ⟨t152, A190, H⟩ := Option.bind_eq_some_iff.mp H
 try dsimp only at H
 have A19 := Aside0.mk A190; clear A190
 by_cases c20 : t152.toList = a0.toList
 ·
  rw [if_pos c20] at H
  have c20b0 : (t152.toList == a0.toList) = true := beq_iff_eq.mpr c20; have c20b1 : (t152.toList != a0.toList) = false := bne_eq_false_iff_eq.mpr c20; clear c20
  simp only [Option.some.injEq, Prod.mk.injEq] at H
  obtain ⟨rfl, rfl, rfl, rfl, rfl⟩ := H
  go_enter Tryz.func146, Tryz.ntmps146
  go_wp2_with (first | ((with_reducible refine gd 2 ?_); refine bL 2 #[.int .i64 0, .int .i64 0, .int .i64 0, .int .i64 0] 99 ?_; intro gb133 w21 _ _ _) | ((with_reducible refine gate_callee (f := 128) rfl ?_); refine gD (some 16) Tryz.func128 (spec_l2Cut.calls (w := _) (h := A2.out)) ?_; intro w22 _) | ((with_reducible refine gate_callee (f := 128) rfl ?_); refine gD (some 22) Tryz.func128 (spec_l2Cut.calls (w := _) (h := A3.out)) ?_; intro w23 _) | ((with_reducible refine gate_callee (f := 128) rfl ?_); refine gD (some 28) Tryz.func128 (spec_l2Cut.calls (w := _) (h := A4.out)) ?_; intro w24 _) | ((with_reducible refine gd 13 ?_); refine bL 13 #[.int .i64 0, .int .i64 0, .int .i64 0, .int .i64 0] 99 ?_; intro gb143 w25 _ _ _) | ((with_reducible refine gate_callee (f := 129) rfl ?_); refine gC (some 35) Tryz.func129 (spec_Number.calls (w := _) (h := A5.out)) ?_; intro w26 _) | ((with_reducible refine gate_callee (f := 129) rfl ?_); refine gC (some 41) Tryz.func129 (spec_Number.calls (w := _) (h := A6.out)) ?_; intro w27 _) | ((with_reducible refine gate_callee (f := 129) rfl ?_); refine gC (some 47) Tryz.func129 (spec_Number.calls (w := _) (h := A7.out)) ?_; intro w28 _) | ((with_reducible refine gate_callee (f := 129) rfl ?_); refine gC (some 53) Tryz.func129 (spec_Number.calls (w := _) (h := A8.out)) ?_; intro w29 _) | (go_at_call 133; refine aC (spec_TxText.calls (w := _) (h := A19.out)) ?_; intro w30 _))
  refine bodyPost_ret (results_ct rfl _ _ gb133 99 #[.int .i64 t144, .int .i64 t146, .int .i64 t148, .int .i64 t150] (0, 0) _ rfl xB Tryz.underlying99 rfl (by kernel_rfl)) rfl ?_
  exact ⟨y0_19, UpW.out⟩
 rw [if_neg c20] at H
 have c20b0 : (t152.toList == a0.toList) = false := beq_eq_false_iff_ne.mpr c20; have c20b1 : (t152.toList != a0.toList) = true := bne_iff_ne.mpr c20
 simp only [Option.some.injEq, Prod.mk.injEq] at H
 obtain ⟨rfl, rfl, rfl, rfl, rfl⟩ := H
 go_enter Tryz.func146, Tryz.ntmps146
 go_wp2_with (first | ((with_reducible refine gd 2 ?_); refine bL 2 #[.int .i64 0, .int .i64 0, .int .i64 0, .int .i64 0] 99 ?_; intro gb133 w31 _ _ _) | ((with_reducible refine gate_callee (f := 128) rfl ?_); refine gD (some 16) Tryz.func128 (spec_l2Cut.calls (w := _) (h := A2.out)) ?_; intro w32 _) | ((with_reducible refine gate_callee (f := 128) rfl ?_); refine gD (some 22) Tryz.func128 (spec_l2Cut.calls (w := _) (h := A3.out)) ?_; intro w33 _) | ((with_reducible refine gate_callee (f := 128) rfl ?_); refine gD (some 28) Tryz.func128 (spec_l2Cut.calls (w := _) (h := A4.out)) ?_; intro w34 _) | ((with_reducible refine gd 13 ?_); refine bL 13 #[.int .i64 0, .int .i64 0, .int .i64 0, .int .i64 0] 99 ?_; intro gb143 w35 _ _ _) | ((with_reducible refine gate_callee (f := 129) rfl ?_); refine gC (some 35) Tryz.func129 (spec_Number.calls (w := _) (h := A5.out)) ?_; intro w36 _) | ((with_reducible refine gate_callee (f := 129) rfl ?_); refine gC (some 41) Tryz.func129 (spec_Number.calls (w := _) (h := A6.out)) ?_; intro w37 _) | ((with_reducible refine gate_callee (f := 129) rfl ?_); refine gC (some 47) Tryz.func129 (spec_Number.calls (w := _) (h := A7.out)) ?_; intro w38 _) | ((with_reducible refine gate_callee (f := 129) rfl ?_); refine gC (some 53) Tryz.func129 (spec_Number.calls (w := _) (h := A8.out)) ?_; intro w39 _) | (go_at_call 133; refine aC (spec_TxText.calls (w := _) (h := A19.out)) ?_; intro w40 _))
 refine bodyPost_ret (results_ct rfl _ _ gb133 99 #[.int .i64 0, .int .i64 0, .int .i64 0, .int .i64 0] (0, 0) _ rfl xB Tryz.underlying99 rfl (by kernel_rfl)) rfl ?_
 exact ⟨y0_19, UpW.out⟩

/-! ### spec_TxsOf: function 130 -/
def spec_TxsOf.l0 : Nat → List (S99) → List ByteArray → Int → Option ((List (S99)) × Bool)
 | 0, _, _, _ => none
 | k + 1, x4, x5, x6 => if x6 < (x5.length : Int) then (if 0 ≤ x6 then ((spec_TxOf.f k (rdOf ByteArray.empty x5 x6)).bind fun bt160 => (if bt160.2.2.2.2 = true then (if x4.length < 4398046511104 then (spec_TxsOf.l0 k (x4 ++ [(⟨bt160.1, bt160.2.1, bt160.2.2.1, bt160.2.2.2.1⟩ : S99)]) x5 (wrap64 (x6 + 1))) else (none)) else (some ((([] : List (S99))), false)))) else (none)) else (some (x4, true))
def spec_TxsOf.f (k : Nat) (a0 : ByteArray) : Option ((List (S99)) × Bool) := (some (([] : List (S99)) : List (S99))).bind fun y153 => (if a0.toList = ([] : List UInt8) then (some (y153, true)) else ((spec_Split.f k a0 44).bind fun t156 => (spec_TxsOf.l0 k y153 t156 0)))
theorem spec_TxsOf.mono_l : ∀ k, (∀ y0 y1 y2, LeO (spec_TxsOf.l0 k y0 y1 y2) (spec_TxsOf.l0 (k + 1) y0 y1 y2))
 | 0 => fun _ _ _ r h => by simp [spec_TxsOf.l0] at h
 | k + 1 => by
  have ih0 := spec_TxsOf.mono_l k
  intro y0 y1 y2
  unfold spec_TxsOf.l0
  repeat' first | (with_reducible exact ih0 _ _ _) | (with_reducible exact spec_Split.mono _ _ _) | (with_reducible exact spec_TxOf.mono _ _) | (with_reducible exact LeO.refl _) | (with_reducible exact LeO.none _) | (with_reducible refine LeO.ite ?_ ?_) | (with_reducible refine LeO.bind ?_ (fun _ => ?_))
theorem spec_TxsOf.mono : ∀ a0 k, LeO (spec_TxsOf.f k a0) (spec_TxsOf.f (k + 1) a0) := by
 intro a0 k
 have ih0 := spec_TxsOf.mono_l k
 unfold spec_TxsOf.f
 repeat' first | (with_reducible exact ih0 _ _ _) | (with_reducible exact spec_Split.mono _ _ _) | (with_reducible exact spec_TxOf.mono _ _) | (with_reducible exact LeO.refl _) | (with_reducible exact LeO.none _) | (with_reducible refine LeO.ite ?_ ?_) | (with_reducible refine LeO.bind ?_ (fun _ => ?_))
set_option maxHeartbeats 8000000 in
set_option maxRecDepth 100000 in
theorem spec_TxsOf.calls (k : Nat) (a0 : ByteArray) (r1 : List (S99)) (r2 : Bool) (w : World) (h : spec_TxsOf.f k a0 = some (r1, r2)) :
  Calls Tryz.prog 130 #[.string a0] w fun e w' => ∃ v0_ : Value, e = .returned (.tuple #[v0_, .bool r2]) ∧ Kd.R k99 99 w' w.heap.size (fun _ => True) v0_ r1 ∧ Below w.heap.size w w' := by
 have hu99 := Tryz.underlying99; have HB := Aside0.mk (Below.refl w.heap.size w)
 have H : ((some (([] : List (S99)) : List (S99))).bind fun y153 => (if a0.toList = ([] : List UInt8) then (some (y153, true)) else ((spec_Split.f k a0 44).bind fun t156 => (spec_TxsOf.l0 k y153 t156 0)))) = some (r1, r2) := h
 clear h; obtain ⟨y153, hy153⟩ : ∃ y_ : List (S99), y_ = (([] : List (S99))) := ⟨_, rfl⟩
 replace H : (if a0.toList = ([] : List UInt8) then (some (y153, true)) else ((spec_Split.f k a0 44).bind fun t156 => (spec_TxsOf.l0 k y153 t156 0))) = some (r1, r2) := by first | (rw [hy153]; with_reducible exact H) | (have H2_ := (Option.bind_some _ _).symm.trans H; rw [hy153]; with_reducible exact H2_) | (have H2_ := (Option.bind_some _ _).symm.trans H; with_reducible exact H2_) | with_reducible exact H | (rw [hy153]; exact H) | exact H
 have Ny153 := Aside0.mk hy153; clear hy153
 by_cases c2 : a0.toList = ([] : List UInt8)
 ·
  rw [if_pos c2] at H
  have c2b0 : (a0.toList == ([] : List UInt8)) = true := beq_iff_eq.mpr c2; have c2b1 : (a0.toList != ([] : List UInt8)) = false := bne_eq_false_iff_eq.mpr c2; clear c2
  simp only [Option.some.injEq, Prod.mk.injEq] at H
  obtain ⟨rfl, rfl⟩ := H
  go_enter Tryz.func130, Tryz.ntmps130
  go_wp2_with (first | ((with_reducible refine gate_dst (N := 9) rfl ?_); refine Kd.R_lit k99 _ 99 ?hg (N := 9) ?hd (xs := ([] : List (S99))) (inner := []) (ok := fun _ => True) (okp := fun _ => True) ?hr ?hp (fun _ hk => hk) trivial (Below.refl _ _) (Nat.le_refl _) (by simp) ?_; (case hd => rfl); (case hg => rfl); (case hr => first | (go_simp; done) | (go_simp; rfl)); (case hp => exact (Reps.none _ _)); intro v154 w3 ho4 hb hg_ hnew_; clear hg_ hnew_; (first | rw [← Ny153.out] at ho4 | (simp only [Int.reduceToNat] at ho4; rw [← Ny153.out] at ho4)); have HO155 := Aside0.mk (Kd.R_lower ho4 (below_size (bI HB.out))); replace HB := bs HB hb; clear hb ho4))
  go_ret2
  exact ⟨_, y0_14, by (with_reducible repeat (first | apply Kd.R_alloc | apply Kd.R_drewN | apply Kd.R_drew)); exact HO155.out, bI HB.out⟩
 rw [if_neg c2] at H
 have c2b0 : (a0.toList == ([] : List UInt8)) = false := beq_eq_false_iff_ne.mpr c2; have c2b1 : (a0.toList != ([] : List UInt8)) = true := bne_iff_ne.mpr c2; obtain ⟨t156, A50, H⟩ := Option.bind_eq_some_iff.mp H
 try dsimp only at H
 have A5 := Aside0.mk A50; clear A50; have H' := Aside0.mk H; clear H
 go_enter Tryz.func130, Tryz.ntmps130
 go_wp2_with (first | ((with_reducible refine gate_dst (N := 9) rfl ?_); refine Kd.R_lit k99 _ 99 ?hg (N := 9) ?hd (xs := ([] : List (S99))) (inner := []) (ok := fun _ => True) (okp := fun _ => True) ?hr ?hp (fun _ hk => hk) trivial (Below.refl _ _) (Nat.le_refl _) (by simp) ?_; (case hd => rfl); (case hg => rfl); (case hr => first | (go_simp; done) | (go_simp; rfl)); (case hp => exact (Reps.none _ _)); intro v154 w6 ho7 hb hg_ hnew_; clear hg_ hnew_; (first | rw [← Ny153.out] at ho7 | (simp only [Int.reduceToNat] at ho7; rw [← Ny153.out] at ho7)); have HO155 := Aside0.mk (Kd.R_lower ho7 (below_size (bI HB.out))); replace HB := bs HB hb; clear hb ho7) | ((with_reducible refine gate_callee (f := 127) rfl ?_); refine gB (some 14) Tryz.func127 #[.string a0, .int .u8 44] ?_; (with_reducible refine (spec_Split.calls k a0 44 t156 _ A5.out).mono ?_); rintro e w8 ⟨v157, rfl, ho0, hb⟩; refine ⟨_, rfl, ?_⟩; replace HO155 := rb HO155 hb; have HO158 := Aside0.mk (Kd.R_lower ho0 (below_size (bI HB.out))); replace HB := bs HB hb; (try clear hb); (try clear ho0)))
 go_loopg [4, 6] k (fun kq v4 v6 w' => ∃ (x4_1 : List (S99)) (x6_1 : Int), v6 = .int .i64 x6_1 ∧ Aside0 (spec_TxsOf.l0 kq x4_1 t156 x6_1 = some (r1, r2)) ∧ Aside0 (kq ≤ k) ∧ Aside0 (Kd.R k99 99 w' w.heap.size (fun _ => True) v4 x4_1) ∧ Aside0 (Kd.R Kd.string 9 w' w.heap.size (fun _ => True) v157 t156) ∧ Aside0 (Below w.heap.size w w'))
 case atStart => exact ⟨(y153), (0), y0_19, H', ⟨Nat.le_refl _⟩, ⟨by (with_reducible repeat (first | apply Kd.R_alloc | apply Kd.R_drewN | apply Kd.R_drew)); exact HO155.out⟩, ⟨by (with_reducible repeat (first | apply Kd.R_alloc | apply Kd.R_drewN | apply Kd.R_drew)); exact HO158.out⟩, ⟨bI HB.out⟩⟩
 case round =>
  clear H'
  try clear c1
  try clear c2
  try clear c2b0
  try clear c2b1
  try clear p2
  obtain ⟨x4_1, x6_1, rfl, HA, HK1, HO_4, HO_5, HB⟩ := hrel; cases gk with
  | zero => exact absurd HA.out (by simp [spec_TxsOf.l0])
  | succ k1 =>
   have H := HA.out; clear HA
   simp only [spec_TxsOf.l0] at H
   by_cases c9 : x6_1 < (t156.length : Int)
   ·
    rw [if_pos c9] at H
    have c9b0 : decide (x6_1 < (t156.length : Int)) = true := decide_eq_true c9; clear c9
    by_cases c10 : 0 ≤ x6_1
    rotate_left
    ·
     rw [if_neg c10] at H
     exact absurd H (by simp)
    rw [if_pos c10] at H
    have c10b0 : decide (0 ≤ x6_1) = true := decide_eq_true c10; clear c10; obtain ⟨⟨t160, t161, t162, t163, t164⟩, A110, H⟩ := Option.bind_eq_some_iff.mp H
    try dsimp only at H
    have A11 := Aside0.mk A110; clear A110
    by_cases c12 : t164 = true
    ·
     subst c12
     rw [if_pos rfl] at H
     by_cases c13 : x4_1.length < 4398046511104
     rotate_left
     ·
      rw [if_neg c13] at H
      exact absurd H (by simp)
     rw [if_pos c13] at H
     have LMc13 := Aside0.mk c13; clear c13; obtain ⟨y166, hy166⟩ : ∃ y_ : List (S99), y_ = (x4_1 ++ [(⟨t160, t161, t162, t163⟩ : S99)]) := ⟨_, rfl⟩
     replace H : (spec_TxsOf.l0 k1 y166 t156 (wrap64 (x6_1 + 1))) = some (r1, r2) := by first | (rw [hy166]; with_reducible exact H) | (have H2_ := (Option.bind_some _ _).symm.trans H; rw [hy166]; with_reducible exact H2_) | (have H2_ := (Option.bind_some _ _).symm.trans H; with_reducible exact H2_) | with_reducible exact H | (rw [hy166]; exact H) | exact H
     have Ny166 := Aside0.mk hy166; clear hy166; have H' := Aside0.mk H; clear H; obtain ⟨Ao14, co14, eo14⟩ := Kd.R_slice HO_5.out; subst eo14; have p159 : 0 ≤ (x6_1 : Int) := of_decide_eq_true y0_18; have q159 : x6_1 < (t156.length : Int) := of_decide_eq_true y0_18; obtain ⟨ad159, e159, hx159_0⟩ := Kd.at_string (Kd.R_reads' HO_5.out).2.2 x6_1 p159 q159; cases e159; replace p159 := eq_true p159; replace q159 := eq_true q159
     go_wp2_with (first | ((with_reducible refine gate_callee (f := 146) rfl ?_); refine gB (some 26) Tryz.func146 #[.string (rdOf ByteArray.empty t156 x6_1)] ?_; (with_reducible refine (spec_TxOf.calls k1 (rdOf ByteArray.empty t156 x6_1) t160 t161 t162 t163 true _ A11.out).mono ?_); rintro e w15 ⟨rfl, hb⟩; refine ⟨_, rfl, ?_⟩; replace HO_4 := rb HO_4 hb; replace HO_5 := rb HO_5 hb; replace HB := bs HB hb; (try clear hb); (try clear hb2); (try clear hk); (try clear hi)) | ((with_reducible refine gd 7 ?_); refine bA 7 #[.int .i64 0, .int .i64 0, .int .i64 0, .int .i64 0] 99 ?_; intro gb165 hg w16 hbox hb; replace HO_4 := Aside0.mk (Kd.R_below (Kd.R_elderB (rI HO_4.out) gb165 (Nat.le_of_eq hg.symm)) hb); replace HO_5 := rb HO_5 hb; have BK165 := Aside0.mk (hbox); have GW165 := bg hg HB; have GJ165 := gi GW165; have GE165 := GW165; replace HB := bs HB hb; clear hb hbox hg; obtain ⟨hcz17_0, hcz17_1, hcz17_2, hcz17_3, hfz17_0, hfz17_1, hfz17_2, hfz17_3⟩ := cs4 BK165) | ((with_reducible refine gate_builtin (b := .append) (xs := #[.tmp 32, .tmp 34]) rfl ?_); at_builtin; refine Kd.R_append k99 (w0 := w) w.heap.size rfl (.tmp 32) (.tmp 34) 59 99 (.agg #[(.int .i64 0), (.int .i64 0), (.int .i64 0), (.int .i64 0)]) 32 rfl Tryz.underlying59 info99 rfl (by decide) (by omega) u4 x4_1 (⟨t160, t161, t162, t163⟩ : S99) [.int .i64 t160, .int .i64 t161, .int .i64 t162, .int .i64 t163] (fun k_ => k_ ≠ gb165) (fun _ => False) rfl (by first | (go_simp; done) | (go_simp; rfl)) ?aP (fun _ hk => hk.elim) ?aF ?aO ?aB ?aS ?aL ?_; (case aP => exact k99_mkM _ _ _ (⟨t160, t161, t162, t163⟩ : S99)); (case aB => exact (bI HB.out)); (case aF => exact (fun k_ hk => Kd.freshB (g := gb165) (o := .cells #[.int .i64 t160, .int .i64 t161, .int .i64 t162, .int .i64 t163] 99 (0, 0)) (pI BK165) k_ hk)); (case aO => exact (rI (Kd.R_mono (Kd.R_far (p := ⟨gb165, 3, none⟩) (Kd.R_far (p := ⟨gb165, 2, none⟩) (Kd.R_far (p := ⟨gb165, 1, none⟩) (Kd.R_far (p := ⟨gb165, 0, none⟩) (Kd.R_mono HO_4.out (fun k_ hk => (⟨hk, hk.2⟩ : _ ∧ k_ ≠ gb165))) (fun _ hk => hk.2) (.int .i64 t160)) (fun _ hk => hk.2) (.int .i64 t161)) (fun _ hk => hk.2) (.int .i64 t162)) (fun _ hk => hk.2) (.int .i64 t163)) (fun _ hk => hk.1.2)))); (case aS => exact (below_size (bI HB.out))); (case aL => have := LMc13.out; omega); intro v167 w18 ho hb hg hat; rw [← Ny166.out] at ho; have n0_ := Aside0.mk (Kd.R_over' (rI (Kd.R_mono (Kd.R_far (p := ⟨gb165, 3, none⟩) (Kd.R_far (p := ⟨gb165, 2, none⟩) (Kd.R_far (p := ⟨gb165, 1, none⟩) (Kd.R_far (p := ⟨gb165, 0, none⟩) (Kd.R_types HO_5.out BK165.out (by decide)) (fun _ hk => hk.2) (.int .i64 t160)) (fun _ hk => hk.2) (.int .i64 t161)) (fun _ hk => hk.2) (.int .i64 t162)) (fun _ hk => hk.2) (.int .i64 t163)) (fun _ h_ => h_.1))) (Kd.R_typed (rI (Kd.R_mono (Kd.R_far (p := ⟨gb165, 3, none⟩) (Kd.R_far (p := ⟨gb165, 2, none⟩) (Kd.R_far (p := ⟨gb165, 1, none⟩) (Kd.R_far (p := ⟨gb165, 0, none⟩) (Kd.R_mono HO_4.out (fun k_ hk => (⟨hk, hk.2⟩ : _ ∧ k_ ≠ gb165))) (fun _ hk => hk.2) (.int .i64 t160)) (fun _ hk => hk.2) (.int .i64 t161)) (fun _ hk => hk.2) (.int .i64 t162)) (fun _ hk => hk.2) (.int .i64 t163)) (fun _ h_ => h_.1)))) (by decide) hg); have n1_ := Aside0.mk (blk_grown (g := gb165) (o := .cells #[.int .i64 t160, .int .i64 t161, .int .i64 t162, .int .i64 t163] 99 (0, 0)) (pI BK165) hg (Kd.R_away HO_4.out (fun _ hk => hk.2))); have n2_ := Aside0.mk (hb); have n3_ := Aside0.mk (ho); clear HO_5; clear BK165; clear HB; clear HO_4; have HO_5 := n0_; have BK165 := n1_; have HB := n2_; have HO168 := n3_; clear n0_ n1_ n2_ n3_; clear ho hb hg hat))
     go_roundg k1
     case measure => have := HK1.out; omega
     case rel => exact ⟨(y166), (wrap64 (x6_1 + 1)), y0_19, H', ⟨y0_21⟩, ⟨by (with_reducible repeat (first | apply Kd.R_alloc | apply Kd.R_drewN | apply Kd.R_drew)); exact Kd.R_mono HO168.out (fun _ hk => trivial)⟩, ⟨y0_12⟩, ⟨bI HB.out⟩⟩
    replace c12 := Bool.eq_false_iff.mpr c12; subst c12
    rw [if_neg (show ¬ (false = true) by decide)] at H
    obtain ⟨y169, hy169⟩ : ∃ y_ : List (S99), y_ = (([] : List (S99))) := ⟨_, rfl⟩
    replace H : (some (y169, false)) = some (r1, r2) := by first | (rw [hy169]; with_reducible exact H) | (have H2_ := (Option.bind_some _ _).symm.trans H; rw [hy169]; with_reducible exact H2_) | (have H2_ := (Option.bind_some _ _).symm.trans H; with_reducible exact H2_) | with_reducible exact H | (rw [hy169]; exact H) | exact H
    have Ny169 := Aside0.mk hy169; clear hy169
    simp only [Option.some.injEq, Prod.mk.injEq] at H
    obtain ⟨rfl, rfl⟩ := H; obtain ⟨Ao19, co19, eo19⟩ := Kd.R_slice HO_5.out; subst eo19; have p159 : 0 ≤ (x6_1 : Int) := of_decide_eq_true y0_18; have q159 : x6_1 < (t156.length : Int) := of_decide_eq_true y0_18; obtain ⟨ad159, e159, hx159_0⟩ := Kd.at_string (Kd.R_reads' HO_5.out).2.2 x6_1 p159 q159; cases e159; replace p159 := eq_true p159; replace q159 := eq_true q159
    go_wp2_with (first | ((with_reducible refine gate_callee (f := 146) rfl ?_); refine gB (some 26) Tryz.func146 #[.string (rdOf ByteArray.empty t156 x6_1)] ?_; (with_reducible refine (spec_TxOf.calls k1 (rdOf ByteArray.empty t156 x6_1) t160 t161 t162 t163 false _ A11.out).mono ?_); rintro e w20 ⟨rfl, hb⟩; refine ⟨_, rfl, ?_⟩; replace HO_4 := rb HO_4 hb; replace HO_5 := rb HO_5 hb; replace HB := bs HB hb; (try clear hb); (try clear hb2); (try clear hk); (try clear hi)) | ((with_reducible refine gd 7 ?_); refine bA 7 #[.int .i64 0, .int .i64 0, .int .i64 0, .int .i64 0] 99 ?_; intro gb165 hg w21 hbox hb; replace HO_4 := Aside0.mk (Kd.R_below (Kd.R_elderB (rI HO_4.out) gb165 (Nat.le_of_eq hg.symm)) hb); replace HO_5 := rb HO_5 hb; have BK165 := Aside0.mk (hbox); have GW165 := bg hg HB; have GJ165 := gi GW165; have GE165 := GW165; replace HB := bs HB hb; clear hb hbox hg; obtain ⟨hcz22_0, hcz22_1, hcz22_2, hcz22_3, hfz22_0, hfz22_1, hfz22_2, hfz22_3⟩ := cs4 BK165) | ((with_reducible refine gate_dst (N := 31) rfl ?_); refine Kd.R_lit k99 _ 99 ?hg (N := 31) ?hd (xs := ([] : List (S99))) (inner := []) (ok := fun _ => True) (okp := fun _ => True) ?hr ?hp (fun _ hk => hk) trivial (Below.refl _ _) (Nat.le_refl _) (by simp) ?_; (case hd => rfl); (case hg => rfl); (case hr => first | (go_simp; done) | (go_simp; rfl)); (case hp => exact (Reps.none _ _)); intro v170 w23 ho24 hb hg_ hnew_; clear hg_ hnew_; (first | rw [← Ny169.out] at ho24 | (simp only [Int.reduceToNat] at ho24; rw [← Ny169.out] at ho24)); replace HO_5 := Aside0.mk (Kd.R_below (rI (Kd.R_mono (Kd.R_far (p := ⟨gb165, 3, none⟩) (Kd.R_far (p := ⟨gb165, 2, none⟩) (Kd.R_far (p := ⟨gb165, 1, none⟩) (Kd.R_far (p := ⟨gb165, 0, none⟩) (Kd.R_types HO_5.out BK165.out (by decide)) (fun _ hk => hk.2) (.int .i64 t160)) (fun _ hk => hk.2) (.int .i64 t161)) (fun _ hk => hk.2) (.int .i64 t162)) (fun _ hk => hk.2) (.int .i64 t163)) (fun _ h_ => h_.1))) hb); have HO171 := Aside0.mk (Kd.R_lower (Kd.R_newB (Kd.R_new' ho24 (Kd.R_lt (rI (Kd.R_mono (Kd.R_far (p := ⟨gb165, 3, none⟩) (Kd.R_far (p := ⟨gb165, 2, none⟩) (Kd.R_far (p := ⟨gb165, 1, none⟩) (Kd.R_far (p := ⟨gb165, 0, none⟩) (Kd.R_mono HO_4.out (fun k_ hk => (⟨hk, hk.2⟩ : _ ∧ k_ ≠ gb165))) (fun _ hk => hk.2) (.int .i64 t160)) (fun _ hk => hk.2) (.int .i64 t161)) (fun _ hk => hk.2) (.int .i64 t162)) (fun _ hk => hk.2) (.int .i64 t163)) (fun _ h_ => h_.1))))) (g := gb165) (o := .cells #[.int .i64 t160, .int .i64 t161, .int .i64 t162, .int .i64 t163] 99 (0, 0)) (pI BK165)) (below_size (bI HB.out))); replace HO_4 := Aside0.mk (Kd.R_elder' (rI (Kd.R_mono (Kd.R_far (p := ⟨gb165, 3, none⟩) (Kd.R_far (p := ⟨gb165, 2, none⟩) (Kd.R_far (p := ⟨gb165, 1, none⟩) (Kd.R_far (p := ⟨gb165, 0, none⟩) (Kd.R_mono HO_4.out (fun k_ hk => (⟨hk, hk.2⟩ : _ ∧ k_ ≠ gb165))) (fun _ hk => hk.2) (.int .i64 t160)) (fun _ hk => hk.2) (.int .i64 t161)) (fun _ hk => hk.2) (.int .i64 t162)) (fun _ hk => hk.2) (.int .i64 t163)) (fun _ h_ => h_.1))) (Kd.R_base ho24) hb); replace BK165 := bp BK165 hb #[.int .i64 t160, .int .i64 t161, .int .i64 t162, .int .i64 t163]; replace HB := bs HB hb; clear hb ho24))
    go_ret2
    exact ⟨_, y0_14, by (with_reducible repeat (first | apply Kd.R_alloc | apply Kd.R_drewN | apply Kd.R_drew)); exact Kd.R_mono HO171.out (fun _ hk => trivial), bI HB.out⟩
   rw [if_neg c9] at H
   have c9b0 : decide (x6_1 < (t156.length : Int)) = false := decide_eq_false c9; clear c9
   simp only [Option.some.injEq, Prod.mk.injEq] at H
   obtain ⟨rfl, rfl⟩ := H; obtain ⟨Ao25, co25, eo25⟩ := Kd.R_slice HO_5.out; subst eo25
   go_wp2
   go_ret2
   exact ⟨_, y0_14, by (with_reducible repeat (first | apply Kd.R_alloc | apply Kd.R_drewN | apply Kd.R_drew)); exact HO_4.out, bI HB.out⟩

/-! ### spec_Steps: function 103 -/
mutual
def spec_Steps.j0 : Nat → List (S112) → List (S112) → List ByteArray → Bool → Option ((List (S112)) × Bool)
 | 0, _, _, _, _ => none
 | k + 1, x4, x5, x6, x31 => if x31 = true then (some (x4, false)) else (spec_Steps.l0 k x4 x5 x6 0 1)
def spec_Steps.l0 : Nat → List (S112) → List (S112) → List ByteArray → Int → Int → Option ((List (S112)) × Bool)
 | 0, _, _, _, _, _ => none
 | k + 1, x4, x5, x6, x7, x8 => if x8 < (x6.length : Int) then (if 0 ≤ x8 then ((spec_l2Cut.f k (rdOf ByteArray.empty x6 x8) 124).bind fun bt183 => ((spec_Number.f k bt183.1).bind fun bt186 => ((spec_TxsOf.f k bt183.2.1).bind fun bt188 => (if bt183.2.2 = true then (if bt186.2 = true then (if bt188.2 = true then (if bt186.1 ≤ x7 then (some (x4, false)) else (if bt186.1 > 60 then (some (x4, false)) else (if (bt188.1.length : Int) > 2 then (some (x4, false)) else (if x5.length < 4398046511104 then (spec_Steps.l0 k x4 (x5 ++ [(⟨bt186.1, bt188.1⟩ : S112)]) x6 bt186.1 (wrap64 (x8 + 1))) else (none))))) else (some (x4, false))) else (some (x4, false))) else (some (x4, false)))))) else (none)) else (some (x5, true))
end
def spec_Steps.f (k : Nat) (a0 : ByteArray) : Option ((List (S112)) × Bool) := (some (([] : List (S112)) : List (S112))).bind fun y172 => ((some (([] : List (S112)) : List (S112))).bind fun y175 => (if a0.toList = ([] : List UInt8) then (some (y175, true)) else ((spec_Split.f k a0 47).bind fun t178 => (if 0 < (t178.length : Int) then (if (rdOf ByteArray.empty t178 0).toList = ([] : List UInt8) then (spec_Steps.j0 k y172 y175 t178 (decide ((t178.length : Int) > 31))) else (spec_Steps.j0 k y172 y175 t178 true)) else (none)))))
theorem spec_Steps.mono_l : ∀ k, (∀ y0 y1 y2 y3, LeO (spec_Steps.j0 k y0 y1 y2 y3) (spec_Steps.j0 (k + 1) y0 y1 y2 y3)) ∧ (∀ y0 y1 y2 y3 y4, LeO (spec_Steps.l0 k y0 y1 y2 y3 y4) (spec_Steps.l0 (k + 1) y0 y1 y2 y3 y4))
 | 0 => ⟨fun _ _ _ _ r h => by simp [spec_Steps.j0] at h, fun _ _ _ _ _ r h => by simp [spec_Steps.l0] at h⟩
 | k + 1 => by
  obtain ⟨ih0, ih1⟩ := spec_Steps.mono_l k
  refine ⟨?_, ?_⟩
  ·
   intro y0 y1 y2 y3
   unfold spec_Steps.j0
   repeat' first | (with_reducible exact ih0 _ _ _ _) | (with_reducible exact ih1 _ _ _ _ _) | (with_reducible exact spec_Number.mono _ _) | (with_reducible exact spec_Split.mono _ _ _) | (with_reducible exact spec_TxsOf.mono _ _) | (with_reducible exact spec_l2Cut.mono _ _ _) | (with_reducible exact LeO.refl _) | (with_reducible exact LeO.none _) | (with_reducible refine LeO.ite ?_ ?_) | (with_reducible refine LeO.bind ?_ (fun _ => ?_))
  intro y0 y1 y2 y3 y4
  unfold spec_Steps.l0
  repeat' first | (with_reducible exact ih0 _ _ _ _) | (with_reducible exact ih1 _ _ _ _ _) | (with_reducible exact spec_Number.mono _ _) | (with_reducible exact spec_Split.mono _ _ _) | (with_reducible exact spec_TxsOf.mono _ _) | (with_reducible exact spec_l2Cut.mono _ _ _) | (with_reducible exact LeO.refl _) | (with_reducible exact LeO.none _) | (with_reducible refine LeO.ite ?_ ?_) | (with_reducible refine LeO.bind ?_ (fun _ => ?_))
theorem spec_Steps.mono : ∀ a0 k, LeO (spec_Steps.f k a0) (spec_Steps.f (k + 1) a0) := by
 intro a0 k
 obtain ⟨ih0, ih1⟩ := spec_Steps.mono_l k
 unfold spec_Steps.f
 repeat' first | (with_reducible exact ih0 _ _ _ _) | (with_reducible exact ih1 _ _ _ _ _) | (with_reducible exact spec_Number.mono _ _) | (with_reducible exact spec_Split.mono _ _ _) | (with_reducible exact spec_TxsOf.mono _ _) | (with_reducible exact spec_l2Cut.mono _ _ _) | (with_reducible exact LeO.refl _) | (with_reducible exact LeO.none _) | (with_reducible refine LeO.ite ?_ ?_) | (with_reducible refine LeO.bind ?_ (fun _ => ?_))
set_option maxHeartbeats 8000000 in
set_option maxRecDepth 100000 in
theorem spec_Steps.calls (k : Nat) (a0 : ByteArray) (r1 : List (S112)) (r2 : Bool) (w : World) (h : spec_Steps.f k a0 = some (r1, r2)) :
  Calls Tryz.prog 103 #[.string a0] w fun e w' => ∃ v0_ : Value, e = .returned (.tuple #[v0_, .bool r2]) ∧ Kd.S k112 112 w' w.heap.size (fun _ => True) v0_ r1 ∧ Below w.heap.size w w' := by
 have hu112 := Tryz.underlying112; have HB := Aside0.mk (Below.refl w.heap.size w)
 have H : ((some (([] : List (S112)) : List (S112))).bind fun y172 => ((some (([] : List (S112)) : List (S112))).bind fun y175 => (if a0.toList = ([] : List UInt8) then (some (y175, true)) else ((spec_Split.f k a0 47).bind fun t178 => (if 0 < (t178.length : Int) then (if (rdOf ByteArray.empty t178 0).toList = ([] : List UInt8) then (spec_Steps.j0 k y172 y175 t178 (decide ((t178.length : Int) > 31))) else (spec_Steps.j0 k y172 y175 t178 true)) else (none)))))) = some (r1, r2) := h
 clear h; obtain ⟨y172, hy172⟩ : ∃ y_ : List (S112), y_ = (([] : List (S112))) := ⟨_, rfl⟩
 replace H : ((some (([] : List (S112)) : List (S112))).bind fun y175 => (if a0.toList = ([] : List UInt8) then (some (y175, true)) else ((spec_Split.f k a0 47).bind fun t178 => (if 0 < (t178.length : Int) then (if (rdOf ByteArray.empty t178 0).toList = ([] : List UInt8) then (spec_Steps.j0 k y172 y175 t178 (decide ((t178.length : Int) > 31))) else (spec_Steps.j0 k y172 y175 t178 true)) else (none))))) = some (r1, r2) := by first | (rw [hy172]; with_reducible exact H) | (have H2_ := (Option.bind_some _ _).symm.trans H; rw [hy172]; with_reducible exact H2_) | (have H2_ := (Option.bind_some _ _).symm.trans H; with_reducible exact H2_) | with_reducible exact H | (rw [hy172]; exact H) | exact H
 have Ny172 := Aside0.mk hy172; clear hy172; obtain ⟨y175, hy175⟩ : ∃ y_ : List (S112), y_ = (([] : List (S112))) := ⟨_, rfl⟩
 replace H : (if a0.toList = ([] : List UInt8) then (some (y175, true)) else ((spec_Split.f k a0 47).bind fun t178 => (if 0 < (t178.length : Int) then (if (rdOf ByteArray.empty t178 0).toList = ([] : List UInt8) then (spec_Steps.j0 k y172 y175 t178 (decide ((t178.length : Int) > 31))) else (spec_Steps.j0 k y172 y175 t178 true)) else (none)))) = some (r1, r2) := by first | (rw [hy175]; with_reducible exact H) | (have H2_ := (Option.bind_some _ _).symm.trans H; rw [hy175]; with_reducible exact H2_) | (have H2_ := (Option.bind_some _ _).symm.trans H; with_reducible exact H2_) | with_reducible exact H | (rw [hy175]; exact H) | exact H
 have Ny175 := Aside0.mk hy175; clear hy175
 by_cases c2 : a0.toList = ([] : List UInt8)
 ·
  rw [if_pos c2] at H
  have c2b0 : (a0.toList == ([] : List UInt8)) = true := beq_iff_eq.mpr c2; have c2b1 : (a0.toList != ([] : List UInt8)) = false := bne_eq_false_iff_eq.mpr c2; clear c2
  simp only [Option.some.injEq, Prod.mk.injEq] at H
  obtain ⟨rfl, rfl⟩ := H
  go_enter Tryz.func103, Tryz.ntmps103
  go_wp2_with (first | ((with_reducible refine gate_dst (N := 16) rfl ?_); (try (refine gate_guard (by rfl) ?_; dsimp only)); refine Kd.S_lit k112 _ 112 ?hg (N := 16) ?hd (xs := ([] : List (S112))) (inner := []) (ok := fun _ => True) (okp := fun _ => True) ?hr ?hp (fun _ hk => hk) trivial (Below.refl _ _) (Nat.le_refl _) (by simp) ?_; (case hd => rfl); (case hg => rfl); (case hr => first | (go_simp; done) | (go_simp; rfl)); (case hp => exact (Reps.none _ _)); intro v173 w3 ho4 hb hg_ hnew_; clear hg_ hnew_; (first | rw [← Ny172.out] at ho4 | (simp only [Int.reduceToNat] at ho4; rw [← Ny172.out] at ho4)); have HO174 := Aside0.mk (Kd.S_lower ho4 (below_size (bI HB.out))); replace HB := bs HB hb; clear hb ho4) | ((with_reducible refine gate_dst (N := 17) rfl ?_); (try (refine gate_guard (by rfl) ?_; dsimp only)); refine Kd.S_lit k112 _ 112 ?hg (N := 17) ?hd (xs := ([] : List (S112))) (inner := []) (ok := fun _ => True) (okp := fun _ => True) ?hr ?hp (fun _ hk => hk) trivial (Below.refl _ _) (Nat.le_refl _) (by simp) ?_; (case hd => rfl); (case hg => rfl); (case hr => first | (go_simp; done) | (go_simp; rfl)); (case hp => exact (Reps.none _ _)); intro v176 w5 ho6 hb hg_ hnew_; clear hg_ hnew_; (first | rw [← Ny175.out] at ho6 | (simp only [Int.reduceToNat] at ho6; rw [← Ny175.out] at ho6)); have HO177 := Aside0.mk (Kd.S_lower (Kd.S_new' ho6 (Kd.S_lt (sI HO174.out))) (below_size (bI HB.out))); replace HO174 := Aside0.mk (Kd.S_elder' (sI HO174.out) (Kd.S_base ho6) hb); replace HB := bs HB hb; clear hb ho6))
  go_ret2
  exact ⟨_, y0_14, by (with_reducible repeat (first | apply Kd.S_alloc | apply Kd.S_drewN | apply Kd.S_drew)); exact Kd.S_mono HO177.out (fun _ hk => trivial), bI HB.out⟩
 rw [if_neg c2] at H
 have c2b0 : (a0.toList == ([] : List UInt8)) = false := beq_eq_false_iff_ne.mpr c2; have c2b1 : (a0.toList != ([] : List UInt8)) = true := bne_iff_ne.mpr c2; obtain ⟨t178, A70, H⟩ := Option.bind_eq_some_iff.mp H
 try dsimp only at H
 have A7 := Aside0.mk A70; clear A70; have HC8 := Aside0.mk H; clear H
 go_enter Tryz.func103, Tryz.ntmps103
 go_upto_region 6 with (first | ((with_reducible refine gate_dst (N := 16) rfl ?_); (try (refine gate_guard (by rfl) ?_; dsimp only)); refine Kd.S_lit k112 _ 112 ?hg (N := 16) ?hd (xs := ([] : List (S112))) (inner := []) (ok := fun _ => True) (okp := fun _ => True) ?hr ?hp (fun _ hk => hk) trivial (Below.refl _ _) (Nat.le_refl _) (by simp) ?_; (case hd => rfl); (case hg => rfl); (case hr => first | (go_simp; done) | (go_simp; rfl)); (case hp => exact (Reps.none _ _)); intro v173 w9 ho10 hb hg_ hnew_; clear hg_ hnew_; (first | rw [← Ny172.out] at ho10 | (simp only [Int.reduceToNat] at ho10; rw [← Ny172.out] at ho10)); have HO174 := Aside0.mk (Kd.S_lower ho10 (below_size (bI HB.out))); replace HB := bs HB hb; clear hb ho10) | ((with_reducible refine gate_dst (N := 17) rfl ?_); (try (refine gate_guard (by rfl) ?_; dsimp only)); refine Kd.S_lit k112 _ 112 ?hg (N := 17) ?hd (xs := ([] : List (S112))) (inner := []) (ok := fun _ => True) (okp := fun _ => True) ?hr ?hp (fun _ hk => hk) trivial (Below.refl _ _) (Nat.le_refl _) (by simp) ?_; (case hd => rfl); (case hg => rfl); (case hr => first | (go_simp; done) | (go_simp; rfl)); (case hp => exact (Reps.none _ _)); intro v176 w11 ho12 hb hg_ hnew_; clear hg_ hnew_; (first | rw [← Ny175.out] at ho12 | (simp only [Int.reduceToNat] at ho12; rw [← Ny175.out] at ho12)); have HO177 := Aside0.mk (Kd.S_lower (Kd.S_new' ho12 (Kd.S_lt (sI HO174.out))) (below_size (bI HB.out))); replace HO174 := Aside0.mk (Kd.S_elder' (sI HO174.out) (Kd.S_base ho12) hb); replace HB := bs HB hb; clear hb ho12) | ((with_reducible refine gate_callee (f := 127) rfl ?_); refine gB (some 22) Tryz.func127 #[.string a0, .int .u8 47] ?_; (with_reducible refine (spec_Split.calls k a0 47 t178 _ A7.out).mono ?_); rintro e w13 ⟨v179, rfl, ho0, hb⟩; refine ⟨_, rfl, ?_⟩; replace HO174 := sb HO174 hb; replace HO177 := sb HO177 hb; have HO180 := Aside0.mk (Kd.R_lower ho0 (below_size (bI HB.out))); replace HB := bs HB hb; (try clear hb); (try clear ho0)))
 (try simp only [Act.put, List.setIfInBounds_toArray, List.set_cons_zero, List.set_cons_succ])
 go_cut [31] (fun v31 wc => ∃ (kq : Nat) (x31_7 : Bool), v31 = .bool x31_7 ∧ Aside0 (spec_Steps.j0 kq y172 y175 t178 x31_7 = some (r1, r2)) ∧ Aside0 (kq ≤ k) ∧ Aside0 (Kd.S k112 112 wc w.heap.size (fun k_ => some k_ ≠ (v176 : Value).ownBlock) v173 y172) ∧ Aside0 (Kd.S k112 112 wc w.heap.size (fun k_ => some k_ ≠ (v173 : Value).ownBlock) v176 y175) ∧ Aside0 (Kd.R Kd.string 9 wc w.heap.size (fun _ => True) v179 t178) ∧ Aside0 (Below w.heap.size w wc))
 case first =>
  have H := HC8.out; clear HC8
  by_cases c14 : 0 < (t178.length : Int)
  rotate_left
  ·
   rw [if_neg c14] at H
   exact absurd H (by simp)
  rw [if_pos c14] at H
  have c14b0 : decide (0 < (t178.length : Int)) = true := decide_eq_true c14
  have c14b1 : decide (0 < t178.length) = true := decide_eq_true (by omega)
  clear c14
  (first | rw [c14b0] | (simp only [i64_w, i32_w]; rw [c14b0]) | skip)
  by_cases c15 : (rdOf ByteArray.empty t178 0).toList = ([] : List UInt8)
  ·
   rw [if_pos c15] at H
   have c15b0 : ((rdOf ByteArray.empty t178 0).toList == ([] : List UInt8)) = true := beq_iff_eq.mpr c15; have c15b1 : ((rdOf ByteArray.empty t178 0).toList != ([] : List UInt8)) = false := bne_eq_false_iff_eq.mpr c15; clear c15; have H' := Aside0.mk H; clear H; obtain ⟨Ao16, co16, eo16⟩ := Kd.R_slice HO180.out; subst eo16
   have p181 : 0 ≤ (0 : Int) := (by omega)
   have q181 : 0 < (t178.length : Int) := of_decide_eq_true y0_18; obtain ⟨ad181, e181, hx181_0⟩ := Kd.at_string (Kd.R_reads' HO180.out).2.2 0 p181 q181; cases e181
   have qi181 : (0 < t178.length) = True := eq_true (by omega)
   (try rw [show ((0 : Int)).toNat = 0 from rfl] at hx181_0)
   (try rw [Addr.add_zero'] at hx181_0)
   replace p181 := eq_true p181; replace q181 := eq_true q181
   go_wp2
   go_meet
   case rel => exact ⟨_, (decide ((t178.length : Int) > 31)), y0_19, H', ⟨y0_20⟩, ⟨by (with_reducible repeat (first | apply Kd.S_alloc | apply Kd.S_drewN | apply Kd.S_drew)); exact Kd.S_mono HO174.out (fun _ hk => hk.2)⟩, ⟨by (with_reducible repeat (first | apply Kd.S_alloc | apply Kd.S_drewN | apply Kd.S_drew)); exact Kd.S_mono HO177.out (fun _ hk => hk.2)⟩, ⟨by (with_reducible repeat (first | apply Kd.R_alloc | apply Kd.R_drewN | apply Kd.R_drew)); exact HO180.out⟩, ⟨bI HB.out⟩⟩
  rw [if_neg c15] at H
  have c15b0 : ((rdOf ByteArray.empty t178 0).toList == ([] : List UInt8)) = false := beq_eq_false_iff_ne.mpr c15; have c15b1 : ((rdOf ByteArray.empty t178 0).toList != ([] : List UInt8)) = true := bne_iff_ne.mpr c15; have H' := Aside0.mk H; clear H; obtain ⟨Ao17, co17, eo17⟩ := Kd.R_slice HO180.out; subst eo17
  have p181 : 0 ≤ (0 : Int) := (by omega)
  have q181 : 0 < (t178.length : Int) := of_decide_eq_true y0_18; obtain ⟨ad181, e181, hx181_0⟩ := Kd.at_string (Kd.R_reads' HO180.out).2.2 0 p181 q181; cases e181
  have qi181 : (0 < t178.length) = True := eq_true (by omega)
  (try rw [show ((0 : Int)).toNat = 0 from rfl] at hx181_0)
  (try rw [Addr.add_zero'] at hx181_0)
  replace p181 := eq_true p181; replace q181 := eq_true q181
  go_wp2
  go_meet
  case rel => exact ⟨_, (true), y0_19, H', ⟨y0_20⟩, ⟨by (with_reducible repeat (first | apply Kd.S_alloc | apply Kd.S_drewN | apply Kd.S_drew)); exact Kd.S_mono HO174.out (fun _ hk => hk.2)⟩, ⟨by (with_reducible repeat (first | apply Kd.S_alloc | apply Kd.S_drewN | apply Kd.S_drew)); exact Kd.S_mono HO177.out (fun _ hk => hk.2)⟩, ⟨by (with_reducible repeat (first | apply Kd.R_alloc | apply Kd.R_drewN | apply Kd.R_drew)); exact HO180.out⟩, ⟨bI HB.out⟩⟩
 case rest =>
  clear HC8
  try clear c1
  try clear p1
  try clear q1
  try clear hx1
  try clear qi1
  try clear c2
  try clear c2b0
  try clear c2b1
  try clear p2
  try clear c10
  try clear c12
  try clear c14
  try clear c14b0
  try clear c14b1
  try clear c15
  try clear c15b0
  try clear c15b1
  try clear hx181_0
  try clear p181
  try clear q181
  obtain ⟨kq, x31_7, rfl, HA, HJ7, HO_4, HO_5, HO_6, HB⟩ := hcut; cases kq with
  | zero => exact absurd HA.out (by simp [spec_Steps.j0])
  | succ kj7 =>
   have H := HA.out; clear HA
   simp only [spec_Steps.j0] at H
   by_cases c18 : x31_7 = true
   ·
    subst c18
    rw [if_pos rfl] at H
    simp only [Option.some.injEq, Prod.mk.injEq] at H
    obtain ⟨rfl, rfl⟩ := H
    go_wp2
    go_ret2
    exact ⟨_, y0_14, y0_11, bI HB.out⟩
   replace c18 := Bool.eq_false_iff.mpr c18; subst c18
   rw [if_neg (show ¬ (false = true) by decide)] at H
   have H' := Aside0.mk H; clear H
   go_wp2
   go_loopg [5, 7, 8] kj7 (fun kq v5 v7 v8 w' => ∃ (x5_2 : List (S112)) (x7_2 : Int) (x8_2 : Int), v7 = .int .i64 x7_2 ∧ v8 = .int .i64 x8_2 ∧ Aside0 (spec_Steps.l0 kq y172 x5_2 t178 x7_2 x8_2 = some (r1, r2)) ∧ Aside0 (kq ≤ kj7) ∧ Aside0 (Kd.S k112 112 w' w.heap.size (fun k_ => some k_ ≠ (v5 : Value).ownBlock) v173 y172) ∧ Aside0 (Kd.S k112 112 w' w.heap.size (fun k_ => some k_ ≠ (v173 : Value).ownBlock) v5 x5_2) ∧ Aside0 (Kd.R Kd.string 9 w' w.heap.size (fun _ => True) v179 t178) ∧ Aside0 (Below w.heap.size w w'))
   case atStart => exact ⟨(y175), (0), (1), y0_19, y0_19, H', ⟨Nat.le_refl _⟩, ⟨by (with_reducible repeat (first | apply Kd.S_alloc | apply Kd.S_drewN | apply Kd.S_drew)); exact HO_4.out⟩, ⟨by (with_reducible repeat (first | apply Kd.S_alloc | apply Kd.S_drewN | apply Kd.S_drew)); exact HO_5.out⟩, ⟨by (with_reducible repeat (first | apply Kd.R_alloc | apply Kd.R_drewN | apply Kd.R_drew)); exact HO_6.out⟩, ⟨bI HB.out⟩⟩
   case round =>
    clear H'
    try clear c1
    try clear p1
    try clear q1
    try clear hx1
    try clear qi1
    try clear c2
    try clear c2b0
    try clear c2b1
    try clear p2
    try clear c10
    try clear c12
    try clear c14
    try clear c14b0
    try clear c14b1
    try clear c15
    try clear c15b0
    try clear c15b1
    try clear c18
    try clear p18
    try clear q18
    try clear hx18
    try clear qi18
    try clear hx181_0
    try clear p1
    try clear p181
    try clear p2
    try clear q1
    try clear q181
    obtain ⟨x5_2, x7_2, x8_2, rfl, rfl, HA, HK2, HO_4, HO_5, HO_6, HB⟩ := hrel; cases gk with
    | zero => exact absurd HA.out (by simp [spec_Steps.l0])
    | succ k2 =>
     have H := HA.out; clear HA
     simp only [spec_Steps.l0] at H
     by_cases c19 : x8_2 < (t178.length : Int)
     ·
      rw [if_pos c19] at H
      have c19b0 : decide (x8_2 < (t178.length : Int)) = true := decide_eq_true c19; clear c19
      by_cases c20 : 0 ≤ x8_2
      rotate_left
      ·
       rw [if_neg c20] at H
       exact absurd H (by simp)
      rw [if_pos c20] at H
      have c20b0 : decide (0 ≤ x8_2) = true := decide_eq_true c20; clear c20; obtain ⟨⟨t183, t184, t185⟩, A210, H⟩ := Option.bind_eq_some_iff.mp H
      try dsimp only at H
      have A21 := Aside0.mk A210; clear A210; obtain ⟨⟨t186, t187⟩, A220, H⟩ := Option.bind_eq_some_iff.mp H
      try dsimp only at H
      have A22 := Aside0.mk A220; clear A220; obtain ⟨⟨t188, t189⟩, A230, H⟩ := Option.bind_eq_some_iff.mp H
      try dsimp only at H
      have A23 := Aside0.mk A230; clear A230
      by_cases c24 : t185 = true
      ·
       subst c24
       rw [if_pos rfl] at H
       by_cases c25 : t187 = true
       ·
        subst c25
        rw [if_pos rfl] at H
        by_cases c26 : t189 = true
        ·
         subst c26
         rw [if_pos rfl] at H
         by_cases c27 : t186 ≤ x7_2
         ·
          rw [if_pos c27] at H
          have c27b0 : decide (t186 ≤ x7_2) = true := decide_eq_true c27; clear c27
          simp only [Option.some.injEq, Prod.mk.injEq] at H
          obtain ⟨rfl, rfl⟩ := H; obtain ⟨Ao28, co28, eo28⟩ := Kd.R_slice HO_6.out; subst eo28; have p182 : 0 ≤ (x8_2 : Int) := of_decide_eq_true y0_18; have q182 : x8_2 < (t178.length : Int) := of_decide_eq_true y0_18; obtain ⟨ad182, e182, hx182_0⟩ := Kd.at_string (Kd.R_reads' HO_6.out).2.2 x8_2 p182 q182; cases e182; replace p182 := eq_true p182; replace q182 := eq_true q182
          go_wp2_with (first | ((with_reducible refine gate_callee (f := 128) rfl ?_); refine gB (some 44) Tryz.func128 #[.string (rdOf ByteArray.empty t178 x8_2), .int .u8 124] ?_; (with_reducible refine (spec_l2Cut.calls k2 (rdOf ByteArray.empty t178 x8_2) 124 t183 t184 true _ A21.out).mono ?_); rintro e w' ⟨rfl, ⟨nd, rfl⟩⟩; refine ⟨_, rfl, ?_⟩) | ((with_reducible refine gate_callee (f := 129) rfl ?_); refine gB (some 50) Tryz.func129 #[.string t183] ?_; (with_reducible refine (spec_Number.calls k2 t183 t186 true _ A22.out).mono ?_); rintro e w29 ⟨rfl, hb⟩; refine ⟨_, rfl, ?_⟩; replace HO_4 := sb HO_4 hb; replace HO_5 := sb HO_5 hb; replace HO_6 := rb HO_6 hb; replace HB := bs HB hb; (try clear hb); (try clear hb2); (try clear hk); (try clear hi)) | ((with_reducible refine gate_callee (f := 130) rfl ?_); refine gB (some 55) Tryz.func130 #[.string t184] ?_; (with_reducible refine (spec_TxsOf.calls k2 t184 t188 true _ A23.out).mono ?_); rintro e w30 ⟨v190, rfl, ho0, hb⟩; refine ⟨_, rfl, ?_⟩; replace HO_4 := Aside0.mk (Kd.S_elder' (sI HO_4.out) (Kd.R_base ho0) hb); replace HO_5 := Aside0.mk (Kd.S_elder' (sI HO_5.out) (Kd.R_base ho0) hb); replace HO_6 := rb HO_6 hb; have HO191 := Aside0.mk (Kd.R_lower ho0 (below_size (bI HB.out))); replace HB := bs HB hb; (try clear hb)))
          go_ret2
          exact ⟨_, y0_14, y0_11, bI HB.out⟩
         rw [if_neg c27] at H
         have c27b0 : decide (t186 ≤ x7_2) = false := decide_eq_false c27; clear c27
         by_cases c31 : t186 > 60
         ·
          rw [if_pos c31] at H
          have c31b0 : decide (60 < t186) = true := decide_eq_true c31; clear c31
          simp only [Option.some.injEq, Prod.mk.injEq] at H
          obtain ⟨rfl, rfl⟩ := H; obtain ⟨Ao32, co32, eo32⟩ := Kd.R_slice HO_6.out; subst eo32; have p182 : 0 ≤ (x8_2 : Int) := of_decide_eq_true y0_18; have q182 : x8_2 < (t178.length : Int) := of_decide_eq_true y0_18; obtain ⟨ad182, e182, hx182_0⟩ := Kd.at_string (Kd.R_reads' HO_6.out).2.2 x8_2 p182 q182; cases e182; replace p182 := eq_true p182; replace q182 := eq_true q182
          go_wp2_with (first | ((with_reducible refine gate_callee (f := 128) rfl ?_); refine gB (some 44) Tryz.func128 #[.string (rdOf ByteArray.empty t178 x8_2), .int .u8 124] ?_; (with_reducible refine (spec_l2Cut.calls k2 (rdOf ByteArray.empty t178 x8_2) 124 t183 t184 true _ A21.out).mono ?_); rintro e w' ⟨rfl, ⟨nd, rfl⟩⟩; refine ⟨_, rfl, ?_⟩) | ((with_reducible refine gate_callee (f := 129) rfl ?_); refine gB (some 50) Tryz.func129 #[.string t183] ?_; (with_reducible refine (spec_Number.calls k2 t183 t186 true _ A22.out).mono ?_); rintro e w33 ⟨rfl, hb⟩; refine ⟨_, rfl, ?_⟩; replace HO_4 := sb HO_4 hb; replace HO_5 := sb HO_5 hb; replace HO_6 := rb HO_6 hb; replace HB := bs HB hb; (try clear hb); (try clear hb2); (try clear hk); (try clear hi)) | ((with_reducible refine gate_callee (f := 130) rfl ?_); refine gB (some 55) Tryz.func130 #[.string t184] ?_; (with_reducible refine (spec_TxsOf.calls k2 t184 t188 true _ A23.out).mono ?_); rintro e w34 ⟨v190, rfl, ho0, hb⟩; refine ⟨_, rfl, ?_⟩; replace HO_4 := Aside0.mk (Kd.S_elder' (sI HO_4.out) (Kd.R_base ho0) hb); replace HO_5 := Aside0.mk (Kd.S_elder' (sI HO_5.out) (Kd.R_base ho0) hb); replace HO_6 := rb HO_6 hb; have HO191 := Aside0.mk (Kd.R_lower ho0 (below_size (bI HB.out))); replace HB := bs HB hb; (try clear hb)))
          go_ret2
          exact ⟨_, y0_14, y0_11, bI HB.out⟩
         rw [if_neg c31] at H
         have c31b0 : decide (60 < t186) = false := decide_eq_false c31; clear c31
         by_cases c35 : (t188.length : Int) > 2
         ·
          rw [if_pos c35] at H
          have c35b0 : decide (2 < (t188.length : Int)) = true := decide_eq_true c35
          have c35b1 : decide (2 < t188.length) = true := decide_eq_true (by omega)
          clear c35
          simp only [Option.some.injEq, Prod.mk.injEq] at H
          obtain ⟨rfl, rfl⟩ := H; obtain ⟨Ao36, co36, eo36⟩ := Kd.R_slice HO_6.out; subst eo36; have p182 : 0 ≤ (x8_2 : Int) := of_decide_eq_true y0_18; have q182 : x8_2 < (t178.length : Int) := of_decide_eq_true y0_18; obtain ⟨ad182, e182, hx182_0⟩ := Kd.at_string (Kd.R_reads' HO_6.out).2.2 x8_2 p182 q182; cases e182; replace p182 := eq_true p182; replace q182 := eq_true q182
          go_wp2_with (first | ((with_reducible refine gate_callee (f := 128) rfl ?_); refine gB (some 44) Tryz.func128 #[.string (rdOf ByteArray.empty t178 x8_2), .int .u8 124] ?_; (with_reducible refine (spec_l2Cut.calls k2 (rdOf ByteArray.empty t178 x8_2) 124 t183 t184 true _ A21.out).mono ?_); rintro e w' ⟨rfl, ⟨nd, rfl⟩⟩; refine ⟨_, rfl, ?_⟩) | ((with_reducible refine gate_callee (f := 129) rfl ?_); refine gB (some 50) Tryz.func129 #[.string t183] ?_; (with_reducible refine (spec_Number.calls k2 t183 t186 true _ A22.out).mono ?_); rintro e w37 ⟨rfl, hb⟩; refine ⟨_, rfl, ?_⟩; replace HO_4 := sb HO_4 hb; replace HO_5 := sb HO_5 hb; replace HO_6 := rb HO_6 hb; replace HB := bs HB hb; (try clear hb); (try clear hb2); (try clear hk); (try clear hi)) | ((with_reducible refine gate_callee (f := 130) rfl ?_); refine gB (some 55) Tryz.func130 #[.string t184] ?_; (with_reducible refine (spec_TxsOf.calls k2 t184 t188 true _ A23.out).mono ?_); rintro e w38 ⟨v190, rfl, ho0, hb⟩; refine ⟨_, rfl, ?_⟩; replace HO_4 := Aside0.mk (Kd.S_elder' (sI HO_4.out) (Kd.R_base ho0) hb); replace HO_5 := Aside0.mk (Kd.S_elder' (sI HO_5.out) (Kd.R_base ho0) hb); replace HO_6 := rb HO_6 hb; have HO191 := Aside0.mk (Kd.R_lower ho0 (below_size (bI HB.out))); replace HB := bs HB hb; (try clear hb); obtain ⟨Ao39, co39, eo39⟩ := Kd.R_slice HO191.out; subst eo39))
          go_ret2
          exact ⟨_, y0_14, y0_11, bI HB.out⟩
         rw [if_neg c35] at H
         have c35b0 : decide (2 < (t188.length : Int)) = false := decide_eq_false c35
         have c35b1 : decide (2 < t188.length) = false := decide_eq_false (by omega)
         clear c35
         by_cases c40 : x5_2.length < 4398046511104
         rotate_left
         ·
          rw [if_neg c40] at H
          exact absurd H (by simp)
         rw [if_pos c40] at H
         have LMc40 := Aside0.mk c40; clear c40; obtain ⟨y192, hy192⟩ : ∃ y_ : List (S112), y_ = (x5_2 ++ [(⟨t186, t188⟩ : S112)]) := ⟨_, rfl⟩
         replace H : (spec_Steps.l0 k2 y172 y192 t178 t186 (wrap64 (x8_2 + 1))) = some (r1, r2) := by first | (rw [hy192]; with_reducible exact H) | (have H2_ := (Option.bind_some _ _).symm.trans H; rw [hy192]; with_reducible exact H2_) | (have H2_ := (Option.bind_some _ _).symm.trans H; with_reducible exact H2_) | with_reducible exact H | (rw [hy192]; exact H) | exact H
         have Ny192 := Aside0.mk hy192; clear hy192; have H' := Aside0.mk H; clear H; obtain ⟨Ao41, co41, eo41⟩ := Kd.R_slice HO_6.out; subst eo41; have p182 : 0 ≤ (x8_2 : Int) := of_decide_eq_true y0_18; have q182 : x8_2 < (t178.length : Int) := of_decide_eq_true y0_18; obtain ⟨ad182, e182, hx182_0⟩ := Kd.at_string (Kd.R_reads' HO_6.out).2.2 x8_2 p182 q182; cases e182; replace p182 := eq_true p182; replace q182 := eq_true q182
         go_wp2_with (first | ((with_reducible refine gate_callee (f := 128) rfl ?_); refine gB (some 44) Tryz.func128 #[.string (rdOf ByteArray.empty t178 x8_2), .int .u8 124] ?_; (with_reducible refine (spec_l2Cut.calls k2 (rdOf ByteArray.empty t178 x8_2) 124 t183 t184 true _ A21.out).mono ?_); rintro e w' ⟨rfl, ⟨nd, rfl⟩⟩; refine ⟨_, rfl, ?_⟩) | ((with_reducible refine gate_callee (f := 129) rfl ?_); refine gB (some 50) Tryz.func129 #[.string t183] ?_; (with_reducible refine (spec_Number.calls k2 t183 t186 true _ A22.out).mono ?_); rintro e w42 ⟨rfl, hb⟩; refine ⟨_, rfl, ?_⟩; replace HO_4 := sb HO_4 hb; replace HO_5 := sb HO_5 hb; replace HO_6 := rb HO_6 hb; replace HB := bs HB hb; (try clear hb); (try clear hb2); (try clear hk); (try clear hi)) | ((with_reducible refine gate_callee (f := 130) rfl ?_); refine gB (some 55) Tryz.func130 #[.string t184] ?_; (with_reducible refine (spec_TxsOf.calls k2 t184 t188 true _ A23.out).mono ?_); rintro e w43 ⟨v190, rfl, ho0, hb⟩; refine ⟨_, rfl, ?_⟩; replace HO_4 := Aside0.mk (Kd.S_elder' (sI HO_4.out) (Kd.R_base ho0) hb); replace HO_5 := Aside0.mk (Kd.S_elder' (sI HO_5.out) (Kd.R_base ho0) hb); replace HO_6 := rb HO_6 hb; have HO191 := Aside0.mk (Kd.R_lower ho0 (below_size (bI HB.out))); replace HB := bs HB hb; (try clear hb); obtain ⟨Ao44, co44, eo44⟩ := Kd.R_slice HO191.out; subst eo44) | ((with_reducible refine gate_builtin (b := .append) (xs := #[.tmp 84, .tmp 88]) rfl ?_); (try (refine gate_guard (by rfl) ?_; dsimp only)); at_builtin; refine Kd.S_append k112 (w0 := w) w.heap.size rfl (.tmp 84) (.tmp 88) 108 112 (.agg #[(.int .i64 0), (.slice none 0 0)]) 32 rfl Tryz.underlying108 info112 rfl (by decide) (by omega) u5 x5_2 (⟨t186, t188⟩ : S112) [.int .i64 t186, .slice Ao44 t188.length co44] (fun k_ => some k_ ≠ (v173 : Value).ownBlock) (fun k_ => some k_ = (.slice Ao44 t188.length co44 : Value).ownBlock) rfl rfl ?aP (fun k_ hk_ => ((Kd.R_mono (ok' := fun k_ => ((fun k_ => some k_ ≠ (v173 : Value).ownBlock)) k_ ∧ some k_ ≠ (u5 : Value).ownBlock) (Kd.R_apart' (Kd.R_apart' (HO191.out) (Kd.S_typed HO_4.out) (by decide)) (Kd.S_typed HO_5.out) (by decide)) (fun k_ hk => ⟨hk.1.2, hk.2⟩))).1 k_ hk_.symm) ?aF ?aO ?aB ?aS ?aL ?_; (case aP => exact k112_mkM _ _ _ (⟨t186, t188⟩ : S112) (Kd.R_mono (Kd.R_tight rfl (Kd.R_mono (ok' := fun k_ => ((fun k_ => some k_ ≠ (v173 : Value).ownBlock)) k_ ∧ some k_ ≠ (u5 : Value).ownBlock) (Kd.R_apart' (Kd.R_apart' (HO191.out) (Kd.S_typed HO_4.out) (by decide)) (Kd.S_typed HO_5.out) (by decide)) (fun k_ hk => ⟨hk.1.2, hk.2⟩))) (fun _ h_ => h_))); (case aB => exact (bI HB.out)); (case aF => exact (fun k_ hk => Kd.fresh' (Kd.S_lt (sI HO_4.out)) k_ hk)); (case aO => exact (sI (Kd.S_mono HO_5.out (fun k_ hk => ⟨hk.1, fun e_ => hk.2 e_⟩)))); (case aS => exact (below_size (bI HB.out))); (case aL => have := LMc40.out; omega); intro v193 w45 ho hb hg hat; rw [← Ny192.out] at ho; have n0_ := Aside0.mk (Kd.S_after (ok := (fun k_ => some k_ ≠ (.slice Ao44 t188.length co44 : Value).ownBlock)) (sI (Kd.S_mono HO_4.out (fun _ hk => ⟨hk.2, hk.1⟩))) hg hat); have n1_ := Aside0.mk (Kd.R_over' (rI HO_6.out) (Kd.S_typed (sI HO_5.out)) (by decide) hg); have n2_ := Aside0.mk (hb); have n3_ := Aside0.mk (ho); clear HO_4; clear HO_6; clear HB; clear HO_5; clear HO191; have HO_4 := n0_; have HO_6 := n1_; have HB := n2_; have HO194 := n3_; clear n0_ n1_ n2_ n3_; clear ho hb hg hat))
         go_roundg k2
         case measure => have := HJ7.out; have := HK2.out; omega
         case rel => exact ⟨(y192), (t186), (wrap64 (x8_2 + 1)), y0_19, y0_19, H', ⟨by have := HJ7.out; have := HK2.out; omega⟩, ⟨by (with_reducible repeat (first | apply Kd.S_alloc | apply Kd.S_drewN | apply Kd.S_drew)); exact Kd.S_mono HO_4.out (fun _ hk => hk.2)⟩, ⟨by (with_reducible repeat (first | apply Kd.S_alloc | apply Kd.S_drewN | apply Kd.S_drew)); exact HO194.out⟩, ⟨by (with_reducible repeat (first | apply Kd.R_alloc | apply Kd.R_drewN | apply Kd.R_drew)); exact HO_6.out⟩, ⟨bI HB.out⟩⟩
        replace c26 := Bool.eq_false_iff.mpr c26; subst c26
        rw [if_neg (show ¬ (false = true) by decide)] at H
        simp only [Option.some.injEq, Prod.mk.injEq] at H
        obtain ⟨rfl, rfl⟩ := H; obtain ⟨Ao46, co46, eo46⟩ := Kd.R_slice HO_6.out; subst eo46; have p182 : 0 ≤ (x8_2 : Int) := of_decide_eq_true y0_18; have q182 : x8_2 < (t178.length : Int) := of_decide_eq_true y0_18; obtain ⟨ad182, e182, hx182_0⟩ := Kd.at_string (Kd.R_reads' HO_6.out).2.2 x8_2 p182 q182; cases e182; replace p182 := eq_true p182; replace q182 := eq_true q182
        go_wp2_with (first | ((with_reducible refine gate_callee (f := 128) rfl ?_); refine gB (some 44) Tryz.func128 #[.string (rdOf ByteArray.empty t178 x8_2), .int .u8 124] ?_; (with_reducible refine (spec_l2Cut.calls k2 (rdOf ByteArray.empty t178 x8_2) 124 t183 t184 true _ A21.out).mono ?_); rintro e w' ⟨rfl, ⟨nd, rfl⟩⟩; refine ⟨_, rfl, ?_⟩) | ((with_reducible refine gate_callee (f := 129) rfl ?_); refine gB (some 50) Tryz.func129 #[.string t183] ?_; (with_reducible refine (spec_Number.calls k2 t183 t186 true _ A22.out).mono ?_); rintro e w47 ⟨rfl, hb⟩; refine ⟨_, rfl, ?_⟩; replace HO_4 := sb HO_4 hb; replace HO_5 := sb HO_5 hb; replace HO_6 := rb HO_6 hb; replace HB := bs HB hb; (try clear hb); (try clear hb2); (try clear hk); (try clear hi)) | ((with_reducible refine gate_callee (f := 130) rfl ?_); refine gB (some 55) Tryz.func130 #[.string t184] ?_; (with_reducible refine (spec_TxsOf.calls k2 t184 t188 false _ A23.out).mono ?_); rintro e w48 ⟨v190, rfl, ho0, hb⟩; refine ⟨_, rfl, ?_⟩; replace HO_4 := Aside0.mk (Kd.S_elder' (sI HO_4.out) (Kd.R_base ho0) hb); replace HO_5 := Aside0.mk (Kd.S_elder' (sI HO_5.out) (Kd.R_base ho0) hb); replace HO_6 := rb HO_6 hb; have HO191 := Aside0.mk (Kd.R_lower ho0 (below_size (bI HB.out))); replace HB := bs HB hb; (try clear hb)))
        go_ret2
        exact ⟨_, y0_14, y0_11, bI HB.out⟩
       replace c25 := Bool.eq_false_iff.mpr c25; subst c25
       rw [if_neg (show ¬ (false = true) by decide)] at H
       simp only [Option.some.injEq, Prod.mk.injEq] at H
       obtain ⟨rfl, rfl⟩ := H; obtain ⟨Ao49, co49, eo49⟩ := Kd.R_slice HO_6.out; subst eo49; have p182 : 0 ≤ (x8_2 : Int) := of_decide_eq_true y0_18; have q182 : x8_2 < (t178.length : Int) := of_decide_eq_true y0_18; obtain ⟨ad182, e182, hx182_0⟩ := Kd.at_string (Kd.R_reads' HO_6.out).2.2 x8_2 p182 q182; cases e182; replace p182 := eq_true p182; replace q182 := eq_true q182
       go_wp2_with (first | ((with_reducible refine gate_callee (f := 128) rfl ?_); refine gB (some 44) Tryz.func128 #[.string (rdOf ByteArray.empty t178 x8_2), .int .u8 124] ?_; (with_reducible refine (spec_l2Cut.calls k2 (rdOf ByteArray.empty t178 x8_2) 124 t183 t184 true _ A21.out).mono ?_); rintro e w' ⟨rfl, ⟨nd, rfl⟩⟩; refine ⟨_, rfl, ?_⟩) | ((with_reducible refine gate_callee (f := 129) rfl ?_); refine gB (some 50) Tryz.func129 #[.string t183] ?_; (with_reducible refine (spec_Number.calls k2 t183 t186 false _ A22.out).mono ?_); rintro e w50 ⟨rfl, hb⟩; refine ⟨_, rfl, ?_⟩; replace HO_4 := sb HO_4 hb; replace HO_5 := sb HO_5 hb; replace HO_6 := rb HO_6 hb; replace HB := bs HB hb; (try clear hb); (try clear hb2); (try clear hk); (try clear hi)) | ((with_reducible refine gate_callee (f := 130) rfl ?_); refine gB (some 55) Tryz.func130 #[.string t184] ?_; (with_reducible refine (spec_TxsOf.calls k2 t184 t188 t189 _ A23.out).mono ?_); rintro e w51 ⟨v190, rfl, ho0, hb⟩; refine ⟨_, rfl, ?_⟩; replace HO_4 := Aside0.mk (Kd.S_elder' (sI HO_4.out) (Kd.R_base ho0) hb); replace HO_5 := Aside0.mk (Kd.S_elder' (sI HO_5.out) (Kd.R_base ho0) hb); replace HO_6 := rb HO_6 hb; have HO191 := Aside0.mk (Kd.R_lower ho0 (below_size (bI HB.out))); replace HB := bs HB hb; (try clear hb)))
       go_ret2
       exact ⟨_, y0_14, y0_11, bI HB.out⟩
      replace c24 := Bool.eq_false_iff.mpr c24; subst c24
      rw [if_neg (show ¬ (false = true) by decide)] at H
      simp only [Option.some.injEq, Prod.mk.injEq] at H
      obtain ⟨rfl, rfl⟩ := H; obtain ⟨Ao52, co52, eo52⟩ := Kd.R_slice HO_6.out; subst eo52; have p182 : 0 ≤ (x8_2 : Int) := of_decide_eq_true y0_18; have q182 : x8_2 < (t178.length : Int) := of_decide_eq_true y0_18; obtain ⟨ad182, e182, hx182_0⟩ := Kd.at_string (Kd.R_reads' HO_6.out).2.2 x8_2 p182 q182; cases e182; replace p182 := eq_true p182; replace q182 := eq_true q182
      go_wp2_with (first | ((with_reducible refine gate_callee (f := 128) rfl ?_); refine gB (some 44) Tryz.func128 #[.string (rdOf ByteArray.empty t178 x8_2), .int .u8 124] ?_; (with_reducible refine (spec_l2Cut.calls k2 (rdOf ByteArray.empty t178 x8_2) 124 t183 t184 false _ A21.out).mono ?_); rintro e w' ⟨rfl, ⟨nd, rfl⟩⟩; refine ⟨_, rfl, ?_⟩) | ((with_reducible refine gate_callee (f := 129) rfl ?_); refine gB (some 50) Tryz.func129 #[.string t183] ?_; (with_reducible refine (spec_Number.calls k2 t183 t186 t187 _ A22.out).mono ?_); rintro e w53 ⟨rfl, hb⟩; refine ⟨_, rfl, ?_⟩; replace HO_4 := sb HO_4 hb; replace HO_5 := sb HO_5 hb; replace HO_6 := rb HO_6 hb; replace HB := bs HB hb; (try clear hb); (try clear hb2); (try clear hk); (try clear hi)) | ((with_reducible refine gate_callee (f := 130) rfl ?_); refine gB (some 55) Tryz.func130 #[.string t184] ?_; (with_reducible refine (spec_TxsOf.calls k2 t184 t188 t189 _ A23.out).mono ?_); rintro e w54 ⟨v190, rfl, ho0, hb⟩; refine ⟨_, rfl, ?_⟩; replace HO_4 := Aside0.mk (Kd.S_elder' (sI HO_4.out) (Kd.R_base ho0) hb); replace HO_5 := Aside0.mk (Kd.S_elder' (sI HO_5.out) (Kd.R_base ho0) hb); replace HO_6 := rb HO_6 hb; have HO191 := Aside0.mk (Kd.R_lower ho0 (below_size (bI HB.out))); replace HB := bs HB hb; (try clear hb)))
      go_ret2
      exact ⟨_, y0_14, y0_11, bI HB.out⟩
     rw [if_neg c19] at H
     have c19b0 : decide (x8_2 < (t178.length : Int)) = false := decide_eq_false c19; clear c19
     simp only [Option.some.injEq, Prod.mk.injEq] at H
     obtain ⟨rfl, rfl⟩ := H; obtain ⟨Ao55, co55, eo55⟩ := Kd.R_slice HO_6.out; subst eo55
     go_wp2
     go_ret2
     exact ⟨_, y0_14, by (with_reducible repeat (first | apply Kd.S_alloc | apply Kd.S_drewN | apply Kd.S_drew)); exact Kd.S_mono HO_5.out (fun _ hk => trivial), bI HB.out⟩

end Go.Proofs.YtemjmefacifdeaaGreatDoor.PFnEitherOrder
