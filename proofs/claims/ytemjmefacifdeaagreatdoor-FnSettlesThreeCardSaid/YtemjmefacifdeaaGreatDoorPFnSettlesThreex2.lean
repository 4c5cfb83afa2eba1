-- By a program of this session, out of the translation (the print of the kit, with turns of its own). Lean checks it.
import Derived.Test.YtemjmefacifdeaaGreatDoorPFnSettlesThreex0
import Derived.Test.YtemjmefacifdeaaGreatDoorPFnSettlesThreex1
namespace Go.Proofs.YtemjmefacifdeaaGreatDoor.PFnSettlesThree
open Go.RowKit Go.Proofs.YtemjmefacifdeaaGreatDoorW.PrintWords Go.Proofs.YtemjmefacifdeaaGreatDoorW.PrintLast Go.Proofs.YtemjmefacifdeaaGreatDoorW.PrintMore
attribute [local go_sem] max2_int min2_int max_two min_two max_three min_three max_four min_four   -- for this text's walks alone
set_option linter.unusedVariables false
set_option linter.unusedSimpArgs false

/-! ### spec_TxText: function 133 -/
def spec_TxText.f (k : Nat) (a0_0 : Int) (a0_1 : Int) (a0_2 : Int) (a0_3 : Int) : Option (ByteArray) := (spec_TxOk.f a0_0 a0_1 a0_2 a0_3).bind fun t128 => (if t128 = true then ((spec_Digits.f k a0_0).bind fun t129 => (if t129.size + 1 ≤ 9223372036854775807 then ((spec_Digits.f k a0_1).bind fun t130 => (if (t129 ++ (⟨#[62]⟩ : ByteArray)).size + t130.size ≤ 9223372036854775807 then (if ((t129 ++ (⟨#[62]⟩ : ByteArray)) ++ t130).size + 1 ≤ 9223372036854775807 then ((spec_Digits.f k a0_2).bind fun t131 => (if (((t129 ++ (⟨#[62]⟩ : ByteArray)) ++ t130) ++ (⟨#[58]⟩ : ByteArray)).size + t131.size ≤ 9223372036854775807 then (if ((((t129 ++ (⟨#[62]⟩ : ByteArray)) ++ t130) ++ (⟨#[58]⟩ : ByteArray)) ++ t131).size + 1 ≤ 9223372036854775807 then ((spec_Digits.f k a0_3).bind fun t132 => (if (((((t129 ++ (⟨#[62]⟩ : ByteArray)) ++ t130) ++ (⟨#[58]⟩ : ByteArray)) ++ t131) ++ (⟨#[35]⟩ : ByteArray)).size + t132.size ≤ 9223372036854775807 then (some ((((((t129 ++ (⟨#[62]⟩ : ByteArray)) ++ t130) ++ (⟨#[58]⟩ : ByteArray)) ++ t131) ++ (⟨#[35]⟩ : ByteArray)) ++ t132)) else (none))) else (none)) else (none))) else (none)) else (none))) else (none))) else (some (⟨#[]⟩ : ByteArray)))
theorem spec_TxText.mono : ∀ a0 a1 a2 a3 k, LeO (spec_TxText.f k a0 a1 a2 a3) (spec_TxText.f (k + 1) a0 a1 a2 a3) := by
 intro a0 a1 a2 a3 k
 unfold spec_TxText.f
 repeat' first | (with_reducible exact spec_Digits.mono _ _) | (with_reducible exact LeO.refl _) | (with_reducible exact LeO.none _) | (with_reducible refine LeO.ite ?_ ?_) | (with_reducible refine LeO.bind ?_ (fun _ => ?_))
def spec_TxText.T3 : Bool × List (List Nat × List Nat) := (true, [([], []), ([0], [0]), ([1], [1]), ([2], [2]), ([], []), ([4], [4]), ([5, 2], [5]), ([3, 6], [3, 6]), ([7], [7]), ([], []), ([9], [9]), ([10, 6], [10]), ([8, 11], [8, 11]), ([12], [12]), ([], []), ([14], [14]), ([15, 11], [15]), ([13, 16], [13, 16]), ([17, 16, 0, 1, 2, 3, 4, 5, 6, 7, 8, 9, 10, 11, 12, 13, 14, 15, 16, 17], [17])])
def spec_TxText.B3 : List Nat := [0, 1, 3, 7, 0, 16, 55, 127, 255, 0, 512, 1655, 4095, 8191, 0, 16384, 52855, 131071, 262143]
theorem spec_TxText.tab3 : rtab .any (opsOf Tryz.f133 3) = spec_TxText.T3 := by kernel_rfl
theorem spec_TxText.bits3 : waitsOk spec_TxText.T3.2 spec_TxText.B3 = true := by kernel_rfl
set_option maxHeartbeats 8000000 in
set_option maxRecDepth 100000 in
theorem spec_TxText.calls (k : Nat) (a0_0 : Int) (a0_1 : Int) (a0_2 : Int) (a0_3 : Int) (r : ByteArray) (w : World) (h : spec_TxText.f k a0_0 a0_1 a0_2 a0_3 = some r) :
  Calls Tryz.prog 133 #[.agg #[.int .i64 a0_0, .int .i64 a0_1, .int .i64 a0_2, .int .i64 a0_3]] w fun e w' => e = .returned (.string r) ∧ Below w.heap.size w w' := by
 have hu99 := Tryz.underlying99; have HB := Aside0.mk (Below.refl w.heap.size w)
 have H : ((spec_TxOk.f a0_0 a0_1 a0_2 a0_3).bind fun t128 => (if t128 = true then ((spec_Digits.f k a0_0).bind fun t129 => (if t129.size + 1 ≤ 9223372036854775807 then ((spec_Digits.f k a0_1).bind fun t130 => (if (t129 ++ (⟨#[62]⟩ : ByteArray)).size + t130.size ≤ 9223372036854775807 then (if ((t129 ++ (⟨#[62]⟩ : ByteArray)) ++ t130).size + 1 ≤ 9223372036854775807 then ((spec_Digits.f k a0_2).bind fun t131 => (if (((t129 ++ (⟨#[62]⟩ : ByteArray)) ++ t130) ++ (⟨#[58]⟩ : ByteArray)).size + t131.size ≤ 9223372036854775807 then (if ((((t129 ++ (⟨#[62]⟩ : ByteArray)) ++ t130) ++ (⟨#[58]⟩ : ByteArray)) ++ t131).size + 1 ≤ 9223372036854775807 then ((spec_Digits.f k a0_3).bind fun t132 => (if (((((t129 ++ (⟨#[62]⟩ : ByteArray)) ++ t130) ++ (⟨#[58]⟩ : ByteArray)) ++ t131) ++ (⟨#[35]⟩ : ByteArray)).size + t132.size ≤ 9223372036854775807 then (some ((((((t129 ++ (⟨#[62]⟩ : ByteArray)) ++ t130) ++ (⟨#[58]⟩ : ByteArray)) ++ t131) ++ (⟨#[35]⟩ : ByteArray)) ++ t132)) else (none))) else (none)) else (none))) else (none)) else (none))) else (none))) else (some (⟨#[]⟩ : ByteArray)))) = some r := h
 clear h; obtain ⟨t128, A20, H⟩ := Option.bind_eq_some_iff.mp H
 try dsimp only at H
 have A2 := Aside0.mk A20; clear A20
 by_cases c3 : t128 = true
 ·
  subst c3
  rw [if_pos rfl] at H
  obtain ⟨t129, A40, H⟩ := Option.bind_eq_some_iff.mp H
  try dsimp only at H
  have A4 := Aside0.mk A40; clear A40
  by_cases c5 : t129.size + 1 ≤ 9223372036854775807
  rotate_left
  ·
   rw [if_neg c5] at H
   exact absurd H (by simp)
  rw [if_pos c5] at H
  have c5b0 := eq_true c5; have c5b1 : decide (t129.size + 1 ≤ 9223372036854775807) = true := decide_eq_true c5
  try have c5b2 : (9223372036854775807 < t129.size + 1) = False := eq_false (Nat.not_lt.2 c5)
  obtain ⟨t130, A60, H⟩ := Option.bind_eq_some_iff.mp H
  try dsimp only at H
  have A6 := Aside0.mk A60; clear A60
  by_cases c7 : (t129 ++ (⟨#[62]⟩ : ByteArray)).size + t130.size ≤ 9223372036854775807
  rotate_left
  ·
   rw [if_neg c7] at H
   exact absurd H (by simp)
  rw [if_pos c7] at H
  have c7b0 := eq_true c7; have c7b1 : decide ((t129 ++ (⟨#[62]⟩ : ByteArray)).size + t130.size ≤ 9223372036854775807) = true := decide_eq_true c7
  try have c7b2 : (9223372036854775807 < (t129 ++ (⟨#[62]⟩ : ByteArray)).size + t130.size) = False := eq_false (Nat.not_lt.2 c7)
  (try have c7b3 : (9223372036854775807 < t129.size + 1 + t130.size) = False := eq_false (by have h_ := c7; simp only [ByteArray.size_append, ByteArray.size_extract, show (⟨#[62]⟩ : ByteArray).size = 1 from rfl] at h_; omega))
  by_cases c8 : ((t129 ++ (⟨#[62]⟩ : ByteArray)) ++ t130).size + 1 ≤ 9223372036854775807
  rotate_left
  ·
   rw [if_neg c8] at H
   exact absurd H (by simp)
  rw [if_pos c8] at H
  have c8b0 := eq_true c8; have c8b1 : decide (((t129 ++ (⟨#[62]⟩ : ByteArray)) ++ t130).size + 1 ≤ 9223372036854775807) = true := decide_eq_true c8
  try have c8b2 : (9223372036854775807 < ((t129 ++ (⟨#[62]⟩ : ByteArray)) ++ t130).size + 1) = False := eq_false (Nat.not_lt.2 c8)
  (try have c8b3 : (9223372036854775807 < t129.size + 1 + t130.size + 1) = False := eq_false (by have h_ := c8; simp only [ByteArray.size_append, ByteArray.size_extract, show (⟨#[62]⟩ : ByteArray).size = 1 from rfl] at h_; omega))
  obtain ⟨t131, A90, H⟩ := Option.bind_eq_some_iff.mp H
  try dsimp only at H
  have A9 := Aside0.mk A90; clear A90
  by_cases c10 : (((t129 ++ (⟨#[62]⟩ : ByteArray)) ++ t130) ++ (⟨#[58]⟩ : ByteArray)).size + t131.size ≤ 9223372036854775807
  rotate_left
  ·
   rw [if_neg c10] at H
   exact absurd H (by simp)
  rw [if_pos c10] at H
  have c10b0 := eq_true c10; have c10b1 : decide ((((t129 ++ (⟨#[62]⟩ : ByteArray)) ++ t130) ++ (⟨#[58]⟩ : ByteArray)).size + t131.size ≤ 9223372036854775807) = true := decide_eq_true c10
  try have c10b2 : (9223372036854775807 < (((t129 ++ (⟨#[62]⟩ : ByteArray)) ++ t130) ++ (⟨#[58]⟩ : ByteArray)).size + t131.size) = False := eq_false (Nat.not_lt.2 c10)
  (try have c10b3 : (9223372036854775807 < t129.size + 1 + t130.size + 1 + t131.size) = False := eq_false (by have h_ := c10; simp only [ByteArray.size_append, ByteArray.size_extract, show (⟨#[58]⟩ : ByteArray).size = 1 from rfl, show (⟨#[62]⟩ : ByteArray).size = 1 from rfl] at h_; omega))
  by_cases c11 : ((((t129 ++ (⟨#[62]⟩ : ByteArray)) ++ t130) ++ (⟨#[58]⟩ : ByteArray)) ++ t131).size + 1 ≤ 9223372036854775807
  rotate_left
  ·
   rw [if_neg c11] at H
   exact absurd H (by simp)
  rw [if_pos c11] at H
  have c11b0 := eq_true c11; have c11b1 : decide (((((t129 ++ (⟨#[62]⟩ : ByteArray)) ++ t130) ++ (⟨#[58]⟩ : ByteArray)) ++ t131).size + 1 ≤ 9223372036854775807) = true := decide_eq_true c11
  try have c11b2 : (9223372036854775807 < ((((t129 ++ (⟨#[62]⟩ : ByteArray)) ++ t130) ++ (⟨#[58]⟩ : ByteArray)) ++ t131).size + 1) = False := eq_false (Nat.not_lt.2 c11)
  (try have c11b3 : (9223372036854775807 < t129.size + 1 + t130.size + 1 + t131.size + 1) = False := eq_false (by have h_ := c11; simp only [ByteArray.size_append, ByteArray.size_extract, show (⟨#[58]⟩ : ByteArray).size = 1 from rfl, show (⟨#[62]⟩ : ByteArray).size = 1 from rfl] at h_; omega))
  obtain ⟨t132, A120, H⟩ := Option.bind_eq_some_iff.mp H
  try dsimp only at H
  have A12 := Aside0.mk A120; clear A120
  by_cases c13 : (((((t129 ++ (⟨#[62]⟩ : ByteArray)) ++ t130) ++ (⟨#[58]⟩ : ByteArray)) ++ t131) ++ (⟨#[35]⟩ : ByteArray)).size + t132.size ≤ 9223372036854775807
  rotate_left
  ·
   rw [if_neg c13] at H
   exact absurd H (by simp)
  rw [if_pos c13] at H
  have c13b0 := eq_true c13; have c13b1 : decide ((((((t129 ++ (⟨#[62]⟩ : ByteArray)) ++ t130) ++ (⟨#[58]⟩ : ByteArray)) ++ t131) ++ (⟨#[35]⟩ : ByteArray)).size + t132.size ≤ 9223372036854775807) = true := decide_eq_true c13
  try have c13b2 : (9223372036854775807 < (((((t129 ++ (⟨#[62]⟩ : ByteArray)) ++ t130) ++ (⟨#[58]⟩ : ByteArray)) ++ t131) ++ (⟨#[35]⟩ : ByteArray)).size + t132.size) = False := eq_false (Nat.not_lt.2 c13)
  (try have c13b3 : (9223372036854775807 < t129.size + 1 + t130.size + 1 + t131.size + 1 + t132.size) = False := eq_false (by have h_ := c13; simp only [ByteArray.size_append, ByteArray.size_extract, show (⟨#[35]⟩ : ByteArray).size = 1 from rfl, show (⟨#[58]⟩ : ByteArray).size = 1 from rfl, show (⟨#[62]⟩ : ByteArray).size = 1 from rfl] at h_; omega))
  obtain rfl := Option.some.inj H
  go_enter Tryz.func133, Tryz.ntmps133
  try go_wp2_with (first | ((with_reducible refine gd 1 ?_); refine bA 1 #[.int .i64 a0_0, .int .i64 a0_1, .int .i64 a0_2, .int .i64 a0_3] 99 ?_; intro gb127 hg w14 hbox hb; have BK127 := Aside0.mk (hbox); have GW127 := bg hg HB; have GJ127 := gi GW127; have GE127 := GW127; replace HB := bs HB hb; clear hb hbox hg; obtain ⟨hcz15_0, hcz15_1, hcz15_2, hcz15_3, hfz15_0, hfz15_1, hfz15_2, hfz15_3⟩ := cs4 BK127) | ((with_reducible refine gate_callee (f := 107) rfl ?_); refine gB (some 4) Tryz.func107 #[.agg #[.int .i64 a0_0, .int .i64 a0_1, .int .i64 a0_2, .int .i64 a0_3]] ?_; (with_reducible refine (spec_TxOk.calls a0_0 a0_1 a0_2 a0_3 true _ A2.out).mono ?_); rintro e w16 ⟨rfl, hb⟩; refine ⟨_, rfl, ?_⟩; replace BK127 := bk BK127 hb; replace HB := bs HB hb; (try clear hb); (try clear hb2); (try clear hk); (try clear hi)))
  replace BK127 := Aside0.mk (blk_drew BK127.out); replace HB := Aside0.mk (below_drew1 HB.out)
  refine start_ (n := 19) (S := fun w' => w'.cell? ⟨gb127, 0, none⟩ = some (.int .i64 a0_0) ∧ w'.cell? ⟨gb127, 1, none⟩ = some (.int .i64 a0_1) ∧ w'.cell? ⟨gb127, 2, none⟩ = some (.int .i64 a0_2) ∧ w'.cell? ⟨gb127, 3, none⟩ = some (.int .i64 a0_3)) (ds := []) #[false, false, false, false, false, false, false, false, false, false, false, false, false, false, false, false, false, false, false] (by kernel_rfl) rfl rfl ⟨bc0 BK127.out, bc1 BK127.out, bc2 BK127.out, bc3 BK127.out⟩ (fun hHeld => ?_); refine with_tabW spec_TxText.tab3 spec_TxText.bits3 (fun HT_ HW_ => ?_)
  generalize w16.drew = w17 at BK127 HB hHeld ⊢
  refine pA 0 (some 6) (bz 19 1) HT_ ?_
  refine pA 4 (some 10) (bz 19 17) HT_ ?_
  refine pA 9 (some 15) (bz 19 529) HT_ ?_
  refine pA 14 (some 20) (bz 19 0x4211) HT_ ?_
  refine tA 1 (some 7) (bz 19 0x4213) HT_ HW_ hHeld ?_
  refine tA 5 (some 11) (bz 19 0x4233) HT_ HW_ hHeld ?_
  refine tA 10 (some 16) (bz 19 0x4633) HT_ HW_ hHeld ?_
  refine tA 15 (some 21) (bz 19 0xc633) HT_ HW_ hHeld ?_
  refine oA 2 (some 8) (bz 19 0xc637) HT_ (fun K hK => ?_)
  refine gA Tryz.func108 #[.int .i64 a0_0] ?_
  with_reducible refine (spec_Digits.calls k a0_0 t129 _ A4.out).mono ?_
  rintro e w18 ⟨rfl, hb⟩
  refine ⟨_, rfl, ?_⟩
  replace BK127 := bk BK127 hb; replace HB := bs HB hb
  (try clear hb)
  (try clear hb2)
  (try clear hk)
  (try clear hi)
  refine hK.out _ _ ⟨bc0 BK127.out, bc1 BK127.out, bc2 BK127.out, bc3 BK127.out⟩ (fun hHeld => ?_)
  clear hK K
  refine nA (some 8) ?_
  refine pA 3 (some 9) (bz 19 0xc63f) HT_ ?_
  refine oA 6 (some 12) (bz 19 0xc67f) HT_ (fun K hK => ?_)
  refine gA Tryz.func108 #[.int .i64 a0_1] ?_
  with_reducible refine (spec_Digits.calls k a0_1 t130 _ A6.out).mono ?_
  rintro e w19 ⟨rfl, hb⟩
  refine ⟨_, rfl, ?_⟩
  replace BK127 := bk BK127 hb; replace HB := bs HB hb
  (try clear hb)
  (try clear hb2)
  (try clear hk)
  (try clear hi)
  refine hK.out _ _ ⟨bc0 BK127.out, bc1 BK127.out, bc2 BK127.out, bc3 BK127.out⟩ (fun hHeld => ?_)
  clear hK K
  refine nA (some 12) ?_
  refine pA 7 (some 13) (bz 19 0xc6ff) HT_ ?_
  refine pA 8 (some 14) (bz 19 0xc7ff) HT_ ?_
  refine oA 11 (some 17) (bz 19 0xcfff) HT_ (fun K hK => ?_)
  refine gA Tryz.func108 #[.int .i64 a0_2] ?_
  with_reducible refine (spec_Digits.calls k a0_2 t131 _ A9.out).mono ?_
  rintro e w20 ⟨rfl, hb⟩
  refine ⟨_, rfl, ?_⟩
  replace BK127 := bk BK127 hb; replace HB := bs HB hb
  (try clear hb)
  (try clear hb2)
  (try clear hk)
  (try clear hi)
  refine hK.out _ _ ⟨bc0 BK127.out, bc1 BK127.out, bc2 BK127.out, bc3 BK127.out⟩ (fun hHeld => ?_)
  clear hK K
  refine nA (some 17) ?_
  refine pA 12 (some 18) (bz 19 0xdfff) HT_ ?_
  refine pA 13 (some 19) (bz 19 0xffff) HT_ ?_
  refine oA 16 (some 22) (bz 19 0x1ffff) HT_ (fun K hK => ?_)
  refine gA Tryz.func108 #[.int .i64 a0_3] ?_
  with_reducible refine (spec_Digits.calls k a0_3 t132 _ A12.out).mono ?_
  rintro e w21 ⟨rfl, hb⟩
  refine ⟨_, rfl, ?_⟩
  replace BK127 := bk BK127 hb; replace HB := bs HB hb
  (try clear hb)
  (try clear hb2)
  (try clear hk)
  (try clear hi)
  refine hK.out _ _ ⟨bc0 BK127.out, bc1 BK127.out, bc2 BK127.out, bc3 BK127.out⟩ (fun hHeld => ?_)
  clear hK K
  refine nA (some 22) ?_
  refine pA 17 (some 23) (bz 19 0x3ffff) HT_ ?_
  refine pA 18 (some 2) (bz 19 0x7ffff) HT_ ?_
  refine done_ (done_of HT_.out (by kernel_rfl)) ?_
  try go_wp2
  go_ret
  exact ⟨y0_6, bI HB.out⟩
 replace c3 := Bool.eq_false_iff.mpr c3; subst c3
 rw [if_neg (show ¬ (false = true) by decide)] at H
 obtain rfl := Option.some.inj H
 go_enter Tryz.func133, Tryz.ntmps133
 go_wp2_with (first | ((with_reducible refine gd 1 ?_); refine bA 1 #[.int .i64 a0_0, .int .i64 a0_1, .int .i64 a0_2, .int .i64 a0_3] 99 ?_; intro gb127 hg w22 hbox hb; have BK127 := Aside0.mk (hbox); have GW127 := bg hg HB; have GJ127 := gi GW127; have GE127 := GW127; replace HB := bs HB hb; clear hb hbox hg; obtain ⟨hcz23_0, hcz23_1, hcz23_2, hcz23_3, hfz23_0, hfz23_1, hfz23_2, hfz23_3⟩ := cs4 BK127) | ((with_reducible refine gate_callee (f := 107) rfl ?_); refine gB (some 4) Tryz.func107 #[.agg #[.int .i64 a0_0, .int .i64 a0_1, .int .i64 a0_2, .int .i64 a0_3]] ?_; (with_reducible refine (spec_TxOk.calls a0_0 a0_1 a0_2 a0_3 false _ A2.out).mono ?_); rintro e w24 ⟨rfl, hb⟩; refine ⟨_, rfl, ?_⟩; replace BK127 := bk BK127 hb; replace HB := bs HB hb; (try clear hb); (try clear hb2); (try clear hk); (try clear hi)))
 go_ret
 exact ⟨y0_6, bI HB.out⟩

/-! ### spec_TxOf: function 146 -/
def spec_TxOf.f (k : Nat) (a0 : ByteArray) : Option (Int × Int × Int × Int × Bool) := (spec_l2Cut.f k a0 62).bind fun bt134 => ((spec_l2Cut.f k bt134.2.1 58).bind fun bt137 => ((spec_l2Cut.f k bt137.2.1 35).bind fun bt140 => ((spec_Number.f k bt134.1).bind fun bt144 => ((spec_Number.f k bt137.1).bind fun bt146 => ((spec_Number.f k bt140.1).bind fun bt148 => ((spec_Number.f k bt140.2.1).bind fun bt150 => (if a0.toList = ([] : List UInt8) then (some (0, 0, 0, 0, false)) else ((spec_TxText.f k bt144.1 bt146.1 bt148.1 bt150.1).bind fun t152 => (if t152.toList = a0.toList then (some (bt144.1, bt146.1, bt148.1, bt150.1, true)) else (some (0, 0, 0, 0, false)))))))))))
theorem spec_TxOf.mono : ∀ a0 k, LeO (spec_TxOf.f k a0) (spec_TxOf.f (k + 1) a0) := by
 intro a0 k
 unfold spec_TxOf.f
 repeat' first | (with_reducible exact spec_Number.mono _ _) | (with_reducible exact spec_TxText.mono _ _ _ _ _) | (with_reducible exact spec_l2Cut.mono _ _ _) | (with_reducible exact LeO.refl _) | (with_reducible exact LeO.none _) | (with_reducible refine LeO.ite ?_ ?_) | (with_reducible refine LeO.bind ?_ (fun _ => ?_))
set_option maxHeartbeats 8000000 in
set_option maxRecDepth 100000 in
theorem spec_TxOf.calls (k : Nat) (a0 : ByteArray) (r1 : Int) (r2 : Int) (r3 : Int) (r4 : Int) (r5 : Bool) (w : World) (h : spec_TxOf.f k a0 = some (r1, r2, r3, r4, r5)) :
  Calls Tryz.prog 146 #[.string a0] w fun e w' => e = .returned (.tuple #[.agg #[.int .i64 r1, .int .i64 r2, .int .i64 r3, .int .i64 r4], .bool r5]) ∧ Below w.heap.size w w' := by
 have hu99 := Tryz.underlying99; have HB := Aside0.mk (Below.refl w.heap.size w)
 have H : ((spec_l2Cut.f k a0 62).bind fun bt134 => ((spec_l2Cut.f k bt134.2.1 58).bind fun bt137 => ((spec_l2Cut.f k bt137.2.1 35).bind fun bt140 => ((spec_Number.f k bt134.1).bind fun bt144 => ((spec_Number.f k bt137.1).bind fun bt146 => ((spec_Number.f k bt140.1).bind fun bt148 => ((spec_Number.f k bt140.2.1).bind fun bt150 => (if a0.toList = ([] : List UInt8) then (some (0, 0, 0, 0, false)) else ((spec_TxText.f k bt144.1 bt146.1 bt148.1 bt150.1).bind fun t152 => (if t152.toList = a0.toList then (some (bt144.1, bt146.1, bt148.1, bt150.1, true)) else (some (0, 0, 0, 0, false)))))))))))) = some (r1, r2, r3, r4, r5) := h
 clear h; obtain ⟨⟨t134, t135, t136⟩, A20, H⟩ := Option.bind_eq_some_iff.mp H
 try dsimp only at H
 have A2 := Aside0.mk A20; clear A20; obtain ⟨⟨t137, t138, t139⟩, A30, H⟩ := Option.bind_eq_some_iff.mp H
 try dsimp only at H
 have A3 := Aside0.mk A30; clear A30; obtain ⟨⟨t140, t141, t142⟩, A40, H⟩ := Option.bind_eq_some_iff.mp H
 try dsimp only at H
 have A4 := Aside0.mk A40; clear A40; obtain ⟨⟨t144, t145⟩, A50, H⟩ := Option.bind_eq_some_iff.mp H
 try dsimp only at H
 have A5 := Aside0.mk A50; clear A50; obtain ⟨⟨t146, t147⟩, A60, H⟩ := Option.bind_eq_some_iff.mp H
 try dsimp only at H
 have A6 := Aside0.mk A60; clear A60; obtain ⟨⟨t148, t149⟩, A70, H⟩ := Option.bind_eq_some_iff.mp H
 try dsimp only at H
 have A7 := Aside0.mk A70; clear A70; obtain ⟨⟨t150, t151⟩, A80, H⟩ := Option.bind_eq_some_iff.mp H
 try dsimp only at H
 have A8 := Aside0.mk A80; clear A80
 by_cases c9 : a0.toList = ([] : List UInt8)
 ·
  rw [if_pos c9] at H
  have c9b0 : (a0.toList == ([] : List UInt8)) = true := beq_iff_eq.mpr c9; have c9b1 : (a0.toList != ([] : List UInt8)) = false := bne_eq_false_iff_eq.mpr c9; clear c9
  simp only [Option.some.injEq, Prod.mk.injEq] at H
  obtain ⟨rfl, rfl, rfl, rfl, rfl⟩ := H
  go_enter Tryz.func146, Tryz.ntmps146
  go_wp2_with (first | ((with_reducible refine gd 2 ?_); refine bA 2 #[.int .i64 0, .int .i64 0, .int .i64 0, .int .i64 0] 99 ?_; intro gb133 hg w10 hbox hb; have BK133 := Aside0.mk (hbox); have GW133 := bg hg HB; have GJ133 := gi GW133; have GE133 := GW133; replace HB := bs HB hb; clear hb hbox hg) | ((with_reducible refine gate_callee (f := 128) rfl ?_); refine gB (some 16) Tryz.func128 #[.string a0, .int .u8 62] ?_; (with_reducible refine (spec_l2Cut.calls k a0 62 t134 t135 t136 _ A2.out).mono ?_); rintro e w' ⟨rfl, ⟨nd, rfl⟩⟩; refine ⟨_, rfl, ?_⟩; (try (rw [drewN_self w10]; generalize hq_ : World.drewN w10 _ = w10; have n0_ : Aside0 (w10.heap[gb133]? = some (.cells #[.int .i64 0, .int .i64 0, .int .i64 0, .int .i64 0] 99 (0, 0))) := ⟨y0_11⟩; have n1_ : Aside0 (Below w.heap.size w w10) := ⟨y0_12⟩; clear BK133 HB hq_; have BK133 := n0_; have HB := n1_; clear n0_ n1_))) | ((with_reducible refine gate_callee (f := 128) rfl ?_); refine gB (some 22) Tryz.func128 #[.string t135, .int .u8 58] ?_; (with_reducible refine (spec_l2Cut.calls k t135 58 t137 t138 t139 _ A3.out).mono ?_); rintro e w' ⟨rfl, ⟨nd, rfl⟩⟩; refine ⟨_, rfl, ?_⟩; (try (rw [drewN_self w10]; generalize hq_ : World.drewN w10 _ = w10; have n0_ : Aside0 (w10.heap[gb133]? = some (.cells #[.int .i64 0, .int .i64 0, .int .i64 0, .int .i64 0] 99 (0, 0))) := ⟨y0_11⟩; have n1_ : Aside0 (Below w.heap.size w w10) := ⟨y0_12⟩; clear BK133 HB hq_; have BK133 := n0_; have HB := n1_; clear n0_ n1_))) | ((with_reducible refine gate_callee (f := 128) rfl ?_); refine gB (some 28) Tryz.func128 #[.string t138, .int .u8 35] ?_; (with_reducible refine (spec_l2Cut.calls k t138 35 t140 t141 t142 _ A4.out).mono ?_); rintro e w' ⟨rfl, ⟨nd, rfl⟩⟩; refine ⟨_, rfl, ?_⟩; (try (rw [drewN_self w10]; generalize hq_ : World.drewN w10 _ = w10; have n0_ : Aside0 (w10.heap[gb133]? = some (.cells #[.int .i64 0, .int .i64 0, .int .i64 0, .int .i64 0] 99 (0, 0))) := ⟨y0_11⟩; have n1_ : Aside0 (Below w.heap.size w w10) := ⟨y0_12⟩; clear BK133 HB hq_; have BK133 := n0_; have HB := n1_; clear n0_ n1_))) | ((with_reducible refine gd 13 ?_); refine bA 13 #[.int .i64 0, .int .i64 0, .int .i64 0, .int .i64 0] 99 ?_; intro gb143 hg w11 hbox hb; have BK143 := Aside0.mk (hbox); have GW143 := bg hg HB; have GJ143 := gi GW143; have GE143 := GW143; replace HB := bs HB hb; have NB133_143 := b1 BK133 hg; have NI133_143 := ni NB133_143; have NB143_133 := b2 BK133 hg; have NI143_133 := ni NB143_133; replace BK133 := bk BK133 hb; clear hb hbox hg; have hnb12 := NB143_133.out; have hnc12 := NB133_143.out; obtain ⟨hcz13_0, hcz13_1, hcz13_2, hcz13_3, hfz13_0, hfz13_1, hfz13_2, hfz13_3⟩ := cs4 BK143) | ((with_reducible refine gate_callee (f := 129) rfl ?_); refine gB (some 35) Tryz.func129 #[.string t134] ?_; (with_reducible refine (spec_Number.calls k t134 t144 t145 _ A5.out).mono ?_); rintro e w14 ⟨rfl, hb⟩; refine ⟨_, rfl, ?_⟩; replace BK133 := Aside0.mk (blk_below (g := gb133) (o := .cells #[.int .i64 0, .int .i64 0, .int .i64 0, .int .i64 0] 99 (0, 0)) (gI BK133.out) hb); replace BK143 := bp BK143 hb #[.int .i64 0, .int .i64 0, .int .i64 0, .int .i64 0]; replace HB := bs HB hb; (try clear hb); (try clear hb2); (try clear hk); (try clear hi); obtain ⟨hcz15_0, hcz15_1, hcz15_2, hcz15_3, hfz15_0, hfz15_1, hfz15_2, hfz15_3⟩ := cs4 BK143) | ((with_reducible refine gate_callee (f := 129) rfl ?_); refine gB (some 41) Tryz.func129 #[.string t137] ?_; (with_reducible refine (spec_Number.calls k t137 t146 t147 _ A6.out).mono ?_); rintro e w16 ⟨rfl, hb⟩; refine ⟨_, rfl, ?_⟩; replace BK133 := Aside0.mk (blk_below (g := gb133) (o := .cells #[.int .i64 0, .int .i64 0, .int .i64 0, .int .i64 0] 99 (0, 0)) (gI BK133.out) hb); replace BK143 := bp BK143 hb #[.int .i64 t144, .int .i64 0, .int .i64 0, .int .i64 0]; replace HB := bs HB hb; (try clear hb); (try clear hb2); (try clear hk); (try clear hi); obtain ⟨hcz17_0, hcz17_1, hcz17_2, hcz17_3, hfz17_0, hfz17_1, hfz17_2, hfz17_3⟩ := cs4 BK143) | ((with_reducible refine gate_callee (f := 129) rfl ?_); refine gB (some 47) Tryz.func129 #[.string t140] ?_; (with_reducible refine (spec_Number.calls k t140 t148 t149 _ A7.out).mono ?_); rintro e w18 ⟨rfl, hb⟩; refine ⟨_, rfl, ?_⟩; replace BK133 := Aside0.mk (blk_below (g := gb133) (o := .cells #[.int .i64 0, .int .i64 0, .int .i64 0, .int .i64 0] 99 (0, 0)) (gI BK133.out) hb); replace BK143 := bp BK143 hb #[.int .i64 t144, .int .i64 t146, .int .i64 0, .int .i64 0]; replace HB := bs HB hb; (try clear hb); (try clear hb2); (try clear hk); (try clear hi); obtain ⟨hcz19_0, hcz19_1, hcz19_2, hcz19_3, hfz19_0, hfz19_1, hfz19_2, hfz19_3⟩ := cs4 BK143) | ((with_reducible refine gate_callee (f := 129) rfl ?_); refine gB (some 53) Tryz.func129 #[.string t141] ?_; (with_reducible refine (spec_Number.calls k t141 t150 t151 _ A8.out).mono ?_); rintro e w20 ⟨rfl, hb⟩; refine ⟨_, rfl, ?_⟩; replace BK133 := Aside0.mk (blk_below (g := gb133) (o := .cells #[.int .i64 0, .int .i64 0, .int .i64 0, .int .i64 0] 99 (0, 0)) (gI BK133.out) hb); replace BK143 := bp BK143 hb #[.int .i64 t144, .int .i64 t146, .int .i64 t148, .int .i64 0]; replace HB := bs HB hb; (try clear hb); (try clear hb2); (try clear hk); (try clear hi); obtain ⟨hcz21_0, hcz21_1, hcz21_2, hcz21_3, hfz21_0, hfz21_1, hfz21_2, hfz21_3⟩ := cs4 BK143; obtain ⟨hcz22_0, hcz22_1, hcz22_2, hcz22_3, hfz22_0, hfz22_1, hfz22_2, hfz22_3⟩ := cs4 BK133))
  refine bodyPost_ret (results_ct rfl _ _ gb133 99 #[.int .i64 0, .int .i64 0, .int .i64 0, .int .i64 0] (0, 0) _ rfl (pI BK133) Tryz.underlying99 rfl (by kernel_rfl)) rfl ?_
  exact ⟨y0_6, bI HB.out⟩
 rw [if_neg c9] at H
 have c9b0 : (a0.toList == ([] : List UInt8)) = false := beq_eq_false_iff_ne.mpr c9; have c9b1 : (a0.toList != ([] : List UInt8)) = true := bne_iff_ne.mpr c9; obtain ⟨t152, A230, H⟩ := Option.bind_eq_some_iff.mp H
 try dsimp only at H
 have A23 := Aside0.mk A230; clear A230
 by_cases c24 : t152.toList = a0.toList
 ·
  rw [if_pos c24] at H
  have c24b0 : (t152.toList == a0.toList) = true := beq_iff_eq.mpr c24; have c24b1 : (t152.toList != a0.toList) = false := bne_eq_false_iff_eq.mpr c24; clear c24
  simp only [Option.some.injEq, Prod.mk.injEq] at H
  obtain ⟨rfl, rfl, rfl, rfl, rfl⟩ := H
  go_enter Tryz.func146, Tryz.ntmps146
  go_wp2_with (first | ((with_reducible refine gd 2 ?_); refine bA 2 #[.int .i64 0, .int .i64 0, .int .i64 0, .int .i64 0] 99 ?_; intro gb133 hg w25 hbox hb; have BK133 := Aside0.mk (hbox); have GW133 := bg hg HB; have GJ133 := gi GW133; have GE133 := GW133; replace HB := bs HB hb; clear hb hbox hg) | ((with_reducible refine gate_callee (f := 128) rfl ?_); refine gB (some 16) Tryz.func128 #[.string a0, .int .u8 62] ?_; (with_reducible refine (spec_l2Cut.calls k a0 62 t134 t135 t136 _ A2.out).mono ?_); rintro e w' ⟨rfl, ⟨nd, rfl⟩⟩; refine ⟨_, rfl, ?_⟩; (try (rw [drewN_self w25]; generalize hq_ : World.drewN w25 _ = w25; have n0_ : Aside0 (w25.heap[gb133]? = some (.cells #[.int .i64 0, .int .i64 0, .int .i64 0, .int .i64 0] 99 (0, 0))) := ⟨y0_11⟩; have n1_ : Aside0 (Below w.heap.size w w25) := ⟨y0_12⟩; clear BK133 HB hq_; have BK133 := n0_; have HB := n1_; clear n0_ n1_))) | ((with_reducible refine gate_callee (f := 128) rfl ?_); refine gB (some 22) Tryz.func128 #[.string t135, .int .u8 58] ?_; (with_reducible refine (spec_l2Cut.calls k t135 58 t137 t138 t139 _ A3.out).mono ?_); rintro e w' ⟨rfl, ⟨nd, rfl⟩⟩; refine ⟨_, rfl, ?_⟩; (try (rw [drewN_self w25]; generalize hq_ : World.drewN w25 _ = w25; have n0_ : Aside0 (w25.heap[gb133]? = some (.cells #[.int .i64 0, .int .i64 0, .int .i64 0, .int .i64 0] 99 (0, 0))) := ⟨y0_11⟩; have n1_ : Aside0 (Below w.heap.size w w25) := ⟨y0_12⟩; clear BK133 HB hq_; have BK133 := n0_; have HB := n1_; clear n0_ n1_))) | ((with_reducible refine gate_callee (f := 128) rfl ?_); refine gB (some 28) Tryz.func128 #[.string t138, .int .u8 35] ?_; (with_reducible refine (spec_l2Cut.calls k t138 35 t140 t141 t142 _ A4.out).mono ?_); rintro e w' ⟨rfl, ⟨nd, rfl⟩⟩; refine ⟨_, rfl, ?_⟩; (try (rw [drewN_self w25]; generalize hq_ : World.drewN w25 _ = w25; have n0_ : Aside0 (w25.heap[gb133]? = some (.cells #[.int .i64 0, .int .i64 0, .int .i64 0, .int .i64 0] 99 (0, 0))) := ⟨y0_11⟩; have n1_ : Aside0 (Below w.heap.size w w25) := ⟨y0_12⟩; clear BK133 HB hq_; have BK133 := n0_; have HB := n1_; clear n0_ n1_))) | ((with_reducible refine gd 13 ?_); refine bA 13 #[.int .i64 0, .int .i64 0, .int .i64 0, .int .i64 0] 99 ?_; intro gb143 hg w26 hbox hb; have BK143 := Aside0.mk (hbox); have GW143 := bg hg HB; have GJ143 := gi GW143; have GE143 := GW143; replace HB := bs HB hb; have NB133_143 := b1 BK133 hg; have NI133_143 := ni NB133_143; have NB143_133 := b2 BK133 hg; have NI143_133 := ni NB143_133; replace BK133 := bk BK133 hb; clear hb hbox hg; have hnb27 := NB143_133.out; have hnc27 := NB133_143.out; obtain ⟨hcz28_0, hcz28_1, hcz28_2, hcz28_3, hfz28_0, hfz28_1, hfz28_2, hfz28_3⟩ := cs4 BK143) | ((with_reducible refine gate_callee (f := 129) rfl ?_); refine gB (some 35) Tryz.func129 #[.string t134] ?_; (with_reducible refine (spec_Number.calls k t134 t144 t145 _ A5.out).mono ?_); rintro e w29 ⟨rfl, hb⟩; refine ⟨_, rfl, ?_⟩; replace BK133 := Aside0.mk (blk_below (g := gb133) (o := .cells #[.int .i64 0, .int .i64 0, .int .i64 0, .int .i64 0] 99 (0, 0)) (gI BK133.out) hb); replace BK143 := bp BK143 hb #[.int .i64 0, .int .i64 0, .int .i64 0, .int .i64 0]; replace HB := bs HB hb; (try clear hb); (try clear hb2); (try clear hk); (try clear hi); obtain ⟨hcz30_0, hcz30_1, hcz30_2, hcz30_3, hfz30_0, hfz30_1, hfz30_2, hfz30_3⟩ := cs4 BK143) | ((with_reducible refine gate_callee (f := 129) rfl ?_); refine gB (some 41) Tryz.func129 #[.string t137] ?_; (with_reducible refine (spec_Number.calls k t137 t146 t147 _ A6.out).mono ?_); rintro e w31 ⟨rfl, hb⟩; refine ⟨_, rfl, ?_⟩; replace BK133 := Aside0.mk (blk_below (g := gb133) (o := .cells #[.int .i64 0, .int .i64 0, .int .i64 0, .int .i64 0] 99 (0, 0)) (gI BK133.out) hb); replace BK143 := bp BK143 hb #[.int .i64 t144, .int .i64 0, .int .i64 0, .int .i64 0]; replace HB := bs HB hb; (try clear hb); (try clear hb2); (try clear hk); (try clear hi); obtain ⟨hcz32_0, hcz32_1, hcz32_2, hcz32_3, hfz32_0, hfz32_1, hfz32_2, hfz32_3⟩ := cs4 BK143) | ((with_reducible refine gate_callee (f := 129) rfl ?_); refine gB (some 47) Tryz.func129 #[.string t140] ?_; (with_reducible refine (spec_Number.calls k t140 t148 t149 _ A7.out).mono ?_); rintro e w33 ⟨rfl, hb⟩; refine ⟨_, rfl, ?_⟩; replace BK133 := Aside0.mk (blk_below (g := gb133) (o := .cells #[.int .i64 0, .int .i64 0, .int .i64 0, .int .i64 0] 99 (0, 0)) (gI BK133.out) hb); replace BK143 := bp BK143 hb #[.int .i64 t144, .int .i64 t146, .int .i64 0, .int .i64 0]; replace HB := bs HB hb; (try clear hb); (try clear hb2); (try clear hk); (try clear hi); obtain ⟨hcz34_0, hcz34_1, hcz34_2, hcz34_3, hfz34_0, hfz34_1, hfz34_2, hfz34_3⟩ := cs4 BK143) | ((with_reducible refine gate_callee (f := 129) rfl ?_); refine gB (some 53) Tryz.func129 #[.string t141] ?_; (with_reducible refine (spec_Number.calls k t141 t150 t151 _ A8.out).mono ?_); rintro e w35 ⟨rfl, hb⟩; refine ⟨_, rfl, ?_⟩; replace BK133 := Aside0.mk (blk_below (g := gb133) (o := .cells #[.int .i64 0, .int .i64 0, .int .i64 0, .int .i64 0] 99 (0, 0)) (gI BK133.out) hb); replace BK143 := bp BK143 hb #[.int .i64 t144, .int .i64 t146, .int .i64 t148, .int .i64 0]; replace HB := bs HB hb; (try clear hb); (try clear hb2); (try clear hk); (try clear hi); obtain ⟨hcz36_0, hcz36_1, hcz36_2, hcz36_3, hfz36_0, hfz36_1, hfz36_2, hfz36_3⟩ := cs4 BK143) | (go_at_call 133; (with_reducible refine (spec_TxText.calls k t144 t146 t148 t150 t152 _ A23.out).mono ?_); rintro e w37 ⟨rfl, hb⟩; replace BK133 := Aside0.mk (blk_below (g := gb133) (o := .cells #[.int .i64 0, .int .i64 0, .int .i64 0, .int .i64 0] 99 (0, 0)) (gI BK133.out) hb); replace BK143 := bp BK143 hb #[.int .i64 t144, .int .i64 t146, .int .i64 t148, .int .i64 t150]; replace HB := bs HB hb; (try clear hb); (try clear hb2); (try clear hk); (try clear hi); obtain ⟨hcz38_0, hcz38_1, hcz38_2, hcz38_3, hfz38_0, hfz38_1, hfz38_2, hfz38_3⟩ := cs4 BK143; obtain ⟨hcz39_0, hcz39_1, hcz39_2, hcz39_3, hfz39_0, hfz39_1, hfz39_2, hfz39_3⟩ := cs4 BK133))
  refine bodyPost_ret (results_ct rfl _ _ gb133 99 #[.int .i64 t144, .int .i64 t146, .int .i64 t148, .int .i64 t150] (0, 0) _ rfl (pI BK133) Tryz.underlying99 rfl (by kernel_rfl)) rfl ?_
  exact ⟨y0_6, bI HB.out⟩
 rw [if_neg c24] at H
 have c24b0 : (t152.toList == a0.toList) = false := beq_eq_false_iff_ne.mpr c24; have c24b1 : (t152.toList != a0.toList) = true := bne_iff_ne.mpr c24
 simp only [Option.some.injEq, Prod.mk.injEq] at H
 obtain ⟨rfl, rfl, rfl, rfl, rfl⟩ := H
 go_enter Tryz.func146, Tryz.ntmps146
 go_wp2_with (first | ((with_reducible refine gd 2 ?_); refine bA 2 #[.int .i64 0, .int .i64 0, .int .i64 0, .int .i64 0] 99 ?_; intro gb133 hg w40 hbox hb; have BK133 := Aside0.mk (hbox); have GW133 := bg hg HB; have GJ133 := gi GW133; have GE133 := GW133; replace HB := bs HB hb; clear hb hbox hg) | ((with_reducible refine gate_callee (f := 128) rfl ?_); refine gB (some 16) Tryz.func128 #[.string a0, .int .u8 62] ?_; (with_reducible refine (spec_l2Cut.calls k a0 62 t134 t135 t136 _ A2.out).mono ?_); rintro e w' ⟨rfl, ⟨nd, rfl⟩⟩; refine ⟨_, rfl, ?_⟩; (try (rw [drewN_self w40]; generalize hq_ : World.drewN w40 _ = w40; have n0_ : Aside0 (w40.heap[gb133]? = some (.cells #[.int .i64 0, .int .i64 0, .int .i64 0, .int .i64 0] 99 (0, 0))) := ⟨y0_11⟩; have n1_ : Aside0 (Below w.heap.size w w40) := ⟨y0_12⟩; clear BK133 HB hq_; have BK133 := n0_; have HB := n1_; clear n0_ n1_))) | ((with_reducible refine gate_callee (f := 128) rfl ?_); refine gB (some 22) Tryz.func128 #[.string t135, .int .u8 58] ?_; (with_reducible refine (spec_l2Cut.calls k t135 58 t137 t138 t139 _ A3.out).mono ?_); rintro e w' ⟨rfl, ⟨nd, rfl⟩⟩; refine ⟨_, rfl, ?_⟩; (try (rw [drewN_self w40]; generalize hq_ : World.drewN w40 _ = w40; have n0_ : Aside0 (w40.heap[gb133]? = some (.cells #[.int .i64 0, .int .i64 0, .int .i64 0, .int .i64 0] 99 (0, 0))) := ⟨y0_11⟩; have n1_ : Aside0 (Below w.heap.size w w40) := ⟨y0_12⟩; clear BK133 HB hq_; have BK133 := n0_; have HB := n1_; clear n0_ n1_))) | ((with_reducible refine gate_callee (f := 128) rfl ?_); refine gB (some 28) Tryz.func128 #[.string t138, .int .u8 35] ?_; (with_reducible refine (spec_l2Cut.calls k t138 35 t140 t141 t142 _ A4.out).mono ?_); rintro e w' ⟨rfl, ⟨nd, rfl⟩⟩; refine ⟨_, rfl, ?_⟩; (try (rw [drewN_self w40]; generalize hq_ : World.drewN w40 _ = w40; have n0_ : Aside0 (w40.heap[gb133]? = some (.cells #[.int .i64 0, .int .i64 0, .int .i64 0, .int .i64 0] 99 (0, 0))) := ⟨y0_11⟩; have n1_ : Aside0 (Below w.heap.size w w40) := ⟨y0_12⟩; clear BK133 HB hq_; have BK133 := n0_; have HB := n1_; clear n0_ n1_))) | ((with_reducible refine gd 13 ?_); refine bA 13 #[.int .i64 0, .int .i64 0, .int .i64 0, .int .i64 0] 99 ?_; intro gb143 hg w41 hbox hb; have BK143 := Aside0.mk (hbox); have GW143 := bg hg HB; have GJ143 := gi GW143; have GE143 := GW143; replace HB := bs HB hb; have NB133_143 := b1 BK133 hg; have NI133_143 := ni NB133_143; have NB143_133 := b2 BK133 hg; have NI143_133 := ni NB143_133; replace BK133 := bk BK133 hb; clear hb hbox hg; have hnb42 := NB143_133.out; have hnc42 := NB133_143.out; obtain ⟨hcz43_0, hcz43_1, hcz43_2, hcz43_3, hfz43_0, hfz43_1, hfz43_2, hfz43_3⟩ := cs4 BK143) | ((with_reducible refine gate_callee (f := 129) rfl ?_); refine gB (some 35) Tryz.func129 #[.string t134] ?_; (with_reducible refine (spec_Number.calls k t134 t144 t145 _ A5.out).mono ?_); rintro e w44 ⟨rfl, hb⟩; refine ⟨_, rfl, ?_⟩; replace BK133 := Aside0.mk (blk_below (g := gb133) (o := .cells #[.int .i64 0, .int .i64 0, .int .i64 0, .int .i64 0] 99 (0, 0)) (gI BK133.out) hb); replace BK143 := bp BK143 hb #[.int .i64 0, .int .i64 0, .int .i64 0, .int .i64 0]; replace HB := bs HB hb; (try clear hb); (try clear hb2); (try clear hk); (try clear hi); obtain ⟨hcz45_0, hcz45_1, hcz45_2, hcz45_3, hfz45_0, hfz45_1, hfz45_2, hfz45_3⟩ := cs4 BK143) | ((with_reducible refine gate_callee (f := 129) rfl ?_); refine gB (some 41) Tryz.func129 #[.string t137] ?_; (with_reducible refine (spec_Number.calls k t137 t146 t147 _ A6.out).mono ?_); rintro e w46 ⟨rfl, hb⟩; refine ⟨_, rfl, ?_⟩; replace BK133 := Aside0.mk (blk_below (g := gb133) (o := .cells #[.int .i64 0, .int .i64 0, .int .i64 0, .int .i64 0] 99 (0, 0)) (gI BK133.out) hb); replace BK143 := bp BK143 hb #[.int .i64 t144, .int .i64 0, .int .i64 0, .int .i64 0]; replace HB := bs HB hb; (try clear hb); (try clear hb2); (try clear hk); (try clear hi); obtain ⟨hcz47_0, hcz47_1, hcz47_2, hcz47_3, hfz47_0, hfz47_1, hfz47_2, hfz47_3⟩ := cs4 BK143) | ((with_reducible refine gate_callee (f := 129) rfl ?_); refine gB (some 47) Tryz.func129 #[.string t140] ?_; (with_reducible refine (spec_Number.calls k t140 t148 t149 _ A7.out).mono ?_); rintro e w48 ⟨rfl, hb⟩; refine ⟨_, rfl, ?_⟩; replace BK133 := Aside0.mk (blk_below (g := gb133) (o := .cells #[.int .i64 0, .int .i64 0, .int .i64 0, .int .i64 0] 99 (0, 0)) (gI BK133.out) hb); replace BK143 := bp BK143 hb #[.int .i64 t144, .int .i64 t146, .int .i64 0, .int .i64 0]; replace HB := bs HB hb; (try clear hb); (try clear hb2); (try clear hk); (try clear hi); obtain ⟨hcz49_0, hcz49_1, hcz49_2, hcz49_3, hfz49_0, hfz49_1, hfz49_2, hfz49_3⟩ := cs4 BK143) | ((with_reducible refine gate_callee (f := 129) rfl ?_); refine gB (some 53) Tryz.func129 #[.string t141] ?_; (with_reducible refine (spec_Number.calls k t141 t150 t151 _ A8.out).mono ?_); rintro e w50 ⟨rfl, hb⟩; refine ⟨_, rfl, ?_⟩; replace BK133 := Aside0.mk (blk_below (g := gb133) (o := .cells #[.int .i64 0, .int .i64 0, .int .i64 0, .int .i64 0] 99 (0, 0)) (gI BK133.out) hb); replace BK143 := bp BK143 hb #[.int .i64 t144, .int .i64 t146, .int .i64 t148, .int .i64 0]; replace HB := bs HB hb; (try clear hb); (try clear hb2); (try clear hk); (try clear hi); obtain ⟨hcz51_0, hcz51_1, hcz51_2, hcz51_3, hfz51_0, hfz51_1, hfz51_2, hfz51_3⟩ := cs4 BK143) | (go_at_call 133; (with_reducible refine (spec_TxText.calls k t144 t146 t148 t150 t152 _ A23.out).mono ?_); rintro e w52 ⟨rfl, hb⟩; replace BK133 := Aside0.mk (blk_below (g := gb133) (o := .cells #[.int .i64 0, .int .i64 0, .int .i64 0, .int .i64 0] 99 (0, 0)) (gI BK133.out) hb); replace BK143 := bp BK143 hb #[.int .i64 t144, .int .i64 t146, .int .i64 t148, .int .i64 t150]; replace HB := bs HB hb; (try clear hb); (try clear hb2); (try clear hk); (try clear hi); obtain ⟨hcz53_0, hcz53_1, hcz53_2, hcz53_3, hfz53_0, hfz53_1, hfz53_2, hfz53_3⟩ := cs4 BK133))
 refine bodyPost_ret (results_ct rfl _ _ gb133 99 #[.int .i64 0, .int .i64 0, .int .i64 0, .int .i64 0] (0, 0) _ rfl (pI BK133) Tryz.underlying99 rfl (by kernel_rfl)) rfl ?_
 exact ⟨y0_6, bI HB.out⟩

/-! ### spec_TxsOf: function 130 -/
def spec_TxsOf.l0 : Nat → List (S99) → List ByteArray → Int → Option ((List (S99)) × Bool)
 | 0, _, _, _ => none
 | k + 1, x4, x5, x6 => if x6 < (x5.length : Int) then (if 0 ≤ x6 then ((spec_TxOf.f k (rdOf ByteArray.empty x5 x6)).bind fun bt160 => (if bt160.2.2.2.2 = true then (if x4.length < 4398046511104 then (spec_TxsOf.l0 k (x4 ++ [(⟨bt160.1, bt160.2.1, bt160.2.2.1, bt160.2.2.2.1⟩ : S99)]) x5 (wrap64 (x6 + 1))) else (none)) else (some ((([] : List (S99))), false)))) else (none)) else (some (x4, true))
def spec_TxsOf.f (k : Nat) (a0 : ByteArray) : Option ((List (S99)) × Bool) := (some (([] : List (S99)) : List (S99))).bind fun y153 => (if a0.toList = ([] : List UInt8) then (some (y153, true)) else ((spec_Split.f k a0 44).bind fun t156 => (spec_TxsOf.l0 k y153 t156 0)))
theorem spec_TxsOf.mono_l : ∀ k, (∀ y0 y1 y2, LeO (spec_TxsOf.l0 k y0 y1 y2) (spec_TxsOf.l0 (k + 1) y0 y1 y2))
 | 0 => fun _ _ _ r h => by simp [spec_TxsOf.l0] at h
 | k + 1 => by
  have ih0 := spec_TxsOf.mono_l k
  intro y0 y1 y2
  unfold spec_TxsOf.l0
  repeat' first | (with_reducible exact ih0 _ _ _) | (with_reducible exact spec_Split.mono _ _ _) | (with_reducible exact spec_TxOf.mono _ _) | (with_reducible exact LeO.refl _) | (with_reducible exact LeO.none _) | (with_reducible refine LeO.ite ?_ ?_) | (with_reducible refine LeO.bind ?_ (fun _ => ?_))
theorem spec_TxsOf.mono : ∀ a0 k, LeO (spec_TxsOf.f k a0) (spec_TxsOf.f (k + 1) a0) := by
 intro a0 k
 have ih0 := spec_TxsOf.mono_l k
 unfold spec_TxsOf.f
 repeat' first | (with_reducible exact ih0 _ _ _) | (with_reducible exact spec_Split.mono _ _ _) | (with_reducible exact spec_TxOf.mono _ _) | (with_reducible exact LeO.refl _) | (with_reducible exact LeO.none _) | (with_reducible refine LeO.ite ?_ ?_) | (with_reducible refine LeO.bind ?_ (fun _ => ?_))
set_option maxHeartbeats 8000000 in
set_option maxRecDepth 100000 in
theorem spec_TxsOf.calls (k : Nat) (a0 : ByteArray) (r1 : List (S99)) (r2 : Bool) (w : World) (h : spec_TxsOf.f k a0 = some (r1, r2)) :
  Calls Tryz.prog 130 #[.string a0] w fun e w' => ∃ v0_ : Value, e = .returned (.tuple #[v0_, .bool r2]) ∧ Kd.R k99 99 w' w.heap.size (fun _ => True) v0_ r1 ∧ Below w.heap.size w w' := by
 have hu99 := Tryz.underlying99; have HB := Aside0.mk (Below.refl w.heap.size w)
 have H : ((some (([] : List (S99)) : List (S99))).bind fun y153 => (if a0.toList = ([] : List UInt8) then (some (y153, true)) else ((spec_Split.f k a0 44).bind fun t156 => (spec_TxsOf.l0 k y153 t156 0)))) = some (r1, r2) := h
 clear h; obtain ⟨y153, hy153⟩ : ∃ y_ : List (S99), y_ = (([] : List (S99))) := ⟨_, rfl⟩
 replace H : (if a0.toList = ([] : List UInt8) then (some (y153, true)) else ((spec_Split.f k a0 44).bind fun t156 => (spec_TxsOf.l0 k y153 t156 0))) = some (r1, r2) := by first | (rw [hy153]; with_reducible exact H) | (have H2_ := (Option.bind_some _ _).symm.trans H; rw [hy153]; with_reducible exact H2_) | (have H2_ := (Option.bind_some _ _).symm.trans H; with_reducible exact H2_) | with_reducible exact H | (rw [hy153]; exact H) | exact H
 have Ny153 := Aside0.mk hy153; clear hy153
 by_cases c2 : a0.toList = ([] : List UInt8)
 ·
  rw [if_pos c2] at H
  have c2b0 : (a0.toList == ([] : List UInt8)) = true := beq_iff_eq.mpr c2; have c2b1 : (a0.toList != ([] : List UInt8)) = false := bne_eq_false_iff_eq.mpr c2; clear c2
  simp only [Option.some.injEq, Prod.mk.injEq] at H
  obtain ⟨rfl, rfl⟩ := H
  go_enter Tryz.func130, Tryz.ntmps130
  go_wp2_with (first | ((with_reducible refine gate_dst (N := 9) rfl ?_); refine Kd.R_lit k99 _ 99 ?hg (N := 9) ?hd (xs := ([] : List (S99))) (inner := []) (ok := fun _ => True) (okp := fun _ => True) ?hr ?hp (fun _ hk => hk) trivial (Below.refl _ _) (Nat.le_refl _) (by simp) ?_; (case hd => rfl); (case hg => rfl); (case hr => first | (go_simp; done) | (go_simp; rfl)); (case hp => exact (Reps.none _ _)); intro v154 w3 ho4 hb hg_ hnew_; clear hg_ hnew_; (first | rw [← Ny153.out] at ho4 | (simp only [Int.reduceToNat] at ho4; rw [← Ny153.out] at ho4)); have HO155 := Aside0.mk (Kd.R_lower ho4 (below_size (bI HB.out))); replace HB := bs HB hb; clear hb ho4))
  go_ret2
  exact ⟨_, y0_6, by (with_reducible repeat (first | apply Kd.R_alloc | apply Kd.R_drewN | apply Kd.R_drew)); exact HO155.out, bI HB.out⟩
 rw [if_neg c2] at H
 have c2b0 : (a0.toList == ([] : List UInt8)) = false := beq_eq_false_iff_ne.mpr c2; have c2b1 : (a0.toList != ([] : List UInt8)) = true := bne_iff_ne.mpr c2; obtain ⟨t156, A50, H⟩ := Option.bind_eq_some_iff.mp H
 try dsimp only at H
 have A5 := Aside0.mk A50; clear A50; have H' := Aside0.mk H; clear H
 go_enter Tryz.func130, Tryz.ntmps130
 go_wp2_with (first | ((with_reducible refine gate_dst (N := 9) rfl ?_); refine Kd.R_lit k99 _ 99 ?hg (N := 9) ?hd (xs := ([] : List (S99))) (inner := []) (ok := fun _ => True) (okp := fun _ => True) ?hr ?hp (fun _ hk => hk) trivial (Below.refl _ _) (Nat.le_refl _) (by simp) ?_; (case hd => rfl); (case hg => rfl); (case hr => first | (go_simp; done) | (go_simp; rfl)); (case hp => exact (Reps.none _ _)); intro v154 w6 ho7 hb hg_ hnew_; clear hg_ hnew_; (first | rw [← Ny153.out] at ho7 | (simp only [Int.reduceToNat] at ho7; rw [← Ny153.out] at ho7)); have HO155 := Aside0.mk (Kd.R_lower ho7 (below_size (bI HB.out))); replace HB := bs HB hb; clear hb ho7) | ((with_reducible refine gate_callee (f := 127) rfl ?_); refine gB (some 14) Tryz.func127 #[.string a0, .int .u8 44] ?_; (with_reducible refine (spec_Split.calls k a0 44 t156 _ A5.out).mono ?_); rintro e w8 ⟨v157, rfl, ho0, hb⟩; refine ⟨_, rfl, ?_⟩; replace HO155 := rb HO155 hb; have HO158 := Aside0.mk (Kd.R_lower ho0 (below_size (bI HB.out))); replace HB := bs HB hb; (try clear hb); (try clear ho0)))
 go_loopg [4, 6] k (fun kq v4 v6 w' => ∃ (x4_1 : List (S99)) (x6_1 : Int), v6 = .int .i64 x6_1 ∧ Aside0 (spec_TxsOf.l0 kq x4_1 t156 x6_1 = some (r1, r2)) ∧ Aside0 (kq ≤ k) ∧ Aside0 (Kd.R k99 99 w' w.heap.size (fun _ => True) v4 x4_1) ∧ Aside0 (Kd.R Kd.string 9 w' w.heap.size (fun _ => True) v157 t156) ∧ Aside0 (Below w.heap.size w w'))
 case atStart => exact ⟨(y153), (0), y0_9, H', ⟨Nat.le_refl _⟩, ⟨by (with_reducible repeat (first | apply Kd.R_alloc | apply Kd.R_drewN | apply Kd.R_drew)); exact HO155.out⟩, ⟨by (with_reducible repeat (first | apply Kd.R_alloc | apply Kd.R_drewN | apply Kd.R_drew)); exact HO158.out⟩, ⟨bI HB.out⟩⟩
 case round =>
  clear H'
  try clear c1
  try clear c2
  try clear c2b0
  try clear c2b1
  try clear p2
  obtain ⟨x4_1, x6_1, rfl, HA, HK1, HO_4, HO_5, HB⟩ := hrel; cases gk with
  | zero => exact absurd HA.out (by simp [spec_TxsOf.l0])
  | succ k1 =>
   have H := HA.out; clear HA
   simp only [spec_TxsOf.l0] at H
   by_cases c9 : x6_1 < (t156.length : Int)
   ·
    rw [if_pos c9] at H
    have c9b0 : decide (x6_1 < (t156.length : Int)) = true := decide_eq_true c9; clear c9
    by_cases c10 : 0 ≤ x6_1
    rotate_left
    ·
     rw [if_neg c10] at H
     exact absurd H (by simp)
    rw [if_pos c10] at H
    have c10b0 : decide (0 ≤ x6_1) = true := decide_eq_true c10; clear c10; obtain ⟨⟨t160, t161, t162, t163, t164⟩, A110, H⟩ := Option.bind_eq_some_iff.mp H
    try dsimp only at H
    have A11 := Aside0.mk A110; clear A110
    by_cases c12 : t164 = true
    ·
     subst c12
     rw [if_pos rfl] at H
     by_cases c13 : x4_1.length < 4398046511104
     rotate_left
     ·
      rw [if_neg c13] at H
      exact absurd H (by simp)
     rw [if_pos c13] at H
     have LMc13 := Aside0.mk c13; clear c13; obtain ⟨y166, hy166⟩ : ∃ y_ : List (S99), y_ = (x4_1 ++ [(⟨t160, t161, t162, t163⟩ : S99)]) := ⟨_, rfl⟩
     replace H : (spec_TxsOf.l0 k1 y166 t156 (wrap64 (x6_1 + 1))) = some (r1, r2) := by first | (rw [hy166]; with_reducible exact H) | (have H2_ := (Option.bind_some _ _).symm.trans H; rw [hy166]; with_reducible exact H2_) | (have H2_ := (Option.bind_some _ _).symm.trans H; with_reducible exact H2_) | with_reducible exact H | (rw [hy166]; exact H) | exact H
     have Ny166 := Aside0.mk hy166; clear hy166; have H' := Aside0.mk H; clear H; obtain ⟨Ao14, co14, eo14⟩ := Kd.R_slice HO_5.out; subst eo14; have p159 : 0 ≤ (x6_1 : Int) := of_decide_eq_true y0_8; have q159 : x6_1 < (t156.length : Int) := of_decide_eq_true y0_8; obtain ⟨ad159, e159, hx159_0⟩ := Kd.at_string (Kd.R_reads' HO_5.out).2.2 x6_1 p159 q159; cases e159; replace p159 := eq_true p159; replace q159 := eq_true q159
     go_wp2_with (first | ((with_reducible refine gate_callee (f := 146) rfl ?_); refine gB (some 26) Tryz.func146 #[.string (rdOf ByteArray.empty t156 x6_1)] ?_; (with_reducible refine (spec_TxOf.calls k1 (rdOf ByteArray.empty t156 x6_1) t160 t161 t162 t163 true _ A11.out).mono ?_); rintro e w15 ⟨rfl, hb⟩; refine ⟨_, rfl, ?_⟩; replace HO_4 := rb HO_4 hb; replace HO_5 := rb HO_5 hb; replace HB := bs HB hb; (try clear hb); (try clear hb2); (try clear hk); (try clear hi)) | ((with_reducible refine gd 7 ?_); refine bA 7 #[.int .i64 0, .int .i64 0, .int .i64 0, .int .i64 0] 99 ?_; intro gb165 hg w16 hbox hb; replace HO_4 := Aside0.mk (Kd.R_below (Kd.R_elderB (rI HO_4.out) gb165 (Nat.le_of_eq hg.symm)) hb); replace HO_5 := rb HO_5 hb; have BK165 := Aside0.mk (hbox); have GW165 := bg hg HB; have GJ165 := gi GW165; have GE165 := GW165; replace HB := bs HB hb; clear hb hbox hg; obtain ⟨hcz17_0, hcz17_1, hcz17_2, hcz17_3, hfz17_0, hfz17_1, hfz17_2, hfz17_3⟩ := cs4 BK165) | ((with_reducible refine gate_builtin (b := .append) (xs := #[.tmp 32, .tmp 34]) rfl ?_); at_builtin; refine Kd.R_append k99 (w0 := w) w.heap.size rfl (.tmp 32) (.tmp 34) 59 99 (.agg #[(.int .i64 0), (.int .i64 0), (.int .i64 0), (.int .i64 0)]) 32 rfl Tryz.underlying59 info99 rfl (by decide) (by omega) u4 x4_1 (⟨t160, t161, t162, t163⟩ : S99) [.int .i64 t160, .int .i64 t161, .int .i64 t162, .int .i64 t163] (fun k_ => k_ ≠ gb165) (fun _ => False) rfl (by first | (go_simp; done) | (go_simp; rfl)) ?aP (fun _ hk => hk.elim) ?aF ?aO ?aB ?aS ?aL ?_; (case aP => exact k99_mkM _ _ _ (⟨t160, t161, t162, t163⟩ : S99)); (case aB => exact (bI HB.out)); (case aF => exact (fun k_ hk => Kd.freshB (g := gb165) (o := .cells #[.int .i64 t160, .int .i64 t161, .int .i64 t162, .int .i64 t163] 99 (0, 0)) (pI BK165) k_ hk)); (case aO => exact (rI (Kd.R_mono (Kd.R_far (p := ⟨gb165, 3, none⟩) (Kd.R_far (p := ⟨gb165, 2, none⟩) (Kd.R_far (p := ⟨gb165, 1, none⟩) (Kd.R_far (p := ⟨gb165, 0, none⟩) (Kd.R_mono HO_4.out (fun k_ hk => (⟨hk, hk.2⟩ : _ ∧ k_ ≠ gb165))) (fun _ hk => hk.2) (.int .i64 t160)) (fun _ hk => hk.2) (.int .i64 t161)) (fun _ hk => hk.2) (.int .i64 t162)) (fun _ hk => hk.2) (.int .i64 t163)) (fun _ hk => hk.1.2)))); (case aS => exact (below_size (bI HB.out))); (case aL => have := LMc13.out; omega); intro v167 w18 ho hb hg hat; rw [← Ny166.out] at ho; have n0_ := Aside0.mk (Kd.R_over' (rI (Kd.R_mono (Kd.R_far (p := ⟨gb165, 3, none⟩) (Kd.R_far (p := ⟨gb165, 2, none⟩) (Kd.R_far (p := ⟨gb165, 1, none⟩) (Kd.R_far (p := ⟨gb165, 0, none⟩) (Kd.R_types HO_5.out BK165.out (by decide)) (fun _ hk => hk.2) (.int .i64 t160)) (fun _ hk => hk.2) (.int .i64 t161)) (fun _ hk => hk.2) (.int .i64 t162)) (fun _ hk => hk.2) (.int .i64 t163)) (fun _ h_ => h_.1))) (Kd.R_typed (rI (Kd.R_mono (Kd.R_far (p := ⟨gb165, 3, none⟩) (Kd.R_far (p := ⟨gb165, 2, none⟩) (Kd.R_far (p := ⟨gb165, 1, none⟩) (Kd.R_far (p := ⟨gb165, 0, none⟩) (Kd.R_mono HO_4.out (fun k_ hk => (⟨hk, hk.2⟩ : _ ∧ k_ ≠ gb165))) (fun _ hk => hk.2) (.int .i64 t160)) (fun _ hk => hk.2) (.int .i64 t161)) (fun _ hk => hk.2) (.int .i64 t162)) (fun _ hk => hk.2) (.int .i64 t163)) (fun _ h_ => h_.1)))) (by decide) hg); have n1_ := Aside0.mk (blk_grown (g := gb165) (o := .cells #[.int .i64 t160, .int .i64 t161, .int .i64 t162, .int .i64 t163] 99 (0, 0)) (pI BK165) hg (Kd.R_away HO_4.out (fun _ hk => hk.2))); have n2_ := Aside0.mk (hb); have n3_ := Aside0.mk (ho); clear HO_5; clear BK165; clear HB; clear HO_4; have HO_5 := n0_; have BK165 := n1_; have HB := n2_; have HO168 := n3_; clear n0_ n1_ n2_ n3_; clear ho hb hg hat))
     go_roundg k1
     case measure => have := HK1.out; omega
     case rel => exact ⟨(y166), (wrap64 (x6_1 + 1)), y0_9, H', ⟨y0_13⟩, ⟨by (with_reducible repeat (first | apply Kd.R_alloc | apply Kd.R_drewN | apply Kd.R_drew)); exact Kd.R_mono HO168.out (fun _ hk => trivial)⟩, ⟨y0_4⟩, ⟨bI HB.out⟩⟩
    replace c12 := Bool.eq_false_iff.mpr c12; subst c12
    rw [if_neg (show ¬ (false = true) by decide)] at H
    obtain ⟨y169, hy169⟩ : ∃ y_ : List (S99), y_ = (([] : List (S99))) := ⟨_, rfl⟩
    replace H : (some (y169, false)) = some (r1, r2) := by first | (rw [hy169]; with_reducible exact H) | (have H2_ := (Option.bind_some _ _).symm.trans H; rw [hy169]; with_reducible exact H2_) | (have H2_ := (Option.bind_some _ _).symm.trans H; with_reducible exact H2_) | with_reducible exact H | (rw [hy169]; exact H) | exact H
    have Ny169 := Aside0.mk hy169; clear hy169
    simp only [Option.some.injEq, Prod.mk.injEq] at H
    obtain ⟨rfl, rfl⟩ := H; obtain ⟨Ao19, co19, eo19⟩ := Kd.R_slice HO_5.out; subst eo19; have p159 : 0 ≤ (x6_1 : Int) := of_decide_eq_true y0_8; have q159 : x6_1 < (t156.length : Int) := of_decide_eq_true y0_8; obtain ⟨ad159, e159, hx159_0⟩ := Kd.at_string (Kd.R_reads' HO_5.out).2.2 x6_1 p159 q159; cases e159; replace p159 := eq_true p159; replace q159 := eq_true q159
    go_wp2_with (first | ((with_reducible refine gate_callee (f := 146) rfl ?_); refine gB (some 26) Tryz.func146 #[.string (rdOf ByteArray.empty t156 x6_1)] ?_; (with_reducible refine (spec_TxOf.calls k1 (rdOf ByteArray.empty t156 x6_1) t160 t161 t162 t163 false _ A11.out).mono ?_); rintro e w20 ⟨rfl, hb⟩; refine ⟨_, rfl, ?_⟩; replace HO_4 := rb HO_4 hb; replace HO_5 := rb HO_5 hb; replace HB := bs HB hb; (try clear hb); (try clear hb2); (try clear hk); (try clear hi)) | ((with_reducible refine gd 7 ?_); refine bA 7 #[.int .i64 0, .int .i64 0, .int .i64 0, .int .i64 0] 99 ?_; intro gb165 hg w21 hbox hb; replace HO_4 := Aside0.mk (Kd.R_below (Kd.R_elderB (rI HO_4.out) gb165 (Nat.le_of_eq hg.symm)) hb); replace HO_5 := rb HO_5 hb; have BK165 := Aside0.mk (hbox); have GW165 := bg hg HB; have GJ165 := gi GW165; have GE165 := GW165; replace HB := bs HB hb; clear hb hbox hg; obtain ⟨hcz22_0, hcz22_1, hcz22_2, hcz22_3, hfz22_0, hfz22_1, hfz22_2, hfz22_3⟩ := cs4 BK165) | ((with_reducible refine gate_dst (N := 31) rfl ?_); refine Kd.R_lit k99 _ 99 ?hg (N := 31) ?hd (xs := ([] : List (S99))) (inner := []) (ok := fun _ => True) (okp := fun _ => True) ?hr ?hp (fun _ hk => hk) trivial (Below.refl _ _) (Nat.le_refl _) (by simp) ?_; (case hd => rfl); (case hg => rfl); (case hr => first | (go_simp; done) | (go_simp; rfl)); (case hp => exact (Reps.none _ _)); intro v170 w23 ho24 hb hg_ hnew_; clear hg_ hnew_; (first | rw [← Ny169.out] at ho24 | (simp only [Int.reduceToNat] at ho24; rw [← Ny169.out] at ho24)); replace HO_5 := Aside0.mk (Kd.R_below (rI (Kd.R_mono (Kd.R_far (p := ⟨gb165, 3, none⟩) (Kd.R_far (p := ⟨gb165, 2, none⟩) (Kd.R_far (p := ⟨gb165, 1, none⟩) (Kd.R_far (p := ⟨gb165, 0, none⟩) (Kd.R_types HO_5.out BK165.out (by decide)) (fun _ hk => hk.2) (.int .i64 t160)) (fun _ hk => hk.2) (.int .i64 t161)) (fun _ hk => hk.2) (.int .i64 t162)) (fun _ hk => hk.2) (.int .i64 t163)) (fun _ h_ => h_.1))) hb); have HO171 := Aside0.mk (Kd.R_lower (Kd.R_newB (Kd.R_new' ho24 (Kd.R_lt (rI (Kd.R_mono (Kd.R_far (p := ⟨gb165, 3, none⟩) (Kd.R_far (p := ⟨gb165, 2, none⟩) (Kd.R_far (p := ⟨gb165, 1, none⟩) (Kd.R_far (p := ⟨gb165, 0, none⟩) (Kd.R_mono HO_4.out (fun k_ hk => (⟨hk, hk.2⟩ : _ ∧ k_ ≠ gb165))) (fun _ hk => hk.2) (.int .i64 t160)) (fun _ hk => hk.2) (.int .i64 t161)) (fun _ hk => hk.2) (.int .i64 t162)) (fun _ hk => hk.2) (.int .i64 t163)) (fun _ h_ => h_.1))))) (g := gb165) (o := .cells #[.int .i64 t160, .int .i64 t161, .int .i64 t162, .int .i64 t163] 99 (0, 0)) (pI BK165)) (below_size (bI HB.out))); replace HO_4 := Aside0.mk (Kd.R_elder' (rI (Kd.R_mono (Kd.R_far (p := ⟨gb165, 3, none⟩) (Kd.R_far (p := ⟨gb165, 2, none⟩) (Kd.R_far (p := ⟨gb165, 1, none⟩) (Kd.R_far (p := ⟨gb165, 0, none⟩) (Kd.R_mono HO_4.out (fun k_ hk => (⟨hk, hk.2⟩ : _ ∧ k_ ≠ gb165))) (fun _ hk => hk.2) (.int .i64 t160)) (fun _ hk => hk.2) (.int .i64 t161)) (fun _ hk => hk.2) (.int .i64 t162)) (fun _ hk => hk.2) (.int .i64 t163)) (fun _ h_ => h_.1))) (Kd.R_base ho24) hb); replace BK165 := bp BK165 hb #[.int .i64 t160, .int .i64 t161, .int .i64 t162, .int .i64 t163]; replace HB := bs HB hb; clear hb ho24))
    go_ret2
    exact ⟨_, y0_6, by (with_reducible repeat (first | apply Kd.R_alloc | apply Kd.R_drewN | apply Kd.R_drew)); exact Kd.R_mono HO171.out (fun _ hk => trivial), bI HB.out⟩
   rw [if_neg c9] at H
   have c9b0 : decide (x6_1 < (t156.length : Int)) = false := decide_eq_false c9; clear c9
   simp only [Option.some.injEq, Prod.mk.injEq] at H
   obtain ⟨rfl, rfl⟩ := H; obtain ⟨Ao25, co25, eo25⟩ := Kd.R_slice HO_5.out; subst eo25
   go_wp2
   go_ret2
   exact ⟨_, y0_6, by (with_reducible repeat (first | apply Kd.R_alloc | apply Kd.R_drewN | apply Kd.R_drew)); exact HO_4.out, bI HB.out⟩

end Go.Proofs.YtemjmefacifdeaaGreatDoor.PFnSettlesThree
