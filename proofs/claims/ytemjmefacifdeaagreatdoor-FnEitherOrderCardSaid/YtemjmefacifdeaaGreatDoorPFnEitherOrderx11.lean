-- By a program of this session, out of the translation (the print of the kit, with turns of its own). Lean checks it.
import Derived.Test.YtemjmefacifdeaaGreatDoorPFnEitherOrderx0
import Derived.Test.YtemjmefacifdeaaGreatDoorPFnEitherOrderx1
import Derived.Test.YtemjmefacifdeaaGreatDoorPFnEitherOrderx3
import Derived.Test.YtemjmefacifdeaaGreatDoorPFnEitherOrderx9
import Derived.Test.YtemjmefacifdeaaGreatDoorPFnEitherOrderx10
namespace Go.Proofs.YtemjmefacifdeaaGreatDoor.PFnEitherOrder
open Go.RowKit Go.Proofs.YtemjmefacifdeaaGreatDoorW.PrintWords Go.Proofs.YtemjmefacifdeaaGreatDoorW.PrintLast Go.Proofs.YtemjmefacifdeaaGreatDoorW.PrintMore
attribute [local go_sem] max2_int min2_int max_two min_two max_three min_three max_four min_four   -- for this text's walks alone
attribute [local go_sem] cell_in frozen_in
set_option synthInstance.maxSize 1000000
set_option synthInstance.maxHeartbeats 2000000
set_option linter.unusedVariables false
set_option linter.unusedSimpArgs false

/-! ### spec_l5Draw: function 117 -/
def spec_l5Draw.l0 : Nat → ByteArray → Int → List Int → Int → Int → Option (ByteArray × Int × Int)
 | 0, _, _, _, _, _ => none
 | k + 1, x3, x4, x1000, x1001, x1002 => (spec_l1Below.f x1000 x1001 x1002 2).bind fun bt562 => (if x4 ≤ (wrap64 (30 + bt562.1)) then (if x3.size + 1 ≤ 9223372036854775807 then ((spec_Digits.f k x4).bind fun t565 => (if (x3 ++ (⟨#[47]⟩ : ByteArray)).size + t565.size ≤ 9223372036854775807 then (if ((x3 ++ (⟨#[47]⟩ : ByteArray)) ++ t565).size + 1 ≤ 9223372036854775807 then (spec_l5Draw.l0 k (((x3 ++ (⟨#[47]⟩ : ByteArray)) ++ t565) ++ (⟨#[124]⟩ : ByteArray)) (wrap64 (x4 + 1)) x1000 bt562.2.1 bt562.2.2) else (none)) else (none))) else (none)) else (some (x3, bt562.2.1, bt562.2.2)))
def spec_l5Draw.f (k : Nat) (s0_0 : List Int) (s0_1 : Int) (s0_2 : Int) : Option (ByteArray × Int × Int) := (spec_l1Once.f s0_0 s0_1 s0_2 20).bind fun bt559 => (if bt559.1 = true then (spec_l5Draw.l0 k (⟨#[]⟩ : ByteArray) 1 s0_0 bt559.2.1 bt559.2.2) else ((spec_l5DrawRight.f k s0_0 bt559.2.1 bt559.2.2).bind fun bt566 => ((spec_l2Dent.f s0_0 bt566.2.1 bt566.2.2 bt566.1).bind fun bt569 => (some (bt569.1, bt569.2.1, bt569.2.2)))))
theorem spec_l5Draw.mono_l : ∀ k, (∀ y0 y1 y2 y3 y4, LeO (spec_l5Draw.l0 k y0 y1 y2 y3 y4) (spec_l5Draw.l0 (k + 1) y0 y1 y2 y3 y4))
 | 0 => fun _ _ _ _ _ r h => by simp [spec_l5Draw.l0] at h
 | k + 1 => by
  have ih0 := spec_l5Draw.mono_l k
  intro y0 y1 y2 y3 y4
  unfold spec_l5Draw.l0
  repeat' first | (with_reducible exact ih0 _ _ _ _ _) | (with_reducible exact spec_Digits.mono _ _) | (with_reducible exact spec_l5DrawRight.mono _ _ _ _) | (with_reducible exact LeO.refl _) | (with_reducible exact LeO.none _) | (with_reducible refine LeO.ite ?_ ?_) | (with_reducible refine LeO.bind ?_ (fun _ => ?_))
theorem spec_l5Draw.mono : ∀ a0 a1 a2 k, LeO (spec_l5Draw.f k a0 a1 a2) (spec_l5Draw.f (k + 1) a0 a1 a2) := by
 intro a0 a1 a2 k
 have ih0 := spec_l5Draw.mono_l k
 unfold spec_l5Draw.f
 repeat' first | (with_reducible exact ih0 _ _ _ _ _) | (with_reducible exact spec_Digits.mono _ _) | (with_reducible exact spec_l5DrawRight.mono _ _ _ _) | (with_reducible exact LeO.refl _) | (with_reducible exact LeO.none _) | (with_reducible refine LeO.ite ?_ ?_) | (with_reducible refine LeO.bind ?_ (fun _ => ?_))
set_option maxHeartbeats 8000000 in
set_option maxRecDepth 100000 in
theorem spec_l5Draw.calls (k : Nat) (g : Nat) (s0_0 : List Int) (s0_1 : Int) (s0_2 : Int) (r1 : ByteArray) (r2 : Int) (r3 : Int) (w0 w : World) (hI : IsS124 w0 w g s0_0 s0_1 s0_2) (hB : Below w0.heap.size w0 w) (h : spec_l5Draw.f k s0_0 s0_1 s0_2 = some (r1, r2, r3)) :
  Calls Tryz.prog 117 #[.pointer (some ⟨g, 0, none⟩)] w fun e w' => e = .returned (.string r1) ∧ IsS124 w0 w' g s0_0 r2 r3 ∧ Below w0.heap.size w0 w' ∧ KeepBut w w' g none := by
 have HI0 := Aside0.mk hI; have HK := Aside0.mk (KeepBut.refl w g none); have HL := Aside0.mk hB.size; clear hI; have HW0 := Aside0.mk hB.size; have HB := Aside0.mk hB; clear hB
 have H : ((spec_l1Once.f s0_0 s0_1 s0_2 20).bind fun bt559 => (if bt559.1 = true then (spec_l5Draw.l0 k (⟨#[]⟩ : ByteArray) 1 s0_0 bt559.2.1 bt559.2.2) else ((spec_l5DrawRight.f k s0_0 bt559.2.1 bt559.2.2).bind fun bt566 => ((spec_l2Dent.f s0_0 bt566.2.1 bt566.2.2 bt566.1).bind fun bt569 => (some (bt569.1, bt569.2.1, bt569.2.2)))))) = some (r1, r2, r3) := h
 clear h; obtain ⟨⟨t559, t560, t561⟩, A20, H⟩ := Option.bind_eq_some_iff.mp H
 try dsimp only at H
 have A2 := Aside0.mk A20; clear A20
 by_cases c3 : t559 = true
 ·
  subst c3
  rw [if_pos rfl] at H
  have H' := Aside0.mk H; clear H
  go_enter Tryz.func117, Tryz.ntmps117
  go_wp2_with (first | ((with_reducible refine gate_callee (f := 93) rfl ?_); refine gB (some 6) Tryz.func93 #[.pointer (some ⟨g, 0, none⟩), .int .i64 20] ?_; (with_reducible refine (spec_l1Once.calls g s0_0 s0_1 s0_2 20 true t560 t561 w0 _ ?side1 ?side2 A2.out).mono ?_); (case side1 => repeat (first | (with_reducible first | exact HI0.out | apply IsS124.alloc | apply IsS124.drewN | apply IsS124.drew | apply IsS124.set_1 | apply IsS124.set_2) | exact HI0.out)); (case side2 => repeat (first | (with_reducible first | exact HB.out | apply below_alloc | apply pw_below_drewN | apply below_drew1 | refine below_set ?_ (IsS124.ge HI0.out)) | exact HB.out)); rintro e w4 ⟨rfl, hi, hb, hk⟩; refine ⟨_, rfl, ?_⟩; replace HK := kt HK hk; replace HB := Aside0.mk (hb); replace HI0 := Aside0.mk (hi); (try clear hb); (try clear hb2); (try clear hk); (try clear hi)))
  go_loopg [3, 4] k (fun kq v3 v4 w' => ∃ (x3_1 : ByteArray) (x4_1 : Int) (x1001_1 : Int) (x1002_1 : Int), v3 = .string x3_1 ∧ v4 = .int .i64 x4_1 ∧ Aside0 (spec_l5Draw.l0 kq x3_1 x4_1 s0_0 x1001_1 x1002_1 = some (r1, r2, r3)) ∧ Aside0 (kq ≤ k) ∧ Aside0 (IsS124 w0 w' g s0_0 x1001_1 x1002_1) ∧ Aside0 (KeepBut w w' g none) ∧ Aside0 (Below w0.heap.size w0 w'))
  case atStart => exact ⟨((⟨#[]⟩ : ByteArray)), (1), (t560), (t561), y0_19, y0_19, H', ⟨Nat.le_refl _⟩, ⟨y0_6⟩, ⟨hI HK.out⟩, ⟨y0_7⟩⟩
  case round =>
   clear H'
   try clear c1
   try clear p2
   try clear c3
   obtain ⟨x3_1, x4_1, x1001_1, x1002_1, rfl, rfl, HA, HK1, HI0, HK, HB⟩ := hrel; cases gk with
   | zero => exact absurd HA.out (by simp [spec_l5Draw.l0])
   | succ k1 =>
    have H := HA.out; clear HA
    simp only [spec_l5Draw.l0] at H
    obtain ⟨⟨t562, t563, t564⟩, A50, H⟩ := Option.bind_eq_some_iff.mp H
    try dsimp only at H
    have A5 := Aside0.mk A50; clear A50
    by_cases c6 : x4_1 ≤ (wrap64 (30 + t562))
    ·
     rw [if_pos c6] at H
     have c6b0 : decide (x4_1 ≤ (wrap64 (30 + t562))) = true := decide_eq_true c6; clear c6
     by_cases c7 : x3_1.size + 1 ≤ 9223372036854775807
     rotate_left
     ·
      rw [if_neg c7] at H
      exact absurd H (by simp)
     rw [if_pos c7] at H
     have c7b0 := eq_true c7; have c7b1 : decide (x3_1.size + 1 ≤ 9223372036854775807) = true := decide_eq_true c7
     try have c7b2 : (9223372036854775807 < x3_1.size + 1) = False := eq_false (Nat.not_lt.2 c7)
     obtain ⟨t565, A80, H⟩ := Option.bind_eq_some_iff.mp H
     try dsimp only at H
     have A8 := Aside0.mk A80; clear A80
     by_cases c9 : (x3_1 ++ (⟨#[47]⟩ : ByteArray)).size + t565.size ≤ 9223372036854775807
     rotate_left
     ·
      rw [if_neg c9] at H
      exact absurd H (by simp)
     rw [if_pos c9] at H
     have c9b0 := eq_true c9; have c9b1 : decide ((x3_1 ++ (⟨#[47]⟩ : ByteArray)).size + t565.size ≤ 9223372036854775807) = true := decide_eq_true c9
     try have c9b2 : (9223372036854775807 < (x3_1 ++ (⟨#[47]⟩ : ByteArray)).size + t565.size) = False := eq_false (Nat.not_lt.2 c9)
     (try have c9b3 : (9223372036854775807 < x3_1.size + 1 + t565.size) = False := eq_false (by have h_ := c9; simp only [ByteArray.size_append, ByteArray.size_extract, show (⟨#[47]⟩ : ByteArray).size = 1 from rfl] at h_; omega))
     by_cases c10 : ((x3_1 ++ (⟨#[47]⟩ : ByteArray)) ++ t565).size + 1 ≤ 9223372036854775807
     rotate_left
     ·
      rw [if_neg c10] at H
      exact absurd H (by simp)
     rw [if_pos c10] at H
     have c10b0 := eq_true c10; have c10b1 : decide (((x3_1 ++ (⟨#[47]⟩ : ByteArray)) ++ t565).size + 1 ≤ 9223372036854775807) = true := decide_eq_true c10
     try have c10b2 : (9223372036854775807 < ((x3_1 ++ (⟨#[47]⟩ : ByteArray)) ++ t565).size + 1) = False := eq_false (Nat.not_lt.2 c10)
     (try have c10b3 : (9223372036854775807 < x3_1.size + 1 + t565.size + 1) = False := eq_false (by have h_ := c10; simp only [ByteArray.size_append, ByteArray.size_extract, show (⟨#[47]⟩ : ByteArray).size = 1 from rfl] at h_; omega))
     have H' := Aside0.mk H; clear H
     go_wp2_with (first | ((with_reducible refine gate_callee (f := 114) rfl ?_); refine gB (some 9) Tryz.func114 #[.pointer (some ⟨g, 0, none⟩), .int .i64 2] ?_; (with_reducible refine (spec_l1Below.calls g s0_0 x1001_1 x1002_1 2 t562 t563 t564 w0 _ ?side1 ?side2 A5.out).mono ?_); (case side1 => repeat (first | (with_reducible first | exact HI0.out | apply IsS124.alloc | apply IsS124.drewN | apply IsS124.drew | apply IsS124.set_1 | apply IsS124.set_2) | exact HI0.out)); (case side2 => repeat (first | (with_reducible first | exact HB.out | apply below_alloc | apply pw_below_drewN | apply below_drew1 | refine below_set ?_ (IsS124.ge HI0.out)) | exact HB.out)); rintro e w11 ⟨rfl, hi, hb, hk⟩; refine ⟨_, rfl, ?_⟩; replace HK := kt HK hk; replace HB := Aside0.mk (hb); replace HI0 := Aside0.mk (hi); (try clear hb); (try clear hb2); (try clear hk); (try clear hi)) | ((with_reducible refine gate_callee (f := 108) rfl ?_); refine gB (some 17) Tryz.func108 #[.int .i64 x4_1] ?_; (with_reducible refine (spec_Digits.calls k1 x4_1 t565 _ A8.out).mono ?_); rintro e w12 ⟨rfl, hb⟩; refine ⟨_, rfl, ?_⟩; replace HK := kb HK hb; replace HB : Aside0 (Below w0.heap.size w0 _) := Aside0.mk (below_step y0_7 hb); replace HI0 := Aside0.mk (IsS124.below y0_6 hb); (try clear hb); (try clear hb2); (try clear hk); (try clear hi)))
     go_roundg k1
     case measure => have := HK1.out; omega
     case rel => exact ⟨(((x3_1 ++ (⟨#[47]⟩ : ByteArray)) ++ t565) ++ (⟨#[124]⟩ : ByteArray)), (wrap64 (x4_1 + 1)), (t563), (t564), y0_19, y0_19, H', ⟨y0_21⟩, ⟨y0_6⟩, ⟨hI HK.out⟩, ⟨y0_7⟩⟩
    rw [if_neg c6] at H
    have c6b0 : decide (x4_1 ≤ (wrap64 (30 + t562))) = false := decide_eq_false c6; clear c6
    simp only [Option.some.injEq, Prod.mk.injEq] at H
    obtain ⟨rfl, rfl, rfl⟩ := H
    go_wp2_with (first | ((with_reducible refine gate_callee (f := 114) rfl ?_); refine gB (some 9) Tryz.func114 #[.pointer (some ⟨g, 0, none⟩), .int .i64 2] ?_; (with_reducible refine (spec_l1Below.calls g s0_0 x1001_1 x1002_1 2 t562 t563 t564 w0 _ ?side1 ?side2 A5.out).mono ?_); (case side1 => repeat (first | (with_reducible first | exact HI0.out | apply IsS124.alloc | apply IsS124.drewN | apply IsS124.drew | apply IsS124.set_1 | apply IsS124.set_2) | exact HI0.out)); (case side2 => repeat (first | (with_reducible first | exact HB.out | apply below_alloc | apply pw_below_drewN | apply below_drew1 | refine below_set ?_ (IsS124.ge HI0.out)) | exact HB.out)); rintro e w13 ⟨rfl, hi, hb, hk⟩; refine ⟨_, rfl, ?_⟩; replace HK := kt HK hk; replace HB := Aside0.mk (hb); replace HI0 := Aside0.mk (hi); (try clear hb); (try clear hb2); (try clear hk); (try clear hi)))
    go_ret
    exact ⟨y0_14, y0_6, y0_7, hI HK.out⟩
 replace c3 := Bool.eq_false_iff.mpr c3; subst c3
 rw [if_neg (show ¬ (false = true) by decide)] at H
 obtain ⟨⟨t566, t567, t568⟩, A140, H⟩ := Option.bind_eq_some_iff.mp H
 try dsimp only at H
 have A14 := Aside0.mk A140; clear A140; obtain ⟨⟨t569, t570, t571⟩, A150, H⟩ := Option.bind_eq_some_iff.mp H
 try dsimp only at H
 have A15 := Aside0.mk A150; clear A150
 simp only [Option.some.injEq, Prod.mk.injEq] at H
 obtain ⟨rfl, rfl, rfl⟩ := H
 go_enter Tryz.func117, Tryz.ntmps117
 go_wp2_with (first | ((with_reducible refine gate_callee (f := 93) rfl ?_); refine gB (some 6) Tryz.func93 #[.pointer (some ⟨g, 0, none⟩), .int .i64 20] ?_; (with_reducible refine (spec_l1Once.calls g s0_0 s0_1 s0_2 20 false t560 t561 w0 _ ?side1 ?side2 A2.out).mono ?_); (case side1 => repeat (first | (with_reducible first | exact HI0.out | apply IsS124.alloc | apply IsS124.drewN | apply IsS124.drew | apply IsS124.set_1 | apply IsS124.set_2) | exact HI0.out)); (case side2 => repeat (first | (with_reducible first | exact HB.out | apply below_alloc | apply pw_below_drewN | apply below_drew1 | refine below_set ?_ (IsS124.ge HI0.out)) | exact HB.out)); rintro e w16 ⟨rfl, hi, hb, hk⟩; refine ⟨_, rfl, ?_⟩; replace HK := kt HK hk; replace HB := Aside0.mk (hb); replace HI0 := Aside0.mk (hi); (try clear hb); (try clear hb2); (try clear hk); (try clear hi)) | ((with_reducible refine gate_callee (f := 124) rfl ?_); refine gB (some 23) Tryz.func124 #[.pointer (some ⟨g, 0, none⟩)] ?_; (with_reducible refine (spec_l5DrawRight.calls k g s0_0 t560 t561 t566 t567 t568 w0 _ ?side1 ?side2 A14.out).mono ?_); (case side1 => repeat (first | (with_reducible first | exact HI0.out | apply IsS124.alloc | apply IsS124.drewN | apply IsS124.drew | apply IsS124.set_1 | apply IsS124.set_2) | exact HI0.out)); (case side2 => repeat (first | (with_reducible first | exact HB.out | apply below_alloc | apply pw_below_drewN | apply below_drew1 | refine below_set ?_ (IsS124.ge HI0.out)) | exact HB.out)); rintro e w17 ⟨rfl, hi, hb, hk⟩; refine ⟨_, rfl, ?_⟩; replace HK := kt HK hk; replace HB := Aside0.mk (hb); replace HI0 := Aside0.mk (hi); (try clear hb); (try clear hb2); (try clear hk); (try clear hi)) | ((with_reducible refine gate_callee (f := 139) rfl ?_); refine gB (some 24) Tryz.func139 #[.pointer (some ⟨g, 0, none⟩), .string t566] ?_; (with_reducible refine (spec_l2Dent.calls g s0_0 t567 t568 t566 t569 t570 t571 w0 _ ?side1 ?side2 A15.out).mono ?_); (case side1 => repeat (first | (with_reducible first | exact HI0.out | apply IsS124.alloc | apply IsS124.drewN | apply IsS124.drew | apply IsS124.set_1 | apply IsS124.set_2) | exact HI0.out)); (case side2 => repeat (first | (with_reducible first | exact HB.out | apply below_alloc | apply pw_below_drewN | apply below_drew1 | refine below_set ?_ (IsS124.ge HI0.out)) | exact HB.out)); rintro e w18 ⟨rfl, hi, hb, hk⟩; refine ⟨_, rfl, ?_⟩; replace HK := kt HK hk; replace HB := Aside0.mk (hb); replace HI0 := Aside0.mk (hi); (try clear hb); (try clear hb2); (try clear hk); (try clear hi)))
 go_ret
 exact ⟨y0_14, y0_6, y0_7, hI HK.out⟩

/-! ### spec_l7DrawOf: function 123 -/
def spec_l7DrawOf.l0 : Nat → Int → List Int → Int → Int → Int → Int → Int → ByteArray → List Int → Option (Int × ByteArray × List Int × Int × Int)
 | 0, _, _, _, _, _, _, _, _, _ => none
 | k + 1, x8, x1000, x1001, x1002, x573000, x573001, x576000, x576001, x576002 => if x8 < x573000 then (if x576002.length < 17592186044416 then (spec_l7DrawOf.l0 k (wrap64 (x8 + 1)) x1000 x1001 x1002 x573000 x573001 x576000 x576001 (x576002 ++ [x8])) else (none)) else ((spec_l1Once.f x1000 x1001 x1002 2).bind fun bt579 => (if bt579.1 = true then (if (x576002.length : Int) > 0 then ((spec_l1Below.f x1000 bt579.2.1 bt579.2.2 (x576002.length : Int)).bind fun bt582 => ((some (([] : List Int) : List Int)).bind fun y585 => (if 0 ≤ bt582.1 then (if bt582.1 ≤ (x576002.length : Int) then ((some (x576002.take (bt582.1 : Int).toNat : List Int)).bind fun y588 => (if y585.length + y588.length < 17592186044416 then ((some (y585 ++ y588 : List Int)).bind fun y592 => (if 0 ≤ (wrap64 (bt582.1 + 1)) then (if (wrap64 (bt582.1 + 1)) ≤ (x576002.length : Int) then ((some (x576002.drop ((wrap64 (bt582.1 + 1)) : Int).toNat : List Int)).bind fun y595 => (if y592.length + y595.length < 17592186044416 then (some (x576000, x576001, (y592 ++ y595), bt582.2.1, bt582.2.2)) else (none))) else (none)) else (none))) else (none))) else (none)) else (none)))) else (some (x576000, x576001, x576002, bt579.2.1, bt579.2.2))) else (some (x576000, x576001, x576002, bt579.2.1, bt579.2.2))))
def spec_l7DrawOf.f (k : Nat) (s0_0 : List Int) (s0_1 : Int) (s0_2 : Int) (a1_0 : Int) (a1_1 : Int) (a2 : ByteArray) : Option (Int × ByteArray × List Int × Int × Int) := (spec_ViewOf.f k a2).bind fun t574 => (if a2.toList = ([] : List UInt8) then (some (t574, a2, ([] : List Int), s0_1, s0_2)) else (spec_l7DrawOf.l0 k 0 s0_0 s0_1 s0_2 a1_0 a1_1 t574 a2 ([] : List Int)))
theorem spec_l7DrawOf.mono_l : ∀ k, (∀ y0 y1 y2 y3 y4 y5 y6 y7 y8, LeO (spec_l7DrawOf.l0 k y0 y1 y2 y3 y4 y5 y6 y7 y8) (spec_l7DrawOf.l0 (k + 1) y0 y1 y2 y3 y4 y5 y6 y7 y8))
 | 0 => fun _ _ _ _ _ _ _ _ _ r h => by simp [spec_l7DrawOf.l0] at h
 | k + 1 => by
  have ih0 := spec_l7DrawOf.mono_l k
  intro y0 y1 y2 y3 y4 y5 y6 y7 y8
  unfold spec_l7DrawOf.l0
  repeat' first | (with_reducible exact ih0 _ _ _ _ _ _ _ _ _) | (with_reducible exact spec_ViewOf.mono _ _) | (with_reducible exact LeO.refl _) | (with_reducible exact LeO.none _) | (with_reducible refine LeO.ite ?_ ?_) | (with_reducible refine LeO.bind ?_ (fun _ => ?_))
theorem spec_l7DrawOf.mono : ∀ a0 a1 a2 a3 a4 a5 k, LeO (spec_l7DrawOf.f k a0 a1 a2 a3 a4 a5) (spec_l7DrawOf.f (k + 1) a0 a1 a2 a3 a4 a5) := by
 intro a0 a1 a2 a3 a4 a5 k
 have ih0 := spec_l7DrawOf.mono_l k
 unfold spec_l7DrawOf.f
 repeat' first | (with_reducible exact ih0 _ _ _ _ _ _ _ _ _) | (with_reducible exact spec_ViewOf.mono _ _) | (with_reducible exact LeO.refl _) | (with_reducible exact LeO.none _) | (with_reducible refine LeO.ite ?_ ?_) | (with_reducible refine LeO.bind ?_ (fun _ => ?_))
def spec_l7DrawOf.T10 : Bool × List (List Nat × List Nat) := (true, [([], []), ([], []), ([1], [1]), ([], []), ([2, 3], [2, 3]), ([0, 4], [0, 4]), ([], []), ([6], [6]), ([], []), ([8], [8]), ([7, 9], [7, 9]), ([5, 10, 5], [5, 10]), ([0, 1, 2, 3, 4, 5, 6, 7, 8, 9, 10, 11], []), ([12, 11, 11, 0, 1, 2, 3, 4, 5, 6, 7, 8, 9, 10, 11], [11, 12])])
def spec_l7DrawOf.B10 : List Nat := [0, 0, 2, 0, 14, 31, 0, 64, 0, 256, 960, 2047, 4095, 8191]
theorem spec_l7DrawOf.tab10 : rtab .any (opsOf Tryz.f123 10) = spec_l7DrawOf.T10 := by kernel_rfl
theorem spec_l7DrawOf.bits10 : waitsOk spec_l7DrawOf.T10.2 spec_l7DrawOf.B10 = true := by kernel_rfl
set_option maxHeartbeats 8000000 in
set_option maxRecDepth 100000 in
theorem spec_l7DrawOf.calls (k : Nat) (g : Nat) (s0_0 : List Int) (s0_1 : Int) (s0_2 : Int) (a1_0 : Int) (a1_1 : Int) (a2 : ByteArray) (r1 : Int) (r2 : ByteArray) (r3 : List Int) (r4 : Int) (r5 : Int) (w0 w : World) (hI : IsS124 w0 w g s0_0 s0_1 s0_2) (hB : Below w0.heap.size w0 w) (h : spec_l7DrawOf.f k s0_0 s0_1 s0_2 a1_0 a1_1 a2 = some (r1, r2, r3, r4, r5)) :
  Calls Tryz.prog 123 #[.pointer (some ⟨g, 0, none⟩), .agg #[.int .i64 a1_0, .int .i64 a1_1], .string a2] w fun e w' => ∃ v2_ : Value, e = .returned (.agg #[.int .i64 r1, .string r2, v2_]) ∧ Kd.R (Kd.int .i64) 3 w' w.heap.size (fun _ => True) v2_ r3 ∧ IsS124 w0 w' g s0_0 r4 r5 ∧ Below w0.heap.size w0 w' ∧ KeepBut w w' g none := by
 have hu38 := Tryz.underlying38; have hu33 := Tryz.underlying33; have HI0 := Aside0.mk hI; have HK := Aside0.mk (KeepBut.refl w g none); have HL := Aside0.mk hB.size; clear hI; have HW0 := Aside0.mk hB.size; have HB := Aside0.mk hB; clear hB
 have H : ((spec_ViewOf.f k a2).bind fun t574 => (if a2.toList = ([] : List UInt8) then (some (t574, a2, ([] : List Int), s0_1, s0_2)) else (spec_l7DrawOf.l0 k 0 s0_0 s0_1 s0_2 a1_0 a1_1 t574 a2 ([] : List Int)))) = some (r1, r2, r3, r4, r5) := h
 clear h; obtain ⟨t574, A40, H⟩ := Option.bind_eq_some_iff.mp H
 try dsimp only at H
 have A4 := Aside0.mk A40; clear A40
 by_cases c5 : a2.toList = ([] : List UInt8)
 ·
  rw [if_pos c5] at H
  have c5b0 : (a2.toList == ([] : List UInt8)) = true := beq_iff_eq.mpr c5; have c5b1 : (a2.toList != ([] : List UInt8)) = false := bne_eq_false_iff_eq.mpr c5; clear c5
  simp only [Option.some.injEq, Prod.mk.injEq] at H
  obtain ⟨rfl, rfl, rfl, rfl, rfl⟩ := H
  go_enter Tryz.func123, Tryz.ntmps123
  go_wp2_with (first | ((with_reducible refine gate_dst (N := 4) rfl ?_); (try (refine gate_guard (by rfl) ?_; dsimp only)); refine box_event ?hg (N := 4) ?hd (cs := #[.int .i64 a1_0, .int .i64 a1_1]) (t := 38) ?hr ?_; (case hd => rfl); (case hg => rfl); (case hr => first | (go_simp; done) | (go_simp; rfl)); intro gb572 hg w6 hbox hb; replace HB : Aside0 (Below w0.heap.size w0 _) := Aside0.mk (below_step y0_7 hb); have BK572 := Aside0.mk (hbox); have GW572 := bh hg HK; have GJ572 := gi GW572; have GE572 := Aside0.mk ((Nat.le_trans HW0.out (y0_16 : w.heap.size ≤ gb572) : w0.heap.size ≤ gb572)); have GI572 := gi GE572; replace HK := kb HK hb; have NB0_572 := Aside0.mk ((y0_2 : g ≠ gb572)); have NI0_572 := ni NB0_572; have NB572_0 := Aside0.mk ((y0_3 : gb572 ≠ g)); have NI572_0 := ni NB572_0; replace HI0 := Aside0.mk (IsS124.below y0_6 hb); clear hb hbox hg) | ((with_reducible refine gate_dst (N := 6) rfl ?_); (try (refine gate_guard (by rfl) ?_; dsimp only)); refine box_event ?hg (N := 6) ?hd (cs := #[.int .i64 0, .string (⟨#[]⟩ : ByteArray), .slice none 0 0]) (t := 33) ?hr ?_; (case hd => rfl); (case hg => rfl); (case hr => first | (go_simp; done) | (go_simp; rfl)); intro gb573 hg w7 hbox hb; replace HB : Aside0 (Below w0.heap.size w0 _) := Aside0.mk (below_step y0_5 hb); have BK573 := Aside0.mk (hbox); have GW573 := bh hg HK; have GJ573 := gi GW573; have GE573 := Aside0.mk ((Nat.le_trans HW0.out (y0_16 : w.heap.size ≤ gb573) : w0.heap.size ≤ gb573)); have GI573 := gi GE573; replace HK := kb HK hb; have NB572_573 := b1 BK572 hg; have NI572_573 := ni NB572_573; have NB573_572 := b2 BK572 hg; have NI573_572 := ni NB573_572; replace BK572 := bk BK572 hb; have NB0_573 := Aside0.mk ((y0_0 : g ≠ gb573)); have NI0_573 := ni NB0_573; have NB573_0 := Aside0.mk ((y0_1 : gb573 ≠ g)); have NI573_0 := ni NB573_0; replace HI0 := Aside0.mk (IsS124.below y0_4 hb); clear hb hbox hg) | ((with_reducible refine gate_callee (f := 62) rfl ?_); refine gB (some 11) Tryz.func62 #[.string a2] ?_; (with_reducible refine (spec_ViewOf.calls k a2 t574 _ A4.out).mono ?_); rintro e w8 ⟨rfl, hb⟩; refine ⟨_, rfl, ?_⟩; replace BK572 := bk BK572 hb; replace BK573 := bk BK573 hb; replace HK := kb HK hb; replace HB : Aside0 (Below w0.heap.size w0 _) := Aside0.mk (below_step y0_5 hb); replace HI0 := Aside0.mk (IsS124.below y0_4 hb); (try clear hb); (try clear hb2); (try clear hk); (try clear hi)) | ((with_reducible refine gate_dst (N := 7) rfl ?_); (try (refine gate_guard (by rfl) ?_; dsimp only)); refine box_event ?hg (N := 7) ?hd (cs := #[.int .i64 0, .string (⟨#[]⟩ : ByteArray), .slice none 0 0]) (t := 33) ?hr ?_; (case hd => rfl); (case hg => rfl); (case hr => first | (go_simp; done) | (go_simp; rfl)); intro gb575 hg w9 hbox hb; replace HB : Aside0 (Below w0.heap.size w0 _) := Aside0.mk (below_step y0_5 hb); have BK575 := Aside0.mk (hbox); have GW575 := bh hg HK; have GJ575 := gi GW575; have GE575 := Aside0.mk ((Nat.le_trans HW0.out (y0_16 : w.heap.size ≤ gb575) : w0.heap.size ≤ gb575)); have GI575 := gi GE575; replace HK := kb HK hb; have NB572_575 := b1 BK572 hg; have NI572_575 := ni NB572_575; have NB575_572 := b2 BK572 hg; have NI575_572 := ni NB575_572; replace BK572 := bk BK572 hb; have NB573_575 := b1 BK573 hg; have NI573_575 := ni NB573_575; have NB575_573 := b2 BK573 hg; have NI575_573 := ni NB575_573; replace BK573 := bk BK573 hb; have NB0_575 := Aside0.mk ((y0_0 : g ≠ gb575)); have NI0_575 := ni NB0_575; have NB575_0 := Aside0.mk ((y0_1 : gb575 ≠ g)); have NI575_0 := ni NB575_0; replace HI0 := Aside0.mk (IsS124.below y0_4 hb); clear hb hbox hg; have hnb10 := NB575_572.out; have hnc10 := NB572_575.out; have hnb11 := NB575_573.out; have hnc11 := NB573_575.out; have hnb12 := NB575_0.out; have hnc12 := NB0_575.out; obtain ⟨hcz13_0, hcz13_1, hcz13_2, hfz13_0, hfz13_1, hfz13_2⟩ := cs3 BK575; have hnb14 := NB573_572.out; have hnc14 := NB572_573.out; have hnb15 := NB573_0.out; have hnc15 := NB0_573.out; obtain ⟨hcz16_0, hcz16_1, hcz16_2, hfz16_0, hfz16_1, hfz16_2⟩ := cs3 BK573))
  refine bodyPost_ret (results_cell_row rfl _ _ gb573 33 #[.int .i64 t574, .string a2, .slice none 0 0] (0, 0) _ rfl (pI BK573) Tryz.underlying33 rfl (by kernel_rfl)) rfl ?_
  exact ⟨_, y0_14, y0_9, y0_4, y0_5, hI HK.out⟩
 rw [if_neg c5] at H
 have c5b0 : (a2.toList == ([] : List UInt8)) = false := beq_eq_false_iff_ne.mpr c5; have c5b1 : (a2.toList != ([] : List UInt8)) = true := bne_iff_ne.mpr c5; have H' := Aside0.mk H; clear H
 go_enter Tryz.func123, Tryz.ntmps123
 go_wp2_with (first | ((with_reducible refine gate_dst (N := 4) rfl ?_); (try (refine gate_guard (by rfl) ?_; dsimp only)); refine box_event ?hg (N := 4) ?hd (cs := #[.int .i64 a1_0, .int .i64 a1_1]) (t := 38) ?hr ?_; (case hd => rfl); (case hg => rfl); (case hr => first | (go_simp; done) | (go_simp; rfl)); intro gb572 hg w17 hbox hb; replace HB : Aside0 (Below w0.heap.size w0 _) := Aside0.mk (below_step y0_7 hb); have BK572 := Aside0.mk (hbox); have GW572 := bh hg HK; have GJ572 := gi GW572; have GE572 := Aside0.mk ((Nat.le_trans HW0.out (y0_16 : w.heap.size ≤ gb572) : w0.heap.size ≤ gb572)); have GI572 := gi GE572; replace HK := kb HK hb; have NB0_572 := Aside0.mk ((y0_2 : g ≠ gb572)); have NI0_572 := ni NB0_572; have NB572_0 := Aside0.mk ((y0_3 : gb572 ≠ g)); have NI572_0 := ni NB572_0; replace HI0 := Aside0.mk (IsS124.below y0_6 hb); clear hb hbox hg) | ((with_reducible refine gate_dst (N := 6) rfl ?_); (try (refine gate_guard (by rfl) ?_; dsimp only)); refine box_event ?hg (N := 6) ?hd (cs := #[.int .i64 0, .string (⟨#[]⟩ : ByteArray), .slice none 0 0]) (t := 33) ?hr ?_; (case hd => rfl); (case hg => rfl); (case hr => first | (go_simp; done) | (go_simp; rfl)); intro gb573 hg w18 hbox hb; replace HB : Aside0 (Below w0.heap.size w0 _) := Aside0.mk (below_step y0_5 hb); have BK573 := Aside0.mk (hbox); have GW573 := bh hg HK; have GJ573 := gi GW573; have GE573 := Aside0.mk ((Nat.le_trans HW0.out (y0_16 : w.heap.size ≤ gb573) : w0.heap.size ≤ gb573)); have GI573 := gi GE573; replace HK := kb HK hb; have NB572_573 := b1 BK572 hg; have NI572_573 := ni NB572_573; have NB573_572 := b2 BK572 hg; have NI573_572 := ni NB573_572; replace BK572 := bk BK572 hb; have NB0_573 := Aside0.mk ((y0_0 : g ≠ gb573)); have NI0_573 := ni NB0_573; have NB573_0 := Aside0.mk ((y0_1 : gb573 ≠ g)); have NI573_0 := ni NB573_0; replace HI0 := Aside0.mk (IsS124.below y0_4 hb); clear hb hbox hg) | ((with_reducible refine gate_callee (f := 62) rfl ?_); refine gB (some 11) Tryz.func62 #[.string a2] ?_; (with_reducible refine (spec_ViewOf.calls k a2 t574 _ A4.out).mono ?_); rintro e w19 ⟨rfl, hb⟩; refine ⟨_, rfl, ?_⟩; replace BK572 := bk BK572 hb; replace BK573 := bk BK573 hb; replace HK := kb HK hb; replace HB : Aside0 (Below w0.heap.size w0 _) := Aside0.mk (below_step y0_5 hb); replace HI0 := Aside0.mk (IsS124.below y0_4 hb); (try clear hb); (try clear hb2); (try clear hk); (try clear hi)) | ((with_reducible refine gate_dst (N := 7) rfl ?_); (try (refine gate_guard (by rfl) ?_; dsimp only)); refine box_event ?hg (N := 7) ?hd (cs := #[.int .i64 0, .string (⟨#[]⟩ : ByteArray), .slice none 0 0]) (t := 33) ?hr ?_; (case hd => rfl); (case hg => rfl); (case hr => first | (go_simp; done) | (go_simp; rfl)); intro gb575 hg w20 hbox hb; replace HB : Aside0 (Below w0.heap.size w0 _) := Aside0.mk (below_step y0_5 hb); have BK575 := Aside0.mk (hbox); have GW575 := bh hg HK; have GJ575 := gi GW575; have GE575 := Aside0.mk ((Nat.le_trans HW0.out (y0_16 : w.heap.size ≤ gb575) : w0.heap.size ≤ gb575)); have GI575 := gi GE575; replace HK := kb HK hb; have NB572_575 := b1 BK572 hg; have NI572_575 := ni NB572_575; have NB575_572 := b2 BK572 hg; have NI575_572 := ni NB575_572; replace BK572 := bk BK572 hb; have NB573_575 := b1 BK573 hg; have NI573_575 := ni NB573_575; have NB575_573 := b2 BK573 hg; have NI575_573 := ni NB575_573; replace BK573 := bk BK573 hb; have NB0_575 := Aside0.mk ((y0_0 : g ≠ gb575)); have NI0_575 := ni NB0_575; have NB575_0 := Aside0.mk ((y0_1 : gb575 ≠ g)); have NI575_0 := ni NB575_0; replace HI0 := Aside0.mk (IsS124.below y0_4 hb); clear hb hbox hg; have hnb21 := NB575_572.out; have hnc21 := NB572_575.out; have hnb22 := NB575_573.out; have hnc22 := NB573_575.out; have hnb23 := NB575_0.out; have hnc23 := NB0_575.out; obtain ⟨hcz24_0, hcz24_1, hcz24_2, hfz24_0, hfz24_1, hfz24_2⟩ := cs3 BK575))
 go_loopg [8] k (fun kq v8 w' => ∃ (x8_1 : Int) (x576002_1 : List Int) (u576002 : Value), v8 = .int .i64 x8_1 ∧ Aside0 (spec_l7DrawOf.l0 kq x8_1 s0_0 s0_1 s0_2 a1_0 a1_1 t574 a2 x576002_1 = some (r1, r2, r3, r4, r5)) ∧ Aside0 (kq ≤ k) ∧ Aside0 (Kd.R (Kd.int .i64) 3 w' w.heap.size (fun _ => True) u576002 x576002_1) ∧ Aside0 (w'.heap[gb572]? = some (.cells #[.int .i64 a1_0, .int .i64 a1_1] 38 (0, 0))) ∧ Aside0 (w'.heap[gb573]? = some (.cells #[.int .i64 0, .string (⟨#[]⟩ : ByteArray), (.slice none 0 0)] 33 (0, 0))) ∧ Aside0 (w'.heap[gb575]? = some (.cells #[.int .i64 t574, .string a2, u576002] 33 (0, 0))) ∧ Aside0 (IsS124 w0 w' g s0_0 s0_1 s0_2) ∧ Aside0 (KeepBut w w' g none) ∧ Aside0 (Below w0.heap.size w0 w'))
 case atStart => exact ⟨(0), (([] : List Int)), (.slice none 0 0), y0_19, H', ⟨Nat.le_refl _⟩, ⟨y0_9⟩, ⟨gI BK572.out⟩, ⟨gI BK573.out⟩, ⟨pI BK575⟩, ⟨y0_4⟩, ⟨hI HK.out⟩, ⟨y0_5⟩⟩
 case round =>
  clear H'
  try clear c1
  try clear c2
  try clear p2
  try clear c5
  try clear c5b0
  try clear c5b1
  try clear c6
  try clear c10
  try clear c11
  try clear c12
  try clear c14
  try clear c15
  try clear c21
  try clear c22
  try clear c23
  try clear hcz13_0
  try clear hcz13_1
  try clear hcz13_2
  try clear hcz16_0
  try clear hcz16_1
  try clear hcz16_2
  try clear hcz24_0
  try clear hcz24_1
  try clear hcz24_2
  try clear hfz13_0
  try clear hfz13_1
  try clear hfz13_2
  try clear hfz16_0
  try clear hfz16_1
  try clear hfz16_2
  try clear hfz24_0
  try clear hfz24_1
  try clear hfz24_2
  obtain ⟨x8_1, x576002_1, u576002, rfl, HA, HK1, HO_576002, BK572, BK573, BK575, HI0, HK, HB⟩ := hrel; cases gk with
  | zero => exact absurd HA.out (by simp [spec_l7DrawOf.l0])
  | succ k1 =>
   have H := HA.out; clear HA
   simp only [spec_l7DrawOf.l0] at H
   by_cases c25 : x8_1 < a1_0
   ·
    rw [if_pos c25] at H
    have c25b0 : decide (x8_1 < a1_0) = true := decide_eq_true c25; clear c25
    by_cases c26 : x576002_1.length < 17592186044416
    rotate_left
    ·
     rw [if_neg c26] at H
     exact absurd H (by simp)
    rw [if_pos c26] at H
    have LMc26 := Aside0.mk c26; clear c26; obtain ⟨y576, hy576⟩ : ∃ y_ : List Int, y_ = (x576002_1 ++ [x8_1]) := ⟨_, rfl⟩
    replace H : (spec_l7DrawOf.l0 k1 (wrap64 (x8_1 + 1)) s0_0 s0_1 s0_2 a1_0 a1_1 t574 a2 y576) = some (r1, r2, r3, r4, r5) := by first | (rw [hy576]; with_reducible exact H) | (have H2_ := (Option.bind_some _ _).symm.trans H; rw [hy576]; with_reducible exact H2_) | (have H2_ := (Option.bind_some _ _).symm.trans H; with_reducible exact H2_) | with_reducible exact H | (rw [hy576]; exact H) | exact H
    have Ny576 := Aside0.mk hy576; clear hy576; have H' := Aside0.mk H; clear H; have hnb27 := NB572_573.out; have hnc27 := NB573_572.out; have hnb28 := NB572_575.out; have hnc28 := NB575_572.out; have hnb29 := NB572_0.out; have hnc29 := NB0_572.out; have hcz30_0 := bc0 BK572.out; have hcz30_1 := bc1 BK572.out; have hfz30_0 := blk_frozen BK572.out 0; have hfz30_1 := blk_frozen BK572.out 1; have hnb31 := NB575_573.out; have hnc31 := NB573_575.out; have hnb32 := NB575_0.out; have hnc32 := NB0_575.out; have hcz33_0 := bc0 BK575.out; have hcz33_1 := bc1 BK575.out; have hcz33_2 := bc2 BK575.out; have hfz33_0 := blk_frozen BK575.out 0; have hfz33_1 := blk_frozen BK575.out 1; have hfz33_2 := blk_frozen BK575.out 2
    go_wp2_with (first | ((with_reducible refine gate_builtin (b := .append) (xs := #[.tmp 24, .tmp 26]) rfl ?_); (try (refine gate_guard (by rfl) ?_; dsimp only)); at_builtin; refine Kd.R_append (Kd.int .i64) w.heap.size rfl (.tmp 24) (.tmp 26) 24 3 (.int .i64 0) 8 rfl Tryz.underlying24 info3 rfl (by decide) (by omega) u576002 x576002_1 x8_1 [.int .i64 x8_1] (fun _ => True) (fun _ => False) rfl rfl ?aP (fun _ hk => hk.elim) ?aF ?aO (Below.refl _ _) ?aS ?aL ?_; (case aP => exact rfl); (case aF => exact (fun _ _ => trivial)); (case aO => exact (rI HO_576002.out)); (case aS => exact (keep_size (w := w) (g := g) (row := none) (hI HK.out))); (case aL => have := LMc26.out; omega); intro v577 w34 ho hb hg hat; rw [← Ny576.out] at ho; have n0_ := bn BK572 hg (Kd.R_ne HO_576002.out BK572.out (by decide)); have n1_ := bn BK573 hg (Kd.R_ne HO_576002.out BK573.out (by decide)); have n2_ := bn BK575 hg (Kd.R_ne HO_576002.out BK575.out (by decide)); have n3_ := Aside0.mk (IsS124.grown y0_4 hg (IsS124.own_ne HI0.out HO_576002.out (by decide))); have n4_ := Aside0.mk (below_weaken y0_5 HL.out hb); have n5_ := Aside0.mk (KeepBut.trans (hI HK.out) (KeepBut.of_grown hg g) (Kd.R_base2 HO_576002.out)); have n6_ := Aside0.mk (ho); clear BK572; clear BK573; clear BK575; clear HI0; clear HB; clear HK; clear HO_576002; have BK572 := n0_; have BK573 := n1_; have BK575 := n2_; have HI0 := n3_; have HB := n4_; have HK := n5_; have HO578 := n6_; clear n0_ n1_ n2_ n3_ n4_ n5_ n6_; clear ho hb hg hat; obtain ⟨Ao35, co35, eo35⟩ := Kd.R_slice HO578.out; subst eo35; obtain ⟨hcz36_0, hcz36_1, hcz36_2, hfz36_0, hfz36_1, hfz36_2⟩ := cs3 BK575))
    go_roundg k1
    case measure => have := HK1.out; omega
    case rel => exact ⟨(wrap64 (x8_1 + 1)), (y576), (.slice Ao35 y576.length co35), y0_19, H', ⟨y0_21⟩, ⟨by (with_reducible repeat (first | apply Kd.R_alloc | apply Kd.R_drewN | apply Kd.R_drew)); exact Kd.R_mono (Kd.R_far (p := ⟨gb575, 2, none⟩) (Kd.R_types HO578.out BK575.out (by decide)) (fun _ hk => hk.2) (.slice Ao35 y576.length co35)) (fun _ hk => trivial)⟩, ⟨gI BK572.out⟩, ⟨gI BK573.out⟩, ⟨pI BK575⟩, ⟨y0_4⟩, ⟨hI HK.out⟩, ⟨y0_5⟩⟩
   rw [if_neg c25] at H
   have c25b0 : decide (x8_1 < a1_0) = false := decide_eq_false c25; clear c25; obtain ⟨⟨t579, t580, t581⟩, A370, H⟩ := Option.bind_eq_some_iff.mp H
   try dsimp only at H
   have A37 := Aside0.mk A370; clear A370
   by_cases c38 : t579 = true
   ·
    subst c38
    rw [if_pos rfl] at H
    by_cases c39 : (x576002_1.length : Int) > 0
    ·
     rw [if_pos c39] at H
     have c39b0 : decide (0 < (x576002_1.length : Int)) = true := decide_eq_true c39
     have c39b1 : decide (0 < x576002_1.length) = true := decide_eq_true (by omega)
     clear c39; obtain ⟨⟨t582, t583, t584⟩, A400, H⟩ := Option.bind_eq_some_iff.mp H
     try dsimp only at H
     have A40 := Aside0.mk A400; clear A400; obtain ⟨y585, hy585⟩ : ∃ y_ : List Int, y_ = (([] : List Int)) := ⟨_, rfl⟩
     replace H : (if 0 ≤ t582 then (if t582 ≤ (x576002_1.length : Int) then ((some (x576002_1.take (t582 : Int).toNat : List Int)).bind fun y588 => (if y585.length + y588.length < 17592186044416 then ((some (y585 ++ y588 : List Int)).bind fun y592 => (if 0 ≤ (wrap64 (t582 + 1)) then (if (wrap64 (t582 + 1)) ≤ (x576002_1.length : Int) then ((some (x576002_1.drop ((wrap64 (t582 + 1)) : Int).toNat : List Int)).bind fun y595 => (if y592.length + y595.length < 17592186044416 then (some (t574, a2, (y592 ++ y595), t583, t584)) else (none))) else (none)) else (none))) else (none))) else (none)) else (none)) = some (r1, r2, r3, r4, r5) := by first | (rw [hy585]; with_reducible exact H) | (have H2_ := (Option.bind_some _ _).symm.trans H; rw [hy585]; with_reducible exact H2_) | (have H2_ := (Option.bind_some _ _).symm.trans H; with_reducible exact H2_) | with_reducible exact H | (rw [hy585]; exact H) | exact H
     have Ny585 := Aside0.mk hy585; clear hy585
     by_cases c41 : 0 ≤ t582
     rotate_left
     ·
      rw [if_neg c41] at H
      exact absurd H (by simp)
     rw [if_pos c41] at H
     have c41b0 := eq_true c41; have c41b1 : decide (0 ≤ t582) = true := decide_eq_true c41; clear c41
     by_cases c42 : t582 ≤ (x576002_1.length : Int)
     rotate_left
     ·
      rw [if_neg c42] at H
      exact absurd H (by simp)
     rw [if_pos c42] at H
     have c42b0 := eq_true c42; have c42b1 : decide (t582 ≤ (x576002_1.length : Int)) = true := decide_eq_true c42; clear c42; obtain ⟨y588, hy588⟩ : ∃ y_ : List Int, y_ = (x576002_1.take (t582 : Int).toNat) := ⟨_, rfl⟩
     replace H : (if y585.length + y588.length < 17592186044416 then ((some (y585 ++ y588 : List Int)).bind fun y592 => (if 0 ≤ (wrap64 (t582 + 1)) then (if (wrap64 (t582 + 1)) ≤ (x576002_1.length : Int) then ((some (x576002_1.drop ((wrap64 (t582 + 1)) : Int).toNat : List Int)).bind fun y595 => (if y592.length + y595.length < 17592186044416 then (some (t574, a2, (y592 ++ y595), t583, t584)) else (none))) else (none)) else (none))) else (none)) = some (r1, r2, r3, r4, r5) := by first | (rw [hy588]; with_reducible exact H) | (have H2_ := (Option.bind_some _ _).symm.trans H; rw [hy588]; with_reducible exact H2_) | (have H2_ := (Option.bind_some _ _).symm.trans H; with_reducible exact H2_) | with_reducible exact H | (rw [hy588]; exact H) | exact H
     have Ny588 := Aside0.mk hy588; clear hy588
     by_cases c43 : y585.length + y588.length < 17592186044416
     rotate_left
     ·
      rw [if_neg c43] at H
      exact absurd H (by simp)
     rw [if_pos c43] at H
     have LMc43 := Aside0.mk c43; clear c43; obtain ⟨y592, hy592⟩ : ∃ y_ : List Int, y_ = (y585 ++ y588) := ⟨_, rfl⟩
     replace H : (if 0 ≤ (wrap64 (t582 + 1)) then (if (wrap64 (t582 + 1)) ≤ (x576002_1.length : Int) then ((some (x576002_1.drop ((wrap64 (t582 + 1)) : Int).toNat : List Int)).bind fun y595 => (if y592.length + y595.length < 17592186044416 then (some (t574, a2, (y592 ++ y595), t583, t584)) else (none))) else (none)) else (none)) = some (r1, r2, r3, r4, r5) := by first | (rw [hy592]; with_reducible exact H) | (have H2_ := (Option.bind_some _ _).symm.trans H; rw [hy592]; with_reducible exact H2_) | (have H2_ := (Option.bind_some _ _).symm.trans H; with_reducible exact H2_) | with_reducible exact H | (rw [hy592]; exact H) | exact H
     have Ny592 := Aside0.mk hy592; clear hy592; obtain ⟨ji44, hji44⟩ : ∃ j_ : Int, (wrap64 (t582 + 1)) = j_ := ⟨_, rfl⟩
     replace H : (if 0 ≤ (ji44) then (if (ji44) ≤ (x576002_1.length : Int) then ((some (x576002_1.drop ((ji44) : Int).toNat : List Int)).bind fun y595 => (if y592.length + y595.length < 17592186044416 then (some (t574, a2, (y592 ++ y595), t583, t584)) else (none))) else (none)) else (none)) = some (r1, r2, r3, r4, r5) := by first | (rw [hji44] at H; exact H) | (simp only [hji44] at H ⊢; exact H)
     (try rw [hji44] at A37)
     (try rw [hji44] at A40)
     have hji44w : (IntKind.i64.wrap (t582 + 1)) = ji44 := (i64_w _).trans hji44
     by_cases c45 : 0 ≤ (ji44)
     rotate_left
     ·
      rw [if_neg c45] at H
      exact absurd H (by simp)
     rw [if_pos c45] at H
     have c45b0 := eq_true c45; have c45b1 : decide (0 ≤ (ji44)) = true := decide_eq_true c45; clear c45
     by_cases c46 : (ji44) ≤ (x576002_1.length : Int)
     rotate_left
     ·
      rw [if_neg c46] at H
      exact absurd H (by simp)
     rw [if_pos c46] at H
     have c46b0 := eq_true c46; have c46b1 : decide ((ji44) ≤ (x576002_1.length : Int)) = true := decide_eq_true c46; clear c46; obtain ⟨y595, hy595⟩ : ∃ y_ : List Int, y_ = (x576002_1.drop ((ji44) : Int).toNat) := ⟨_, rfl⟩
     replace H : (if y592.length + y595.length < 17592186044416 then (some (t574, a2, (y592 ++ y595), t583, t584)) else (none)) = some (r1, r2, r3, r4, r5) := by first | (rw [hy595]; with_reducible exact H) | (have H2_ := (Option.bind_some _ _).symm.trans H; rw [hy595]; with_reducible exact H2_) | (have H2_ := (Option.bind_some _ _).symm.trans H; with_reducible exact H2_) | with_reducible exact H | (rw [hy595]; exact H) | exact H
     have Ny595 := Aside0.mk hy595; clear hy595
     by_cases c47 : y592.length + y595.length < 17592186044416
     rotate_left
     ·
      rw [if_neg c47] at H
      exact absurd H (by simp)
     rw [if_pos c47] at H
     have LMc47 := Aside0.mk c47; clear c47; obtain ⟨y599, hy599⟩ : ∃ y_ : List Int, y_ = (y592 ++ y595) := ⟨_, rfl⟩
     replace H : (some (t574, a2, y599, t583, t584)) = some (r1, r2, r3, r4, r5) := by first | (rw [hy599]; with_reducible exact H) | (have H2_ := (Option.bind_some _ _).symm.trans H; rw [hy599]; with_reducible exact H2_) | (have H2_ := (Option.bind_some _ _).symm.trans H; with_reducible exact H2_) | with_reducible exact H | (rw [hy599]; exact H) | exact H
     have Ny599 := Aside0.mk hy599; clear hy599
     simp only [Option.some.injEq, Prod.mk.injEq] at H
     obtain ⟨rfl, rfl, rfl, rfl, rfl⟩ := H; have hnb48 := NB572_573.out; have hnc48 := NB573_572.out; have hnb49 := NB572_575.out; have hnc49 := NB575_572.out; have hnb50 := NB572_0.out; have hnc50 := NB0_572.out; have hcz51_0 := bc0 BK572.out; have hcz51_1 := bc1 BK572.out; have hfz51_0 := blk_frozen BK572.out 0; have hfz51_1 := blk_frozen BK572.out 1
     try go_wp2_with (first | ((with_reducible refine gate_callee (f := 93) rfl ?_); refine gB (some 30) Tryz.func93 #[.pointer (some ⟨g, 0, none⟩), .int .i64 2] ?_; (with_reducible refine (spec_l1Once.calls g s0_0 s0_1 s0_2 2 true t580 t581 w0 _ ?side1 ?side2 A37.out).mono ?_); (case side1 => repeat (first | (with_reducible first | exact HI0.out | apply IsS124.alloc | apply IsS124.drewN | apply IsS124.drew | apply IsS124.set_1 | apply IsS124.set_2 | refine IsS124.far ?_ NeI.out _) | exact HI0.out)); (case side2 => repeat (first | (with_reducible first | exact HB.out | apply below_alloc | apply pw_below_drewN | apply below_drew1 | refine below_set ?_ (IsS124.ge HI0.out) | refine below_set ?_ GeI.out) | exact HB.out)); rintro e w52 ⟨rfl, hi, hb, hk⟩; refine ⟨_, rfl, ?_⟩; replace HO_576002 := Aside0.mk (Kd.R_mono (Kd.R_keep (IsS124.apart (show IsS124 w0 _ g s0_0 s0_1 s0_2 from y0_4) (rI HO_576002.out) (by decide)) hk (fun _ h => h.2)) (fun _ h => h.1)); replace BK572 := bq BK572 hk NB572_0; replace BK573 := bq BK573 hk NB573_0; replace BK575 := bq BK575 hk NB575_0; replace HK := kt HK hk; replace HB := Aside0.mk (hb); replace HI0 := Aside0.mk (hi); (try clear hb); (try clear hb2); (try clear hk); (try clear hi); have hnb53 := NB575_573.out; have hnc53 := NB573_575.out; have hnb54 := NB575_0.out; have hnc54 := NB0_575.out; obtain ⟨hcz55_0, hcz55_1, hcz55_2, hfz55_0, hfz55_1, hfz55_2⟩ := cs3 BK575; obtain ⟨Ao56, co56, eo56⟩ := Kd.R_slice HO_576002.out; subst eo56) | ((with_reducible refine gate_callee (f := 114) rfl ?_); refine gB (some 41) Tryz.func114 #[.pointer (some ⟨g, 0, none⟩), .int .i64 (x576002_1.length : Int)] ?_; (with_reducible refine (spec_l1Below.calls g s0_0 t580 t581 (x576002_1.length : Int) t582 t583 t584 w0 _ ?side1 ?side2 A40.out).mono ?_); (case side1 => repeat (first | (with_reducible first | exact HI0.out | apply IsS124.alloc | apply IsS124.drewN | apply IsS124.drew | apply IsS124.set_1 | apply IsS124.set_2 | refine IsS124.far ?_ NeI.out _) | exact HI0.out)); (case side2 => repeat (first | (with_reducible first | exact HB.out | apply below_alloc | apply pw_below_drewN | apply below_drew1 | refine below_set ?_ (IsS124.ge HI0.out) | refine below_set ?_ GeI.out) | exact HB.out)); rintro e w57 ⟨rfl, hi, hb, hk⟩; refine ⟨_, rfl, ?_⟩; replace HO_576002 := Aside0.mk (Kd.R_mono (Kd.R_keep (IsS124.apart (show IsS124 w0 _ g s0_0 t580 t581 from y0_4) (rI HO_576002.out) (by decide)) hk (fun _ h => h.2)) (fun _ h => h.1)); replace BK572 := bq BK572 hk NB572_0; replace BK573 := bq BK573 hk NB573_0; replace BK575 := bq BK575 hk NB575_0; replace HK := kt HK hk; replace HB := Aside0.mk (hb); replace HI0 := Aside0.mk (hi); (try clear hb); (try clear hb2); (try clear hk); (try clear hi)))
     replace HO_576002 := Aside0.mk (Kd.R_drew HO_576002.out); replace BK572 := Aside0.mk (blk_drew BK572.out); replace BK573 := Aside0.mk (blk_drew BK573.out); replace BK575 := Aside0.mk (blk_drew BK575.out); replace HI0 := Aside0.mk (IsS124.drew HI0.out); replace HK := Aside0.mk (keep_drew HK.out); replace HB := Aside0.mk (below_drew1 HB.out); have q59 : (t582 : Int) ≤ ((x576002_1.length : Int) : Int) := of_decide_eq_true y0_18; obtain ⟨i059, hi059, _, hsz59, _⟩ := info_parts info3; have hroom59 : x576002_1.length ≤ co56 := (Kd.R_reads' HO_576002.out).2.1; have hC59 : Kd.C (Kd.int .i64) _ Ao56 x576002_1.length x576002_1 := (Kd.R_reads' HO_576002.out).2.2; have hcut59 := cut_to (P := Tryz.prog) 24 3 .i64 Tryz.underlying24 hi059 Ao56 x576002_1.length co56 t582 (of_decide_eq_true y0_18) q59 hroom59
     have hr59 := Kd.C_take (m := (t582 : Int).toNat) hC59 (by omega)
     have hy59 : y588.length = (t582 : Int).toNat := (by rw [Ny588.out, List.length_take]; omega)
     rw [← Ny588.out] at hr59
     rw [← hy59] at hcut59
     have HR591 := Aside0.mk hr59
     have HC591 := Aside0.mk (show y588.length ≤ co56 from by omega)
     clear hr59 hC59 hroom59 hi059 hsz59; have KY59 := Aside0.mk hy59; clear hy59
     have KL59 := Aside0.mk (show (t582 : Int).toNat ≤ x576002_1.length from by omega)
     replace q59 := eq_true q59; have q60 : ((ji44) : Int) ≤ ((x576002_1.length : Int) : Int) := of_decide_eq_true y0_18; obtain ⟨i060, hi060, _, hsz60, _⟩ := info_parts info3; have hroom60 : x576002_1.length ≤ co56 := (Kd.R_reads' HO_576002.out).2.1; have hC60 : Kd.C (Kd.int .i64) _ Ao56 x576002_1.length x576002_1 := (Kd.R_reads' HO_576002.out).2.2; have q060 : (0 : Int) ≤ ((ji44) : Int) := of_decide_eq_true y0_18; have hcut60 := cut_from (P := Tryz.prog) 24 3 .i64 Tryz.underlying24 hi060 1 hsz60 Ao56 x576002_1.length co56 (ji44) q060 q60
     have hr60 := Kd.C_drop (m := ((ji44) : Int).toNat) (c := co56) hC60 (by omega) hroom60
     obtain ⟨A60, hA60⟩ : ∃ A1, A1 = (if co56 = ((ji44) : Int).toNat then Ao56 else (Ao56 : Option Addr).map (·.add (((ji44) : Int).toNat * 1))) := ⟨_, rfl⟩
     obtain ⟨c60, hc60⟩ : ∃ c1, c1 = co56 - ((ji44) : Int).toNat := ⟨_, rfl⟩
     have hy60 : y595.length = x576002_1.length - ((ji44) : Int).toNat := (by rw [Ny595.out, List.length_drop] <;> omega)
     rw [show (x576002_1).drop ((ji44) : Int).toNat = y595 from Ny595.out.symm] at hr60
     replace hr60 : Kd.C (Kd.int .i64) _ A60 y595.length y595 := (by rw [hA60]; exact hr60)
     rw [← hy60, ← hA60, ← hc60] at hcut60
     have HR598 := Aside0.mk hr60
     have HC598 := Aside0.mk (show y595.length ≤ c60 from by rw [hy60, hc60]; exact Nat.sub_le_sub_right hroom60 _)
     clear hr60 hC60 hroom60 hi060 hsz60 hc60; have KY60 := Aside0.mk hy60; have KA60 := Aside0.mk hA60; clear hy60 hA60
     have KL60 := Aside0.mk (show ((ji44) : Int).toNat ≤ x576002_1.length from by omega)
     replace q60 := eq_true q60
     refine start_ (n := 14) (S := fun w' => w'.cell? ⟨gb575, 0, none⟩ = some (.int .i64 t574) ∧ w'.cell? ⟨gb575, 1, none⟩ = some (.string a2) ∧ w'.cell? ⟨gb575, 2, none⟩ = some (.slice Ao56 x576002_1.length co56)) (ds := [13]) #[false, false, false, false, false, false, false, false, false, false, false, false, false, false] (by kernel_rfl) rfl rfl ⟨bc0 BK575.out, bc1 BK575.out, bc2 BK575.out⟩ (fun hHeld => ?_); refine with_tabW spec_l7DrawOf.tab10 spec_l7DrawOf.bits10 (fun HT_ HW_ => ?_)
     generalize w57.drew = w58 at HO_576002 BK572 BK573 BK575 HI0 HK HB HR591 HR598 hHeld ⊢
     refine pA 1 (some 43) (bz 14 2) HT_ ?_
     refine pA 3 (some 45) (bz 14 10) HT_ ?_
     refine pA 6 (some 48) (bz 14 74) HT_ ?_
     refine pA 8 (some 50) (bz 14 330) HT_ ?_
     refine pA 9 (some 51) (bz 14 842) HT_ ?_
     refine tA 2 (some 44) (bz 14 846) HT_ HW_ hHeld ?_
     refine pA 4 (some 46) (bz 14 862) HT_ ?_
     refine tA 7 (some 49) (bz 14 990) HT_ HW_ hHeld ?_
     refine pA 10 (some 52) (bz 14 2014) HT_ ?_
     refine oA 0 (some 42) (bz 14 2015) HT_ (fun K hK => ?_)
     refine Kd.R_lit_step (Kd.int .i64) _ 3 ?hg (N := 42) ?hd (xs := ([] : List Int)) (inner := []) (ok := fun _ => True) (okp := fun _ => True) ?hr ?hp (fun _ hk => hk) trivial (Below.refl _ _) (Nat.le_refl _) (by simp) ?_; (case hd => rfl); (case hg => rfl); (case hr => first | (go_simp; done) | (go_simp; rfl)); (case hp => exact (Reps.none _ _))
     intro v586 w61 ho62 hb hg_ hnew_
     clear hg_ hnew_
     (first | rw [← Ny585.out] at ho62 | (simp only [Int.reduceToNat] at ho62; rw [← Ny585.out] at ho62))
     have HO587 := Aside0.mk (Kd.R_lower (Kd.R_new' ho62 (Kd.R_lt (rI HO_576002.out))) (keep_size (w := w) (g := g) (row := none) (hI HK.out))); replace HO_576002 := Aside0.mk (Kd.R_elder' (rI HO_576002.out) (Kd.R_base ho62) hb); replace BK572 := bk BK572 hb; replace BK573 := bk BK573 hb; replace BK575 := bk BK575 hb
     replace HR591 := Aside0.mk (Kd.C_below (by repeat (first | (with_reducible exact HR591.out) | (with_reducible refine Kd.C_alloc ?_ _) | (with_reducible refine Kd.C_drewN ?_ _) | (with_reducible refine Kd.C_drew ?_) | exact HR591.out)) hb)
     replace HR598 := Aside0.mk (Kd.C_below (by repeat (first | (with_reducible exact HR598.out) | (with_reducible refine Kd.C_alloc ?_ _) | (with_reducible refine Kd.C_drewN ?_ _) | (with_reducible refine Kd.C_drew ?_) | exact HR598.out)) hb)
     replace HK := kb HK hb; replace HB : Aside0 (Below w0.heap.size w0 _) := Aside0.mk (below_step y0_5 hb); replace HI0 := Aside0.mk (IsS124.below y0_4 hb); clear hb ho62
     refine hK.out _ _ ⟨bc0 BK575.out, bc1 BK575.out, bc2 BK575.out⟩ (fun hHeld => ?_)
     clear hK K
     refine nA (some 42) ?_
     refine oA 5 (some 47) (bz 14 2047) HT_ (fun K hK => ?_)
     refine Kd.R_append_rows_step (Kd.int .i64) w.heap.size (by rfl) (.tmp 42) (.tmp 46) 24 3 (.int .i64 0) 8 rfl Tryz.underlying24 info3 rfl (by decide) (by omega) v586 y585 y588 _ _ _ (fun k_ => some k_ ≠ (.slice Ao56 x576002_1.length co56 : Value).ownBlock) (fun _ => False) rfl rfl ?aO ?aR (fun _ _ h => h) (fun _ h => h.elim) ?aF (Below.refl _ _) ?aS ?aL ?_
     (case aR => repeat (first | exact (by repeat (first | (with_reducible exact HR591.out) | (with_reducible refine Kd.C_alloc ?_ _) | (with_reducible refine Kd.C_drewN ?_ _) | (with_reducible refine Kd.C_drew ?_) | exact HR591.out)) | (with_reducible refine Kd.C_alloc ?_ _) | (with_reducible refine Kd.C_drewN ?_ _) | (with_reducible refine Kd.C_drew ?_)))
     (case aF => exact (fun k_ hk => Kd.fresh' (Kd.R_lt (rI HO_576002.out)) k_ hk))
     (case aO => exact (rI (Kd.R_mono HO587.out (fun _ hk => hk.2))))
     (case aS => exact (keep_size (w := w) (g := g) (row := none) (hI HK.out)))
     (case aL => have := LMc43.out; omega)
     intro v593 w63 ho hb hg hat
     rw [← Ny592.out] at ho
     have n0_ := Aside0.mk (Kd.R_after (ok := (fun _ => True)) (rI HO_576002.out) hg hat)
     have n1_ := bn BK572 hg (Kd.R_ne HO587.out BK572.out (by decide))
     have n2_ := bn BK573 hg (Kd.R_ne HO587.out BK573.out (by decide))
     have n3_ := bn BK575 hg (Kd.R_ne HO587.out BK575.out (by decide))
     have n4_ := Aside0.mk (IsS124.grown y0_4 hg (IsS124.own_ne HI0.out HO587.out (by decide)))
     have n5_ := Aside0.mk (below_weaken y0_5 HL.out hb); have n6_ := Aside0.mk (KeepBut.trans (hI HK.out) (KeepBut.of_grown hg g) (Kd.R_base2 HO587.out))
     have n7_ := Aside0.mk ((show Kd.C (Kd.int .i64) w63 Ao56 y588.length y588 from by rw [Ny588.out]; exact Kd.C_take (m := (t582 : Int).toNat) ((Kd.R_reads' (Kd.R_after (ok := (fun _ => True)) (rI HO_576002.out) hg hat)).2.2) KL59.out))
     have n8_ := Aside0.mk ((show Kd.C (Kd.int .i64) w63 A60 y595.length y595 from by rw [Ny595.out, KA60.out]; exact Kd.C_drop (m := ((ji44) : Int).toNat) (c := co56) ((Kd.R_reads' (Kd.R_after (ok := (fun _ => True)) (rI HO_576002.out) hg hat)).2.2) KL60.out ((Kd.R_reads' (Kd.R_after (ok := (fun _ => True)) (rI HO_576002.out) hg hat)).2.1)))
     have n9_ := Aside0.mk (ho); clear HO_576002; clear BK572; clear BK573; clear BK575; clear HI0; clear HB; clear HK; clear HR591; clear HR598; clear HO587; have HO_576002 := n0_; have BK572 := n1_; have BK573 := n2_; have BK575 := n3_; have HI0 := n4_; have HB := n5_; have HK := n6_; have HR591 := n7_; have HR598 := n8_; have HO594 := n9_; clear n0_ n1_ n2_ n3_ n4_ n5_ n6_ n7_ n8_ n9_; clear ho hb hg hat
     refine hK.out _ _ ⟨bc0 BK575.out, bc1 BK575.out, bc2 BK575.out⟩ (fun hHeld => ?_)
     clear hK K
     refine nA (some 47) ?_
     refine oA 11 (some 53) (bz 14 4095) HT_ (fun K hK => ?_)
     refine Kd.R_append_rows_step (Kd.int .i64) w.heap.size (by rfl) (.tmp 47) (.tmp 52) 24 3 (.int .i64 0) 8 rfl Tryz.underlying24 info3 rfl (by decide) (by omega) v593 y592 y595 _ _ _ (fun k_ => some k_ ≠ (.slice Ao56 x576002_1.length co56 : Value).ownBlock) (fun _ => False) rfl rfl ?aO ?aR (fun _ _ h => h) (fun _ h => h.elim) ?aF (Below.refl _ _) ?aS ?aL ?_
     (case aR => repeat (first | exact (by repeat (first | (with_reducible exact HR598.out) | (with_reducible refine Kd.C_alloc ?_ _) | (with_reducible refine Kd.C_drewN ?_ _) | (with_reducible refine Kd.C_drew ?_) | exact HR598.out)) | (with_reducible refine Kd.C_alloc ?_ _) | (with_reducible refine Kd.C_drewN ?_ _) | (with_reducible refine Kd.C_drew ?_)))
     (case aF => exact (fun k_ hk => Kd.fresh' (Kd.R_lt (rI HO_576002.out)) k_ hk))
     (case aO => exact (rI HO594.out))
     (case aS => exact (keep_size (w := w) (g := g) (row := none) (hI HK.out)))
     (case aL => have := LMc47.out; omega)
     intro v600 w64 ho hb hg hat
     rw [← Ny599.out] at ho
     have n0_ := Aside0.mk (Kd.R_after (ok := (fun _ => True)) (rI HO_576002.out) hg hat)
     have n1_ := bn BK572 hg (Kd.R_ne HO594.out BK572.out (by decide))
     have n2_ := bn BK573 hg (Kd.R_ne HO594.out BK573.out (by decide))
     have n3_ := bn BK575 hg (Kd.R_ne HO594.out BK575.out (by decide))
     have n4_ := Aside0.mk (IsS124.grown y0_4 hg (IsS124.own_ne HI0.out HO594.out (by decide)))
     have n5_ := Aside0.mk (below_weaken y0_5 HL.out hb); have n6_ := Aside0.mk (KeepBut.trans (hI HK.out) (KeepBut.of_grown hg g) (Kd.R_base2 HO594.out))
     have n7_ := Aside0.mk ((show Kd.C (Kd.int .i64) w64 Ao56 y588.length y588 from by rw [Ny588.out]; exact Kd.C_take (m := (t582 : Int).toNat) ((Kd.R_reads' (Kd.R_after (ok := (fun _ => True)) (rI HO_576002.out) hg hat)).2.2) KL59.out))
     have n8_ := Aside0.mk ((show Kd.C (Kd.int .i64) w64 A60 y595.length y595 from by rw [Ny595.out, KA60.out]; exact Kd.C_drop (m := ((ji44) : Int).toNat) (c := co56) ((Kd.R_reads' (Kd.R_after (ok := (fun _ => True)) (rI HO_576002.out) hg hat)).2.2) KL60.out ((Kd.R_reads' (Kd.R_after (ok := (fun _ => True)) (rI HO_576002.out) hg hat)).2.1)))
     have n9_ := Aside0.mk (ho); clear HO_576002; clear BK572; clear BK573; clear BK575; clear HI0; clear HB; clear HK; clear HR591; clear HR598; clear HO594; have HO_576002 := n0_; have BK572 := n1_; have BK573 := n2_; have BK575 := n3_; have HI0 := n4_; have HB := n5_; have HK := n6_; have HR591 := n7_; have HR598 := n8_; have HO601 := n9_; clear n0_ n1_ n2_ n3_ n4_ n5_ n6_ n7_ n8_ n9_; clear ho hb hg hat; obtain ⟨Ao65, co65, eo65⟩ := Kd.R_slice HO601.out
     (first | subst eo65 | (injection eo65 with f1_ f2_ f3_; have f4_ := f1_.symm; have f5_ := f3_.symm; clear f1_ f2_ f3_; subst f4_; subst f5_))
     refine hK.out _ _ ⟨bc0 BK575.out, bc1 BK575.out, bc2 BK575.out⟩ (fun hHeld => ?_)
     clear hK K
     refine nA (some 53) ?_
     refine pA 12 (some 54) (bz 14 0x1fff) HT_ ?_
     refine last_ (i := 13) (N := none) #[true, true, true, true, true, true, true, true, true, true, true, true, true, true] rfl rfl (one_of HT_.out (by kernel_rfl)) (by decide) (fun K hK => ?_)
     have hs66 : w64.cell? ⟨gb575, 2, none⟩ = some (.slice Ao56 x576002_1.length co56) := bc2 BK575.out; have hfs66 := blk_frozen BK575.out 2; have hns66_0 := NB572_575.out; have hns66_1 := NB573_575.out; have hms66_0 := NB575_572.out; have hms66_1 := NB575_573.out
     refine skip_ (w1 := ?_) (by rfl) rfl ?_ ?_
     rotate_left
     ·
      go_simp
      rfl
     refine hK.out _ _ ?_
     clear hK K
     refine done_ (done_of HT_.out (by kernel_rfl)) ?_
     have hcz67_0 := bc0 BK575.out; have hcz67_1 := bc1 BK575.out; have hcz67_2 := bc2 BK575.out; have hfz67_0 := blk_frozen BK575.out 0; have hfz67_1 := blk_frozen BK575.out 1; have hfz67_2 := blk_frozen BK575.out 2; have hnb68 := NB573_0.out; have hnc68 := NB0_573.out; have hcz69_0 := bc0 BK573.out; have hcz69_1 := bc1 BK573.out; have hcz69_2 := bc2 BK573.out; have hfz69_0 := blk_frozen BK573.out 0; have hfz69_1 := blk_frozen BK573.out 1; have hfz69_2 := blk_frozen BK573.out 2
     try go_wp2
     refine bodyPost_ret (results_cell_row rfl _ _ gb573 33 #[.int .i64 t574, .string a2, .slice Ao65 y599.length co65] (0, 0) _ rfl (pI BK573) Tryz.underlying33 rfl (by kernel_rfl)) rfl ?_
     exact ⟨_, by first | rfl | (simp [errW_none, errW_some] <;> rfl) | (simp only [← hji44]; first | rfl | (simp [errW_none, errW_some] <;> rfl)) | (simp [*, errW_none, errW_some] <;> rfl), by (with_reducible repeat (first | apply Kd.R_alloc | apply Kd.R_drewN | apply Kd.R_drew)); exact Kd.R_mono (Kd.R_far (p := ⟨gb573, 2, none⟩) (Kd.R_far (p := ⟨gb573, 1, none⟩) (Kd.R_far (p := ⟨gb573, 0, none⟩) (Kd.R_far (p := ⟨gb575, 2, none⟩) (Kd.R_types (Kd.R_types HO601.out BK575.out (by decide)) BK573.out (by decide)) (fun _ hk => hk.1.2) (.slice Ao65 y599.length co65)) (fun _ hk => hk.2) (.int .i64 t574)) (fun _ hk => hk.2) (.string a2)) (fun _ hk => hk.2) (.slice Ao65 y599.length co65)) (fun _ hk => trivial), y0_4, y0_5, hI HK.out⟩
    rw [if_neg c39] at H
    have c39b0 : decide (0 < (x576002_1.length : Int)) = false := decide_eq_false c39
    have c39b1 : decide (0 < x576002_1.length) = false := decide_eq_false (by omega)
    clear c39
    simp only [Option.some.injEq, Prod.mk.injEq] at H
    obtain ⟨rfl, rfl, rfl, rfl, rfl⟩ := H; have hnb70 := NB572_573.out; have hnc70 := NB573_572.out; have hnb71 := NB572_575.out; have hnc71 := NB575_572.out; have hnb72 := NB572_0.out; have hnc72 := NB0_572.out; have hcz73_0 := bc0 BK572.out; have hcz73_1 := bc1 BK572.out; have hfz73_0 := blk_frozen BK572.out 0; have hfz73_1 := blk_frozen BK572.out 1
    go_wp2_with (first | ((with_reducible refine gate_callee (f := 93) rfl ?_); refine gB (some 30) Tryz.func93 #[.pointer (some ⟨g, 0, none⟩), .int .i64 2] ?_; (with_reducible refine (spec_l1Once.calls g s0_0 s0_1 s0_2 2 true t580 t581 w0 _ ?side1 ?side2 A37.out).mono ?_); (case side1 => repeat (first | (with_reducible first | exact HI0.out | apply IsS124.alloc | apply IsS124.drewN | apply IsS124.drew | apply IsS124.set_1 | apply IsS124.set_2 | refine IsS124.far ?_ NeI.out _) | exact HI0.out)); (case side2 => repeat (first | (with_reducible first | exact HB.out | apply below_alloc | apply pw_below_drewN | apply below_drew1 | refine below_set ?_ (IsS124.ge HI0.out) | refine below_set ?_ GeI.out) | exact HB.out)); rintro e w74 ⟨rfl, hi, hb, hk⟩; refine ⟨_, rfl, ?_⟩; replace HO_576002 := Aside0.mk (Kd.R_mono (Kd.R_keep (IsS124.apart (show IsS124 w0 _ g s0_0 s0_1 s0_2 from y0_4) (rI HO_576002.out) (by decide)) hk (fun _ h => h.2)) (fun _ h => h.1)); replace BK572 := bq BK572 hk NB572_0; replace BK573 := bq BK573 hk NB573_0; replace BK575 := bq BK575 hk NB575_0; replace HK := kt HK hk; replace HB := Aside0.mk (hb); replace HI0 := Aside0.mk (hi); (try clear hb); (try clear hb2); (try clear hk); (try clear hi); have hnb75 := NB575_573.out; have hnc75 := NB573_575.out; have hnb76 := NB575_0.out; have hnc76 := NB0_575.out; obtain ⟨hcz77_0, hcz77_1, hcz77_2, hfz77_0, hfz77_1, hfz77_2⟩ := cs3 BK575; obtain ⟨Ao78, co78, eo78⟩ := Kd.R_slice HO_576002.out; subst eo78; have hnb79 := NB573_0.out; have hnc79 := NB0_573.out; obtain ⟨hcz80_0, hcz80_1, hcz80_2, hfz80_0, hfz80_1, hfz80_2⟩ := cs3 BK573))
    refine bodyPost_ret (results_cell_row rfl _ _ gb573 33 #[.int .i64 t574, .string a2, .slice Ao78 x576002_1.length co78] (0, 0) _ rfl (pI BK573) Tryz.underlying33 rfl (by kernel_rfl)) rfl ?_
    exact ⟨_, y0_14, by (with_reducible repeat (first | apply Kd.R_alloc | apply Kd.R_drewN | apply Kd.R_drew)); exact Kd.R_mono (Kd.R_far (p := ⟨gb573, 2, none⟩) (Kd.R_far (p := ⟨gb573, 1, none⟩) (Kd.R_far (p := ⟨gb573, 0, none⟩) (Kd.R_types HO_576002.out BK573.out (by decide)) (fun _ hk => hk.2) (.int .i64 t574)) (fun _ hk => hk.2) (.string a2)) (fun _ hk => hk.2) (.slice Ao78 x576002_1.length co78)) (fun _ hk => trivial), y0_4, y0_5, hI HK.out⟩
   replace c38 := Bool.eq_false_iff.mpr c38; subst c38
   rw [if_neg (show ¬ (false = true) by decide)] at H
   simp only [Option.some.injEq, Prod.mk.injEq] at H
   obtain ⟨rfl, rfl, rfl, rfl, rfl⟩ := H; have hnb81 := NB572_573.out; have hnc81 := NB573_572.out; have hnb82 := NB572_575.out; have hnc82 := NB575_572.out; have hnb83 := NB572_0.out; have hnc83 := NB0_572.out; have hcz84_0 := bc0 BK572.out; have hcz84_1 := bc1 BK572.out; have hfz84_0 := blk_frozen BK572.out 0; have hfz84_1 := blk_frozen BK572.out 1
   go_wp2_with (first | ((with_reducible refine gate_callee (f := 93) rfl ?_); refine gB (some 30) Tryz.func93 #[.pointer (some ⟨g, 0, none⟩), .int .i64 2] ?_; (with_reducible refine (spec_l1Once.calls g s0_0 s0_1 s0_2 2 false t580 t581 w0 _ ?side1 ?side2 A37.out).mono ?_); (case side1 => repeat (first | (with_reducible first | exact HI0.out | apply IsS124.alloc | apply IsS124.drewN | apply IsS124.drew | apply IsS124.set_1 | apply IsS124.set_2 | refine IsS124.far ?_ NeI.out _) | exact HI0.out)); (case side2 => repeat (first | (with_reducible first | exact HB.out | apply below_alloc | apply pw_below_drewN | apply below_drew1 | refine below_set ?_ (IsS124.ge HI0.out) | refine below_set ?_ GeI.out) | exact HB.out)); rintro e w85 ⟨rfl, hi, hb, hk⟩; refine ⟨_, rfl, ?_⟩; replace HO_576002 := Aside0.mk (Kd.R_mono (Kd.R_keep (IsS124.apart (show IsS124 w0 _ g s0_0 s0_1 s0_2 from y0_4) (rI HO_576002.out) (by decide)) hk (fun _ h => h.2)) (fun _ h => h.1)); replace BK572 := bq BK572 hk NB572_0; replace BK573 := bq BK573 hk NB573_0; replace BK575 := bq BK575 hk NB575_0; replace HK := kt HK hk; replace HB := Aside0.mk (hb); replace HI0 := Aside0.mk (hi); (try clear hb); (try clear hb2); (try clear hk); (try clear hi); have hnb86 := NB575_573.out; have hnc86 := NB573_575.out; have hnb87 := NB575_0.out; have hnc87 := NB0_575.out; obtain ⟨hcz88_0, hcz88_1, hcz88_2, hfz88_0, hfz88_1, hfz88_2⟩ := cs3 BK575; have hnb89 := NB573_0.out; have hnc89 := NB0_573.out; obtain ⟨hcz90_0, hcz90_1, hcz90_2, hfz90_0, hfz90_1, hfz90_2⟩ := cs3 BK573; obtain ⟨Ao91, co91, eo91⟩ := Kd.R_slice HO_576002.out; subst eo91))
   refine bodyPost_ret (results_cell_row rfl _ _ gb573 33 #[.int .i64 t574, .string a2, .slice Ao91 x576002_1.length co91] (0, 0) _ rfl (pI BK573) Tryz.underlying33 rfl (by kernel_rfl)) rfl ?_
   exact ⟨_, y0_14, by (with_reducible repeat (first | apply Kd.R_alloc | apply Kd.R_drewN | apply Kd.R_drew)); exact Kd.R_mono (Kd.R_far (p := ⟨gb573, 2, none⟩) (Kd.R_far (p := ⟨gb573, 1, none⟩) (Kd.R_far (p := ⟨gb573, 0, none⟩) (Kd.R_types HO_576002.out BK573.out (by decide)) (fun _ hk => hk.2) (.int .i64 t574)) (fun _ hk => hk.2) (.string a2)) (fun _ hk => hk.2) (.slice Ao91 x576002_1.length co91)) (fun _ hk => trivial), y0_4, y0_5, hI HK.out⟩

/-! ### spec_SetHas: function 154 -/
def spec_SetHas.l0 : Nat → List Int → Int → Int → Option (Bool)
 | 0, _, _, _ => none
 | k + 1, x0, x1, x5 => if x5 < (x0.length : Int) then (if 0 ≤ x5 then (if (rd x0 x5) = x1 then (some true) else (spec_SetHas.l0 k x0 x1 (wrap64 (x5 + 1)))) else (none)) else (some false)
def spec_SetHas.f (k : Nat) (l0 : List Int) (a1 : Int) : Option (Bool) := spec_SetHas.l0 k l0 a1 0
theorem spec_SetHas.mono_l : ∀ k, (∀ y0 y1 y2, LeO (spec_SetHas.l0 k y0 y1 y2) (spec_SetHas.l0 (k + 1) y0 y1 y2))
 | 0 => fun _ _ _ r h => by simp [spec_SetHas.l0] at h
 | k + 1 => by
  have ih0 := spec_SetHas.mono_l k
  intro y0 y1 y2
  unfold spec_SetHas.l0
  repeat' first | (with_reducible exact ih0 _ _ _) | (with_reducible exact LeO.refl _) | (with_reducible exact LeO.none _) | (with_reducible refine LeO.ite ?_ ?_) | (with_reducible refine LeO.bind ?_ (fun _ => ?_))
theorem spec_SetHas.mono : ∀ a0 a1 k, LeO (spec_SetHas.f k a0 a1) (spec_SetHas.f (k + 1) a0 a1) := by
 intro a0 a1 k
 have ih0 := spec_SetHas.mono_l k
 unfold spec_SetHas.f
 repeat' first | (with_reducible exact ih0 _ _ _) | (with_reducible exact LeO.refl _) | (with_reducible exact LeO.none _) | (with_reducible refine LeO.ite ?_ ?_) | (with_reducible refine LeO.bind ?_ (fun _ => ?_))
set_option maxHeartbeats 8000000 in
set_option maxRecDepth 100000 in
theorem spec_SetHas.calls (k : Nat) (A0 : Option Addr) (c0 : Nat) (l0 : List Int) (a1 : Int) (r : Bool) (w : World) (hr0 : Kd.C (Kd.int .i64) w A0 l0.length l0) (hc0 : l0.length ≤ c0) (h : spec_SetHas.f k l0 a1 = some r) :
  Calls Tryz.prog 154 #[.slice A0 l0.length c0, .int .i64 a1] w fun e w' => e = .returned (.bool r) ∧ Drawn0 w w' := by
 have HR0 := Aside0.mk hr0; have HC0 := Aside0.mk hc0; clear hr0 hc0; have H : (spec_SetHas.l0 k l0 a1 0) = some r := h; clear h; have H' := Aside0.mk H; clear H
 go_enter Tryz.func154, Tryz.ntmps154
 go_wp2
 go_loopg [5] k (fun kq v5 w' => ∃ (x5_1 : Int), v5 = .int .i64 x5_1 ∧ Aside0 (spec_SetHas.l0 kq l0 a1 x5_1 = some r) ∧ Aside0 (kq ≤ k) ∧ Drawn0 w w')
 case atStart => exact ⟨(0), y0_19, H', ⟨Nat.le_refl _⟩, y0_17⟩
 case round =>
  clear H'
  try clear c1
  try clear p2
  obtain ⟨x5_1, rfl, HA, HK1, ⟨m1, rfl⟩⟩ := hrel; cases gk with
  | zero => exact absurd HA.out (by simp [spec_SetHas.l0])
  | succ k1 =>
   have H := HA.out; clear HA
   simp only [spec_SetHas.l0] at H
   by_cases c3 : x5_1 < (l0.length : Int)
   ·
    rw [if_pos c3] at H
    have c3b0 : decide (x5_1 < (l0.length : Int)) = true := decide_eq_true c3; clear c3
    by_cases c4 : 0 ≤ x5_1
    rotate_left
    ·
     rw [if_neg c4] at H
     exact absurd H (by simp)
    rw [if_pos c4] at H
    have c4b0 : decide (0 ≤ x5_1) = true := decide_eq_true c4; clear c4
    by_cases c5 : (rd l0 x5_1) = a1
    ·
     rw [if_pos c5] at H
     have c5b0 : ((rd l0 x5_1) == a1) = true := beq_iff_eq.mpr c5; have c5b1 : ((rd l0 x5_1) != a1) = false := bne_eq_false_iff_eq.mpr c5; clear c5; obtain rfl := Option.some.inj H; have p602 : 0 ≤ (x5_1 : Int) := of_decide_eq_true y0_18; have q602 : x5_1 < (l0.length : Int) := of_decide_eq_true y0_18; obtain ⟨ad602, e602, hx602_0⟩ := Kd.at_int HR0.out x5_1 p602 q602; cases e602; replace p602 := eq_true p602; replace q602 := eq_true q602
     go_wp2
     go_ret
     exact ⟨y0_19, y0_17⟩
    rw [if_neg c5] at H
    have c5b0 : ((rd l0 x5_1) == a1) = false := beq_eq_false_iff_ne.mpr c5; have c5b1 : ((rd l0 x5_1) != a1) = true := bne_iff_ne.mpr c5; have H' := Aside0.mk H; clear H; have p602 : 0 ≤ (x5_1 : Int) := of_decide_eq_true y0_18; have q602 : x5_1 < (l0.length : Int) := of_decide_eq_true y0_18; obtain ⟨ad602, e602, hx602_0⟩ := Kd.at_int HR0.out x5_1 p602 q602; cases e602; replace p602 := eq_true p602; replace q602 := eq_true q602
    go_wp2
    go_roundg k1
    case measure => have := HK1.out; omega
    case rel => exact ⟨(wrap64 (x5_1 + 1)), y0_19, H', ⟨y0_21⟩, y0_17⟩
   rw [if_neg c3] at H
   have c3b0 : decide (x5_1 < (l0.length : Int)) = false := decide_eq_false c3; clear c3; obtain rfl := Option.some.inj H
   go_wp2
   go_ret
   exact ⟨y0_19, y0_17⟩

end Go.Proofs.YtemjmefacifdeaaGreatDoor.PFnEitherOrder
