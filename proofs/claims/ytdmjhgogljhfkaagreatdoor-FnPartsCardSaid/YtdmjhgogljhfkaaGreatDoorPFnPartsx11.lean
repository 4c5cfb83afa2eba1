import Derived.Test.YtdmjhgogljhfkaaGreatDoorPFnPartsx0
import Derived.Test.YtdmjhgogljhfkaaGreatDoorPFnPartsx6
import Derived.Test.YtdmjhgogljhfkaaGreatDoorPFnPartsx9
namespace Go.Proofs.YtdmjhgogljhfkaaGreatDoor.PFnParts
open Go.RowKit Go.Proofs.YtdmjhgogljhfkaaGreatDoorW.PrintWords Go.Proofs.YtdmjhgogljhfkaaGreatDoorW.PrintLast Go.Proofs.YtdmjhgogljhfkaaGreatDoorW.PrintMore
attribute [local go_sem] max2_int min2_int max_two min_two max_three min_three max_four min_four
attribute [local go_sem] cell_in frozen_in cell_g cell_p cell_r cell_q
set_option synthInstance.maxSize 1000000
set_option synthInstance.maxHeartbeats 2000000
set_option linter.unusedVariables false
set_option linter.unusedSimpArgs false
set_option maxHeartbeats 8000000
set_option maxRecDepth 100000
def impl_TableOk.l0 : Nat → List (S48) → List (S48) → Int → Int → Int → Int → Option (Bool)
 | 0, _, _, _, _, _, _ => none
 | k + 1, x1, x7, x8, x9, x479000, x479001 => if x9 < x8 then (if 0 ≤ x9 then (if x9 < (x7.length : Int) then ((impl_PartOk.f k x479000 x479001 ((rd_T48 x7 x9).f0) ((rd_T48 x7 x9).f1) ((rd_T48 x7 x9).f2)).bind fun t481 => (if t481 = true then (if x9 > 0 then (if 0 ≤ (wrap64 (x9 - 1)) then (if (wrap64 (x9 - 1)) < (x1.length : Int) then ((impl_comparePlace.f ((rd_T48 x1 (wrap64 (x9 - 1))).f0) ((rd_T48 x1 (wrap64 (x9 - 1))).f1) ((rd_T48 x1 (wrap64 (x9 - 1))).f2) ((rd_T48 x7 x9).f0) ((rd_T48 x7 x9).f1) ((rd_T48 x7 x9).f2)).bind fun t483 => (if t483 ≥ 0 then (some false) else (impl_TableOk.l0 k x1 x7 x8 (wrap64 (x9 + 1)) x479000 x479001))) else (none)) else (none)) else (impl_TableOk.l0 k x1 x7 x8 (wrap64 (x9 + 1)) x479000 x479001)) else (some false))) else (none)) else (none)) else (some (decide ((x1.length : Int) ≤ 20)))
def impl_TableOk.f (k : Nat) (a0_0 : Int) (a0_1 : Int) (l1 : List (S48)) : Option (Bool) := impl_TableOk.l0 k l1 l1 (l1.length : Int) 0 a0_0 a0_1
theorem impl_TableOk.mono_l : ∀ k, (∀ y0 y1 y2 y3 y4 y5, LeO (impl_TableOk.l0 k y0 y1 y2 y3 y4 y5) (impl_TableOk.l0 (k + 1) y0 y1 y2 y3 y4 y5))
 | 0 => fun _ _ _ _ _ _ r h => by simp [impl_TableOk.l0] at h
 | k + 1 => by
  have ih0 := impl_TableOk.mono_l k
  intro y0 y1 y2 y3 y4 y5
  unfold impl_TableOk.l0
  repeat' first | (with_reducible exact ih0 _ _ _ _ _ _) | (with_reducible exact impl_PartOk.mono _ _ _ _ _ _) | (with_reducible exact LeO.refl _) | (with_reducible exact LeO.none _) | (with_reducible refine LeO.ite ?_ ?_) | (with_reducible refine LeO.bind ?_ (fun _ => ?_))
theorem impl_TableOk.mono : ∀ a0 a1 a2 k, LeO (impl_TableOk.f k a0 a1 a2) (impl_TableOk.f (k + 1) a0 a1 a2) := by
 intro a0 a1 a2 k
 have ih0 := impl_TableOk.mono_l k
 unfold impl_TableOk.f
 repeat' first | (with_reducible exact ih0 _ _ _ _ _ _) | (with_reducible exact impl_PartOk.mono _ _ _ _ _ _) | (with_reducible exact LeO.refl _) | (with_reducible exact LeO.none _) | (with_reducible refine LeO.ite ?_ ?_) | (with_reducible refine LeO.bind ?_ (fun _ => ?_))
def impl_TableOk.T4 : Bool × List (List Nat × List Nat) := (true, [([], []), ([], []), ([0, 1], [0, 1]), ([2], [2]), ([3, 2], [3]), ([4], [4]), ([5, 4], [4, 5]), ([6, 4, 4], [4, 6]), ([7], [7]), ([7], [7]), ([9, 7], [7, 9]), ([8, 10, 7], [7, 8, 10]), ([11, 7], [7, 11]), ([7], [7]), ([12, 13, 7, 7], [7, 12, 13]), ([14, 7], [7, 14]), ([7, 15, 4], [4, 7, 15]), ([4, 16], [4, 16])])
def impl_TableOk.B4 : List Nat := [0, 0, 3, 7, 15, 31, 63, 127, 255, 255, 767, 2047, 4095, 255, 16383, 32767, 65535, 131071]
theorem impl_TableOk.tab4 : rtab .any (opsOf Tryz.f46 4) = impl_TableOk.T4 := by kernel_rfl
theorem impl_TableOk.bits4 : waitsOk impl_TableOk.T4.2 impl_TableOk.B4 = true := by kernel_rfl
theorem impl_TableOk.calls (k : Nat) (a0_0 : Int) (a0_1 : Int) (A1 : Option Addr) (c1 : Nat) (l1 : List (S48)) (r : Bool) (w : World) (hr1 : Kd.C k48 w A1 l1.length l1) (hc1 : l1.length ≤ c1) (h : impl_TableOk.f k a0_0 a0_1 l1 = some r) (hG : Glob w := by exact gG HG HB) :
  Calls Tryz.prog 46 #[.agg #[.int .i64 a0_0, .int .i64 a0_1], .slice A1 l1.length c1] w fun e w' => e = .returned (.bool r) ∧ Below w.heap.size w w' := by
 have HG := Aside0.mk hG; clear hG; have hu32 := Tryz.underlying32; have hu48 := Tryz.underlying48; have HR1 := Aside0.mk hr1; have HC1 := Aside0.mk hc1; clear hr1 hc1; have HB := Aside0.mk (Below.refl w.heap.size w); have H := h; unfold impl_TableOk.f at H; clear h
 go_enter Tryz.func46, Tryz.ntmps46
 have H' := Aside0.mk H; clear H
 go_wp2_with (first | ((with_reducible refine gd 2 ?_); refine bL 2 #[.int .i64 a0_0, .int .i64 a0_1] 32 ?_; intro gb478 w3 _ _ _))
 refine wC ?_; intro w4 _
 go_loopg [9] k (fun kq v9 w' => ∃ (x9_1 : Int), v9 = .int .i64 x9_1 ∧ Aside0 (impl_TableOk.l0 kq l1 l1 (l1.length : Int) x9_1 a0_0 a0_1 = some r) ∧ Aside0 (kq ≤ k) ∧ UB w4 w')
 case atStart => exact ⟨(0), y0_17, H', ⟨Nat.le_refl _⟩, ⟨UpW.out⟩⟩
 case round =>
  clear H'; obtain ⟨x9_1, rfl, HA, HK1, _⟩ := hrel; cases gk with
  | zero => exact absurd HA.out (by simp [impl_TableOk.l0])
  | succ k1 =>
   have H := HA.out; clear HA
   simp only [impl_TableOk.l0] at H
   by_cases c5 : x9_1 < (l1.length : Int)
   ·
    rw [if_pos c5] at H
    have c5b0 : decide (x9_1 < (l1.length : Int)) = true := decide_eq_true c5; clear c5
    by_cases c6 : 0 ≤ x9_1
    rotate_left
    ·
     rw [if_neg c6] at H
     exact absurd H (by simp)
    rw [if_pos c6] at H
    have c6b0 : decide (0 ≤ x9_1) = true := decide_eq_true c6; clear c6
    by_cases c7 : x9_1 < (l1.length : Int)
    rotate_left
    ·
     rw [if_neg c7] at H
     exact absurd H (by simp)
    rw [if_pos c7] at H
    have c7b0 : decide (x9_1 < (l1.length : Int)) = true := decide_eq_true c7; clear c7; have H' := Aside0.mk H; clear H; have p479 : 0 ≤ (x9_1 : Int) := of_decide_eq_true y0_16; have q479 : x9_1 < (l1.length : Int) := of_decide_eq_true y0_16; obtain ⟨ad479, A479_2, c479_2, e479, hx479_0, hx479_1, hx479_2, hl479_2, hi479_2⟩ := at_T48 HR1.out x9_1 p479 q479; have hr479_2 := hx479_2; cases e479; have i479_0_ := RdP.mk hx479_0; have i479_1_ := RdP.mk hx479_1; have i479_2_ := RdP.mk hx479_2; have HR479_2 := Aside0.mk hi479_2; have HC479_2 := Aside0.mk hl479_2; clear hi479_2 hl479_2; clear hx479_0 hx479_1 hx479_2; replace p479 := eq_true p479; replace q479 := eq_true q479
    go_upto_region 4 with (first | ((with_reducible refine gd 6 ?_); refine bL 6 #[.int .i64 0, .string (⟨#[]⟩ : ByteArray), .slice none 0 0] 48 ?_; intro gb480 w8 _ _ _))
    have H := H'.out; clear H'; obtain ⟨t481, A9, H⟩ := oB H; (try dsimp only at H)
    by_cases c10 : t481 = true
    ·
     subst c10
     rw [if_pos rfl] at H
     by_cases c11 : x9_1 > 0
     ·
      rw [if_pos c11] at H
      have c11b0 : decide (0 < x9_1) = true := decide_eq_true c11; clear c11
      (first | rw [c11b0] | (simp only [i64_w, i32_w]; rw [c11b0]) | skip)
      obtain ⟨ji12, hji12⟩ : ∃ j_ : Int, (wrap64 (x9_1 - 1)) = j_ := ⟨_, rfl⟩
      replace H : (if 0 ≤ (ji12) then (if (ji12) < (l1.length : Int) then ((impl_comparePlace.f ((rd_T48 l1 (ji12)).f0) ((rd_T48 l1 (ji12)).f1) ((rd_T48 l1 (ji12)).f2) ((rd_T48 l1 x9_1).f0) ((rd_T48 l1 x9_1).f1) ((rd_T48 l1 x9_1).f2)).bind fun t483 => (if t483 ≥ 0 then (some false) else (impl_TableOk.l0 k1 l1 l1 (l1.length : Int) (wrap64 (x9_1 + 1)) a0_0 a0_1))) else (none)) else (none)) = some r := by first | (rw [hji12] at H; exact H) | (simp only [hji12] at H ⊢; exact H)
      (try rw [hji12] at A9)
      have hji12w : (IntKind.i64.wrap (x9_1 - 1)) = ji12 := (i64_w _).trans hji12
      by_cases c13 : 0 ≤ (ji12)
      rotate_left
      ·
       rw [if_neg c13] at H
       exact absurd H (by simp)
      rw [if_pos c13] at H
      have c13b0 : decide (0 ≤ (ji12)) = true := decide_eq_true c13; clear c13
      by_cases c14 : (ji12) < (l1.length : Int)
      rotate_left
      ·
       rw [if_neg c14] at H
       exact absurd H (by simp)
      rw [if_pos c14] at H
      have c14b0 : decide ((ji12) < (l1.length : Int)) = true := decide_eq_true c14; clear c14; obtain ⟨t483, A15, H⟩ := oB H; (try dsimp only at H); have H' := Aside0.mk H; clear H
      try go_wp2
      have p482 : 0 ≤ ((ji12) : Int) := of_decide_eq_true y0_16; have q482 : (ji12) < (l1.length : Int) := of_decide_eq_true y0_16; obtain ⟨ad482, A482_2, c482_2, e482, hx482_0, hx482_1, hx482_2, hl482_2, hi482_2⟩ := at_T48 HR1.out (ji12) p482 q482; have hr482_2 := hx482_2
      obtain rfl : ad479 = ad482 := (by injection e482)
      have i482_0_ := RdP.mk hx482_0; have i482_1_ := RdP.mk hx482_1; have i482_2_ := RdP.mk hx482_2; have HR482_2 := Aside0.mk hi482_2; have HC482_2 := Aside0.mk hl482_2; clear hi482_2 hl482_2; clear hx482_0 hx482_1 hx482_2; replace p482 := eq_true p482; replace q482 := eq_true q482
      refine sB [] impl_TableOk.tab4 impl_TableOk.bits4 ?_; intro w16 _ HT_ HW_
      refine tB 0 (some 14) (bz 18 1) HT_ HW_ ?_
      refine tB 1 (some 15) (bz 18 3) HT_ HW_ ?_
      refine o1 2 (some 16) (bz 18 7) HT_ rfl (kC Tryz.func48 (impl_PartOk.calls (hr1_2 := pC HR479_2) (hc1_2 := HC479_2.out) (w := _) (h := A9.out)) ?_); intro w17 _
      refine nA (some 16) ?_
      refine pA 3 (some 17) (bz 18 15) HT_ ?_
      refine pA 4 (some 18) (bz 18 31) HT_ ?_
      refine pA 5 (some 19) (bz 18 63) HT_ ?_
      refine pA 6 (some 20) (bz 18 127) HT_ ?_
      refine pA 7 (some 21) (bz 18 255) HT_ ?_
      refine pA 8 (some 22) (bz 18 511) HT_ ?_
      refine pA 9 (some 23) (bz 18 1023) HT_ ?_
      refine pA 10 (some 24) (bz 18 2047) HT_ ?_
      refine pA 11 (some 25) (bz 18 4095) HT_ ?_
      refine tB 12 (some 26) (bz 18 0x1fff) HT_ HW_ ?_
      refine tB 13 (some 27) (bz 18 0x3fff) HT_ HW_ ?_
      refine o1 14 (some 28) (bz 18 0x7fff) HT_ rfl (kC Tryz.func83 (impl_comparePlace.calls (hr0_2 := pC HR482_2) (hc0_2 := HC482_2.out) (hr1_2 := pC HR479_2) (hc1_2 := HC479_2.out) (w := _) (h := A15.out)) ?_); intro w18 _
      refine nA (some 28) ?_
      refine pA 15 (some 29) (bz 18 0xffff) HT_ ?_
      refine pA 16 (some 30) (bz 18 0x1ffff) HT_ ?_
      refine pA 17 (some 31) (bz 18 0x3ffff) HT_ ?_
      refine done_ (done_of HT_.out (by kernel_rfl)) ?_
      go_upto_if 31 with fail
      have H := H'.out; clear H'
      by_cases c19 : t483 ≥ 0
      ·
       rw [if_pos c19] at H
       have c19b0 : decide (0 ≤ t483) = true := decide_eq_true c19; clear c19
       (first | rw [c19b0] | (simp only [i64_w, i32_w]; rw [c19b0]) | skip)
       obtain rfl := Option.some.inj H
       go_wp2
       go_ret
       exact ⟨by first | rfl | (simp; done) | (simp only [← hji12] <;> (first | rfl | simp)) | (simp [*]; done), UpW.out⟩
      rw [if_neg c19] at H
      have c19b0 : decide (0 ≤ t483) = false := decide_eq_false c19; clear c19
      (first | rw [c19b0] | (simp only [i64_w, i32_w]; rw [c19b0]) | skip)
      have H' := Aside0.mk H; clear H
      go_wp2
      go_roundg k1
      case measure => have := HK1.out; omega
      case rel => exact ⟨(wrap64 (x9_1 + 1)), y0_17, H', ⟨y0_20⟩, ⟨UpW.out⟩⟩
     rw [if_neg c11] at H
     have c11b0 : decide (0 < x9_1) = false := decide_eq_false c11; clear c11
     (first | rw [c11b0] | (simp only [i64_w, i32_w]; rw [c11b0]) | skip)
     have H' := Aside0.mk H; clear H
     try go_wp2
     refine sB [] impl_TableOk.tab4 impl_TableOk.bits4 ?_; intro w20 _ HT_ HW_
     refine tB 0 (some 14) (bz 18 1) HT_ HW_ ?_
     refine tB 1 (some 15) (bz 18 3) HT_ HW_ ?_
     refine o1 2 (some 16) (bz 18 7) HT_ rfl (kC Tryz.func48 (impl_PartOk.calls (hr1_2 := pC HR479_2) (hc1_2 := HC479_2.out) (w := _) (h := A9.out)) ?_); intro w21 _
     refine nA (some 16) ?_
     refine pA 3 (some 17) (bz 18 15) HT_ ?_
     refine pA 4 (some 18) (bz 18 31) HT_ ?_
     refine pA 5 (some 19) (bz 18 63) HT_ ?_
     refine pA 6 (some 20) (bz 18 127) HT_ ?_
     refine pA 7 (some 21) (bz 18 255) HT_ ?_
     refine pU 8 (some 22) (bz 18 511) HT_ ?_
     refine pU 9 (some 23) (bz 18 1023) HT_ ?_
     refine pU 10 (some 24) (bz 18 2047) HT_ ?_
     refine pU 11 (some 25) (bz 18 4095) HT_ ?_
     refine pU 12 (some 26) (bz 18 0x1fff) HT_ ?_
     refine pU 13 (some 27) (bz 18 0x3fff) HT_ ?_
     refine pU 14 (some 28) (bz 18 0x7fff) HT_ ?_
     refine pU 15 (some 29) (bz 18 0xffff) HT_ ?_
     refine pA 16 (some 30) (bz 18 0x1ffff) HT_ ?_
     refine pA 17 (some 31) (bz 18 0x3ffff) HT_ ?_
     refine done_ (done_of HT_.out (by kernel_rfl)) ?_
     go_upto_if 31 with fail
     have H := H'.out; clear H'; have H' := Aside0.mk H; clear H
     go_wp2
     go_roundg k1
     case measure => have := HK1.out; omega
     case rel => exact ⟨(wrap64 (x9_1 + 1)), y0_17, H', ⟨y0_20⟩, ⟨UpW.out⟩⟩
    replace c10 := Bool.eq_false_iff.mpr c10; subst c10
    rw [if_neg Bool.false_ne_true] at H
    have H' := Aside0.mk H; clear H
    try go_wp2
    refine sB [] impl_TableOk.tab4 impl_TableOk.bits4 ?_; intro w22 _ HT_ HW_
    refine tB 0 (some 14) (bz 18 1) HT_ HW_ ?_
    refine tB 1 (some 15) (bz 18 3) HT_ HW_ ?_
    refine o1 2 (some 16) (bz 18 7) HT_ rfl (kC Tryz.func48 (impl_PartOk.calls (hr1_2 := pC HR479_2) (hc1_2 := HC479_2.out) (w := _) (h := A9.out)) ?_); intro w23 _
    refine nA (some 16) ?_
    refine pA 3 (some 17) (bz 18 15) HT_ ?_
    refine pA 4 (some 18) (bz 18 31) HT_ ?_
    refine pU 5 (some 19) (bz 18 63) HT_ ?_
    refine pU 6 (some 20) (bz 18 127) HT_ ?_
    refine pU 7 (some 21) (bz 18 255) HT_ ?_
    refine pU 8 (some 22) (bz 18 511) HT_ ?_
    refine pU 9 (some 23) (bz 18 1023) HT_ ?_
    refine pU 10 (some 24) (bz 18 2047) HT_ ?_
    refine pU 11 (some 25) (bz 18 4095) HT_ ?_
    refine pU 12 (some 26) (bz 18 0x1fff) HT_ ?_
    refine pU 13 (some 27) (bz 18 0x3fff) HT_ ?_
    refine pU 14 (some 28) (bz 18 0x7fff) HT_ ?_
    refine pU 15 (some 29) (bz 18 0xffff) HT_ ?_
    refine pU 16 (some 30) (bz 18 0x1ffff) HT_ ?_
    refine pA 17 (some 31) (bz 18 0x3ffff) HT_ ?_
    refine done_ (done_of HT_.out (by kernel_rfl)) ?_
    go_upto_if 31 with fail
    have H := H'.out; clear H'; obtain rfl := Option.some.inj H
    go_wp2
    go_ret
    exact ⟨y0_17, UpW.out⟩
   rw [if_neg c5] at H
   have c5b0 : decide (x9_1 < (l1.length : Int)) = false := decide_eq_false c5; clear c5; obtain rfl := Option.some.inj H
   go_wp2
   go_ret
   exact ⟨y0_17, UpW.out⟩
def impl_copyPart.f (a0_0 : Int) (a0_1 : ByteArray) (l0_2 : List Int) : Option (Int × ByteArray × List Int) := (impl_copyInts.f l0_2).bind fun t486 => (some (a0_0, a0_1, t486))
theorem impl_copyPart.calls (a0_0 : Int) (a0_1 : ByteArray) (A0_2 : Option Addr) (c0_2 : Nat) (l0_2 : List Int) (r1 : Int) (r2 : ByteArray) (r3 : List Int) (w : World) (hr0_2 : Kd.C (Kd.int .i64) w A0_2 l0_2.length l0_2) (hc0_2 : l0_2.length ≤ c0_2) (h : impl_copyPart.f a0_0 a0_1 l0_2 = some (r1, r2, r3)) :
  Calls Tryz.prog 85 #[.agg #[.int .i64 a0_0, .string a0_1, .slice A0_2 l0_2.length c0_2]] w fun e w' => ∃ v2_ : Value, e = .returned (.agg #[.int .i64 r1, .string r2, v2_]) ∧ Kd.R (Kd.int .i64) 3 w' w.heap.size (fun _ => True) v2_ r3 ∧ Below w.heap.size w w' := by
 have hu48 := Tryz.underlying48; have HR0_2 := Aside0.mk hr0_2; have HC0_2 := Aside0.mk hc0_2; clear hr0_2 hc0_2; have HB := Aside0.mk (Below.refl w.heap.size w)
 have H := h; unfold impl_copyPart.f at H
 clear h; obtain ⟨t486, A2, H⟩ := oB H; (try dsimp only at H)
 simp only [Option.some.injEq, Prod.mk.injEq] at H
 obtain ⟨rfl, rfl, rfl⟩ := H
 go_enter Tryz.func85, Tryz.ntmps85
 go_wp2_with (first | ((with_reducible refine gd 1 ?_); refine bL 1 #[.int .i64 a0_0, .string a0_1, .slice A0_2 l0_2.length c0_2] 48 ?_; intro gb484 w3 _ _ _) | ((with_reducible refine gd 2 ?_); refine bL 2 #[.int .i64 0, .string (⟨#[]⟩ : ByteArray), .slice none 0 0] 48 ?_; intro gb485 w4 _ _ _) | ((with_reducible refine gate_callee (f := 140) rfl ?_); refine gC1 (some 5) Tryz.func140 (impl_copyInts.calls (hr0 := pC HR0_2) (hc0 := HC0_2.out) (w := _) (h := A2.out)) ?_; intro Ao487 co487 w5 _ HO488))
 refine bodyPost_ret (results_cell_row rfl _ _ gb485 48 #[.int .i64 a0_0, .string a0_1, .slice Ao487 t486.length co487] (0, 0) _ rfl xB Tryz.underlying48 rfl (by kernel_rfl)) rfl ?_
 exact ⟨_, y0_17, rR HO488, UpW.out⟩
def impl_copyTable.l0 : Nat → List (S48) → List (S48) → Int → Int → Option ((List (S48)))
 | 0, _, _, _, _ => none
 | k + 1, x3, x6, x7, x8 => if x8 < x7 then (if 0 ≤ x8 then (if x8 < (x6.length : Int) then ((impl_copyPart.f ((rd_T48 x6 x8).f0) ((rd_T48 x6 x8).f1) ((rd_T48 x6 x8).f2)).bind fun bt491 => (if x3.length < 2932031007402 then (impl_copyTable.l0 k (x3 ++ [(⟨bt491.1, bt491.2.1, bt491.2.2⟩ : S48)]) x6 x7 (wrap64 (x8 + 1))) else (none))) else (none)) else (none)) else (some x3)
def impl_copyTable.f (k : Nat) (l0 : List (S48)) : Option ((List (S48))) := impl_copyTable.l0 k ([] : List (S48)) l0 (l0.length : Int) 0
theorem impl_copyTable.calls (k : Nat) (A0 : Option Addr) (c0 : Nat) (l0 : List (S48)) (r : List (S48)) (w : World) (hr0 : Kd.C k48 w A0 l0.length l0) (hc0 : l0.length ≤ c0) (h : impl_copyTable.f k l0 = some r) :
  Calls Tryz.prog 82 #[.slice A0 l0.length c0] w fun e w' => ∃ v0_ : Value, e = .returned (v0_) ∧ Kd.S k48 48 w' w.heap.size (fun _ => True) v0_ r ∧ Below w.heap.size w w' := by
 have hu48 := Tryz.underlying48; have HR0 := Aside0.mk hr0; have HC0 := Aside0.mk hc0; clear hr0 hc0; have HB := Aside0.mk (Below.refl w.heap.size w); have H := h; unfold impl_copyTable.f at H; clear h
 go_enter Tryz.func82, Tryz.ntmps82
 have H' := Aside0.mk H; clear H
 go_wp2
 refine wC ?_; intro w2 _
 go_loopg [3, 8] k (fun kq v3 v8 w' => ∃ (x3_1 : List (S48)) (x8_1 : Int) (Ao3_1 : Option Addr) (co3_1 : Nat), v3 = .slice Ao3_1 x3_1.length co3_1 ∧ v8 = .int .i64 x8_1 ∧ Aside0 (impl_copyTable.l0 kq x3_1 l0 (l0.length : Int) x8_1 = some r) ∧ Aside0 (kq ≤ k) ∧ Aside0 (Kd.S k48 48 w' w2.heap.size (iv w2 w') (.slice Ao3_1 x3_1.length co3_1) x3_1) ∧ KT w2 [] w2 _ k48 48 w' ∧ LB w w')
 case atStart => exact ⟨(([] : List (S48))), (0), (none), (0), y0_17, y0_17, H', ⟨Nat.le_refl _⟩, ⟨Kd.S_nil _ _ _ _ _⟩, ⟨UpT.out⟩, ⟨UpW.out⟩⟩
 case round =>
  clear H'; obtain ⟨x3_1, x8_1, Ao3_1, co3_1, rfl, rfl, HA, HK1, HO_3, _, _⟩ := hrel; cases gk with
  | zero => exact absurd HA.out (by simp [impl_copyTable.l0])
  | succ k1 =>
   have H := HA.out; clear HA
   simp only [impl_copyTable.l0] at H
   by_cases c3 : x8_1 < (l0.length : Int)
   ·
    rw [if_pos c3] at H
    have c3b0 : decide (x8_1 < (l0.length : Int)) = true := decide_eq_true c3; clear c3
    by_cases c4 : 0 ≤ x8_1
    rotate_left
    ·
     rw [if_neg c4] at H
     exact absurd H (by simp)
    rw [if_pos c4] at H
    have c4b0 : decide (0 ≤ x8_1) = true := decide_eq_true c4; clear c4
    by_cases c5 : x8_1 < (l0.length : Int)
    rotate_left
    ·
     rw [if_neg c5] at H
     exact absurd H (by simp)
    rw [if_pos c5] at H
    have c5b0 : decide (x8_1 < (l0.length : Int)) = true := decide_eq_true c5; clear c5; obtain ⟨⟨t491, t492, t493⟩, A6, H⟩ := oB H; (try dsimp only at H)
    by_cases c7 : x3_1.length < 2932031007402
    rotate_left
    ·
     rw [if_neg c7] at H
     exact absurd H (by simp)
    rw [if_pos c7] at H
    have LMc7 := Aside0.mk c7; clear c7; obtain ⟨y496, hy496⟩ : ∃ y_ : List (S48), y_ = (x3_1 ++ [(⟨t491, t492, t493⟩ : S48)]) := ⟨_, rfl⟩
    replace H : (impl_copyTable.l0 k1 y496 l0 (l0.length : Int) (wrap64 (x8_1 + 1))) = some r := by first | (rw [hy496]; with_reducible exact H) | (rw [hy496]; with_reducible exact (Option.bind_some _ _).symm.trans H) | (rw [hy496]; exact H) | exact H
    have Ny496 := Aside0.mk hy496; clear hy496; have H' := Aside0.mk H; clear H; have p489 : 0 ≤ (x8_1 : Int) := of_decide_eq_true y0_16; have q489 : x8_1 < (l0.length : Int) := of_decide_eq_true y0_16; obtain ⟨ad489, A489_2, c489_2, e489, hx489_0, hx489_1, hx489_2, hl489_2, hi489_2⟩ := at_T48 HR0.out x8_1 p489 q489; cases e489; have i489_0_ := RdP.mk hx489_0; have i489_1_ := RdP.mk hx489_1; have i489_2_ := RdP.mk hx489_2; have HR489_2 := Aside0.mk hi489_2; have HC489_2 := Aside0.mk hl489_2; clear hi489_2 hl489_2; clear hx489_0 hx489_1 hx489_2; replace p489 := eq_true p489; replace q489 := eq_true q489
    go_wp2_with (first | ((with_reducible refine gd 5 ?_); refine bL 5 #[.int .i64 0, .string (⟨#[]⟩ : ByteArray), .slice none 0 0] 48 ?_; intro gb490 w8 _ _ _) | ((with_reducible refine gate_callee (f := 85) rfl ?_); refine gC1 (some 14) Tryz.func85 (impl_copyPart.calls (hr0_2 := pC HR489_2) (hc0_2 := HC489_2.out) (w := _) (h := A6.out)) ?_; intro Ao494 co494 w9 _ HO495) | ((with_reducible refine gate_builtin (b := .append) (xs := #[.tmp 12, .tmp 15]) rfl ?_); at_builtin; refine gAS k48 (.tmp 12) (.tmp 15) 44 48 (.agg #[(.int .i64 0), (.string ⟨#[]⟩), (.slice none 0 0)]) 48 (⟨t491, t492, t493⟩ : S48) [.int .i64 t491, .string t492, .slice Ao494 t493.length co494] w2 Ny496 HO_3 (k48_mkM _ _ _ (⟨t491, t492, t493⟩ : S48) (oR (w := w2) HO495)) (by have := LMc7.out; omega) ?_ (ht := Tryz.underlying44) (hinfo := info48); intro Ao497 co497 w10 _ _ _ HO498))
    go_roundg k1
    case measure => have := HK1.out; omega
    case rel => exact ⟨(y496), (wrap64 (x8_1 + 1)), (Ao497), (co497), y0_17, y0_17, H', ⟨y0_20⟩, ⟨sJ HO498⟩, ⟨UpT.out⟩, ⟨UpW.out⟩⟩
   rw [if_neg c3] at H
   have c3b0 : decide (x8_1 < (l0.length : Int)) = false := decide_eq_false c3; clear c3; obtain rfl := Option.some.inj H
   go_wp2
   go_ret
   exact ⟨_, y0_17, rS HO_3, UpW.out⟩
def impl_TableAdd.l0 : Nat → List (S48) → Int → ByteArray → List Int → Int → Option Int
 | 0, _, _, _, _, _ => none
 | k + 1, xs, v, s, l, i => if i < (xs.length : Int) then (if 0 ≤ i then ((impl_comparePlace.f ((rd_T48 xs i).f0) ((rd_T48 xs i).f1) ((rd_T48 xs i).f2) v s l).bind fun c => (if c < 0 then (impl_TableAdd.l0 k xs v s l (wrap64 (i + 1))) else (some i))) else (none)) else (some i)
def impl_TableAdd.fin (k : Nat) (c0 c1 : Int) (l1 out : List (S48)) : Option (List (S48) × Bool) := (impl_TableOk.f k c0 c1 out).bind fun b => (if b = true then (some (out, true)) else ((impl_copyTable.f k l1).bind fun t => (some (t, false))))
def impl_TableAdd.f (k : Nat) (a0_0 : Int) (a0_1 : Int) (l1 : List (S48)) (a2_0 : Int) (a2_1 : ByteArray) (l2_2 : List Int) : Option (List (S48) × Bool) := (impl_PartOk.f k a0_0 a0_1 a2_0 a2_1 l2_2).bind fun b => (if b = true then ((impl_copyTable.f k l1).bind fun out => ((impl_TableAdd.l0 k out a2_0 a2_1 l2_2 0).bind fun i => (if i < (out.length : Int) then (if 0 ≤ i then ((impl_comparePlace.f ((rd_T48 out i).f0) ((rd_T48 out i).f1) ((rd_T48 out i).f2) a2_0 a2_1 l2_2).bind fun c => (if c = 0 then ((impl_PartJoin.f k ((rd_T48 out i).f0) ((rd_T48 out i).f1) ((rd_T48 out i).f2) a2_0 a2_1 l2_2).bind fun q => (impl_TableAdd.fin k a0_0 a0_1 l1 (out.set i.toNat (⟨q.1, q.2.1, q.2.2.1⟩ : S48)))) else ((impl_copyPart.f a2_0 a2_1 l2_2).bind fun y => (if out.length < 2932031007402 then (impl_TableAdd.fin k a0_0 a0_1 l1 (out.take i.toNat ++ (⟨y.1, y.2.1, y.2.2⟩ : S48) :: out.drop i.toNat)) else (none))))) else (none)) else ((impl_copyPart.f a2_0 a2_1 l2_2).bind fun y => (if out.length < 2932031007402 then (impl_TableAdd.fin k a0_0 a0_1 l1 (out.take i.toNat ++ (⟨y.1, y.2.1, y.2.2⟩ : S48) :: out.drop i.toNat)) else (none)))))) else ((impl_copyTable.f k l1).bind fun t => (some (t, false))))
section
variable {P : Program} {ops : Array Oper} {rest : List Oper} {o : Oper} {a : Act} {Q : Exit → Act → World → Prop}
theorem impl_TableAdd.lit {W : World} (cs : Array Value) (t : TypeId)
  (h : ∀ g, g = W.heap.size → ∀ w1, w1.heap[g]? = some (.cells cs t (0, 0)) → Below W.heap.size W w1 → wpList P ops Q rest (a.put o.dst (.slice (some ⟨g, 0, none⟩) 1 1)) w1)
  (hgd : o.guard = none := by rfl) (hrun : (execOp a.eval o).run P W = .ok (.value (.slice (some ⟨W.heap.size, 0, none⟩) 1 1)) (W.alloc (.cells cs t (0, 0))) := by first | (go_simp; done) | (go_simp; rfl) | rfl) : wpList P ops Q (o :: rest) a W :=
 Kd.event_run hgd hrun (h _ rfl _ (blk_new W _) (below_alloc (Below.refl _ _) _))
end
def impl_TableAdd.T5 : Bool × List (List Nat × List Nat) := (true, [([], []), ([], []), ([1], [1]), ([0, 2], [0, 2]), ([3], [3]), ([4], [4]), ([4], [4]), ([5, 6, 4], [4, 5, 6]), ([7, 4], [4, 7]), ([4], [4]), ([8, 9, 4, 4], [4, 8, 9]), ([10, 4], [4, 10]), ([4, 11], [4, 11])])
def impl_TableAdd.B5 : List Nat := [0, 0, 2, 7, 15, 31, 31, 127, 255, 31, 1023, 2047, 4095]
theorem impl_TableAdd.tab5 : rtab .any (opsOf Tryz.f21 5) = impl_TableAdd.T5 := by kernel_rfl
theorem impl_TableAdd.bits5 : waitsOk impl_TableAdd.T5.2 impl_TableAdd.B5 = true := by kernel_rfl
def impl_TableAdd.T7 : Bool × List (List Nat × List Nat) := (true, [([], []), ([], []), ([1], [1]), ([0, 2], [0, 2]), ([3], [3]), ([4], [4]), ([4], [4]), ([5, 6, 4], [4, 5, 6]), ([7, 4], [4, 7]), ([4], [4]), ([8, 9, 4, 4], [4, 8, 9]), ([10, 4], [4, 10]), ([4, 11], [4, 11])])
def impl_TableAdd.B7 : List Nat := [0, 0, 2, 7, 15, 31, 31, 127, 255, 31, 1023, 2047, 4095]
theorem impl_TableAdd.tab7 : rtab .any (opsOf Tryz.f21 7) = impl_TableAdd.T7 := by kernel_rfl
theorem impl_TableAdd.bits7 : waitsOk impl_TableAdd.T7.2 impl_TableAdd.B7 = true := by kernel_rfl
def impl_TableAdd.T8 : Bool × List (List Nat × List Nat) := (true, [([], []), ([], []), ([], []), ([], []), ([2, 3], [2, 3]), ([4], [4]), ([], []), ([5, 6], [5, 6]), ([7], [7]), ([8], [8]), ([8], [8]), ([0, 1, 0, 1, 2, 3, 4, 5, 6, 7, 8, 9], [0, 1]), ([11, 9, 7, 0, 1, 2, 3, 4, 5, 6, 7, 8, 9], [9, 11])])
def impl_TableAdd.B8 : List Nat := [0, 0, 0, 0, 12, 28, 0, 124, 252, 508, 508, 1023, 3071]
theorem impl_TableAdd.tab8 : rtab .any (opsOf Tryz.f21 8) = impl_TableAdd.T8 := by kernel_rfl
theorem impl_TableAdd.bits8 : waitsOk impl_TableAdd.T8.2 impl_TableAdd.B8 = true := by kernel_rfl
theorem impl_TableAdd.calls (k : Nat) (a0_0 : Int) (a0_1 : Int) (A1 : Option Addr) (c1 : Nat) (l1 : List (S48)) (a2_0 : Int) (a2_1 : ByteArray) (A2_2 : Option Addr) (c2_2 : Nat) (l2_2 : List Int) (r1 : List (S48)) (r2 : Bool) (w : World) (hr1 : Kd.C k48 w A1 l1.length l1) (hc1 : l1.length ≤ c1) (hr2_2 : Kd.C (Kd.int .i64) w A2_2 l2_2.length l2_2) (hc2_2 : l2_2.length ≤ c2_2) (h : impl_TableAdd.f k a0_0 a0_1 l1 a2_0 a2_1 l2_2 = some (r1, r2)) (hG : Glob w := by exact gG HG HB) :
  Calls Tryz.prog 21 #[.agg #[.int .i64 a0_0, .int .i64 a0_1], .slice A1 l1.length c1, .agg #[.int .i64 a2_0, .string a2_1, .slice A2_2 l2_2.length c2_2]] w fun e w' => ∃ v0_ : Value, e = .returned (.tuple #[v0_, .bool r2]) ∧ Kd.S k48 48 w' w.heap.size (fun _ => True) v0_ r1 ∧ Below w.heap.size w w' := by
 have HG := Aside0.mk hG; clear hG; have hu32 := Tryz.underlying32; have hu44 := Tryz.underlying44; have hu48 := Tryz.underlying48; have HR1 := Aside0.mk hr1; have HC1 := Aside0.mk hc1; have HR2_2 := Aside0.mk hr2_2; have HC2_2 := Aside0.mk hc2_2; clear hr1 hc1 hr2_2 hc2_2; have HB := Aside0.mk (Below.refl w.heap.size w); have H := h
 unfold impl_TableAdd.f at H
 clear h; obtain ⟨b1, A3, H⟩ := oB H
 (try dsimp only at H)
 go_enter Tryz.func21, Tryz.ntmps21
 have H' := Aside0.mk H; clear H
 go_upto_if 13 with (first | ((with_reducible refine gd 3 ?_); refine bL 3 #[.int .i64 a0_0, .int .i64 a0_1] 32 ?_; intro gb3 w4 _ _ _) | ((with_reducible refine gd 5 ?_); refine bL 5 #[.int .i64 a2_0, .string a2_1, .slice A2_2 l2_2.length c2_2] 48 ?_; intro gb5 w5 _ _ _) | ((with_reducible refine gate_callee (f := 48) rfl ?_); refine gC (some 12) Tryz.func48 (impl_PartOk.calls (hr1_2 := pC HR2_2) (hc1_2 := HC2_2.out) (w := _) (h := A3.out)) ?_; intro w6 _))
 have H := H'.out; clear H'
 by_cases c1_ : b1 = true
 rotate_left
 ·
   rw [if_neg c1_] at H
   replace c1_ := Bool.eq_false_iff.mpr c1_; subst c1_; obtain ⟨t9, A91, H⟩ := oB H
   (try dsimp only at H)
   simp only [Option.some.injEq, Prod.mk.injEq] at H
   obtain ⟨rfl, rfl⟩ := H
   go_wp2_with (first | ((with_reducible refine gate_callee (f := 82) rfl ?_); refine gS1 (some 15) Tryz.func82 (impl_copyTable.calls (hr0 := pC HR1) (hc0 := HC1.out) (w := _) (h := A91.out)) ?_; intro Ao91 co91 w91 _ HO91))
   go_ret2
   exact ⟨_, y0_19, rS HO91, UpW.out⟩
 subst c1_
 rw [if_pos rfl] at H
 obtain ⟨out, A7, H⟩ := oB H
 (try dsimp only at H)
 obtain ⟨ip, A8, H⟩ := oB H
 (try dsimp only at H)
 have HC := Aside0.mk H; clear H
 go_wp2_with (first | ((with_reducible refine gate_callee (f := 82) rfl ?_); refine wL ?_; intro w7 _; refine gS1 (some 17) Tryz.func82 (impl_copyTable.calls (hr0 := pC HR1) (hc0 := HC1.out) (w := _) (h := A7.out)) ?_; intro Ao1 co1 w9 _ HO1))
 refine wC ?_
 intro w10 _
 go_loopg [9] k (fun kq v9 w' => ∃ (x9 : Int), v9 = .int .i64 x9 ∧ Aside0 (0 ≤ x9 ∧ x9 ≤ (out.length : Int)) ∧ Aside0 (impl_TableAdd.l0 kq out a2_0 a2_1 l2_2 x9 = some ip) ∧ Aside0 (kq ≤ k) ∧ UB w10 w')
 case atStart => exact ⟨0, y0_19, ⟨by omega⟩, A8, ⟨Nat.le_refl _⟩, ⟨UpW.out⟩⟩
 case round =>
   clear A8; obtain ⟨x9, rfl, HX, HA, HK1, _⟩ := hrel
   have ROWM : (out.length : Int) ≤ 9223372036854775807 := by have := (Kd.S_reads' HO1.out).2.2.2.1; omega
   cases gk with
   | zero => exact absurd HA.out (by simp [impl_TableAdd.l0])
   | succ k1 =>
     have H := HA.out; clear HA
     simp only [impl_TableAdd.l0] at H
     have c4 : 0 ≤ x9 := HX.out.1
     by_cases c3 : x9 < (out.length : Int)
     ·
       rw [if_pos c3, if_pos c4] at H
       have c3b0 : decide (x9 < (out.length : Int)) = true := decide_eq_true c3; obtain ⟨cm, A11, H⟩ := oB H
       (try dsimp only at H)
       obtain ⟨go, cc_, eo_, gb_, gl_, hgo⟩ := Kd.S_form HO1.out (show 0 < out.length by omega)
       injection eo_ with ea_ en_ ec_
       subst ea_; subst ec_; clear en_; obtain ⟨oki, ce, hcl, hM, hcc, hfr, hoki, hH⟩ := Kd.S_elem HO1.out z48 x9 c4 c3; obtain ⟨ve2, rfl, ge2⟩ := k48_openM hM; obtain ⟨Av, cv, ev⟩ := Kd.R_slice ge2; subst ev; have i0_ : RdG go ((x9 : Int).toNat * 3) w9 (.int .i64 (rd_T48 out x9).f0) := RdG.of hgo (hcc 0 _ rfl); have i1_ : RdG go ((x9 : Int).toNat * 3 + 1) w9 (.string (rd_T48 out x9).f1) := RdG.of hgo (hcc 1 _ rfl); have i2_ : RdG go ((x9 : Int).toNat * 3 + 2) w9 (.slice Av ((rd_T48 out x9).f2).length cv) := RdG.of hgo (hcc 2 _ rfl); have sb_ : StB go w9 48 := ⟨hgo⟩
       have HL := Aside0.mk (show Kd.R (Kd.int .i64) 3 w9 _ oki (.slice Av ((rd_T48 out x9).f2).length cv) (rd_T48 out x9).f2 from ge2)
       have p4 : (0 ≤ (x9 : Int)) = True := eq_true c4; have q3 : ((x9 : Int) < (out.length : Int)) = True := eq_true c3
       try go_wp2
       refine sB [] impl_TableAdd.tab5 impl_TableAdd.bits5 ?_
       intro w12 _ HT_ HW_
       refine pA 0 (some 18) (bz 13 1) HT_ ?_
       refine pA 1 (some 19) (bz 13 3) HT_ ?_
       refine pA 2 (some 20) (bz 13 7) HT_ ?_
       refine pA 3 (some 21) (bz 13 15) HT_ ?_
       refine pA 4 (some 22) (bz 13 31) HT_ ?_
       refine pA 5 (some 23) (bz 13 63) HT_ ?_
       refine pA 6 (some 24) (bz 13 127) HT_ ?_
       refine pA 7 (some 25) (bz 13 255) HT_ ?_
       refine tB 8 (some 26) (bz 13 511) HT_ HW_ ?_
       refine tB 9 (some 27) (bz 13 1023) HT_ HW_ ?_
       refine o1 10 (some 28) (bz 13 2047) HT_ rfl (kC Tryz.func83 (impl_comparePlace.calls (hr0_2 := rC HL) (hc0_2 := rL HL) (hr1_2 := pC HR2_2) (hc1_2 := HC2_2.out) (w := _) (h := A11.out)) ?_)
       intro w13 _
       refine nA (some 28) ?_
       refine pA 11 (some 29) (bz 13 4095) HT_ ?_
       refine pA 12 (some 30) (bz 13 8191) HT_ ?_
       refine done_ (done_of HT_.out (by kernel_rfl)) ?_
       by_cases c12 : cm < 0
       ·
         rw [if_pos c12] at H
         have c12b0 : decide (cm < 0) = true := decide_eq_true c12; have H' := Aside0.mk H; clear H
         try simp only [c12b0]
         go_wp2
         go_roundg k1
         case measure => have := HK1.out; omega
         case rel => exact ⟨wrap64 (x9 + 1), by have e_ : wrap64 (x9 + 1) = x9 + 1 := (by unfold wrap64; omega); first | rfl | (rw [e_]; done) | (simp [e_]; done), ⟨by have := HX.out.2; unfold wrap64; omega⟩, H', ⟨y0_20⟩, ⟨UpW.out⟩⟩
       rw [if_neg c12] at H
       obtain rfl := Option.some.inj H; have c12b0 : decide (cm < 0) = false := decide_eq_false c12; clear H; have H := HC.out; clear HC
       rw [if_pos c3, if_pos c4] at H
       obtain ⟨cn, A13, H⟩ := oB H
       (try dsimp only at H)
       try simp only [c12b0]
       try go_wp2
       refine sB [] impl_TableAdd.tab7 impl_TableAdd.bits7 ?_
       intro w14 _ HT_ HW_
       refine pA 0 (some 33) (bz 13 1) HT_ ?_
       refine pA 1 (some 34) (bz 13 3) HT_ ?_
       refine pA 2 (some 35) (bz 13 7) HT_ ?_
       refine pA 3 (some 36) (bz 13 15) HT_ ?_
       refine pA 4 (some 37) (bz 13 31) HT_ ?_
       refine pA 5 (some 38) (bz 13 63) HT_ ?_
       refine pA 6 (some 39) (bz 13 127) HT_ ?_
       refine pA 7 (some 40) (bz 13 255) HT_ ?_
       refine tB 8 (some 41) (bz 13 511) HT_ HW_ ?_
       refine tB 9 (some 42) (bz 13 1023) HT_ HW_ ?_
       refine o1 10 (some 43) (bz 13 2047) HT_ rfl (kC Tryz.func83 (impl_comparePlace.calls (hr0_2 := rC HL) (hc0_2 := rL HL) (hr1_2 := pC HR2_2) (hc1_2 := HC2_2.out) (w := _) (h := A13.out)) ?_)
       intro w15 _
       refine nA (some 43) ?_
       refine pA 11 (some 44) (bz 13 4095) HT_ ?_
       refine pA 12 (some 45) (bz 13 8191) HT_ ?_
       refine done_ (done_of HT_.out (by kernel_rfl)) ?_
       by_cases c15 : cn = 0
       ·
         rw [if_pos c15] at H
         have c15b0 : (cn == 0) = true := beq_iff_eq.mpr c15; obtain ⟨⟨u0, u1, u2, u3⟩, A16, H⟩ := oB H
         (try dsimp only at H)
         obtain ⟨zs, hzs⟩ : ∃ zs : List S48, zs = (out.set (x9 : Int).toNat (⟨u0, u1, u2⟩ : S48)) := ⟨_, rfl⟩
         rw [← hzs] at H
         have NZ := Aside0.mk hzs; clear hzs
         have ZL : zs.length = out.length := (by rw [NZ.out, List.length_set])
         try simp only [c15b0]
         try go_wp2
         refine sD [] [12] impl_TableAdd.tab8 impl_TableAdd.bits8 ?_
         intro w16 _ HT_ HW_
         refine pA 0 (some 47) (bz 13 1) HT_ ?_
         refine pA 1 (some 48) (bz 13 3) HT_ ?_
         refine pA 2 (some 49) (bz 13 7) HT_ ?_
         refine pA 3 (some 50) (bz 13 15) HT_ ?_
         refine pA 4 (some 51) (bz 13 31) HT_ ?_
         refine tB 5 (some 52) (bz 13 63) HT_ HW_ ?_
         refine tB 6 (some 53) (bz 13 127) HT_ HW_ ?_
         refine o1 7 (some 54) (bz 13 255) HT_ rfl (kC1 Tryz.func29 (impl_PartJoin.calls (hr0_2 := rC HL) (hc0_2 := rL HL) (hr1_2 := pC HR2_2) (hc1_2 := HC2_2.out) (w := _) (h := A16.out)) ?_)
         intro Ao17 co17 w17 _ HO17
         refine nA (some 54) ?_
         refine pA 8 (some 46) (bz 13 511) HT_ ?_
         refine pA 9 (some 55) (bz 13 1023) HT_ ?_
         refine pA 10 (some 56) (bz 13 2047) HT_ ?_
         refine pA 11 (some 57) (bz 13 4095) HT_ ?_
         have hS17 := Kd.S_mono (oS (W := w16) HO1) (fun _ _ => trivial : ∀ k, iv w7 w9 k → (fun _ => True) k)
         have hSE := Kd.S_elem hS17 z48 x9 c4 c3; obtain ⟨okj, cj, hcl2, hM2, hcc2, hfr2, hokj, hH2⟩ := hSE; have hH3 := Kd.H_below (Kd.H_widen hH2) (UpW.out : Below w16.heap.size w16 w17)
         have hP := Kd.H_seg hH3 c4 c3 (seg := [.int .i64 u0, .string u1, .slice Ao17 u2.length co17]) (j := 0) (show 0 + 3 ≤ 3 by decide) (by intro q hq; simp at hq; rcases hq with rfl | rfl | rfl <;> rfl)
         obtain ⟨hH4, hg4⟩ := hP
         have hgo17 : w17.heap[go]? = w9.heap[go]? := (by obtain ⟨cs_, hb_⟩ := hgo; rw [hb_]; exact (UpG.out (w := w9) (W := w17) 48 cs_ hb_))
         have i3_ : ∀ j, w17.frozen? ⟨go, j, none⟩ = false := (by obtain ⟨cs_, hb_⟩ := hgo; rw [← hgo17] at hb_; exact fun j => blk_frozen hb_ _)
         have i30_ := i3_ ((x9 : Int).toNat * 3); have i31_ := i3_ ((x9 : Int).toNat * 3 + 1); have i32_ := i3_ ((x9 : Int).toNat * 3 + 2)
         refine oZ 12 (bz 13 8191) HT_ rfl (w1 := w17.setCells go ((x9 : Int).toNat * 3 + 0) [.int .i64 u0, .string u1, .slice Ao17 u2.length co17]) ?_
         have hH4' : Kd.H k48 48 (w17.setCells go ((x9 : Int).toNat * 3 + 0) [.int .i64 u0, .string u1, .slice Ao17 u2.length co17]) w7.heap.size (fun _ => True) (.slice (some ⟨go, 0, none⟩) out.length co1) out x9 (fun k => okj k ∨ True ∧ w16.heap.size ≤ k) [.int .i64 u0, .string u1, .slice Ao17 u2.length co17] := (by have e_ : cj.take 0 ++ [.int .i64 u0, .string u1, .slice Ao17 u2.length co17] ++ cj.drop (0 + ([.int .i64 u0, .string u1, .slice Ao17 u2.length co17] : List Value).length) = [.int .i64 u0, .string u1, .slice Ao17 u2.length co17] := (by rw [List.drop_of_length_le (by rw [hcl2]; exact Nat.le_refl _)]; rfl); rw [e_] at hH4; exact hH4)
         have hg5 : w17.grownBy (w17.setCells go ((x9 : Int).toNat * 3 + 0) [.int .i64 u0, .string u1, .slice Ao17 u2.length co17]) (some go) := hg4; clear hH4 hg4
         generalize w17.setCells go ((x9 : Int).toNat * 3 + 0) [.int .i64 u0, .string u1, .slice Ao17 u2.length co17] = w18 at hH4' hg5 ⊢
         have gw16 : go < w16.heap.size := Nat.lt_of_lt_of_le gl_ (SzI.out : w9.heap.size ≤ w16.heap.size)
         have g18 := Kd.R_lower (Kd.R_grown HO17.out hg5 (fun k h1 h2 => absurd (Option.some.inj h2) (fun e_ => by have := h1.1; omega))) (SzI.out : w7.heap.size ≤ w16.heap.size)
         have hS18 := Kd.H_back hH4' (k48_mkM _ _ _ (⟨u0, u1, u2⟩ : S48) g18) (fun k h1 => .inr ⟨trivial, h1.1⟩)
         rw [← NZ.out, ← ZL] at hS18
         have HO18 := Aside0.mk hS18
         have KB18 : KB w17 go w18 := ⟨⟨hg5.size, fun i_ hi_ hn_ _ => hg5.block i_ hi_ (fun e_ => hn_ (Option.some.inj e_))⟩⟩
         have LB18 : LB w7 w18 := ⟨pw_below_grown (UpW.out : Below w7.heap.size w7 w17) _ (SzI.out : w7.heap.size ≤ w17.heap.size) hg5 (fun k_ e_ => by have := Option.some.inj e_; omega)⟩
         have BK18 : BkI gb3 w18 #[.int .i64 a0_0, .int .i64 a0_1] 32 := ⟨blk_below (xB : w7.heap[gb3]? = some (.cells #[.int .i64 a0_0, .int .i64 a0_1] 32 (0, 0))) LB18.out⟩; clear hH4' hg5 g18 hS18 hH3 hH2 i3_ i30_ i31_ i32_ hgo17 hS17
         rw [← ZL]
         refine done_ (done_of HT_.out (by kernel_rfl)) ?_
         unfold impl_TableAdd.fin at H
         obtain ⟨b9, A90, H⟩ := oB H
         (try dsimp only at H)
         have H' := Aside0.mk H; clear H
         go_upto_if 67 with (first | ((with_reducible refine gate_callee (f := 46) rfl ?_); refine gC (some 66) Tryz.func46 (impl_TableOk.calls (hr1 := sC HO18) (hc1 := sL HO18) (w := _) (h := A90.out)) ?_; intro w90 _))
         have H := H'.out; clear H'
         by_cases c90 : b9 = true
         ·
           subst c90
           rw [if_pos rfl] at H
           simp only [Option.some.injEq, Prod.mk.injEq] at H
           obtain ⟨rfl, rfl⟩ := H
           go_wp2
           go_ret2
           exact ⟨_, by first | rfl | (simp; done) | (simp; exact ZL.symm), rS HO18, UpW.out⟩
         rw [if_neg c90] at H
         replace c90 := Bool.eq_false_iff.mpr c90; subst c90; obtain ⟨t9, A91, H⟩ := oB H
         (try dsimp only at H)
         simp only [Option.some.injEq, Prod.mk.injEq] at H
         obtain ⟨rfl, rfl⟩ := H
         go_wp2_with (first | ((with_reducible refine gate_callee (f := 82) rfl ?_); refine gS1 (some 69) Tryz.func82 (impl_copyTable.calls (hr0 := pC HR1) (hc0 := HC1.out) (w := _) (h := A91.out)) ?_; intro Ao91 co91 w91 _ HO91))
         go_ret2
         exact ⟨_, y0_19, rS HO91, UpW.out⟩
       rw [if_neg c15] at H
       have c15b0 : (cn == 0) = false := beq_eq_false_iff_ne.mpr c15; obtain ⟨⟨y0, y1, y2⟩, A40, H⟩ := oB H
       (try dsimp only at H)
       by_cases c40 : out.length < 2932031007402
       rotate_left
       ·
         rw [if_neg c40] at H
         exact absurd H (by simp)
       rw [if_pos c40] at H
       have LN := Aside0.mk c40; clear c40; obtain ⟨zs, hzs⟩ : ∃ zs : List S48, zs = (out.take (x9 : Int).toNat ++ (⟨y0, y1, y2⟩ : S48) :: out.drop (x9 : Int).toNat) := ⟨_, rfl⟩
       rw [← hzs] at H
       have NZ := Aside0.mk hzs; clear hzs
       have XI : (x9 : Int) = (((x9 : Int).toNat : Nat) : Int) := (by omega)
       have XL : (x9 : Int).toNat ≤ out.length := (by have := HX.out; omega)
       obtain ⟨xn, hxn⟩ : ∃ n : Nat, n = (x9 : Int).toNat := ⟨_, rfl⟩
       rw [← hxn] at XI XL NZ
       clear hxn; replace XI := Aside0.mk XI; replace XL := Aside0.mk XL
       try simp only [c15b0]
       unfold impl_TableAdd.fin at H
       obtain ⟨b9, A90, H⟩ := oB H
       (try dsimp only at H)
       have H' := Aside0.mk H; clear H
       go_upto_if 67 with (first | ((with_reducible refine gate_callee (f := 85) rfl ?_); refine gC1 (some 61) Tryz.func85 (impl_copyPart.calls (hr0_2 := pC HR2_2) (hc0_2 := HC2_2.out) (w := _) (h := A40.out)) ?_; intro Ao40 co40 w40 _ HO40) | ((with_reducible refine gd 62 ?_); refine impl_TableAdd.lit #[.int .i64 y0, .string y1, .slice Ao40 y2.length co40] 48 ?_; intro gl hgl w41 hb41 hbl; have UB41 : UB w40 w41 := ⟨hbl⟩; have BL := Aside0.mk hb41; have HGL := Aside0.mk hgl; clear hbl hb41 hgl) | ((with_reducible refine gate_callee (f := 84) rfl ?_); refine gB (some 63) Tryz.func84 #[.slice (some ⟨go, 0, none⟩) out.length co1, .int .i64 x9, .slice (some ⟨gl, 0, none⟩) 1 1] ?_; rw [XI.out]; (with_reducible refine (InsP.ins k48 rfl _ w7.heap.size (iv w7 w9) (iv w15 w40) _ out xn (⟨y0, y1, y2⟩ : S48) gl [.int .i64 y0, .string y1, .slice Ao40 y2.length co40] ?j1 ?j2 XL.out LN.out ?j3 ?j4 ?j5 ?j6).mono ?_); (case j1 => exact oS HO1); (case j2 => exact SzI.out); (case j3 => exact BL.out); (case j4 => exact k48_mkM _ _ _ (⟨y0, y1, y2⟩ : S48) (Kd.R_lower (oR (w := w7) HO40) (Nat.le_refl _))); (case j5 => exact fun k h1 h2 => absurd (Nat.lt_of_lt_of_le h2.2 (SzI.out : w9.heap.size ≤ w15.heap.size)) (Nat.not_lt.2 h1.1)); (case j6 => exact fun e_ => absurd (Kd.S_lt HO1.out _ e_.symm) (Nat.not_lt.2 (by rw [HGL.out]; exact SzI.out))); rintro e w42 ⟨v42, rfl, ho42, hb42⟩; (first | refine ⟨_, rfl, ?_⟩ | dsimp only); obtain ⟨A42, c42, ev42⟩ := Kd.S_slice ho42; subst ev42; rw [← NZ.out] at ho42 ⊢; have HO42 := Aside0.mk ho42; have LB42 : LB w7 w42 := ⟨(below_weaken (UpW.out : Below w7.heap.size w7 w41) (Nat.le_refl _) hb42)⟩; have BK42 : BkI gb3 w42 #[.int .i64 a0_0, .int .i64 a0_1] 32 := ⟨blk_below (xB : w7.heap[gb3]? = some (.cells #[.int .i64 a0_0, .int .i64 a0_1] 32 (0, 0))) LB42.out⟩; clear ho42 hb42) | ((with_reducible refine gate_callee (f := 46) rfl ?_); refine gC (some 66) Tryz.func46 (impl_TableOk.calls (hr1 := sC HO42) (hc1 := sL HO42) (w := _) (h := A90.out)) ?_; intro w90 _))
       have H := H'.out; clear H'
       by_cases c90 : b9 = true
       ·
         subst c90
         rw [if_pos rfl] at H
         simp only [Option.some.injEq, Prod.mk.injEq] at H
         obtain ⟨rfl, rfl⟩ := H
         go_wp2
         go_ret2
         exact ⟨_, by first | rfl | (simp; done) | (simp; exact ZL.symm), rS HO42, UpW.out⟩
       rw [if_neg c90] at H
       replace c90 := Bool.eq_false_iff.mpr c90; subst c90; obtain ⟨t9, A91, H⟩ := oB H
       (try dsimp only at H)
       simp only [Option.some.injEq, Prod.mk.injEq] at H
       obtain ⟨rfl, rfl⟩ := H
       go_wp2_with (first | ((with_reducible refine gate_callee (f := 82) rfl ?_); refine gS1 (some 69) Tryz.func82 (impl_copyTable.calls (hr0 := pC HR1) (hc0 := HC1.out) (w := _) (h := A91.out)) ?_; intro Ao91 co91 w91 _ HO91))
       go_ret2
       exact ⟨_, y0_19, rS HO91, UpW.out⟩
     rw [if_neg c3] at H
     obtain rfl := Option.some.inj H; have c3b0 : decide (x9 < (out.length : Int)) = false := decide_eq_false c3; clear H; have H := HC.out; clear HC
     rw [if_neg c3] at H
     try go_wp2
     refine sB [] impl_TableAdd.tab5 impl_TableAdd.bits5 ?_
     intro w12 _ HT_ HW_
     refine pA 0 (some 18) (bz 13 1) HT_ ?_
     refine pA 1 (some 19) (bz 13 3) HT_ ?_
     refine pA 2 (some 20) (bz 13 7) HT_ ?_
     refine pA 3 (some 21) (bz 13 15) HT_ ?_
     refine pA 4 (some 22) (bz 13 31) HT_ ?_
     refine pU 5 (some 23) (bz 13 63) HT_ ?_
     refine pU 6 (some 24) (bz 13 127) HT_ ?_
     refine pU 7 (some 25) (bz 13 255) HT_ ?_
     refine pU 8 (some 26) (bz 13 511) HT_ ?_
     refine pU 9 (some 27) (bz 13 1023) HT_ ?_
     refine pU 10 (some 28) (bz 13 2047) HT_ ?_
     refine pU 11 (some 29) (bz 13 4095) HT_ ?_
     refine pA 12 (some 30) (bz 13 8191) HT_ ?_
     refine done_ (done_of HT_.out (by kernel_rfl)) ?_
     try go_wp2
     refine sB [] impl_TableAdd.tab7 impl_TableAdd.bits7 ?_
     intro w14 _ HT_ HW_
     refine pA 0 (some 33) (bz 13 1) HT_ ?_
     refine pA 1 (some 34) (bz 13 3) HT_ ?_
     refine pA 2 (some 35) (bz 13 7) HT_ ?_
     refine pA 3 (some 36) (bz 13 15) HT_ ?_
     refine pA 4 (some 37) (bz 13 31) HT_ ?_
     refine pU 5 (some 38) (bz 13 63) HT_ ?_
     refine pU 6 (some 39) (bz 13 127) HT_ ?_
     refine pU 7 (some 40) (bz 13 255) HT_ ?_
     refine pU 8 (some 41) (bz 13 511) HT_ ?_
     refine pU 9 (some 42) (bz 13 1023) HT_ ?_
     refine pU 10 (some 43) (bz 13 2047) HT_ ?_
     refine pU 11 (some 44) (bz 13 4095) HT_ ?_
     refine pA 12 (some 45) (bz 13 8191) HT_ ?_
     refine done_ (done_of HT_.out (by kernel_rfl)) ?_
     obtain ⟨⟨y0, y1, y2⟩, A40, H⟩ := oB H
     (try dsimp only at H)
     by_cases c40 : out.length < 2932031007402
     rotate_left
     ·
       rw [if_neg c40] at H
       exact absurd H (by simp)
     rw [if_pos c40] at H
     have LN := Aside0.mk c40; clear c40; obtain ⟨zs, hzs⟩ : ∃ zs : List S48, zs = (out.take (x9 : Int).toNat ++ (⟨y0, y1, y2⟩ : S48) :: out.drop (x9 : Int).toNat) := ⟨_, rfl⟩
     rw [← hzs] at H
     have NZ := Aside0.mk hzs; clear hzs
     have XI : (x9 : Int) = (((x9 : Int).toNat : Nat) : Int) := (by omega)
     have XL : (x9 : Int).toNat ≤ out.length := (by have := HX.out; omega)
     obtain ⟨xn, hxn⟩ : ∃ n : Nat, n = (x9 : Int).toNat := ⟨_, rfl⟩
     rw [← hxn] at XI XL NZ
     clear hxn; replace XI := Aside0.mk XI; replace XL := Aside0.mk XL; clear c3b0
     unfold impl_TableAdd.fin at H
     obtain ⟨b9, A90, H⟩ := oB H
     (try dsimp only at H)
     have H' := Aside0.mk H; clear H
     go_upto_if 67 with (first | ((with_reducible refine gate_callee (f := 85) rfl ?_); refine gC1 (some 61) Tryz.func85 (impl_copyPart.calls (hr0_2 := pC HR2_2) (hc0_2 := HC2_2.out) (w := _) (h := A40.out)) ?_; intro Ao40 co40 w40 _ HO40) | ((with_reducible refine gd 62 ?_); refine impl_TableAdd.lit #[.int .i64 y0, .string y1, .slice Ao40 y2.length co40] 48 ?_; intro gl hgl w41 hb41 hbl; have UB41 : UB w40 w41 := ⟨hbl⟩; have BL := Aside0.mk hb41; have HGL := Aside0.mk hgl; clear hbl hb41 hgl) | ((with_reducible refine gate_callee (f := 84) rfl ?_); refine gB (some 63) Tryz.func84 #[.slice Ao1 out.length co1, .int .i64 x9, .slice (some ⟨gl, 0, none⟩) 1 1] ?_; rw [XI.out]; (with_reducible refine (InsP.ins k48 rfl _ w7.heap.size (iv w7 w9) (iv w14 w40) _ out xn (⟨y0, y1, y2⟩ : S48) gl [.int .i64 y0, .string y1, .slice Ao40 y2.length co40] ?j1 ?j2 XL.out LN.out ?j3 ?j4 ?j5 ?j6).mono ?_); (case j1 => exact oS HO1); (case j2 => exact SzI.out); (case j3 => exact BL.out); (case j4 => exact k48_mkM _ _ _ (⟨y0, y1, y2⟩ : S48) (Kd.R_lower (oR (w := w7) HO40) (Nat.le_refl _))); (case j5 => exact fun k h1 h2 => absurd (Nat.lt_of_lt_of_le h2.2 (SzI.out : w9.heap.size ≤ w14.heap.size)) (Nat.not_lt.2 h1.1)); (case j6 => exact fun e_ => absurd (Kd.S_lt HO1.out _ e_.symm) (Nat.not_lt.2 (by rw [HGL.out]; exact SzI.out))); rintro e w42 ⟨v42, rfl, ho42, hb42⟩; (first | refine ⟨_, rfl, ?_⟩ | dsimp only); obtain ⟨A42, c42, ev42⟩ := Kd.S_slice ho42; subst ev42; rw [← NZ.out] at ho42 ⊢; have HO42 := Aside0.mk ho42; have LB42 : LB w7 w42 := ⟨(below_weaken (UpW.out : Below w7.heap.size w7 w41) (Nat.le_refl _) hb42)⟩; have BK42 : BkI gb3 w42 #[.int .i64 a0_0, .int .i64 a0_1] 32 := ⟨blk_below (xB : w7.heap[gb3]? = some (.cells #[.int .i64 a0_0, .int .i64 a0_1] 32 (0, 0))) LB42.out⟩; clear ho42 hb42) | ((with_reducible refine gate_callee (f := 46) rfl ?_); refine gC (some 66) Tryz.func46 (impl_TableOk.calls (hr1 := sC HO42) (hc1 := sL HO42) (w := _) (h := A90.out)) ?_; intro w90 _))
     have H := H'.out; clear H'
     by_cases c90 : b9 = true
     ·
       subst c90
       rw [if_pos rfl] at H
       simp only [Option.some.injEq, Prod.mk.injEq] at H
       obtain ⟨rfl, rfl⟩ := H
       go_wp2
       go_ret2
       exact ⟨_, by first | rfl | (simp; done) | (simp; exact ZL.symm), rS HO42, UpW.out⟩
     rw [if_neg c90] at H
     replace c90 := Bool.eq_false_iff.mpr c90; subst c90; obtain ⟨t9, A91, H⟩ := oB H
     (try dsimp only at H)
     simp only [Option.some.injEq, Prod.mk.injEq] at H
     obtain ⟨rfl, rfl⟩ := H
     go_wp2_with (first | ((with_reducible refine gate_callee (f := 82) rfl ?_); refine gS1 (some 69) Tryz.func82 (impl_copyTable.calls (hr0 := pC HR1) (hc0 := HC1.out) (w := _) (h := A91.out)) ?_; intro Ao91 co91 w91 _ HO91))
     go_ret2
     exact ⟨_, y0_19, rS HO91, UpW.out⟩
def laws_big.f (l0 : List Int) : Option (Bool) := some (decide ((l0.length : Int) > 1048576))
theorem laws_big.calls (A0 : Option Addr) (c0 : Nat) (l0 : List Int) (r : Bool) (w : World) (hr0 : Kd.C (Kd.int .u8) w A0 l0.length l0) (hc0 : l0.length ≤ c0) (h : laws_big.f l0 = some r) :
  Calls Tryz.prog 27 #[.slice A0 l0.length c0] w fun e w' => e = .returned (.bool r) ∧ Drawn0 w w' := by
 have HR0 := Aside0.mk hr0; have HC0 := Aside0.mk hc0; clear hr0 hc0; have H := h; unfold laws_big.f at H; clear h; obtain rfl := Option.some.inj H
 go_enter Tryz.func27, Tryz.ntmps27
 go_wp2
 go_ret
 exact ⟨y0_17, y0_15⟩
end Go.Proofs.YtdmjhgogljhfkaaGreatDoor.PFnParts
