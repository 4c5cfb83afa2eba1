import Derived.Test.YtdmjhgogljhfkaaGreatDoorPFnPartsx0
import Derived.Test.YtdmjhgogljhfkaaGreatDoorPFnPartsx4
import Derived.Test.YtdmjhgogljhfkaaGreatDoorPFnPartsx11
import Derived.Test.YtdmjhgogljhfkaaGreatDoorPFnPartsx6
namespace Go.Proofs.YtdmjhgogljhfkaaGreatDoor.PFnParts
open Go.RowKit Go.Proofs.YtdmjhgogljhfkaaGreatDoorW.PrintWords Go.Proofs.YtdmjhgogljhfkaaGreatDoorW.PrintLast Go.Proofs.YtdmjhgogljhfkaaGreatDoorW.PrintMore
attribute [local go_sem] max2_int min2_int max_two min_two max_three min_three max_four min_four
attribute [local go_sem] cell_in frozen_in cell_g cell_p cell_r cell_q
set_option synthInstance.maxSize 1000000
set_option synthInstance.maxHeartbeats 2000000
set_option linter.unusedVariables false
set_option linter.unusedSimpArgs false
set_option maxHeartbeats 8000000
set_option maxRecDepth 100000
def laws_sameInts.l0 : Nat → List Int → List Int → Int → Option (Bool)
 | 0, _, _, _ => none
 | k + 1, x0, x1, x5 => if x5 < (x0.length : Int) then (if 0 ≤ x5 then (if x5 < (x1.length : Int) then (if (rd x0 x5) = (rd x1 x5) then (laws_sameInts.l0 k x0 x1 (wrap64 (x5 + 1))) else (some false)) else (none)) else (none)) else (some true)
def laws_sameInts.f (k : Nat) (l0 : List Int) (l1 : List Int) : Option (Bool) := if (l0.length : Int) = (l1.length : Int) then (laws_sameInts.l0 k l0 l1 0) else (some false)
theorem laws_sameInts.calls (k : Nat) (A0 : Option Addr) (c0 : Nat) (l0 : List Int) (A1 : Option Addr) (c1 : Nat) (l1 : List Int) (r : Bool) (w : World) (hr0 : Kd.C (Kd.int .i64) w A0 l0.length l0) (hc0 : l0.length ≤ c0) (hr1 : Kd.C (Kd.int .i64) w A1 l1.length l1) (hc1 : l1.length ≤ c1) (h : laws_sameInts.f k l0 l1 = some r) :
  Calls Tryz.prog 103 #[.slice A0 l0.length c0, .slice A1 l1.length c1] w fun e w' => e = .returned (.bool r) ∧ Drawn0 w w' := by
 have HR0 := Aside0.mk hr0; have HC0 := Aside0.mk hc0; clear hr0 hc0; have HR1 := Aside0.mk hr1; have HC1 := Aside0.mk hc1; clear hr1 hc1; have H := h; unfold laws_sameInts.f at H; clear h
 by_cases c3 : (l0.length : Int) = (l1.length : Int)
 ·
  rw [if_pos c3] at H
  have c3b0 : ((l0.length : Int) == (l1.length : Int)) = true := beq_iff_eq.mpr c3; have c3b1 : ((l0.length : Int) != (l1.length : Int)) = false := bne_eq_false_iff_eq.mpr c3
  have c3b2 : (l0.length == l1.length) = true := by first | simpa using c3 | (simp at c3 ⊢; omega)
  clear c3; have H' := Aside0.mk H; clear H
  go_enter Tryz.func103, Tryz.ntmps103
  go_wp2
  repeat (go_quiet (fail); try go_wp2)
  go_loopg [5] k (fun kq v5 w' => ∃ (x5_1 : Int), v5 = .int .i64 x5_1 ∧ Aside0 (laws_sameInts.l0 kq l0 l1 x5_1 = some r) ∧ Aside0 (kq ≤ k) ∧ Drawn0 w w')
  case atStart => exact ⟨(0), y0_17, H', ⟨Nat.le_refl _⟩, y0_15⟩
  case round =>
   clear H'
   try clear c1
   try clear p2
   try clear c3
   try clear c3b0
   try clear c3b1
   try clear c3b2
   obtain ⟨x5_1, rfl, HA, HK1, ⟨m1, rfl⟩⟩ := hrel; cases gk with
   | zero => exact absurd HA.out (by simp [laws_sameInts.l0])
   | succ k1 =>
    have H := HA.out; clear HA
    simp only [laws_sameInts.l0] at H
    by_cases c4 : x5_1 < (l0.length : Int)
    ·
     rw [if_pos c4] at H
     have c4b0 : decide (x5_1 < (l0.length : Int)) = true := decide_eq_true c4; clear c4
     by_cases c5 : 0 ≤ x5_1
     rotate_left
     ·
      rw [if_neg c5] at H
      exact absurd H (by simp)
     rw [if_pos c5] at H
     have c5b0 : decide (0 ≤ x5_1) = true := decide_eq_true c5; clear c5
     by_cases c6 : x5_1 < (l1.length : Int)
     rotate_left
     ·
      rw [if_neg c6] at H
      exact absurd H (by simp)
     rw [if_pos c6] at H
     have c6b0 : decide (x5_1 < (l1.length : Int)) = true := decide_eq_true c6; clear c6
     by_cases c7 : (rd l0 x5_1) = (rd l1 x5_1)
     ·
      rw [if_pos c7] at H
      have c7b0 : ((rd l0 x5_1) == (rd l1 x5_1)) = true := beq_iff_eq.mpr c7; have c7b1 : ((rd l0 x5_1) != (rd l1 x5_1)) = false := bne_eq_false_iff_eq.mpr c7; clear c7; have H' := Aside0.mk H; clear H; have p1049 : 0 ≤ (x5_1 : Int) := of_decide_eq_true y0_16; have q1049 : x5_1 < (l0.length : Int) := of_decide_eq_true y0_16; obtain ⟨ad1049, e1049, hx1049_0⟩ := Kd.at_int HR0.out x5_1 p1049 q1049; cases e1049; replace p1049 := eq_true p1049; replace q1049 := eq_true q1049; have p1050 : 0 ≤ (x5_1 : Int) := of_decide_eq_true y0_16; have q1050 : x5_1 < (l1.length : Int) := of_decide_eq_true y0_16; obtain ⟨ad1050, e1050, hx1050_0⟩ := Kd.at_int HR1.out x5_1 p1050 q1050; cases e1050; replace p1050 := eq_true p1050; replace q1050 := eq_true q1050
      go_wp2
      repeat (go_quiet (fail); try go_wp2)
      go_roundg k1
      case measure => have := HK1.out; omega
      case rel => exact ⟨(wrap64 (x5_1 + 1)), y0_17, H', ⟨y0_20⟩, y0_15⟩
     rw [if_neg c7] at H
     have c7b0 : ((rd l0 x5_1) == (rd l1 x5_1)) = false := beq_eq_false_iff_ne.mpr c7; have c7b1 : ((rd l0 x5_1) != (rd l1 x5_1)) = true := bne_iff_ne.mpr c7; obtain rfl := Option.some.inj H; have p1049 : 0 ≤ (x5_1 : Int) := of_decide_eq_true y0_16; have q1049 : x5_1 < (l0.length : Int) := of_decide_eq_true y0_16; obtain ⟨ad1049, e1049, hx1049_0⟩ := Kd.at_int HR0.out x5_1 p1049 q1049; cases e1049; replace p1049 := eq_true p1049; replace q1049 := eq_true q1049; have p1050 : 0 ≤ (x5_1 : Int) := of_decide_eq_true y0_16; have q1050 : x5_1 < (l1.length : Int) := of_decide_eq_true y0_16; obtain ⟨ad1050, e1050, hx1050_0⟩ := Kd.at_int HR1.out x5_1 p1050 q1050; cases e1050; replace p1050 := eq_true p1050; replace q1050 := eq_true q1050
     go_wp2
     repeat (go_quiet (fail); try go_wp2)
     go_ret
     exact ⟨y0_17, y0_15⟩
    rw [if_neg c4] at H
    have c4b0 : decide (x5_1 < (l0.length : Int)) = false := decide_eq_false c4; clear c4; obtain rfl := Option.some.inj H
    go_wp2
    repeat (go_quiet (fail); try go_wp2)
    go_ret
    exact ⟨y0_17, y0_15⟩
 rw [if_neg c3] at H
 have c3b0 : ((l0.length : Int) == (l1.length : Int)) = false := beq_eq_false_iff_ne.mpr c3; have c3b1 : ((l0.length : Int) != (l1.length : Int)) = true := bne_iff_ne.mpr c3
 have c3b2 : (l0.length == l1.length) = false := by first | simpa using c3 | (simp at c3 ⊢; omega)
 obtain rfl := Option.some.inj H
 go_enter Tryz.func103, Tryz.ntmps103
 go_wp2
 repeat (go_quiet (fail); try go_wp2)
 go_ret
 exact ⟨y0_17, y0_15⟩
def laws_samePart.f (k : Nat) (a0_0 : Int) (a0_1 : ByteArray) (l0_2 : List Int) (a1_0 : Int) (a1_1 : ByteArray) (l1_2 : List Int) : Option (Bool) := if a0_0 = a1_0 then (if a0_1.toList = a1_1.toList then ((laws_sameInts.f k l0_2 l1_2).bind fun t1053 => (some t1053)) else (some false)) else (some false)
theorem laws_samePart.calls (k : Nat) (a0_0 : Int) (a0_1 : ByteArray) (A0_2 : Option Addr) (c0_2 : Nat) (l0_2 : List Int) (a1_0 : Int) (a1_1 : ByteArray) (A1_2 : Option Addr) (c1_2 : Nat) (l1_2 : List Int) (r : Bool) (w : World) (hr0_2 : Kd.C (Kd.int .i64) w A0_2 l0_2.length l0_2) (hc0_2 : l0_2.length ≤ c0_2) (hr1_2 : Kd.C (Kd.int .i64) w A1_2 l1_2.length l1_2) (hc1_2 : l1_2.length ≤ c1_2) (h : laws_samePart.f k a0_0 a0_1 l0_2 a1_0 a1_1 l1_2 = some r) :
  Calls Tryz.prog 39 #[.agg #[.int .i64 a0_0, .string a0_1, .slice A0_2 l0_2.length c0_2], .agg #[.int .i64 a1_0, .string a1_1, .slice A1_2 l1_2.length c1_2]] w fun e w' => e = .returned (.bool r) ∧ Below w.heap.size w w' := by
 have hu48 := Tryz.underlying48; have HR0_2 := Aside0.mk hr0_2; have HC0_2 := Aside0.mk hc0_2; clear hr0_2 hc0_2; have HR1_2 := Aside0.mk hr1_2; have HC1_2 := Aside0.mk hc1_2; clear hr1_2 hc1_2; have HB := Aside0.mk (Below.refl w.heap.size w)
 have H := h; unfold laws_samePart.f at H
 clear h
 go_enter Tryz.func39, Tryz.ntmps39
 have H' := Aside0.mk H; clear H
 go_upto_region 1 with (first | ((with_reducible refine gd 2 ?_); refine bL 2 #[.int .i64 a0_0, .string a0_1, .slice A0_2 l0_2.length c0_2] 48 ?_; intro gb1051 w3 _ _ _) | ((with_reducible refine gd 3 ?_); refine bL 3 #[.int .i64 a1_0, .string a1_1, .slice A1_2 l1_2.length c1_2] 48 ?_; intro gb1052 w4 _ _ _))
 have H := H'.out; clear H'
 by_cases c5 : a0_0 = a1_0
 ·
  rw [if_pos c5] at H
  have c5b0 : (a0_0 == a1_0) = true := beq_iff_eq.mpr c5; have c5b1 : (a0_0 != a1_0) = false := bne_eq_false_iff_eq.mpr c5; clear c5
  (first | rw [c5b0] | (simp only [i64_w, i32_w]; rw [c5b0]) | skip)
  by_cases c6 : a0_1.toList = a1_1.toList
  ·
   rw [if_pos c6] at H
   have c6b0 : (a0_1.toList == a1_1.toList) = true := beq_iff_eq.mpr c6; have c6b1 : (a0_1.toList != a1_1.toList) = false := bne_eq_false_iff_eq.mpr c6; clear c6; obtain ⟨t1053, A7, H⟩ := oB H; (try dsimp only at H); obtain rfl := Option.some.inj H
   go_wp2_with (first | (go_at_call 103; refine aD (laws_sameInts.calls (hr0 := pC HR0_2) (hc0 := HC0_2.out) (hr1 := pC HR1_2) (hc1 := HC1_2.out) (w := _) (h := A7.out)) ?_; intro w8 _))
   go_ret
   exact ⟨y0_17, UpW.out⟩
  rw [if_neg c6] at H
  have c6b0 : (a0_1.toList == a1_1.toList) = false := beq_eq_false_iff_ne.mpr c6; have c6b1 : (a0_1.toList != a1_1.toList) = true := bne_iff_ne.mpr c6; obtain rfl := Option.some.inj H
  go_wp2
  go_ret
  exact ⟨y0_17, UpW.out⟩
 rw [if_neg c5] at H
 have c5b0 : (a0_0 == a1_0) = false := beq_eq_false_iff_ne.mpr c5; have c5b1 : (a0_0 != a1_0) = true := bne_iff_ne.mpr c5
 (first | rw [c5b0] | (simp only [i64_w, i32_w]; rw [c5b0]) | skip)
 obtain rfl := Option.some.inj H
 go_wp2
 go_ret
 exact ⟨y0_17, UpW.out⟩
def laws_sameTable.l0 : Nat → List (S48) → List (S48) → Int → Option (Bool)
 | 0, _, _, _ => none
 | k + 1, x0, x1, x5 => if x5 < (x0.length : Int) then (if 0 ≤ x5 then (if x5 < (x1.length : Int) then ((laws_samePart.f k ((rd_T48 x0 x5).f0) ((rd_T48 x0 x5).f1) ((rd_T48 x0 x5).f2) ((rd_T48 x1 x5).f0) ((rd_T48 x1 x5).f1) ((rd_T48 x1 x5).f2)).bind fun t1056 => (if t1056 = true then (laws_sameTable.l0 k x0 x1 (wrap64 (x5 + 1))) else (some false))) else (none)) else (none)) else (some true)
def laws_sameTable.f (k : Nat) (l0 : List (S48)) (l1 : List (S48)) : Option (Bool) := if (l0.length : Int) = (l1.length : Int) then (laws_sameTable.l0 k l0 l1 0) else (some false)
def laws_sameTable.T6 : Bool × List (List Nat × List Nat) := (true, [([], []), ([], []), ([0, 1], [0, 1]), ([2], [2]), ([], []), ([], []), ([4, 5], [4, 5]), ([6], [6]), ([3, 7], [3, 7]), ([8], [8])])
def laws_sameTable.B6 : List Nat := [0, 0, 3, 7, 0, 0, 48, 112, 255, 511]
theorem laws_sameTable.tab6 : rtab .any (opsOf Tryz.f40 6) = laws_sameTable.T6 := by kernel_rfl
theorem laws_sameTable.bits6 : waitsOk laws_sameTable.T6.2 laws_sameTable.B6 = true := by kernel_rfl
theorem laws_sameTable.calls (k : Nat) (A0 : Option Addr) (c0 : Nat) (l0 : List (S48)) (A1 : Option Addr) (c1 : Nat) (l1 : List (S48)) (r : Bool) (w : World) (hr0 : Kd.C k48 w A0 l0.length l0) (hc0 : l0.length ≤ c0) (hr1 : Kd.C k48 w A1 l1.length l1) (hc1 : l1.length ≤ c1) (h : laws_sameTable.f k l0 l1 = some r) :
  Calls Tryz.prog 40 #[.slice A0 l0.length c0, .slice A1 l1.length c1] w fun e w' => e = .returned (.bool r) ∧ Below w.heap.size w w' := by
 have hu48 := Tryz.underlying48; have HR0 := Aside0.mk hr0; have HC0 := Aside0.mk hc0; clear hr0 hc0; have HR1 := Aside0.mk hr1; have HC1 := Aside0.mk hc1; clear hr1 hc1; have HB := Aside0.mk (Below.refl w.heap.size w); have H := h; unfold laws_sameTable.f at H; clear h
 go_enter Tryz.func40, Tryz.ntmps40
 have H' := Aside0.mk H; clear H
 go_upto_if 10 with fail
 have H := H'.out; clear H'
 by_cases c3 : (l0.length : Int) = (l1.length : Int)
 ·
  rw [if_pos c3] at H
  have c3b0 : ((l0.length : Int) == (l1.length : Int)) = true := beq_iff_eq.mpr c3; have c3b1 : ((l0.length : Int) != (l1.length : Int)) = false := bne_eq_false_iff_eq.mpr c3
  have c3b2 : (l0.length == l1.length) = true := by first | simpa using c3 | (simp at c3 ⊢; omega)
  clear c3
  (first | rw [c3b0] | (simp only [i64_w, i32_w]; rw [c3b0]) | skip)
  have H' := Aside0.mk H; clear H
  go_wp2
  refine wC ?_; intro w4 _
  go_loopg [5] k (fun kq v5 w' => ∃ (x5_1 : Int), v5 = .int .i64 x5_1 ∧ Aside0 (laws_sameTable.l0 kq l0 l1 x5_1 = some r) ∧ Aside0 (kq ≤ k) ∧ UB w4 w')
  case atStart => exact ⟨(0), y0_17, H', ⟨Nat.le_refl _⟩, ⟨UpW.out⟩⟩
  case round =>
   clear H'; obtain ⟨x5_1, rfl, HA, HK1, _⟩ := hrel; cases gk with
   | zero => exact absurd HA.out (by simp [laws_sameTable.l0])
   | succ k1 =>
    have H := HA.out; clear HA
    simp only [laws_sameTable.l0] at H
    by_cases c5 : x5_1 < (l0.length : Int)
    ·
     rw [if_pos c5] at H
     have c5b0 : decide (x5_1 < (l0.length : Int)) = true := decide_eq_true c5; clear c5
     by_cases c6 : 0 ≤ x5_1
     rotate_left
     ·
      rw [if_neg c6] at H
      exact absurd H (by simp)
     rw [if_pos c6] at H
     have c6b0 : decide (0 ≤ x5_1) = true := decide_eq_true c6; clear c6
     by_cases c7 : x5_1 < (l1.length : Int)
     rotate_left
     ·
      rw [if_neg c7] at H
      exact absurd H (by simp)
     rw [if_pos c7] at H
     have c7b0 : decide (x5_1 < (l1.length : Int)) = true := decide_eq_true c7; clear c7; obtain ⟨t1056, A8, H⟩ := oB H; (try dsimp only at H); have H' := Aside0.mk H; clear H
     try go_wp2
     have p1054 : 0 ≤ (x5_1 : Int) := of_decide_eq_true y0_16; have q1054 : x5_1 < (l0.length : Int) := of_decide_eq_true y0_16; obtain ⟨ad1054, A1054_2, c1054_2, e1054, hx1054_0, hx1054_1, hx1054_2, hl1054_2, hi1054_2⟩ := at_T48 HR0.out x5_1 p1054 q1054; have hr1054_2 := hx1054_2; cases e1054; have i1054_0_ := RdP.mk hx1054_0; have i1054_1_ := RdP.mk hx1054_1; have i1054_2_ := RdP.mk hx1054_2; have HR1054_2 := Aside0.mk hi1054_2; have HC1054_2 := Aside0.mk hl1054_2; clear hi1054_2 hl1054_2; clear hx1054_0 hx1054_1 hx1054_2; replace p1054 := eq_true p1054; replace q1054 := eq_true q1054; have p1055 : 0 ≤ (x5_1 : Int) := of_decide_eq_true y0_16; have q1055 : x5_1 < (l1.length : Int) := of_decide_eq_true y0_16; obtain ⟨ad1055, A1055_2, c1055_2, e1055, hx1055_0, hx1055_1, hx1055_2, hl1055_2, hi1055_2⟩ := at_T48 HR1.out x5_1 p1055 q1055; have hr1055_2 := hx1055_2; cases e1055; have i1055_0_ := RdP.mk hx1055_0; have i1055_1_ := RdP.mk hx1055_1; have i1055_2_ := RdP.mk hx1055_2; have HR1055_2 := Aside0.mk hi1055_2; have HC1055_2 := Aside0.mk hl1055_2; clear hi1055_2 hl1055_2; clear hx1055_0 hx1055_1 hx1055_2; replace p1055 := eq_true p1055; replace q1055 := eq_true q1055
     refine sB [] laws_sameTable.tab6 laws_sameTable.bits6 ?_; intro w9 _ HT_ HW_
     refine pA 0 (some 17) (bz 10 1) HT_ ?_
     refine pA 1 (some 18) (bz 10 3) HT_ ?_
     refine pA 2 (some 19) (bz 10 7) HT_ ?_
     refine tB 3 (some 20) (bz 10 15) HT_ HW_ ?_
     refine pA 4 (some 21) (bz 10 31) HT_ ?_
     refine pA 5 (some 22) (bz 10 63) HT_ ?_
     refine pA 6 (some 23) (bz 10 127) HT_ ?_
     refine tB 7 (some 24) (bz 10 255) HT_ HW_ ?_
     refine o1 8 (some 25) (bz 10 511) HT_ rfl (kC Tryz.func39 (laws_samePart.calls (hr0_2 := pC HR1054_2) (hc0_2 := HC1054_2.out) (hr1_2 := pC HR1055_2) (hc1_2 := HC1055_2.out) (w := _) (h := A8.out)) ?_); intro w10 _
     refine nA (some 25) ?_
     refine pA 9 (some 26) (bz 10 1023) HT_ ?_
     refine done_ (done_of HT_.out (by kernel_rfl)) ?_
     go_upto_if 26 with fail
     have H := H'.out; clear H'
     by_cases c11 : t1056 = true
     ·
      subst c11
      rw [if_pos rfl] at H
      have H' := Aside0.mk H; clear H
      go_wp2
      go_roundg k1
      case measure => have := HK1.out; omega
      case rel => exact ⟨(wrap64 (x5_1 + 1)), y0_17, H', ⟨y0_20⟩, ⟨UpW.out⟩⟩
     replace c11 := Bool.eq_false_iff.mpr c11; subst c11
     rw [if_neg Bool.false_ne_true] at H
     obtain rfl := Option.some.inj H
     go_wp2
     go_ret
     exact ⟨y0_17, UpW.out⟩
    rw [if_neg c5] at H
    have c5b0 : decide (x5_1 < (l0.length : Int)) = false := decide_eq_false c5; clear c5; obtain rfl := Option.some.inj H
    go_wp2
    go_ret
    exact ⟨y0_17, UpW.out⟩
 rw [if_neg c3] at H
 have c3b0 : ((l0.length : Int) == (l1.length : Int)) = false := beq_eq_false_iff_ne.mpr c3; have c3b1 : ((l0.length : Int) != (l1.length : Int)) = true := bne_iff_ne.mpr c3
 have c3b2 : (l0.length == l1.length) = false := by first | simpa using c3 | (simp at c3 ⊢; omega)
 (first | rw [c3b0] | (simp only [i64_w, i32_w]; rw [c3b0]) | skip)
 obtain rfl := Option.some.inj H
 go_wp2
 go_ret
 exact ⟨y0_17, UpW.out⟩
def impl_TableGet.l0 : Nat → Int → ByteArray → List (S48) → Int → Int → Option (Int × ByteArray × List Int)
 | 0, _, _, _, _, _ => none
 | k + 1, x1, x2, x9, x10, x11 => if x11 < x10 then (if 0 ≤ x11 then (if x11 < (x9.length : Int) then (if ((rd_T48 x9 x11).f0) = x1 then (if ((rd_T48 x9 x11).f1).toList = x2.toList then ((impl_copyPart.f ((rd_T48 x9 x11).f0) ((rd_T48 x9 x11).f1) ((rd_T48 x9 x11).f2)).bind fun bt1060 => (some (bt1060.1, bt1060.2.1, bt1060.2.2))) else (impl_TableGet.l0 k x1 x2 x9 x10 (wrap64 (x11 + 1)))) else (impl_TableGet.l0 k x1 x2 x9 x10 (wrap64 (x11 + 1)))) else (none)) else (none)) else (some (x1, x2, ([] : List Int)))
def impl_TableGet.f (k : Nat) (l0 : List (S48)) (a1 : Int) (a2 : ByteArray) : Option (Int × ByteArray × List Int) := impl_TableGet.l0 k a1 a2 l0 (l0.length : Int) 0
theorem impl_TableGet.calls (k : Nat) (A0 : Option Addr) (c0 : Nat) (l0 : List (S48)) (a1 : Int) (a2 : ByteArray) (r1 : Int) (r2 : ByteArray) (r3 : List Int) (w : World) (hr0 : Kd.C k48 w A0 l0.length l0) (hc0 : l0.length ≤ c0) (h : impl_TableGet.f k l0 a1 a2 = some (r1, r2, r3)) :
  Calls Tryz.prog 42 #[.slice A0 l0.length c0, .int .i64 a1, .string a2] w fun e w' => ∃ v2_ : Value, e = .returned (.agg #[.int .i64 r1, .string r2, v2_]) ∧ Kd.R (Kd.int .i64) 3 w' w.heap.size (fun _ => True) v2_ r3 ∧ Below w.heap.size w w' := by
 have hu48 := Tryz.underlying48; have HR0 := Aside0.mk hr0; have HC0 := Aside0.mk hc0; clear hr0 hc0; have HB := Aside0.mk (Below.refl w.heap.size w); have H := h; unfold impl_TableGet.f at H; clear h
 go_enter Tryz.func42, Tryz.ntmps42
 have H' := Aside0.mk H; clear H
 go_wp2_with (first | ((with_reducible refine gd 6 ?_); refine bL 6 #[.int .i64 0, .string (⟨#[]⟩ : ByteArray), .slice none 0 0] 48 ?_; intro gb1057 w4 _ _ _))
 refine wC ?_; intro w5 _
 go_loopg [11] k (fun kq v11 w' => ∃ (x11_1 : Int) (x1058000_1 : Int) (x1058001_1 : ByteArray), v11 = .int .i64 x11_1 ∧ Aside0 (impl_TableGet.l0 kq a1 a2 l0 (l0.length : Int) x11_1 = some (r1, r2, r3)) ∧ Aside0 (kq ≤ k) ∧ BkI gb1057 w' #[.int .i64 x1058000_1, .string x1058001_1, .slice none 0 0] 48 ∧ KL w5 [gb1057] w' ∧ LB w w')
 case atStart => exact ⟨(0), (0), ((⟨#[]⟩ : ByteArray)), y0_17, H', ⟨Nat.le_refl _⟩, ⟨xB⟩, ⟨UpL.out⟩, ⟨UpW.out⟩⟩
 case round =>
  clear H'; obtain ⟨x11_1, x1058000_1, x1058001_1, rfl, HA, HK1, _, _, _⟩ := hrel; cases gk with
  | zero => exact absurd HA.out (by simp [impl_TableGet.l0])
  | succ k1 =>
   have H := HA.out; clear HA
   simp only [impl_TableGet.l0] at H
   by_cases c6 : x11_1 < (l0.length : Int)
   ·
    rw [if_pos c6] at H
    have c6b0 : decide (x11_1 < (l0.length : Int)) = true := decide_eq_true c6; clear c6
    by_cases c7 : 0 ≤ x11_1
    rotate_left
    ·
     rw [if_neg c7] at H
     exact absurd H (by simp)
    rw [if_pos c7] at H
    have c7b0 : decide (0 ≤ x11_1) = true := decide_eq_true c7; clear c7
    by_cases c8 : x11_1 < (l0.length : Int)
    rotate_left
    ·
     rw [if_neg c8] at H
     exact absurd H (by simp)
    rw [if_pos c8] at H
    have c8b0 : decide (x11_1 < (l0.length : Int)) = true := decide_eq_true c8; clear c8; have H' := Aside0.mk H; clear H; have p1058 : 0 ≤ (x11_1 : Int) := of_decide_eq_true y0_16; have q1058 : x11_1 < (l0.length : Int) := of_decide_eq_true y0_16; obtain ⟨ad1058, A1058_2, c1058_2, e1058, hx1058_0, hx1058_1, hx1058_2, hl1058_2, hi1058_2⟩ := at_T48 HR0.out x11_1 p1058 q1058; cases e1058; have i1058_0_ := RdP.mk hx1058_0; have i1058_1_ := RdP.mk hx1058_1; have i1058_2_ := RdP.mk hx1058_2; have HR1058_2 := Aside0.mk hi1058_2; have HC1058_2 := Aside0.mk hl1058_2; clear hi1058_2 hl1058_2; clear hx1058_0 hx1058_1 hx1058_2; replace p1058 := eq_true p1058; replace q1058 := eq_true q1058
    go_upto_region 4 with (first | ((with_reducible refine gd 8 ?_); refine bL 8 #[.int .i64 0, .string (⟨#[]⟩ : ByteArray), .slice none 0 0] 48 ?_; intro gb1059 w9 _ _ _))
    have H := H'.out; clear H'
    by_cases c10 : ((rd_T48 l0 x11_1).f0) = a1
    ·
     rw [if_pos c10] at H
     have c10b0 : (((rd_T48 l0 x11_1).f0) == a1) = true := beq_iff_eq.mpr c10; have c10b1 : (((rd_T48 l0 x11_1).f0) != a1) = false := bne_eq_false_iff_eq.mpr c10; clear c10
     (first | rw [c10b0] | (simp only [i64_w, i32_w]; rw [c10b0]) | skip)
     have H' := Aside0.mk H; clear H
     go_upto_if 24 with fail
     have H := H'.out; clear H'
     by_cases c11 : ((rd_T48 l0 x11_1).f1).toList = a2.toList
     ·
      rw [if_pos c11] at H
      have c11b0 : (((rd_T48 l0 x11_1).f1).toList == a2.toList) = true := beq_iff_eq.mpr c11; have c11b1 : (((rd_T48 l0 x11_1).f1).toList != a2.toList) = false := bne_eq_false_iff_eq.mpr c11; clear c11
      (first | rw [c11b0] | (simp only [i64_w, i32_w]; rw [c11b0]) | skip)
      obtain ⟨⟨t1060, t1061, t1062⟩, A12, H⟩ := oB H; (try dsimp only at H)
      simp only [Option.some.injEq, Prod.mk.injEq] at H
      obtain ⟨rfl, rfl, rfl⟩ := H
      go_wp2_with (first | ((with_reducible refine gate_callee (f := 85) rfl ?_); refine gC1 (some 26) Tryz.func85 (impl_copyPart.calls (hr0_2 := pC HR1058_2) (hc0_2 := HC1058_2.out) (w := _) (h := A12.out)) ?_; intro Ao1063 co1063 w13 _ HO1064))
      refine bodyPost_ret (results_cell_row rfl _ _ gb1057 48 #[.int .i64 t1060, .string t1061, .slice Ao1063 t1062.length co1063] (0, 0) _ rfl xB Tryz.underlying48 rfl (by kernel_rfl)) rfl ?_
      exact ⟨_, y0_17, rR HO1064, UpW.out⟩
     rw [if_neg c11] at H
     have c11b0 : (((rd_T48 l0 x11_1).f1).toList == a2.toList) = false := beq_eq_false_iff_ne.mpr c11; have c11b1 : (((rd_T48 l0 x11_1).f1).toList != a2.toList) = true := bne_iff_ne.mpr c11
     (first | rw [c11b0] | (simp only [i64_w, i32_w]; rw [c11b0]) | skip)
     have H' := Aside0.mk H; clear H
     go_wp2
     go_roundg k1
     case measure => have := HK1.out; omega
     case rel => exact ⟨(wrap64 (x11_1 + 1)), (x1058000_1), (x1058001_1), y0_17, H', ⟨y0_20⟩, ⟨xB⟩, ⟨UpL.out⟩, ⟨UpW.out⟩⟩
    rw [if_neg c10] at H
    have c10b0 : (((rd_T48 l0 x11_1).f0) == a1) = false := beq_eq_false_iff_ne.mpr c10; have c10b1 : (((rd_T48 l0 x11_1).f0) != a1) = true := bne_iff_ne.mpr c10
    (first | rw [c10b0] | (simp only [i64_w, i32_w]; rw [c10b0]) | skip)
    have H' := Aside0.mk H; clear H
    go_upto_if 24 with fail
    have H := H'.out; clear H'; have H' := Aside0.mk H; clear H
    go_wp2
    go_roundg k1
    case measure => have := HK1.out; omega
    case rel => exact ⟨(wrap64 (x11_1 + 1)), (x1058000_1), (x1058001_1), y0_17, H', ⟨y0_20⟩, ⟨xB⟩, ⟨UpL.out⟩, ⟨UpW.out⟩⟩
   rw [if_neg c6] at H
   have c6b0 : decide (x11_1 < (l0.length : Int)) = false := decide_eq_false c6; clear c6
   simp only [Option.some.injEq, Prod.mk.injEq] at H
   obtain ⟨rfl, rfl, rfl⟩ := H
   go_wp2
   refine bodyPost_ret (results_cell_row rfl _ _ gb1057 48 #[.int .i64 a1, .string a2, .slice none 0 0] (0, 0) _ rfl xB Tryz.underlying48 rfl (by kernel_rfl)) rfl ?_
   exact ⟨_, y0_17, Kd.R_nil _ _ _ _ _, UpW.out⟩
def spec_TableGet.l0 : Nat → List (S48) → Int → ByteArray → Int → Option (Int × ByteArray × List Int)
 | 0, _, _, _, _ => none
 | k + 1, x0, x1, x2, x7 => if x7 < (x0.length : Int) then (if 0 ≤ x7 then (if ((rd_T48 x0 x7).f0) = x1 then (if ((rd_T48 x0 x7).f1).toList = x2.toList then ((spec_l10Copy.f ((rd_T48 x0 x7).f0) ((rd_T48 x0 x7).f1) ((rd_T48 x0 x7).f2)).bind fun bt1069 => (some (bt1069.1, bt1069.2.1, bt1069.2.2))) else (spec_TableGet.l0 k x0 x1 x2 (wrap64 (x7 + 1)))) else (spec_TableGet.l0 k x0 x1 x2 (wrap64 (x7 + 1)))) else (none)) else (some (x1, x2, ([] : List Int)))
def spec_TableGet.f (k : Nat) (l0 : List (S48)) (a1 : Int) (a2 : ByteArray) : Option (Int × ByteArray × List Int) := spec_TableGet.l0 k l0 a1 a2 0
theorem spec_TableGet.calls (k : Nat) (A0 : Option Addr) (c0 : Nat) (l0 : List (S48)) (a1 : Int) (a2 : ByteArray) (r1 : Int) (r2 : ByteArray) (r3 : List Int) (w : World) (hr0 : Kd.C k48 w A0 l0.length l0) (hc0 : l0.length ≤ c0) (h : spec_TableGet.f k l0 a1 a2 = some (r1, r2, r3)) :
  Calls Tryz.prog 43 #[.slice A0 l0.length c0, .int .i64 a1, .string a2] w fun e w' => ∃ v2_ : Value, e = .returned (.agg #[.int .i64 r1, .string r2, v2_]) ∧ Kd.R (Kd.int .i64) 3 w' w.heap.size (fun _ => True) v2_ r3 ∧ Below w.heap.size w w' := by
 have hu48 := Tryz.underlying48; have HR0 := Aside0.mk hr0; have HC0 := Aside0.mk hc0; clear hr0 hc0; have HB := Aside0.mk (Below.refl w.heap.size w); have H := h; unfold spec_TableGet.f at H; clear h
 go_enter Tryz.func43, Tryz.ntmps43
 have H' := Aside0.mk H; clear H
 go_wp2_with (first | ((with_reducible refine gd 6 ?_); refine bL 6 #[.int .i64 0, .string (⟨#[]⟩ : ByteArray), .slice none 0 0] 48 ?_; intro gb1065 w4 _ _ _))
 refine wC ?_; intro w5 _
 go_loopg [7] k (fun kq v7 w' => ∃ (x7_1 : Int) (x1066000_1 : Int) (x1066001_1 : ByteArray), v7 = .int .i64 x7_1 ∧ Aside0 (spec_TableGet.l0 kq l0 a1 a2 x7_1 = some (r1, r2, r3)) ∧ Aside0 (kq ≤ k) ∧ BkI gb1065 w' #[.int .i64 x1066000_1, .string x1066001_1, .slice none 0 0] 48 ∧ KL w5 [gb1065] w' ∧ LB w w')
 case atStart => exact ⟨(0), (0), ((⟨#[]⟩ : ByteArray)), y0_17, H', ⟨Nat.le_refl _⟩, ⟨xB⟩, ⟨UpL.out⟩, ⟨UpW.out⟩⟩
 case round =>
  clear H'; obtain ⟨x7_1, x1066000_1, x1066001_1, rfl, HA, HK1, _, _, _⟩ := hrel; cases gk with
  | zero => exact absurd HA.out (by simp [spec_TableGet.l0])
  | succ k1 =>
   have H := HA.out; clear HA
   simp only [spec_TableGet.l0] at H
   by_cases c6 : x7_1 < (l0.length : Int)
   ·
    rw [if_pos c6] at H
    have c6b0 : decide (x7_1 < (l0.length : Int)) = true := decide_eq_true c6; clear c6
    by_cases c7 : 0 ≤ x7_1
    rotate_left
    ·
     rw [if_neg c7] at H
     exact absurd H (by simp)
    rw [if_pos c7] at H
    have c7b0 : decide (0 ≤ x7_1) = true := decide_eq_true c7; clear c7
    by_cases c8 : ((rd_T48 l0 x7_1).f0) = a1
    ·
     rw [if_pos c8] at H
     have c8b0 : (((rd_T48 l0 x7_1).f0) == a1) = true := beq_iff_eq.mpr c8; have c8b1 : (((rd_T48 l0 x7_1).f0) != a1) = false := bne_eq_false_iff_eq.mpr c8; clear c8; have H' := Aside0.mk H; clear H; have p1066 : 0 ≤ (x7_1 : Int) := of_decide_eq_true y0_16; have q1066 : x7_1 < (l0.length : Int) := of_decide_eq_true y0_16; obtain ⟨ad1066, A1066_2, c1066_2, e1066, hx1066_0, hx1066_1, hx1066_2, hl1066_2, hi1066_2⟩ := at_T48 HR0.out x7_1 p1066 q1066; have hr1066_2 := hx1066_2; cases e1066; have i1066_0_ := RdP.mk hx1066_0; have i1066_1_ := RdP.mk hx1066_1; have i1066_2_ := RdP.mk hx1066_2; have HR1066_2 := Aside0.mk hi1066_2; have HC1066_2 := Aside0.mk hl1066_2; clear hi1066_2 hl1066_2; clear hx1066_0 hx1066_1 hx1066_2; replace p1066 := eq_true p1066; replace q1066 := eq_true q1066; have p1067 : 0 ≤ (x7_1 : Int) := of_decide_eq_true y0_16; have q1067 : x7_1 < (l0.length : Int) := of_decide_eq_true y0_16; obtain ⟨ad1067, A1067_2, c1067_2, e1067, hx1067_0, hx1067_1, hx1067_2, hl1067_2, hi1067_2⟩ := at_T48 HR0.out x7_1 p1067 q1067
     obtain rfl : ad1066 = ad1067 := (by injection e1067); obtain ⟨rfl, rfl⟩ : A1066_2 = A1067_2 ∧ c1066_2 = c1067_2 := (by have h_ := Option.some.inj (hr1066_2.symm.trans hx1067_2); injection h_ with h1_ _ h3_; exact ⟨h1_, h3_⟩)
     have i1067_0_ := RdP.mk hx1067_0; have i1067_1_ := RdP.mk hx1067_1; have i1067_2_ := RdP.mk hx1067_2; have HR1067_2 := Aside0.mk hi1067_2; have HC1067_2 := Aside0.mk hl1067_2; clear hi1067_2 hl1067_2; clear hx1067_0 hx1067_1 hx1067_2; replace p1067 := eq_true p1067; replace q1067 := eq_true q1067
     go_upto_if 29 with fail
     have H := H'.out; clear H'
     by_cases c9 : ((rd_T48 l0 x7_1).f1).toList = a2.toList
     ·
      rw [if_pos c9] at H
      have c9b0 : (((rd_T48 l0 x7_1).f1).toList == a2.toList) = true := beq_iff_eq.mpr c9; have c9b1 : (((rd_T48 l0 x7_1).f1).toList != a2.toList) = false := bne_eq_false_iff_eq.mpr c9; clear c9
      (first | rw [c9b0] | (simp only [i64_w, i32_w]; rw [c9b0]) | skip)
      obtain ⟨⟨t1069, t1070, t1071⟩, A10, H⟩ := oB H; (try dsimp only at H)
      simp only [Option.some.injEq, Prod.mk.injEq] at H
      obtain ⟨rfl, rfl, rfl⟩ := H; have p1068 : 0 ≤ (x7_1 : Int) := of_decide_eq_true y0_16; have q1068 : x7_1 < (l0.length : Int) := of_decide_eq_true y0_16; obtain ⟨ad1068, A1068_2, c1068_2, e1068, hx1068_0, hx1068_1, hx1068_2, hl1068_2, hi1068_2⟩ := at_T48 HR0.out x7_1 p1068 q1068
      obtain rfl : ad1066 = ad1068 := (by injection e1068); obtain ⟨rfl, rfl⟩ : A1066_2 = A1068_2 ∧ c1066_2 = c1068_2 := (by have h_ := Option.some.inj (hr1066_2.symm.trans hx1068_2); injection h_ with h1_ _ h3_; exact ⟨h1_, h3_⟩)
      have i1068_0_ := RdP.mk hx1068_0; have i1068_1_ := RdP.mk hx1068_1; have i1068_2_ := RdP.mk hx1068_2; have HR1068_2 := Aside0.mk hi1068_2; have HC1068_2 := Aside0.mk hl1068_2; clear hi1068_2 hl1068_2; clear hx1068_0 hx1068_1 hx1068_2; replace p1068 := eq_true p1068; replace q1068 := eq_true q1068
      go_wp2_with (first | ((with_reducible refine gate_callee (f := 78) rfl ?_); refine gC1 (some 34) Tryz.func78 (spec_l10Copy.calls (hr0_2 := pC HR1068_2) (hc0_2 := HC1068_2.out) (w := _) (h := A10.out)) ?_; intro Ao1072 co1072 w11 _ HO1073))
      refine bodyPost_ret (results_cell_row rfl _ _ gb1065 48 #[.int .i64 t1069, .string t1070, .slice Ao1072 t1071.length co1072] (0, 0) _ rfl xB Tryz.underlying48 rfl (by kernel_rfl)) rfl ?_
      exact ⟨_, y0_17, rR HO1073, UpW.out⟩
     rw [if_neg c9] at H
     have c9b0 : (((rd_T48 l0 x7_1).f1).toList == a2.toList) = false := beq_eq_false_iff_ne.mpr c9; have c9b1 : (((rd_T48 l0 x7_1).f1).toList != a2.toList) = true := bne_iff_ne.mpr c9
     (first | rw [c9b0] | (simp only [i64_w, i32_w]; rw [c9b0]) | skip)
     have H' := Aside0.mk H; clear H
     go_wp2
     go_roundg k1
     case measure => have := HK1.out; omega
     case rel => exact ⟨(wrap64 (x7_1 + 1)), (x1066000_1), (x1066001_1), y0_17, H', ⟨y0_20⟩, ⟨xB⟩, ⟨UpL.out⟩, ⟨UpW.out⟩⟩
    rw [if_neg c8] at H
    have c8b0 : (((rd_T48 l0 x7_1).f0) == a1) = false := beq_eq_false_iff_ne.mpr c8; have c8b1 : (((rd_T48 l0 x7_1).f0) != a1) = true := bne_iff_ne.mpr c8; have H' := Aside0.mk H; clear H; have p1066 : 0 ≤ (x7_1 : Int) := of_decide_eq_true y0_16; have q1066 : x7_1 < (l0.length : Int) := of_decide_eq_true y0_16; obtain ⟨ad1066, A1066_2, c1066_2, e1066, hx1066_0, hx1066_1, hx1066_2, hl1066_2, hi1066_2⟩ := at_T48 HR0.out x7_1 p1066 q1066; have hr1066_2 := hx1066_2; cases e1066; have i1066_0_ := RdP.mk hx1066_0; have i1066_1_ := RdP.mk hx1066_1; have i1066_2_ := RdP.mk hx1066_2; have HR1066_2 := Aside0.mk hi1066_2; have HC1066_2 := Aside0.mk hl1066_2; clear hi1066_2 hl1066_2; clear hx1066_0 hx1066_1 hx1066_2; replace p1066 := eq_true p1066; replace q1066 := eq_true q1066
    go_upto_if 29 with fail
    have H := H'.out; clear H'; have H' := Aside0.mk H; clear H
    go_wp2
    go_roundg k1
    case measure => have := HK1.out; omega
    case rel => exact ⟨(wrap64 (x7_1 + 1)), (x1066000_1), (x1066001_1), y0_17, H', ⟨y0_20⟩, ⟨xB⟩, ⟨UpL.out⟩, ⟨UpW.out⟩⟩
   rw [if_neg c6] at H
   have c6b0 : decide (x7_1 < (l0.length : Int)) = false := decide_eq_false c6; clear c6
   simp only [Option.some.injEq, Prod.mk.injEq] at H
   obtain ⟨rfl, rfl, rfl⟩ := H
   go_wp2
   refine bodyPost_ret (results_cell_row rfl _ _ gb1065 48 #[.int .i64 a1, .string a2, .slice none 0 0] (0, 0) _ rfl xB Tryz.underlying48 rfl (by kernel_rfl)) rfl ?_
   exact ⟨_, y0_17, Kd.R_nil _ _ _ _ _, UpW.out⟩
def impl_TableDrop.l0 : Nat → Int → List (S48) → List (S48) → Int → Int → Option ((List (S48)))
 | 0, _, _, _, _, _ => none
 | k + 1, x1, x5, x8, x9, x10 => if x10 < x9 then (if 0 ≤ x10 then (if x10 < (x8.length : Int) then (if ((rd_T48 x8 x10).f0) ≥ x1 then ((impl_copyPart.f ((rd_T48 x8 x10).f0) ((rd_T48 x8 x10).f1) ((rd_T48 x8 x10).f2)).bind fun bt1076 => (if x5.length < 2932031007402 then (impl_TableDrop.l0 k x1 (x5 ++ [(⟨bt1076.1, bt1076.2.1, bt1076.2.2⟩ : S48)]) x8 x9 (wrap64 (x10 + 1))) else (none))) else (impl_TableDrop.l0 k x1 x5 x8 x9 (wrap64 (x10 + 1)))) else (none)) else (none)) else (some x5)
def impl_TableDrop.f (k : Nat) (l0 : List (S48)) (a1 : Int) : Option ((List (S48))) := impl_TableDrop.l0 k a1 ([] : List (S48)) l0 (l0.length : Int) 0
theorem impl_TableDrop.calls (k : Nat) (A0 : Option Addr) (c0 : Nat) (l0 : List (S48)) (a1 : Int) (r : List (S48)) (w : World) (hr0 : Kd.C k48 w A0 l0.length l0) (hc0 : l0.length ≤ c0) (h : impl_TableDrop.f k l0 a1 = some r) :
  Calls Tryz.prog 44 #[.slice A0 l0.length c0, .int .i64 a1] w fun e w' => ∃ v0_ : Value, e = .returned (v0_) ∧ Kd.S k48 48 w' w.heap.size (fun _ => True) v0_ r ∧ Below w.heap.size w w' := by
 have hu48 := Tryz.underlying48; have HR0 := Aside0.mk hr0; have HC0 := Aside0.mk hc0; clear hr0 hc0; have HB := Aside0.mk (Below.refl w.heap.size w); have H := h; unfold impl_TableDrop.f at H; clear h
 go_enter Tryz.func44, Tryz.ntmps44
 have H' := Aside0.mk H; clear H
 go_wp2
 refine wC ?_; intro w3 _
 go_loopg [5, 10] k (fun kq v5 v10 w' => ∃ (x5_1 : List (S48)) (x10_1 : Int) (Ao5_1 : Option Addr) (co5_1 : Nat), v5 = .slice Ao5_1 x5_1.length co5_1 ∧ v10 = .int .i64 x10_1 ∧ Aside0 (impl_TableDrop.l0 kq a1 x5_1 l0 (l0.length : Int) x10_1 = some r) ∧ Aside0 (kq ≤ k) ∧ Aside0 (Kd.S k48 48 w' w3.heap.size (iv w3 w') (.slice Ao5_1 x5_1.length co5_1) x5_1) ∧ KT w3 [] w3 _ k48 48 w' ∧ LB w w')
 case atStart => exact ⟨(([] : List (S48))), (0), (none), (0), y0_17, y0_17, H', ⟨Nat.le_refl _⟩, ⟨Kd.S_nil _ _ _ _ _⟩, ⟨UpT.out⟩, ⟨UpW.out⟩⟩
 case round =>
  clear H'; obtain ⟨x5_1, x10_1, Ao5_1, co5_1, rfl, rfl, HA, HK1, HO_5, _, _⟩ := hrel; cases gk with
  | zero => exact absurd HA.out (by simp [impl_TableDrop.l0])
  | succ k1 =>
   have H := HA.out; clear HA
   simp only [impl_TableDrop.l0] at H
   by_cases c4 : x10_1 < (l0.length : Int)
   ·
    rw [if_pos c4] at H
    have c4b0 : decide (x10_1 < (l0.length : Int)) = true := decide_eq_true c4; clear c4
    by_cases c5 : 0 ≤ x10_1
    rotate_left
    ·
     rw [if_neg c5] at H
     exact absurd H (by simp)
    rw [if_pos c5] at H
    have c5b0 : decide (0 ≤ x10_1) = true := decide_eq_true c5; clear c5
    by_cases c6 : x10_1 < (l0.length : Int)
    rotate_left
    ·
     rw [if_neg c6] at H
     exact absurd H (by simp)
    rw [if_pos c6] at H
    have c6b0 : decide (x10_1 < (l0.length : Int)) = true := decide_eq_true c6; clear c6; have H' := Aside0.mk H; clear H; have p1074 : 0 ≤ (x10_1 : Int) := of_decide_eq_true y0_16; have q1074 : x10_1 < (l0.length : Int) := of_decide_eq_true y0_16; obtain ⟨ad1074, A1074_2, c1074_2, e1074, hx1074_0, hx1074_1, hx1074_2, hl1074_2, hi1074_2⟩ := at_T48 HR0.out x10_1 p1074 q1074; cases e1074; have i1074_0_ := RdP.mk hx1074_0; have i1074_1_ := RdP.mk hx1074_1; have i1074_2_ := RdP.mk hx1074_2; have HR1074_2 := Aside0.mk hi1074_2; have HC1074_2 := Aside0.mk hl1074_2; clear hi1074_2 hl1074_2; clear hx1074_0 hx1074_1 hx1074_2; replace p1074 := eq_true p1074; replace q1074 := eq_true q1074
    go_upto_if 17 with (first | ((with_reducible refine gd 7 ?_); refine bL 7 #[.int .i64 0, .string (⟨#[]⟩ : ByteArray), .slice none 0 0] 48 ?_; intro gb1075 w7 _ _ _))
    have H := H'.out; clear H'
    by_cases c8 : ((rd_T48 l0 x10_1).f0) ≥ a1
    ·
     rw [if_pos c8] at H
     have c8b0 : decide (a1 ≤ ((rd_T48 l0 x10_1).f0)) = true := decide_eq_true c8; clear c8
     (first | rw [c8b0] | (simp only [i64_w, i32_w]; rw [c8b0]) | skip)
     obtain ⟨⟨t1076, t1077, t1078⟩, A9, H⟩ := oB H; (try dsimp only at H)
     by_cases c10 : x5_1.length < 2932031007402
     rotate_left
     ·
      rw [if_neg c10] at H
      exact absurd H (by simp)
     rw [if_pos c10] at H
     have LMc10 := Aside0.mk c10; clear c10; obtain ⟨y1081, hy1081⟩ : ∃ y_ : List (S48), y_ = (x5_1 ++ [(⟨t1076, t1077, t1078⟩ : S48)]) := ⟨_, rfl⟩
     replace H : (impl_TableDrop.l0 k1 a1 y1081 l0 (l0.length : Int) (wrap64 (x10_1 + 1))) = some r := by first | (rw [hy1081]; with_reducible exact H) | (rw [hy1081]; with_reducible exact (Option.bind_some _ _).symm.trans H) | (rw [hy1081]; exact H) | exact H
     have Ny1081 := Aside0.mk hy1081; clear hy1081; have H' := Aside0.mk H; clear H
     go_wp2_with (first | ((with_reducible refine gate_callee (f := 85) rfl ?_); refine gC1 (some 20) Tryz.func85 (impl_copyPart.calls (hr0_2 := pC HR1074_2) (hc0_2 := HC1074_2.out) (w := _) (h := A9.out)) ?_; intro Ao1079 co1079 w11 _ HO1080) | ((with_reducible refine gate_builtin (b := .append) (xs := #[.tmp 18, .tmp 21]) rfl ?_); at_builtin; refine gAS k48 (.tmp 18) (.tmp 21) 44 48 (.agg #[(.int .i64 0), (.string ⟨#[]⟩), (.slice none 0 0)]) 48 (⟨t1076, t1077, t1078⟩ : S48) [.int .i64 t1076, .string t1077, .slice Ao1079 t1078.length co1079] w3 Ny1081 HO_5 (k48_mkM _ _ _ (⟨t1076, t1077, t1078⟩ : S48) (oR (w := w3) HO1080)) (by have := LMc10.out; omega) ?_ (ht := Tryz.underlying44) (hinfo := info48); intro Ao1082 co1082 w12 _ _ _ HO1083))
     go_roundg k1
     case measure => have := HK1.out; omega
     case rel => exact ⟨(y1081), (wrap64 (x10_1 + 1)), (Ao1082), (co1082), y0_17, y0_17, H', ⟨y0_20⟩, ⟨sJ HO1083⟩, ⟨UpT.out⟩, ⟨UpW.out⟩⟩
    rw [if_neg c8] at H
    have c8b0 : decide (a1 ≤ ((rd_T48 l0 x10_1).f0)) = false := decide_eq_false c8; clear c8
    (first | rw [c8b0] | (simp only [i64_w, i32_w]; rw [c8b0]) | skip)
    have H' := Aside0.mk H; clear H
    go_wp2
    go_roundg k1
    case measure => have := HK1.out; omega
    case rel => exact ⟨(x5_1), (wrap64 (x10_1 + 1)), (Ao5_1), (co5_1), y0_17, y0_17, H', ⟨y0_20⟩, ⟨sJ HO_5⟩, ⟨UpT.out⟩, ⟨UpW.out⟩⟩
   rw [if_neg c4] at H
   have c4b0 : decide (x10_1 < (l0.length : Int)) = false := decide_eq_false c4; clear c4; obtain rfl := Option.some.inj H
   go_wp2
   go_ret
   exact ⟨_, y0_17, rS HO_5, UpW.out⟩
def spec_TableDrop.l0 : Nat → List (S48) → Int → List (S48) → Int → Option ((List (S48)))
 | 0, _, _, _, _ => none
 | k + 1, x0, x1, x5, x6 => if x6 < (x0.length : Int) then (if 0 ≤ x6 then (if ((rd_T48 x0 x6).f0) ≥ x1 then ((spec_l10Copy.f ((rd_T48 x0 x6).f0) ((rd_T48 x0 x6).f1) ((rd_T48 x0 x6).f2)).bind fun bt1089 => (if x5.length < 2932031007402 then (spec_TableDrop.l0 k x0 x1 (x5 ++ [(⟨bt1089.1, bt1089.2.1, bt1089.2.2⟩ : S48)]) (wrap64 (x6 + 1))) else (none))) else (spec_TableDrop.l0 k x0 x1 x5 (wrap64 (x6 + 1)))) else (none)) else (some x5)
def spec_TableDrop.f (k : Nat) (l0 : List (S48)) (a1 : Int) : Option ((List (S48))) := spec_TableDrop.l0 k l0 a1 (([] : List (S48))) 0
theorem spec_TableDrop.calls (k : Nat) (A0 : Option Addr) (c0 : Nat) (l0 : List (S48)) (a1 : Int) (r : List (S48)) (w : World) (hr0 : Kd.C k48 w A0 l0.length l0) (hc0 : l0.length ≤ c0) (h : spec_TableDrop.f k l0 a1 = some r) :
  Calls Tryz.prog 45 #[.slice A0 l0.length c0, .int .i64 a1] w fun e w' => ∃ v0_ : Value, e = .returned (v0_) ∧ Kd.S k48 48 w' w.heap.size (fun _ => True) v0_ r ∧ Below w.heap.size w w' := by
 have hu48 := Tryz.underlying48; have HR0 := Aside0.mk hr0; have HC0 := Aside0.mk hc0; clear hr0 hc0; have HB := Aside0.mk (Below.refl w.heap.size w); have H := h; unfold spec_TableDrop.f at H; clear h; obtain ⟨y1084, hy1084⟩ : ∃ y_ : List (S48), y_ = (([] : List (S48))) := ⟨_, rfl⟩
 replace H : (spec_TableDrop.l0 k l0 a1 y1084 0) = some r := by first | (rw [hy1084]; with_reducible exact H) | (rw [hy1084]; with_reducible exact (Option.bind_some _ _).symm.trans H) | (rw [hy1084]; exact H) | exact H
 have Ny1084 := Aside0.mk hy1084; clear hy1084
 go_enter Tryz.func45, Tryz.ntmps45
 have H' := Aside0.mk H; clear H
 go_wp2_with (first | ((with_reducible refine gate_dst (N := 7) rfl ?_); refine lES 7 48 k48 Ny1084 ?_; intro Ao1085 co1085 w3 _ HO1086))
 refine wC ?_; intro w4 _
 go_loopg [5, 6] k (fun kq v5 v6 w' => ∃ (x5_1 : List (S48)) (x6_1 : Int) (Ao5_1 : Option Addr) (co5_1 : Nat), v5 = .slice Ao5_1 x5_1.length co5_1 ∧ v6 = .int .i64 x6_1 ∧ Aside0 (spec_TableDrop.l0 kq l0 a1 x5_1 x6_1 = some r) ∧ Aside0 (kq ≤ k) ∧ Aside0 (Kd.S k48 48 w' w.heap.size (iv w w') (.slice Ao5_1 x5_1.length co5_1) x5_1) ∧ KT w4 [] w _ k48 48 w' ∧ LB w w')
 case atStart => exact ⟨(y1084), (0), (Ao1085), (co1085), y0_17, y0_17, H', ⟨Nat.le_refl _⟩, ⟨sJ HO1086⟩, ⟨UpT.out⟩, ⟨UpW.out⟩⟩
 case round =>
  clear H'; obtain ⟨x5_1, x6_1, Ao5_1, co5_1, rfl, rfl, HA, HK1, HO_5, _, _⟩ := hrel; have HO_7 := HO1086; cases gk with
  | zero => exact absurd HA.out (by simp [spec_TableDrop.l0])
  | succ k1 =>
   have H := HA.out; clear HA
   simp only [spec_TableDrop.l0] at H
   by_cases c5 : x6_1 < (l0.length : Int)
   ·
    rw [if_pos c5] at H
    have c5b0 : decide (x6_1 < (l0.length : Int)) = true := decide_eq_true c5; clear c5
    by_cases c6 : 0 ≤ x6_1
    rotate_left
    ·
     rw [if_neg c6] at H
     exact absurd H (by simp)
    rw [if_pos c6] at H
    have c6b0 : decide (0 ≤ x6_1) = true := decide_eq_true c6; clear c6; have H' := Aside0.mk H; clear H; have p1087 : 0 ≤ (x6_1 : Int) := of_decide_eq_true y0_16; have q1087 : x6_1 < (l0.length : Int) := of_decide_eq_true y0_16; obtain ⟨ad1087, A1087_2, c1087_2, e1087, hx1087_0, hx1087_1, hx1087_2, hl1087_2, hi1087_2⟩ := at_T48 HR0.out x6_1 p1087 q1087; have hr1087_2 := hx1087_2; cases e1087; have i1087_0_ := RdP.mk hx1087_0; have i1087_1_ := RdP.mk hx1087_1; have i1087_2_ := RdP.mk hx1087_2; have HR1087_2 := Aside0.mk hi1087_2; have HC1087_2 := Aside0.mk hl1087_2; clear hi1087_2 hl1087_2; clear hx1087_0 hx1087_1 hx1087_2; replace p1087 := eq_true p1087; replace q1087 := eq_true q1087
    go_upto_if 20 with fail
    have H := H'.out; clear H'
    by_cases c7 : ((rd_T48 l0 x6_1).f0) ≥ a1
    ·
     rw [if_pos c7] at H
     have c7b0 : decide (a1 ≤ ((rd_T48 l0 x6_1).f0)) = true := decide_eq_true c7; clear c7
     (first | rw [c7b0] | (simp only [i64_w, i32_w]; rw [c7b0]) | skip)
     obtain ⟨⟨t1089, t1090, t1091⟩, A8, H⟩ := oB H; (try dsimp only at H)
     by_cases c9 : x5_1.length < 2932031007402
     rotate_left
     ·
      rw [if_neg c9] at H
      exact absurd H (by simp)
     rw [if_pos c9] at H
     have LMc9 := Aside0.mk c9; clear c9; obtain ⟨y1094, hy1094⟩ : ∃ y_ : List (S48), y_ = (x5_1 ++ [(⟨t1089, t1090, t1091⟩ : S48)]) := ⟨_, rfl⟩
     replace H : (spec_TableDrop.l0 k1 l0 a1 y1094 (wrap64 (x6_1 + 1))) = some r := by first | (rw [hy1094]; with_reducible exact H) | (rw [hy1094]; with_reducible exact (Option.bind_some _ _).symm.trans H) | (rw [hy1094]; exact H) | exact H
     have Ny1094 := Aside0.mk hy1094; clear hy1094; have H' := Aside0.mk H; clear H; have p1088 : 0 ≤ (x6_1 : Int) := of_decide_eq_true y0_16; have q1088 : x6_1 < (l0.length : Int) := of_decide_eq_true y0_16; obtain ⟨ad1088, A1088_2, c1088_2, e1088, hx1088_0, hx1088_1, hx1088_2, hl1088_2, hi1088_2⟩ := at_T48 HR0.out x6_1 p1088 q1088
     obtain rfl : ad1087 = ad1088 := (by injection e1088); obtain ⟨rfl, rfl⟩ : A1087_2 = A1088_2 ∧ c1087_2 = c1088_2 := (by have h_ := Option.some.inj (hr1087_2.symm.trans hx1088_2); injection h_ with h1_ _ h3_; exact ⟨h1_, h3_⟩)
     have i1088_0_ := RdP.mk hx1088_0; have i1088_1_ := RdP.mk hx1088_1; have i1088_2_ := RdP.mk hx1088_2; have HR1088_2 := Aside0.mk hi1088_2; have HC1088_2 := Aside0.mk hl1088_2; clear hi1088_2 hl1088_2; clear hx1088_0 hx1088_1 hx1088_2; replace p1088 := eq_true p1088; replace q1088 := eq_true q1088
     go_wp2_with (first | ((with_reducible refine gate_callee (f := 78) rfl ?_); refine gC1 (some 26) Tryz.func78 (spec_l10Copy.calls (hr0_2 := pC HR1088_2) (hc0_2 := HC1088_2.out) (w := _) (h := A8.out)) ?_; intro Ao1092 co1092 w10 _ HO1093) | ((with_reducible refine gate_builtin (b := .append) (xs := #[.tmp 21, .tmp 27]) rfl ?_); at_builtin; refine gAS k48 (.tmp 21) (.tmp 27) 44 48 (.agg #[(.int .i64 0), (.string ⟨#[]⟩), (.slice none 0 0)]) 48 (⟨t1089, t1090, t1091⟩ : S48) [.int .i64 t1089, .string t1090, .slice Ao1092 t1091.length co1092] w Ny1094 HO_5 (k48_mkM _ _ _ (⟨t1089, t1090, t1091⟩ : S48) (oR (w := w) HO1093)) (by have := LMc9.out; omega) ?_ (ht := Tryz.underlying44) (hinfo := info48); intro Ao1095 co1095 w11 _ _ _ HO1096))
     go_roundg k1
     case measure => have := HK1.out; omega
     case rel => exact ⟨(y1094), (wrap64 (x6_1 + 1)), (Ao1095), (co1095), y0_17, y0_17, H', ⟨y0_20⟩, ⟨sJ HO1096⟩, ⟨UpT.out⟩, ⟨UpW.out⟩⟩
    rw [if_neg c7] at H
    have c7b0 : decide (a1 ≤ ((rd_T48 l0 x6_1).f0)) = false := decide_eq_false c7; clear c7
    (first | rw [c7b0] | (simp only [i64_w, i32_w]; rw [c7b0]) | skip)
    have H' := Aside0.mk H; clear H
    go_wp2
    go_roundg k1
    case measure => have := HK1.out; omega
    case rel => exact ⟨(x5_1), (wrap64 (x6_1 + 1)), (Ao5_1), (co5_1), y0_17, y0_17, H', ⟨y0_20⟩, ⟨sJ HO_5⟩, ⟨UpT.out⟩, ⟨UpW.out⟩⟩
   rw [if_neg c5] at H
   have c5b0 : decide (x6_1 < (l0.length : Int)) = false := decide_eq_false c5; clear c5; obtain rfl := Option.some.inj H
   go_wp2
   go_ret
   exact ⟨_, y0_17, rS HO_5, UpW.out⟩
def impl_Common.l0 : Nat → List Int → Int → List Int → Int → Int → Option (Int)
 | 0, _, _, _, _, _ => none
 | k + 1, x1, x5, x8, x9, x10 => if x10 < x9 then (if 0 ≤ x10 then (if x10 < (x8.length : Int) then ((impl_SetHas.f k x1 (rd x8 x10)).bind fun t1098 => (if t1098 = true then (impl_Common.l0 k x1 (wrap64 (x5 + 1)) x8 x9 (wrap64 (x10 + 1))) else (impl_Common.l0 k x1 x5 x8 x9 (wrap64 (x10 + 1))))) else (none)) else (none)) else (some x5)
def impl_Common.f (k : Nat) (l0 : List Int) (l1 : List Int) : Option (Int) := impl_Common.l0 k l1 0 l0 (l0.length : Int) 0
theorem impl_Common.calls (k : Nat) (A0 : Option Addr) (c0 : Nat) (l0 : List Int) (A1 : Option Addr) (c1 : Nat) (l1 : List Int) (r : Int) (w : World) (hr0 : Kd.C (Kd.int .i64) w A0 l0.length l0) (hc0 : l0.length ≤ c0) (hr1 : Kd.C (Kd.int .i64) w A1 l1.length l1) (hc1 : l1.length ≤ c1) (h : impl_Common.f k l0 l1 = some r) :
  Calls Tryz.prog 52 #[.slice A0 l0.length c0, .slice A1 l1.length c1] w fun e w' => e = .returned (.int .i64 r) ∧ Drawn0 w w' := by
 have HR0 := Aside0.mk hr0; have HC0 := Aside0.mk hc0; clear hr0 hc0; have HR1 := Aside0.mk hr1; have HC1 := Aside0.mk hc1; clear hr1 hc1; have H := h; unfold impl_Common.f at H; clear h; have H' := Aside0.mk H; clear H
 go_enter Tryz.func52, Tryz.ntmps52
 go_wp2
 go_loopg [5, 10] k (fun kq v5 v10 w' => ∃ (x5_1 : Int) (x10_1 : Int), v5 = .int .i64 x5_1 ∧ v10 = .int .i64 x10_1 ∧ Aside0 (impl_Common.l0 kq l1 x5_1 l0 (l0.length : Int) x10_1 = some r) ∧ Aside0 (kq ≤ k) ∧ Drawn0 w w')
 case atStart => exact ⟨(0), (0), y0_17, y0_17, H', ⟨Nat.le_refl _⟩, y0_15⟩
 case round =>
  clear H'
  try clear c1
  try clear p2
  obtain ⟨x5_1, x10_1, rfl, rfl, HA, HK1, ⟨m1, rfl⟩⟩ := hrel; cases gk with
  | zero => exact absurd HA.out (by simp [impl_Common.l0])
  | succ k1 =>
   have H := HA.out; clear HA
   simp only [impl_Common.l0] at H
   by_cases c3 : x10_1 < (l0.length : Int)
   ·
    rw [if_pos c3] at H
    have c3b0 : decide (x10_1 < (l0.length : Int)) = true := decide_eq_true c3; clear c3
    by_cases c4 : 0 ≤ x10_1
    rotate_left
    ·
     rw [if_neg c4] at H
     exact absurd H (by simp)
    rw [if_pos c4] at H
    have c4b0 : decide (0 ≤ x10_1) = true := decide_eq_true c4; clear c4
    by_cases c5 : x10_1 < (l0.length : Int)
    rotate_left
    ·
     rw [if_neg c5] at H
     exact absurd H (by simp)
    rw [if_pos c5] at H
    have c5b0 : decide (x10_1 < (l0.length : Int)) = true := decide_eq_true c5; clear c5; obtain ⟨t1098, A6, H⟩ := oB H; (try dsimp only at H)
    by_cases c7 : t1098 = true
    ·
     subst c7
     rw [if_pos rfl] at H
     have H' := Aside0.mk H; clear H; have p1097 : 0 ≤ (x10_1 : Int) := of_decide_eq_true y0_16; have q1097 : x10_1 < (l0.length : Int) := of_decide_eq_true y0_16; obtain ⟨ad1097, e1097, hx1097_0⟩ := Kd.at_int HR0.out x10_1 p1097 q1097; cases e1097; replace p1097 := eq_true p1097; replace q1097 := eq_true q1097
     go_wp2_with (first | ((with_reducible refine gate_callee (f := 116) rfl ?_); refine gB (some 16) Tryz.func116 #[.slice A1 l1.length c1, .int .i64 (rd l0 x10_1)] ?_; (with_reducible refine (impl_SetHas.calls k1 _ _ l1 (rd l0 x10_1) true _ ?side1 ?side2 A6.out).mono ?_); (case side1 => exact cI HR1.out); (case side2 => exact HC1.out); rintro e w' ⟨rfl, ⟨nd, rfl⟩⟩; refine ⟨_, rfl, ?_⟩))
     go_roundg k1
     case measure => have := HK1.out; omega
     case rel => exact ⟨(wrap64 (x5_1 + 1)), (wrap64 (x10_1 + 1)), y0_17, y0_17, H', ⟨y0_20⟩, y0_15⟩
    replace c7 := Bool.eq_false_iff.mpr c7; subst c7
    rw [if_neg Bool.false_ne_true] at H
    have H' := Aside0.mk H; clear H; have p1097 : 0 ≤ (x10_1 : Int) := of_decide_eq_true y0_16; have q1097 : x10_1 < (l0.length : Int) := of_decide_eq_true y0_16; obtain ⟨ad1097, e1097, hx1097_0⟩ := Kd.at_int HR0.out x10_1 p1097 q1097; cases e1097; replace p1097 := eq_true p1097; replace q1097 := eq_true q1097
    go_wp2_with (first | ((with_reducible refine gate_callee (f := 116) rfl ?_); refine gB (some 16) Tryz.func116 #[.slice A1 l1.length c1, .int .i64 (rd l0 x10_1)] ?_; (with_reducible refine (impl_SetHas.calls k1 _ _ l1 (rd l0 x10_1) false _ ?side1 ?side2 A6.out).mono ?_); (case side1 => exact cI HR1.out); (case side2 => exact HC1.out); rintro e w' ⟨rfl, ⟨nd, rfl⟩⟩; refine ⟨_, rfl, ?_⟩))
    go_roundg k1
    case measure => have := HK1.out; omega
    case rel => exact ⟨(x5_1), (wrap64 (x10_1 + 1)), y0_17, y0_17, H', ⟨y0_20⟩, y0_15⟩
   rw [if_neg c3] at H
   have c3b0 : decide (x10_1 < (l0.length : Int)) = false := decide_eq_false c3; clear c3; obtain rfl := Option.some.inj H
   go_wp2
   go_ret
   exact ⟨y0_17, y0_15⟩
end Go.Proofs.YtdmjhgogljhfkaaGreatDoor.PFnParts
