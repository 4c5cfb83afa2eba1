import Derived.Test.YtdmjhgogljhfkaaGreatDoorPFnPartsx0
import Derived.Test.YtdmjhgogljhfkaaGreatDoorPFnPartsx6
import Derived.Test.YtdmjhgogljhfkaaGreatDoorPFnPartsx8
import Derived.Test.YtdmjhgogljhfkaaGreatDoorPFnPartsx9
import Derived.Test.YtdmjhgogljhfkaaGreatDoorPFnPartsx1
import Derived.Test.YtdmjhgogljhfkaaGreatDoorPFnPartsx2
import Derived.Test.YtdmjhgogljhfkaaGreatDoorPFnPartsx4
import Derived.Test.YtdmjhgogljhfkaaGreatDoorPFnPartsx12
import Derived.Test.YtdmjhgogljhfkaaGreatDoorPFnPartsx14
namespace Go.Proofs.YtdmjhgogljhfkaaGreatDoor.PFnParts
open Go.RowKit Go.Proofs.YtdmjhgogljhfkaaGreatDoorW.PrintWords Go.Proofs.YtdmjhgogljhfkaaGreatDoorW.PrintLast Go.Proofs.YtdmjhgogljhfkaaGreatDoorW.PrintMore
attribute [local go_sem] max2_int min2_int max_two min_two max_three min_three max_four min_four
attribute [local go_sem] cell_in frozen_in cell_g cell_p cell_r cell_q
set_option synthInstance.maxSize 1000000
set_option synthInstance.maxHeartbeats 2000000
set_option linter.unusedVariables false
set_option linter.unusedSimpArgs false
set_option maxHeartbeats 8000000
set_option maxRecDepth 100000
def slices_Equal_int_int.l0 : Nat → List Int → List Int → Int → Int → Option (Bool)
 | 0, _, _, _, _ => none
 | k + 1, x0, x1, x12, x13 => if x13 < x12 then (if 0 ≤ x13 then (if x13 < (x0.length : Int) then (if x13 < (x1.length : Int) then (if (rd x0 x13) = (rd x1 x13) then (slices_Equal_int_int.l0 k x0 x1 x12 (wrap64 (x13 + 1))) else (some false)) else (none)) else (none)) else (none)) else (some true)
def slices_Equal_int_int.f (k : Nat) (l0 : List Int) (l1 : List Int) : Option (Bool) := if (l0.length : Int) = (l1.length : Int) then (slices_Equal_int_int.l0 k l0 l1 (l0.length : Int) 0) else (some false)
theorem slices_Equal_int_int.calls (k : Nat) (A0 : Option Addr) (c0 : Nat) (l0 : List Int) (A1 : Option Addr) (c1 : Nat) (l1 : List Int) (r : Bool) (w : World) (hr0 : Kd.C (Kd.int .i64) w A0 l0.length l0) (hc0 : l0.length ≤ c0) (hr1 : Kd.C (Kd.int .i64) w A1 l1.length l1) (hc1 : l1.length ≤ c1) (h : slices_Equal_int_int.f k l0 l1 = some r) :
  Calls Tryz.prog 104 #[.slice A0 l0.length c0, .slice A1 l1.length c1] w fun e w' => e = .returned (.bool r) ∧ Drawn0 w w' := by
 have HR0 := Aside0.mk hr0; have HC0 := Aside0.mk hc0; clear hr0 hc0; have HR1 := Aside0.mk hr1; have HC1 := Aside0.mk hc1; clear hr1 hc1; have H := h; unfold slices_Equal_int_int.f at H; clear h
 by_cases c3 : (l0.length : Int) = (l1.length : Int)
 ·
  rw [if_pos c3] at H
  have c3b0 : ((l0.length : Int) == (l1.length : Int)) = true := beq_iff_eq.mpr c3; have c3b1 : ((l0.length : Int) != (l1.length : Int)) = false := bne_eq_false_iff_eq.mpr c3
  have c3b2 : (l0.length == l1.length) = true := by first | simpa using c3 | (simp at c3 ⊢; omega)
  clear c3; have H' := Aside0.mk H; clear H
  go_enter Tryz.func104, Tryz.ntmps104
  go_wp2
  repeat (go_quiet (fail); try go_wp2)
  go_loopg [13] k (fun kq v13 w' => ∃ (x13_1 : Int), v13 = .int .i64 x13_1 ∧ Aside0 (slices_Equal_int_int.l0 kq l0 l1 (l0.length : Int) x13_1 = some r) ∧ Aside0 (kq ≤ k) ∧ Drawn0 w w')
  case atStart => exact ⟨(0), y0_17, H', ⟨Nat.le_refl _⟩, y0_15⟩
  case round =>
   clear H'
   try clear c1
   try clear p2
   try clear c3
   try clear c3b0
   try clear c3b1
   try clear c3b2
   obtain ⟨x13_1, rfl, HA, HK1, ⟨m1, rfl⟩⟩ := hrel; cases gk with
   | zero => exact absurd HA.out (by simp [slices_Equal_int_int.l0])
   | succ k1 =>
    have H := HA.out; clear HA
    simp only [slices_Equal_int_int.l0] at H
    by_cases c4 : x13_1 < (l0.length : Int)
    ·
     rw [if_pos c4] at H
     have c4b0 : decide (x13_1 < (l0.length : Int)) = true := decide_eq_true c4; clear c4
     by_cases c5 : 0 ≤ x13_1
     rotate_left
     ·
      rw [if_neg c5] at H
      exact absurd H (by simp)
     rw [if_pos c5] at H
     have c5b0 : decide (0 ≤ x13_1) = true := decide_eq_true c5; clear c5
     by_cases c6 : x13_1 < (l0.length : Int)
     rotate_left
     ·
      rw [if_neg c6] at H
      exact absurd H (by simp)
     rw [if_pos c6] at H
     have c6b0 : decide (x13_1 < (l0.length : Int)) = true := decide_eq_true c6; clear c6
     by_cases c7 : x13_1 < (l1.length : Int)
     rotate_left
     ·
      rw [if_neg c7] at H
      exact absurd H (by simp)
     rw [if_pos c7] at H
     have c7b0 : decide (x13_1 < (l1.length : Int)) = true := decide_eq_true c7; clear c7
     by_cases c8 : (rd l0 x13_1) = (rd l1 x13_1)
     ·
      rw [if_pos c8] at H
      have c8b0 : ((rd l0 x13_1) == (rd l1 x13_1)) = true := beq_iff_eq.mpr c8; have c8b1 : ((rd l0 x13_1) != (rd l1 x13_1)) = false := bne_eq_false_iff_eq.mpr c8; clear c8; have H' := Aside0.mk H; clear H; have p887 : 0 ≤ (x13_1 : Int) := of_decide_eq_true y0_16; have q887 : x13_1 < (l0.length : Int) := of_decide_eq_true y0_16; obtain ⟨ad887, e887, hx887_0⟩ := Kd.at_int HR0.out x13_1 p887 q887; cases e887; replace p887 := eq_true p887; replace q887 := eq_true q887; have p888 : 0 ≤ (x13_1 : Int) := of_decide_eq_true y0_16; have q888 : x13_1 < (l1.length : Int) := of_decide_eq_true y0_16; obtain ⟨ad888, e888, hx888_0⟩ := Kd.at_int HR1.out x13_1 p888 q888; cases e888; replace p888 := eq_true p888; replace q888 := eq_true q888
      go_wp2
      repeat (go_quiet (fail); try go_wp2)
      go_roundg k1
      case measure => have := HK1.out; omega
      case rel => exact ⟨(wrap64 (x13_1 + 1)), y0_17, H', ⟨y0_20⟩, y0_15⟩
     rw [if_neg c8] at H
     have c8b0 : ((rd l0 x13_1) == (rd l1 x13_1)) = false := beq_eq_false_iff_ne.mpr c8; have c8b1 : ((rd l0 x13_1) != (rd l1 x13_1)) = true := bne_iff_ne.mpr c8; obtain rfl := Option.some.inj H; have p887 : 0 ≤ (x13_1 : Int) := of_decide_eq_true y0_16; have q887 : x13_1 < (l0.length : Int) := of_decide_eq_true y0_16; obtain ⟨ad887, e887, hx887_0⟩ := Kd.at_int HR0.out x13_1 p887 q887; cases e887; replace p887 := eq_true p887; replace q887 := eq_true q887; have p888 : 0 ≤ (x13_1 : Int) := of_decide_eq_true y0_16; have q888 : x13_1 < (l1.length : Int) := of_decide_eq_true y0_16; obtain ⟨ad888, e888, hx888_0⟩ := Kd.at_int HR1.out x13_1 p888 q888; cases e888; replace p888 := eq_true p888; replace q888 := eq_true q888
     go_wp2
     repeat (go_quiet (fail); try go_wp2)
     go_ret
     exact ⟨y0_17, y0_15⟩
    rw [if_neg c4] at H
    have c4b0 : decide (x13_1 < (l0.length : Int)) = false := decide_eq_false c4; clear c4; obtain rfl := Option.some.inj H
    go_wp2
    repeat (go_quiet (fail); try go_wp2)
    go_ret
    exact ⟨y0_17, y0_15⟩
 rw [if_neg c3] at H
 have c3b0 : ((l0.length : Int) == (l1.length : Int)) = false := beq_eq_false_iff_ne.mpr c3; have c3b1 : ((l0.length : Int) != (l1.length : Int)) = true := bne_iff_ne.mpr c3
 have c3b2 : (l0.length == l1.length) = false := by first | simpa using c3 | (simp at c3 ⊢; omega)
 obtain rfl := Option.some.inj H
 go_enter Tryz.func104, Tryz.ntmps104
 go_wp2
 repeat (go_quiet (fail); try go_wp2)
 go_ret
 exact ⟨y0_17, y0_15⟩
def impl_QcSame.f (k : Nat) (a0_0 : Int) (a0_1 : ByteArray) (l0_2 : List Int) (a1_0 : Int) (a1_1 : ByteArray) (l1_2 : List Int) : Option (Bool) := if a0_0 = a1_0 then (if a0_1.toList = a1_1.toList then ((slices_Equal_int_int.f k l0_2 l1_2).bind fun t891 => (some t891)) else (some false)) else (some false)
theorem impl_QcSame.calls (k : Nat) (a0_0 : Int) (a0_1 : ByteArray) (A0_2 : Option Addr) (c0_2 : Nat) (l0_2 : List Int) (a1_0 : Int) (a1_1 : ByteArray) (A1_2 : Option Addr) (c1_2 : Nat) (l1_2 : List Int) (r : Bool) (w : World) (hr0_2 : Kd.C (Kd.int .i64) w A0_2 l0_2.length l0_2) (hc0_2 : l0_2.length ≤ c0_2) (hr1_2 : Kd.C (Kd.int .i64) w A1_2 l1_2.length l1_2) (hc1_2 : l1_2.length ≤ c1_2) (h : impl_QcSame.f k a0_0 a0_1 l0_2 a1_0 a1_1 l1_2 = some r) :
  Calls Tryz.prog 41 #[.agg #[.int .i64 a0_0, .string a0_1, .slice A0_2 l0_2.length c0_2], .agg #[.int .i64 a1_0, .string a1_1, .slice A1_2 l1_2.length c1_2]] w fun e w' => e = .returned (.bool r) ∧ Below w.heap.size w w' := by
 have hu27 := Tryz.underlying27; have HR0_2 := Aside0.mk hr0_2; have HC0_2 := Aside0.mk hc0_2; clear hr0_2 hc0_2; have HR1_2 := Aside0.mk hr1_2; have HC1_2 := Aside0.mk hc1_2; clear hr1_2 hc1_2; have HB := Aside0.mk (Below.refl w.heap.size w)
 have H := h; unfold impl_QcSame.f at H
 clear h
 go_enter Tryz.func41, Tryz.ntmps41
 have H' := Aside0.mk H; clear H
 go_upto_region 1 with (first | ((with_reducible refine gd 2 ?_); refine bL 2 #[.int .i64 a0_0, .string a0_1, .slice A0_2 l0_2.length c0_2] 27 ?_; intro gb889 w3 _ _ _) | ((with_reducible refine gd 3 ?_); refine bL 3 #[.int .i64 a1_0, .string a1_1, .slice A1_2 l1_2.length c1_2] 27 ?_; intro gb890 w4 _ _ _))
 have H := H'.out; clear H'
 by_cases c5 : a0_0 = a1_0
 ·
  rw [if_pos c5] at H
  have c5b0 : (a0_0 == a1_0) = true := beq_iff_eq.mpr c5; have c5b1 : (a0_0 != a1_0) = false := bne_eq_false_iff_eq.mpr c5; clear c5
  (first | rw [c5b0] | (simp only [i64_w, i32_w]; rw [c5b0]) | skip)
  by_cases c6 : a0_1.toList = a1_1.toList
  ·
   rw [if_pos c6] at H
   have c6b0 : (a0_1.toList == a1_1.toList) = true := beq_iff_eq.mpr c6; have c6b1 : (a0_1.toList != a1_1.toList) = false := bne_eq_false_iff_eq.mpr c6; clear c6; obtain ⟨t891, A7, H⟩ := oB H; (try dsimp only at H); obtain rfl := Option.some.inj H
   go_wp2_with (first | (go_at_call 104; refine aD (slices_Equal_int_int.calls (hr0 := pC HR0_2) (hc0 := HC0_2.out) (hr1 := pC HR1_2) (hc1 := HC1_2.out) (w := _) (h := A7.out)) ?_; intro w8 _))
   go_ret
   exact ⟨y0_17, UpW.out⟩
  rw [if_neg c6] at H
  have c6b0 : (a0_1.toList == a1_1.toList) = false := beq_eq_false_iff_ne.mpr c6; have c6b1 : (a0_1.toList != a1_1.toList) = true := bne_iff_ne.mpr c6; obtain rfl := Option.some.inj H
  go_wp2
  go_ret
  exact ⟨y0_17, UpW.out⟩
 rw [if_neg c5] at H
 have c5b0 : (a0_0 == a1_0) = false := beq_eq_false_iff_ne.mpr c5; have c5b1 : (a0_0 != a1_0) = true := bne_iff_ne.mpr c5
 (first | rw [c5b0] | (simp only [i64_w, i32_w]; rw [c5b0]) | skip)
 obtain rfl := Option.some.inj H
 go_wp2
 go_ret
 exact ⟨y0_17, UpW.out⟩
def impl_QcFirst.f  : Option (Int × ByteArray × List Int) := some (0, (⟨#[]⟩ : ByteArray), ([] : List Int))
theorem impl_QcFirst.calls  (r1 : Int) (r2 : ByteArray) (r3 : List Int) (w : World) (h : impl_QcFirst.f  = some (r1, r2, r3)) :
  Calls Tryz.prog 114 #[] w fun e w' => ∃ v2_ : Value, e = .returned (.agg #[.int .i64 r1, .string r2, v2_]) ∧ Kd.R (Kd.int .i64) 3 w' w.heap.size (fun _ => True) v2_ r3 ∧ Below w.heap.size w w' := by
 have hu27 := Tryz.underlying27; have HB := Aside0.mk (Below.refl w.heap.size w); have H := h; unfold impl_QcFirst.f at H; clear h
 simp only [Option.some.injEq, Prod.mk.injEq] at H
 obtain ⟨rfl, rfl, rfl⟩ := H
 go_enter Tryz.func114, Tryz.ntmps114
 go_wp2_with (first | ((with_reducible refine gd 0 ?_); refine bL 0 #[.int .i64 0, .string (⟨#[]⟩ : ByteArray), .slice none 0 0] 27 ?_; intro gb892 w1 _ _ _))
 refine bodyPost_ret (results_cell_row rfl _ _ gb892 27 #[.int .i64 0, .string (⟨#[]⟩ : ByteArray), .slice none 0 0] (0, 0) _ rfl xB Tryz.underlying27 rfl (by kernel_rfl)) rfl ?_
 exact ⟨_, y0_17, Kd.R_nil _ _ _ _ _, UpW.out⟩
def impl_Faults.f (a0_0 : Int) (a0_1 : Int) : Option (Int) := (impl_ConfOk.f a0_0 a0_1).bind fun t894 => (if t894 = true then (some (wrap64 (Int.tdiv (wrap64 (a0_0 - 1)) 3))) else (some 0))
theorem impl_Faults.calls (a0_0 : Int) (a0_1 : Int) (r : Int) (w : World) (h : impl_Faults.f a0_0 a0_1 = some r) :
  Calls Tryz.prog 153 #[.agg #[.int .i64 a0_0, .int .i64 a0_1]] w fun e w' => e = .returned (.int .i64 r) ∧ Below w.heap.size w w' := by
 have hu32 := Tryz.underlying32; have HB := Aside0.mk (Below.refl w.heap.size w)
 have H := h; unfold impl_Faults.f at H
 clear h; obtain ⟨t894, A2, H⟩ := oB H; (try dsimp only at H)
 go_enter Tryz.func153, Tryz.ntmps153
 have H' := Aside0.mk H; clear H
 go_upto_if 5 with (first | ((with_reducible refine gd 1 ?_); refine bL 1 #[.int .i64 a0_0, .int .i64 a0_1] 32 ?_; intro gb893 w3 _ _ _) | ((with_reducible refine gate_callee (f := 105) rfl ?_); refine gC (some 4) Tryz.func105 (impl_ConfOk.calls (w := _) (h := A2.out)) ?_; intro w4 _))
 have H := H'.out; clear H'
 by_cases c5 : t894 = true
 ·
  subst c5
  rw [if_pos rfl] at H
  obtain rfl := Option.some.inj H
  go_wp2
  go_ret
  exact ⟨y0_17, UpW.out⟩
 replace c5 := Bool.eq_false_iff.mpr c5; subst c5
 rw [if_neg Bool.false_ne_true] at H
 obtain rfl := Option.some.inj H
 go_wp2
 go_ret
 exact ⟨y0_17, UpW.out⟩
def impl_Quorum.f (a0_0 : Int) (a0_1 : Int) : Option (Int) := (impl_ConfOk.f a0_0 a0_1).bind fun t896 => (if t896 = true then ((impl_Faults.f a0_0 a0_1).bind fun t897 => (some (wrap64 (a0_0 - t897)))) else (some 0))
def impl_Quorum.T3 : Bool × List (List Nat × List Nat) := (true, [([], []), ([0], [0]), ([], []), ([2], [2]), ([1, 3], [1, 3]), ([4, 3, 0, 1, 2, 3, 4], [4])])
def impl_Quorum.B3 : List Nat := [0, 1, 0, 4, 15, 31]
theorem impl_Quorum.tab3 : rtab .any (opsOf Tryz.f115 3) = impl_Quorum.T3 := by kernel_rfl
theorem impl_Quorum.bits3 : waitsOk impl_Quorum.T3.2 impl_Quorum.B3 = true := by kernel_rfl
theorem impl_Quorum.calls (a0_0 : Int) (a0_1 : Int) (r : Int) (w : World) (h : impl_Quorum.f a0_0 a0_1 = some r) :
  Calls Tryz.prog 115 #[.agg #[.int .i64 a0_0, .int .i64 a0_1]] w fun e w' => e = .returned (.int .i64 r) ∧ Below w.heap.size w w' := by
 have hu32 := Tryz.underlying32; have HB := Aside0.mk (Below.refl w.heap.size w)
 have H := h; unfold impl_Quorum.f at H
 clear h; obtain ⟨t896, A2, H⟩ := oB H; (try dsimp only at H)
 go_enter Tryz.func115, Tryz.ntmps115
 have H' := Aside0.mk H; clear H
 go_upto_if 5 with (first | ((with_reducible refine gd 1 ?_); refine bL 1 #[.int .i64 a0_0, .int .i64 a0_1] 32 ?_; intro gb895 w3 _ _ _) | ((with_reducible refine gate_callee (f := 105) rfl ?_); refine gC (some 4) Tryz.func105 (impl_ConfOk.calls (w := _) (h := A2.out)) ?_; intro w4 _))
 have H := H'.out; clear H'
 by_cases c5 : t896 = true
 ·
  subst c5
  rw [if_pos rfl] at H
  obtain ⟨t897, A6, H⟩ := oB H; (try dsimp only at H); obtain rfl := Option.some.inj H
  try go_wp2
  refine sB [] impl_Quorum.tab3 impl_Quorum.bits3 ?_; intro w7 _ HT_ HW_
  refine pA 0 (some 6) (bz 6 1) HT_ ?_
  refine tB 1 (some 7) (bz 6 3) HT_ HW_ ?_
  refine tB 2 (some 8) (bz 6 7) HT_ HW_ ?_
  refine o1 3 (some 9) (bz 6 15) HT_ rfl (kC Tryz.func153 (impl_Faults.calls (w := _) (h := A6.out)) ?_); intro w8 _
  refine nA (some 9) ?_
  refine pA 4 (some 10) (bz 6 31) HT_ ?_
  refine pA 5 (some 2) (bz 6 63) HT_ ?_
  refine done_ (done_of HT_.out (by kernel_rfl)) ?_
  try go_wp2
  go_ret
  exact ⟨y0_17, UpW.out⟩
 replace c5 := Bool.eq_false_iff.mpr c5; subst c5
 rw [if_neg Bool.false_ne_true] at H
 obtain rfl := Option.some.inj H
 go_wp2
 go_ret
 exact ⟨y0_17, UpW.out⟩
def impl_QcOk.f (k : Nat) (a0_0 : Int) (a0_1 : Int) (a1_0 : Int) (a1_1 : ByteArray) (l1_2 : List Int) : Option (Bool) := (impl_ConfOk.f a0_0 a0_1).bind fun t900 => (if t900 = true then ((impl_QcFirst.f).bind fun bt901 => ((impl_QcSame.f k a1_0 a1_1 l1_2 bt901.1 bt901.2.1 bt901.2.2).bind fun t906 => (if t906 = true then (some true) else (if a1_0 ≥ 1 then ((impl_NameOk.f k a1_1).bind fun t907 => (if t907 = true then ((impl_ViewOf.f k a1_1).bind fun t908 => (if a1_0 = t908 then ((impl_SetOk.f k a0_0 l1_2).bind fun t909 => (if t909 = true then ((impl_Quorum.f a0_0 a0_1).bind fun t910 => (some (decide ((l1_2.length : Int) ≥ t910)))) else (some false))) else (some false))) else (some false))) else (some false))))) else (some false))
def impl_QcOk.T3 : Bool × List (List Nat × List Nat) := (true, [([], []), ([], []), ([0, 1, 1], [0, 1]), ([2, 2], [2]), ([3], [3]), ([4, 3], [3, 4]), ([5, 3], [3, 5]), ([6, 3, 3], [3, 6]), ([7], [7]), ([8, 7], [7, 8]), ([9, 7, 7], [7, 9]), ([7, 10, 3], [3, 7, 10]), ([11, 10, 3], [3, 11]), ([12], [12]), ([13, 12], [12, 13]), ([12], [12]), ([15, 12], [12, 15]), ([16, 12, 12], [12, 16]), ([14, 17, 12], [12, 14, 17]), ([12, 18, 3], [3, 12, 18]), ([19, 17, 3], [3, 19]), ([20], [20]), ([21, 20], [20, 21]), ([20], [20]), ([23, 20], [20, 23]), ([22, 24, 20, 20], [20, 22, 24]), ([20, 25, 3], [3, 20, 25]), ([26, 25, 3], [3, 26]), ([27], [27]), ([28, 27], [27, 28]), ([29, 27], [27, 29]), ([27], [27]), ([31, 27, 27], [27, 31]), ([30, 32, 27], [27, 30, 32]), ([27, 33, 3], [3, 27, 33]), ([3, 34], [3, 34]), ([35, 32, 0, 1, 2, 3, 4, 5, 6, 7, 8, 9, 10, 11, 12, 13, 14, 15, 16, 17, 18, 19, 20, 21, 22, 23, 24, 25, 26, 27, 28, 29, 30, 31, 32, 33, 34, 35], [35])])
def impl_QcOk.B3 : List Nat := [0, 0, 3, 7, 15, 31, 63, 127, 255, 511, 1023, 2047, 4095, 8191, 16383, 8191, 40959, 106495, 262143, 524287, 1048575, 2097151, 4194303, 2097151, 10485759, 33554431, 67108863, 134217727, 268435455, 536870911, 1073741823, 268435455, 2415919103, 8589934591, 17179869183, 34359738367, 68719476735]
theorem impl_QcOk.tab3 : rtab .any (opsOf Tryz.f50 3) = impl_QcOk.T3 := by kernel_rfl
theorem impl_QcOk.bits3 : waitsOk impl_QcOk.T3.2 impl_QcOk.B3 = true := by kernel_rfl
theorem impl_QcOk.calls (k : Nat) (a0_0 : Int) (a0_1 : Int) (a1_0 : Int) (a1_1 : ByteArray) (A1_2 : Option Addr) (c1_2 : Nat) (l1_2 : List Int) (r : Bool) (w : World) (hr1_2 : Kd.C (Kd.int .i64) w A1_2 l1_2.length l1_2) (hc1_2 : l1_2.length ≤ c1_2) (h : impl_QcOk.f k a0_0 a0_1 a1_0 a1_1 l1_2 = some r) (hG : Glob w := by exact gG HG HB) :
  Calls Tryz.prog 50 #[.agg #[.int .i64 a0_0, .int .i64 a0_1], .agg #[.int .i64 a1_0, .string a1_1, .slice A1_2 l1_2.length c1_2]] w fun e w' => e = .returned (.bool r) ∧ Below w.heap.size w w' := by
 have HG := Aside0.mk hG; clear hG; have hu32 := Tryz.underlying32; have hu27 := Tryz.underlying27; have HR1_2 := Aside0.mk hr1_2; have HC1_2 := Aside0.mk hc1_2; clear hr1_2 hc1_2; have HB := Aside0.mk (Below.refl w.heap.size w)
 have H := h; unfold impl_QcOk.f at H
 clear h; obtain ⟨t900, A3, H⟩ := oB H; (try dsimp only at H)
 go_enter Tryz.func50, Tryz.ntmps50
 have H' := Aside0.mk H; clear H
 go_upto_if 7 with (first | ((with_reducible refine gd 2 ?_); refine bL 2 #[.int .i64 a0_0, .int .i64 a0_1] 32 ?_; intro gb898 w4 _ _ _) | ((with_reducible refine gd 3 ?_); refine bL 3 #[.int .i64 a1_0, .string a1_1, .slice A1_2 l1_2.length c1_2] 27 ?_; intro gb899 w5 _ _ _) | ((with_reducible refine gate_callee (f := 105) rfl ?_); refine gC (some 6) Tryz.func105 (impl_ConfOk.calls (w := _) (h := A3.out)) ?_; intro w6 _))
 have H := H'.out; clear H'
 by_cases c7 : t900 = true
 ·
  subst c7
  rw [if_pos rfl] at H
  obtain ⟨⟨t901, t902, t903⟩, A8, H⟩ := oB H; (try dsimp only at H); obtain ⟨t906, A9, H⟩ := oB H; (try dsimp only at H)
  by_cases c10 : t906 = true
  ·
   subst c10
   rw [if_pos rfl] at H
   obtain rfl := Option.some.inj H
   try go_wp2
   refine sB [] impl_QcOk.tab3 impl_QcOk.bits3 ?_; intro w11 _ HT_ HW_
   refine tB 0 (some 8) (bz 37 1) HT_ HW_ ?_
   refine o1 1 (some 9) (bz 37 3) HT_ rfl (kC1 Tryz.func114 (impl_QcFirst.calls (w := _) (h := A8.out)) ?_); intro Ao904 co904 w12 _ HO905
   refine nA (some 9) ?_
   refine o1 2 (some 10) (bz 37 7) HT_ rfl (kC Tryz.func41 (impl_QcSame.calls (hr0_2 := pC HR1_2) (hc0_2 := HC1_2.out) (hr1_2 := rC HO905) (hc1_2 := rL HO905) (w := _) (h := A9.out)) ?_); intro w13 _
   refine nA (some 10) ?_
   refine pA 3 (some 11) (bz 37 15) HT_ ?_
   refine pU 4 (some 12) (bz 37 31) HT_ ?_
   refine pU 5 (some 13) (bz 37 63) HT_ ?_
   refine pU 6 (some 14) (bz 37 127) HT_ ?_
   refine pU 7 (some 15) (bz 37 255) HT_ ?_
   refine pU 8 (some 16) (bz 37 511) HT_ ?_
   refine pU 9 (some 17) (bz 37 1023) HT_ ?_
   refine pU 10 (some 18) (bz 37 2047) HT_ ?_
   refine pU 11 (some 19) (bz 37 4095) HT_ ?_
   refine pU 12 (some 20) (bz 37 0x1fff) HT_ ?_
   refine pU 13 (some 21) (bz 37 0x3fff) HT_ ?_
   refine pU 14 (some 22) (bz 37 0x7fff) HT_ ?_
   refine pU 15 (some 23) (bz 37 0xffff) HT_ ?_
   refine pU 16 (some 24) (bz 37 0x1ffff) HT_ ?_
   refine pU 17 (some 25) (bz 37 0x3ffff) HT_ ?_
   refine pU 18 (some 26) (bz 37 0x7ffff) HT_ ?_
   refine pU 19 (some 27) (bz 37 0xfffff) HT_ ?_
   refine pU 20 (some 28) (bz 37 0x1fffff) HT_ ?_
   refine pU 21 (some 29) (bz 37 0x3fffff) HT_ ?_
   refine pU 22 (some 30) (bz 37 0x7fffff) HT_ ?_
   refine pU 23 (some 31) (bz 37 0xffffff) HT_ ?_
   refine pU 24 (some 32) (bz 37 0x1ffffff) HT_ ?_
   refine pU 25 (some 33) (bz 37 0x3ffffff) HT_ ?_
   refine pU 26 (some 34) (bz 37 0x7ffffff) HT_ ?_
   refine pU 27 (some 35) (bz 37 0xfffffff) HT_ ?_
   refine pU 28 (some 36) (bz 37 0x1fffffff) HT_ ?_
   refine pU 29 (some 37) (bz 37 0x3fffffff) HT_ ?_
   refine pU 30 (some 38) (bz 37 0x7fffffff) HT_ ?_
   refine pU 31 (some 39) (bz 37 0xffffffff) HT_ ?_
   refine pU 32 (some 40) (bz 37 0x1ffffffff) HT_ ?_
   refine pU 33 (some 41) (bz 37 0x3ffffffff) HT_ ?_
   refine pU 34 (some 42) (bz 37 0x7ffffffff) HT_ ?_
   refine pA 35 (some 43) (bz 37 0xfffffffff) HT_ ?_
   refine pA 36 (some 4) (bz 37 0x1fffffffff) HT_ ?_
   refine done_ (done_of HT_.out (by kernel_rfl)) ?_
   try go_wp2
   go_ret
   exact ⟨y0_17, UpW.out⟩
  replace c10 := Bool.eq_false_iff.mpr c10; subst c10
  rw [if_neg Bool.false_ne_true] at H
  by_cases c14 : a1_0 ≥ 1
  ·
   rw [if_pos c14] at H
   have c14b0 : decide (1 ≤ a1_0) = true := decide_eq_true c14; clear c14
   (first | rw [c14b0] | (simp only [i64_w, i32_w]; rw [c14b0]) | skip)
   obtain ⟨t907, A15, H⟩ := oB H; (try dsimp only at H)
   by_cases c16 : t907 = true
   ·
    subst c16
    rw [if_pos rfl] at H
    obtain ⟨t908, A17, H⟩ := oB H; (try dsimp only at H)
    by_cases c18 : a1_0 = t908
    ·
     rw [if_pos c18] at H
     have c18b0 : (a1_0 == t908) = true := beq_iff_eq.mpr c18; have c18b1 : (a1_0 != t908) = false := bne_eq_false_iff_eq.mpr c18; clear c18; obtain ⟨t909, A19, H⟩ := oB H; (try dsimp only at H)
     by_cases c20 : t909 = true
     ·
      subst c20
      rw [if_pos rfl] at H
      obtain ⟨t910, A21, H⟩ := oB H; (try dsimp only at H); obtain rfl := Option.some.inj H
      try go_wp2
      refine sB [] impl_QcOk.tab3 impl_QcOk.bits3 ?_; intro w22 _ HT_ HW_
      refine tB 0 (some 8) (bz 37 1) HT_ HW_ ?_
      refine o1 1 (some 9) (bz 37 3) HT_ rfl (kC1 Tryz.func114 (impl_QcFirst.calls (w := _) (h := A8.out)) ?_); intro Ao904 co904 w23 _ HO905
      refine nA (some 9) ?_
      refine o1 2 (some 10) (bz 37 7) HT_ rfl (kC Tryz.func41 (impl_QcSame.calls (hr0_2 := pC HR1_2) (hc0_2 := HC1_2.out) (hr1_2 := rC HO905) (hc1_2 := rL HO905) (w := _) (h := A9.out)) ?_); intro w24 _
      refine nA (some 10) ?_
      refine pA 3 (some 11) (bz 37 15) HT_ ?_
      refine pA 4 (some 12) (bz 37 31) HT_ ?_
      refine tB 5 (some 13) (bz 37 63) HT_ HW_ ?_
      refine pA 6 (some 14) (bz 37 127) HT_ ?_
      refine pA 7 (some 15) (bz 37 255) HT_ ?_
      refine pA 8 (some 16) (bz 37 511) HT_ ?_
      refine tB 9 (some 17) (bz 37 1023) HT_ HW_ ?_
      refine o1 10 (some 18) (bz 37 2047) HT_ rfl (kC Tryz.func107 (impl_NameOk.calls (w := _) (h := A15.out)) ?_); intro w25 _
      refine nA (some 18) ?_
      refine pA 11 (some 19) (bz 37 4095) HT_ ?_
      refine pA 12 (some 20) (bz 37 0x1fff) HT_ ?_
      refine pA 13 (some 21) (bz 37 0x3fff) HT_ ?_
      refine tB 14 (some 22) (bz 37 0x7fff) HT_ HW_ ?_
      refine pA 15 (some 23) (bz 37 0xffff) HT_ ?_
      refine tB 16 (some 24) (bz 37 0x1ffff) HT_ HW_ ?_
      refine o1 17 (some 25) (bz 37 0x3ffff) HT_ rfl (kC Tryz.func108 (impl_ViewOf.calls (w := _) (h := A17.out)) ?_); intro w26 _
      refine nA (some 25) ?_
      refine pA 18 (some 26) (bz 37 0x7ffff) HT_ ?_
      refine pA 19 (some 27) (bz 37 0xfffff) HT_ ?_
      refine pA 20 (some 28) (bz 37 0x1fffff) HT_ ?_
      refine pA 21 (some 29) (bz 37 0x3fffff) HT_ ?_
      refine tB 22 (some 30) (bz 37 0x7fffff) HT_ HW_ ?_
      refine pA 23 (some 31) (bz 37 0xffffff) HT_ ?_
      refine tB 24 (some 32) (bz 37 0x1ffffff) HT_ HW_ ?_
      refine o1 25 (some 33) (bz 37 0x3ffffff) HT_ rfl (kD Tryz.func51 (impl_SetOk.calls (hr1 := pC HR1_2) (hc1 := HC1_2.out) (w := _) (h := A19.out)) ?_); intro w27 _
      refine nA (some 33) ?_
      refine pA 26 (some 34) (bz 37 0x7ffffff) HT_ ?_
      refine pA 27 (some 35) (bz 37 0xfffffff) HT_ ?_
      refine pA 28 (some 36) (bz 37 0x1fffffff) HT_ ?_
      refine tB 29 (some 37) (bz 37 0x3fffffff) HT_ HW_ ?_
      refine pA 30 (some 38) (bz 37 0x7fffffff) HT_ ?_
      refine tB 31 (some 39) (bz 37 0xffffffff) HT_ HW_ ?_
      refine o1 32 (some 40) (bz 37 0x1ffffffff) HT_ rfl (kC Tryz.func115 (impl_Quorum.calls (w := _) (h := A21.out)) ?_); intro w28 _
      refine nA (some 40) ?_
      refine pA 33 (some 41) (bz 37 0x3ffffffff) HT_ ?_
      refine pA 34 (some 42) (bz 37 0x7ffffffff) HT_ ?_
      refine pA 35 (some 43) (bz 37 0xfffffffff) HT_ ?_
      refine pA 36 (some 4) (bz 37 0x1fffffffff) HT_ ?_
      refine done_ (done_of HT_.out (by kernel_rfl)) ?_
      try go_wp2
      go_ret
      exact ⟨y0_17, UpW.out⟩
     replace c20 := Bool.eq_false_iff.mpr c20; subst c20
     rw [if_neg Bool.false_ne_true] at H
     obtain rfl := Option.some.inj H
     try go_wp2
     refine sB [] impl_QcOk.tab3 impl_QcOk.bits3 ?_; intro w29 _ HT_ HW_
     refine tB 0 (some 8) (bz 37 1) HT_ HW_ ?_
     refine o1 1 (some 9) (bz 37 3) HT_ rfl (kC1 Tryz.func114 (impl_QcFirst.calls (w := _) (h := A8.out)) ?_); intro Ao904 co904 w30 _ HO905
     refine nA (some 9) ?_
     refine o1 2 (some 10) (bz 37 7) HT_ rfl (kC Tryz.func41 (impl_QcSame.calls (hr0_2 := pC HR1_2) (hc0_2 := HC1_2.out) (hr1_2 := rC HO905) (hc1_2 := rL HO905) (w := _) (h := A9.out)) ?_); intro w31 _
     refine nA (some 10) ?_
     refine pA 3 (some 11) (bz 37 15) HT_ ?_
     refine pA 4 (some 12) (bz 37 31) HT_ ?_
     refine tB 5 (some 13) (bz 37 63) HT_ HW_ ?_
     refine pA 6 (some 14) (bz 37 127) HT_ ?_
     refine pA 7 (some 15) (bz 37 255) HT_ ?_
     refine pA 8 (some 16) (bz 37 511) HT_ ?_
     refine tB 9 (some 17) (bz 37 1023) HT_ HW_ ?_
     refine o1 10 (some 18) (bz 37 2047) HT_ rfl (kC Tryz.func107 (impl_NameOk.calls (w := _) (h := A15.out)) ?_); intro w32 _
     refine nA (some 18) ?_
     refine pA 11 (some 19) (bz 37 4095) HT_ ?_
     refine pA 12 (some 20) (bz 37 0x1fff) HT_ ?_
     refine pA 13 (some 21) (bz 37 0x3fff) HT_ ?_
     refine tB 14 (some 22) (bz 37 0x7fff) HT_ HW_ ?_
     refine pA 15 (some 23) (bz 37 0xffff) HT_ ?_
     refine tB 16 (some 24) (bz 37 0x1ffff) HT_ HW_ ?_
     refine o1 17 (some 25) (bz 37 0x3ffff) HT_ rfl (kC Tryz.func108 (impl_ViewOf.calls (w := _) (h := A17.out)) ?_); intro w33 _
     refine nA (some 25) ?_
     refine pA 18 (some 26) (bz 37 0x7ffff) HT_ ?_
     refine pA 19 (some 27) (bz 37 0xfffff) HT_ ?_
     refine pA 20 (some 28) (bz 37 0x1fffff) HT_ ?_
     refine pA 21 (some 29) (bz 37 0x3fffff) HT_ ?_
     refine tB 22 (some 30) (bz 37 0x7fffff) HT_ HW_ ?_
     refine pA 23 (some 31) (bz 37 0xffffff) HT_ ?_
     refine tB 24 (some 32) (bz 37 0x1ffffff) HT_ HW_ ?_
     refine o1 25 (some 33) (bz 37 0x3ffffff) HT_ rfl (kD Tryz.func51 (impl_SetOk.calls (hr1 := pC HR1_2) (hc1 := HC1_2.out) (w := _) (h := A19.out)) ?_); intro w34 _
     refine nA (some 33) ?_
     refine pA 26 (some 34) (bz 37 0x7ffffff) HT_ ?_
     refine pA 27 (some 35) (bz 37 0xfffffff) HT_ ?_
     refine pU 28 (some 36) (bz 37 0x1fffffff) HT_ ?_
     refine pU 29 (some 37) (bz 37 0x3fffffff) HT_ ?_
     refine pU 30 (some 38) (bz 37 0x7fffffff) HT_ ?_
     refine pU 31 (some 39) (bz 37 0xffffffff) HT_ ?_
     refine pU 32 (some 40) (bz 37 0x1ffffffff) HT_ ?_
     refine pU 33 (some 41) (bz 37 0x3ffffffff) HT_ ?_
     refine pA 34 (some 42) (bz 37 0x7ffffffff) HT_ ?_
     refine pA 35 (some 43) (bz 37 0xfffffffff) HT_ ?_
     refine pA 36 (some 4) (bz 37 0x1fffffffff) HT_ ?_
     refine done_ (done_of HT_.out (by kernel_rfl)) ?_
     try go_wp2
     go_ret
     exact ⟨y0_17, UpW.out⟩
    rw [if_neg c18] at H
    have c18b0 : (a1_0 == t908) = false := beq_eq_false_iff_ne.mpr c18; have c18b1 : (a1_0 != t908) = true := bne_iff_ne.mpr c18; obtain rfl := Option.some.inj H
    try go_wp2
    refine sB [] impl_QcOk.tab3 impl_QcOk.bits3 ?_; intro w35 _ HT_ HW_
    refine tB 0 (some 8) (bz 37 1) HT_ HW_ ?_
    refine o1 1 (some 9) (bz 37 3) HT_ rfl (kC1 Tryz.func114 (impl_QcFirst.calls (w := _) (h := A8.out)) ?_); intro Ao904 co904 w36 _ HO905
    refine nA (some 9) ?_
    refine o1 2 (some 10) (bz 37 7) HT_ rfl (kC Tryz.func41 (impl_QcSame.calls (hr0_2 := pC HR1_2) (hc0_2 := HC1_2.out) (hr1_2 := rC HO905) (hc1_2 := rL HO905) (w := _) (h := A9.out)) ?_); intro w37 _
    refine nA (some 10) ?_
    refine pA 3 (some 11) (bz 37 15) HT_ ?_
    refine pA 4 (some 12) (bz 37 31) HT_ ?_
    refine tB 5 (some 13) (bz 37 63) HT_ HW_ ?_
    refine pA 6 (some 14) (bz 37 127) HT_ ?_
    refine pA 7 (some 15) (bz 37 255) HT_ ?_
    refine pA 8 (some 16) (bz 37 511) HT_ ?_
    refine tB 9 (some 17) (bz 37 1023) HT_ HW_ ?_
    refine o1 10 (some 18) (bz 37 2047) HT_ rfl (kC Tryz.func107 (impl_NameOk.calls (w := _) (h := A15.out)) ?_); intro w38 _
    refine nA (some 18) ?_
    refine pA 11 (some 19) (bz 37 4095) HT_ ?_
    refine pA 12 (some 20) (bz 37 0x1fff) HT_ ?_
    refine pA 13 (some 21) (bz 37 0x3fff) HT_ ?_
    refine tB 14 (some 22) (bz 37 0x7fff) HT_ HW_ ?_
    refine pA 15 (some 23) (bz 37 0xffff) HT_ ?_
    refine tB 16 (some 24) (bz 37 0x1ffff) HT_ HW_ ?_
    refine o1 17 (some 25) (bz 37 0x3ffff) HT_ rfl (kC Tryz.func108 (impl_ViewOf.calls (w := _) (h := A17.out)) ?_); intro w39 _
    refine nA (some 25) ?_
    refine pA 18 (some 26) (bz 37 0x7ffff) HT_ ?_
    refine pA 19 (some 27) (bz 37 0xfffff) HT_ ?_
    refine pA 20 (some 28) (bz 37 0x1fffff) HT_ ?_
    refine pU 21 (some 29) (bz 37 0x3fffff) HT_ ?_
    refine pU 22 (some 30) (bz 37 0x7fffff) HT_ ?_
    refine pU 23 (some 31) (bz 37 0xffffff) HT_ ?_
    refine pU 24 (some 32) (bz 37 0x1ffffff) HT_ ?_
    refine pU 25 (some 33) (bz 37 0x3ffffff) HT_ ?_
    refine pA 26 (some 34) (bz 37 0x7ffffff) HT_ ?_
    refine pA 27 (some 35) (bz 37 0xfffffff) HT_ ?_
    refine pU 28 (some 36) (bz 37 0x1fffffff) HT_ ?_
    refine pU 29 (some 37) (bz 37 0x3fffffff) HT_ ?_
    refine pU 30 (some 38) (bz 37 0x7fffffff) HT_ ?_
    refine pU 31 (some 39) (bz 37 0xffffffff) HT_ ?_
    refine pU 32 (some 40) (bz 37 0x1ffffffff) HT_ ?_
    refine pU 33 (some 41) (bz 37 0x3ffffffff) HT_ ?_
    refine pA 34 (some 42) (bz 37 0x7ffffffff) HT_ ?_
    refine pA 35 (some 43) (bz 37 0xfffffffff) HT_ ?_
    refine pA 36 (some 4) (bz 37 0x1fffffffff) HT_ ?_
    refine done_ (done_of HT_.out (by kernel_rfl)) ?_
    try go_wp2
    go_ret
    exact ⟨y0_17, UpW.out⟩
   replace c16 := Bool.eq_false_iff.mpr c16; subst c16
   rw [if_neg Bool.false_ne_true] at H
   obtain rfl := Option.some.inj H
   try go_wp2
   refine sB [] impl_QcOk.tab3 impl_QcOk.bits3 ?_; intro w40 _ HT_ HW_
   refine tB 0 (some 8) (bz 37 1) HT_ HW_ ?_
   refine o1 1 (some 9) (bz 37 3) HT_ rfl (kC1 Tryz.func114 (impl_QcFirst.calls (w := _) (h := A8.out)) ?_); intro Ao904 co904 w41 _ HO905
   refine nA (some 9) ?_
   refine o1 2 (some 10) (bz 37 7) HT_ rfl (kC Tryz.func41 (impl_QcSame.calls (hr0_2 := pC HR1_2) (hc0_2 := HC1_2.out) (hr1_2 := rC HO905) (hc1_2 := rL HO905) (w := _) (h := A9.out)) ?_); intro w42 _
   refine nA (some 10) ?_
   refine pA 3 (some 11) (bz 37 15) HT_ ?_
   refine pA 4 (some 12) (bz 37 31) HT_ ?_
   refine tB 5 (some 13) (bz 37 63) HT_ HW_ ?_
   refine pA 6 (some 14) (bz 37 127) HT_ ?_
   refine pA 7 (some 15) (bz 37 255) HT_ ?_
   refine pA 8 (some 16) (bz 37 511) HT_ ?_
   refine tB 9 (some 17) (bz 37 1023) HT_ HW_ ?_
   refine o1 10 (some 18) (bz 37 2047) HT_ rfl (kC Tryz.func107 (impl_NameOk.calls (w := _) (h := A15.out)) ?_); intro w43 _
   refine nA (some 18) ?_
   refine pA 11 (some 19) (bz 37 4095) HT_ ?_
   refine pA 12 (some 20) (bz 37 0x1fff) HT_ ?_
   refine pU 13 (some 21) (bz 37 0x3fff) HT_ ?_
   refine pU 14 (some 22) (bz 37 0x7fff) HT_ ?_
   refine pU 15 (some 23) (bz 37 0xffff) HT_ ?_
   refine pU 16 (some 24) (bz 37 0x1ffff) HT_ ?_
   refine pU 17 (some 25) (bz 37 0x3ffff) HT_ ?_
   refine pU 18 (some 26) (bz 37 0x7ffff) HT_ ?_
   refine pA 19 (some 27) (bz 37 0xfffff) HT_ ?_
   refine pA 20 (some 28) (bz 37 0x1fffff) HT_ ?_
   refine pU 21 (some 29) (bz 37 0x3fffff) HT_ ?_
   refine pU 22 (some 30) (bz 37 0x7fffff) HT_ ?_
   refine pU 23 (some 31) (bz 37 0xffffff) HT_ ?_
   refine pU 24 (some 32) (bz 37 0x1ffffff) HT_ ?_
   refine pU 25 (some 33) (bz 37 0x3ffffff) HT_ ?_
   refine pA 26 (some 34) (bz 37 0x7ffffff) HT_ ?_
   refine pA 27 (some 35) (bz 37 0xfffffff) HT_ ?_
   refine pU 28 (some 36) (bz 37 0x1fffffff) HT_ ?_
   refine pU 29 (some 37) (bz 37 0x3fffffff) HT_ ?_
   refine pU 30 (some 38) (bz 37 0x7fffffff) HT_ ?_
   refine pU 31 (some 39) (bz 37 0xffffffff) HT_ ?_
   refine pU 32 (some 40) (bz 37 0x1ffffffff) HT_ ?_
   refine pU 33 (some 41) (bz 37 0x3ffffffff) HT_ ?_
   refine pA 34 (some 42) (bz 37 0x7ffffffff) HT_ ?_
   refine pA 35 (some 43) (bz 37 0xfffffffff) HT_ ?_
   refine pA 36 (some 4) (bz 37 0x1fffffffff) HT_ ?_
   refine done_ (done_of HT_.out (by kernel_rfl)) ?_
   try go_wp2
   go_ret
   exact ⟨y0_17, UpW.out⟩
  rw [if_neg c14] at H
  have c14b0 : decide (1 ≤ a1_0) = false := decide_eq_false c14; clear c14
  (first | rw [c14b0] | (simp only [i64_w, i32_w]; rw [c14b0]) | skip)
  obtain rfl := Option.some.inj H
  try go_wp2
  refine sB [] impl_QcOk.tab3 impl_QcOk.bits3 ?_; intro w44 _ HT_ HW_
  refine tB 0 (some 8) (bz 37 1) HT_ HW_ ?_
  refine o1 1 (some 9) (bz 37 3) HT_ rfl (kC1 Tryz.func114 (impl_QcFirst.calls (w := _) (h := A8.out)) ?_); intro Ao904 co904 w45 _ HO905
  refine nA (some 9) ?_
  refine o1 2 (some 10) (bz 37 7) HT_ rfl (kC Tryz.func41 (impl_QcSame.calls (hr0_2 := pC HR1_2) (hc0_2 := HC1_2.out) (hr1_2 := rC HO905) (hc1_2 := rL HO905) (w := _) (h := A9.out)) ?_); intro w46 _
  refine nA (some 10) ?_
  refine pA 3 (some 11) (bz 37 15) HT_ ?_
  refine pA 4 (some 12) (bz 37 31) HT_ ?_
  refine tB 5 (some 13) (bz 37 63) HT_ HW_ ?_
  refine pA 6 (some 14) (bz 37 127) HT_ ?_
  refine pA 7 (some 15) (bz 37 255) HT_ ?_
  refine pU 8 (some 16) (bz 37 511) HT_ ?_
  refine pU 9 (some 17) (bz 37 1023) HT_ ?_
  refine pU 10 (some 18) (bz 37 2047) HT_ ?_
  refine pA 11 (some 19) (bz 37 4095) HT_ ?_
  refine pA 12 (some 20) (bz 37 0x1fff) HT_ ?_
  refine pU 13 (some 21) (bz 37 0x3fff) HT_ ?_
  refine pU 14 (some 22) (bz 37 0x7fff) HT_ ?_
  refine pU 15 (some 23) (bz 37 0xffff) HT_ ?_
  refine pU 16 (some 24) (bz 37 0x1ffff) HT_ ?_
  refine pU 17 (some 25) (bz 37 0x3ffff) HT_ ?_
  refine pU 18 (some 26) (bz 37 0x7ffff) HT_ ?_
  refine pA 19 (some 27) (bz 37 0xfffff) HT_ ?_
  refine pA 20 (some 28) (bz 37 0x1fffff) HT_ ?_
  refine pU 21 (some 29) (bz 37 0x3fffff) HT_ ?_
  refine pU 22 (some 30) (bz 37 0x7fffff) HT_ ?_
  refine pU 23 (some 31) (bz 37 0xffffff) HT_ ?_
  refine pU 24 (some 32) (bz 37 0x1ffffff) HT_ ?_
  refine pU 25 (some 33) (bz 37 0x3ffffff) HT_ ?_
  refine pA 26 (some 34) (bz 37 0x7ffffff) HT_ ?_
  refine pA 27 (some 35) (bz 37 0xfffffff) HT_ ?_
  refine pU 28 (some 36) (bz 37 0x1fffffff) HT_ ?_
  refine pU 29 (some 37) (bz 37 0x3fffffff) HT_ ?_
  refine pU 30 (some 38) (bz 37 0x7fffffff) HT_ ?_
  refine pU 31 (some 39) (bz 37 0xffffffff) HT_ ?_
  refine pU 32 (some 40) (bz 37 0x1ffffffff) HT_ ?_
  refine pU 33 (some 41) (bz 37 0x3ffffffff) HT_ ?_
  refine pA 34 (some 42) (bz 37 0x7ffffffff) HT_ ?_
  refine pA 35 (some 43) (bz 37 0xfffffffff) HT_ ?_
  refine pA 36 (some 4) (bz 37 0x1fffffffff) HT_ ?_
  refine done_ (done_of HT_.out (by kernel_rfl)) ?_
  try go_wp2
  go_ret
  exact ⟨y0_17, UpW.out⟩
 replace c7 := Bool.eq_false_iff.mpr c7; subst c7
 rw [if_neg Bool.false_ne_true] at H
 obtain rfl := Option.some.inj H
 go_wp2
 go_ret
 exact ⟨y0_17, UpW.out⟩
def impl_copyQc.f (a0_0 : Int) (a0_1 : ByteArray) (l0_2 : List Int) : Option (Int × ByteArray × List Int) := (impl_copyInts.f l0_2).bind fun t913 => (some (a0_0, a0_1, t913))
theorem impl_copyQc.calls (a0_0 : Int) (a0_1 : ByteArray) (A0_2 : Option Addr) (c0_2 : Nat) (l0_2 : List Int) (r1 : Int) (r2 : ByteArray) (r3 : List Int) (w : World) (hr0_2 : Kd.C (Kd.int .i64) w A0_2 l0_2.length l0_2) (hc0_2 : l0_2.length ≤ c0_2) (h : impl_copyQc.f a0_0 a0_1 l0_2 = some (r1, r2, r3)) :
  Calls Tryz.prog 99 #[.agg #[.int .i64 a0_0, .string a0_1, .slice A0_2 l0_2.length c0_2]] w fun e w' => ∃ v2_ : Value, e = .returned (.agg #[.int .i64 r1, .string r2, v2_]) ∧ Kd.R (Kd.int .i64) 3 w' w.heap.size (fun _ => True) v2_ r3 ∧ Below w.heap.size w w' := by
 have hu27 := Tryz.underlying27; have HR0_2 := Aside0.mk hr0_2; have HC0_2 := Aside0.mk hc0_2; clear hr0_2 hc0_2; have HB := Aside0.mk (Below.refl w.heap.size w)
 have H := h; unfold impl_copyQc.f at H
 clear h; obtain ⟨t913, A2, H⟩ := oB H; (try dsimp only at H)
 simp only [Option.some.injEq, Prod.mk.injEq] at H
 obtain ⟨rfl, rfl, rfl⟩ := H
 go_enter Tryz.func99, Tryz.ntmps99
 go_wp2_with (first | ((with_reducible refine gd 1 ?_); refine bL 1 #[.int .i64 a0_0, .string a0_1, .slice A0_2 l0_2.length c0_2] 27 ?_; intro gb911 w3 _ _ _) | ((with_reducible refine gd 2 ?_); refine bL 2 #[.int .i64 0, .string (⟨#[]⟩ : ByteArray), .slice none 0 0] 27 ?_; intro gb912 w4 _ _ _) | ((with_reducible refine gate_callee (f := 140) rfl ?_); refine gC1 (some 5) Tryz.func140 (impl_copyInts.calls (hr0 := pC HR0_2) (hc0 := HC0_2.out) (w := _) (h := A2.out)) ?_; intro Ao914 co914 w5 _ HO915))
 refine bodyPost_ret (results_cell_row rfl _ _ gb912 27 #[.int .i64 a0_0, .string a0_1, .slice Ao914 t913.length co914] (0, 0) _ rfl xB Tryz.underlying27 rfl (by kernel_rfl)) rfl ?_
 exact ⟨_, y0_17, rR HO915, UpW.out⟩
def impl_PartQc.f (k : Nat) (a0_0 : Int) (a0_1 : Int) (a1_0 : Int) (a1_1 : ByteArray) (l1_2 : List Int) : Option (Int × ByteArray × List Int × Bool) := (impl_copyQc.f a1_0 a1_1 l1_2).bind fun bt919 => ((impl_QcOk.f k a0_0 a0_1 bt919.1 bt919.2.1 bt919.2.2).bind fun t925 => (if t925 = true then (if bt919.1 = 0 then (some (0, (⟨#[]⟩ : ByteArray), ([] : List Int), false)) else (some (bt919.1, bt919.2.1, bt919.2.2, true))) else (some (0, (⟨#[]⟩ : ByteArray), ([] : List Int), false))))
theorem impl_PartQc.calls (k : Nat) (a0_0 : Int) (a0_1 : Int) (a1_0 : Int) (a1_1 : ByteArray) (A1_2 : Option Addr) (c1_2 : Nat) (l1_2 : List Int) (r1 : Int) (r2 : ByteArray) (r3 : List Int) (r4 : Bool) (w : World) (hr1_2 : Kd.C (Kd.int .i64) w A1_2 l1_2.length l1_2) (hc1_2 : l1_2.length ≤ c1_2) (h : impl_PartQc.f k a0_0 a0_1 a1_0 a1_1 l1_2 = some (r1, r2, r3, r4)) (hG : Glob w := by exact gG HG HB) :
  Calls Tryz.prog 33 #[.agg #[.int .i64 a0_0, .int .i64 a0_1], .agg #[.int .i64 a1_0, .string a1_1, .slice A1_2 l1_2.length c1_2]] w fun e w' => ∃ v2_ : Value, e = .returned (.tuple #[.agg #[.int .i64 r1, .string r2, v2_], .bool r4]) ∧ Kd.R (Kd.int .i64) 3 w' w.heap.size (fun _ => True) v2_ r3 ∧ Below w.heap.size w w' := by
 have HG := Aside0.mk hG; clear hG; have hu32 := Tryz.underlying32; have hu48 := Tryz.underlying48; have hu27 := Tryz.underlying27; have HR1_2 := Aside0.mk hr1_2; have HC1_2 := Aside0.mk hc1_2; clear hr1_2 hc1_2; have HB := Aside0.mk (Below.refl w.heap.size w)
 have H := h; unfold impl_PartQc.f at H
 clear h; obtain ⟨⟨t919, t920, t921⟩, A3, H⟩ := oB H; (try dsimp only at H)
 go_enter Tryz.func33, Tryz.ntmps33
 have H' := Aside0.mk H; clear H
 go_upto_region 2 with (first | ((with_reducible refine gd 2 ?_); refine bL 2 #[.int .i64 a0_0, .int .i64 a0_1] 32 ?_; intro gb916 w4 _ _ _) | ((with_reducible refine gd 3 ?_); refine bL 3 #[.int .i64 a1_0, .string a1_1, .slice A1_2 l1_2.length c1_2] 48 ?_; intro gb917 w5 _ _ _) | ((with_reducible refine gd 4 ?_); refine bL 4 #[.int .i64 0, .string (⟨#[]⟩ : ByteArray), .slice none 0 0] 27 ?_; intro gb918 w6 _ _ _) | ((with_reducible refine gate_callee (f := 99) rfl ?_); refine gC1 (some 14) Tryz.func99 (impl_copyQc.calls (hr0_2 := pC HR1_2) (hc0_2 := HC1_2.out) (w := _) (h := A3.out)) ?_; intro Ao922 co922 w7 _ HO923) | ((with_reducible refine gd 6 ?_); refine bL 6 #[.int .i64 0, .string (⟨#[]⟩ : ByteArray), .slice none 0 0] 27 ?_; intro gb924 w8 _ _ _))
 have H := H'.out; clear H'; obtain ⟨t925, A9, H⟩ := oB H; (try dsimp only at H)
 by_cases c10 : t925 = true
 ·
  subst c10
  rw [if_pos rfl] at H
  have H' := Aside0.mk H; clear H
  go_upto_if 23 with (first | ((with_reducible refine gate_callee (f := 50) rfl ?_); refine gC (some 17) Tryz.func50 (impl_QcOk.calls (hr1_2 := rC HO923) (hc1_2 := rL HO923) (w := _) (h := A9.out)) ?_; intro w11 _))
  have H := H'.out; clear H'
  by_cases c12 : t919 = 0
  ·
   rw [if_pos c12] at H
   have c12b0 : (t919 == 0) = true := beq_iff_eq.mpr c12; have c12b1 : (t919 != 0) = false := bne_eq_false_iff_eq.mpr c12; clear c12
   (first | rw [c12b0] | (simp only [i64_w, i32_w]; rw [c12b0]) | skip)
   simp only [Option.some.injEq, Prod.mk.injEq] at H
   obtain ⟨rfl, rfl, rfl, rfl⟩ := H
   go_wp2
   refine bodyPost_ret (results_ct rfl _ _ gb918 27 #[.int .i64 0, .string (⟨#[]⟩ : ByteArray), .slice none 0 0] (0, 0) _ rfl xB Tryz.underlying27 rfl (by kernel_rfl)) rfl ?_
   exact ⟨_, y0_17, Kd.R_nil _ _ _ _ _, UpW.out⟩
  rw [if_neg c12] at H
  have c12b0 : (t919 == 0) = false := beq_eq_false_iff_ne.mpr c12; have c12b1 : (t919 != 0) = true := bne_iff_ne.mpr c12
  (first | rw [c12b0] | (simp only [i64_w, i32_w]; rw [c12b0]) | skip)
  simp only [Option.some.injEq, Prod.mk.injEq] at H
  obtain ⟨rfl, rfl, rfl, rfl⟩ := H
  go_wp2
  refine bodyPost_ret (results_ct rfl _ _ gb918 27 #[.int .i64 t919, .string t920, .slice Ao922 t921.length co922] (0, 0) _ rfl xB Tryz.underlying27 rfl (by kernel_rfl)) rfl ?_
  exact ⟨_, y0_17, rR HO923, UpW.out⟩
 replace c10 := Bool.eq_false_iff.mpr c10; subst c10
 rw [if_neg Bool.false_ne_true] at H
 have H' := Aside0.mk H; clear H
 go_upto_if 23 with (first | ((with_reducible refine gate_callee (f := 50) rfl ?_); refine gC (some 17) Tryz.func50 (impl_QcOk.calls (hr1_2 := rC HO923) (hc1_2 := rL HO923) (w := _) (h := A9.out)) ?_; intro w13 _))
 have H := H'.out; clear H'
 simp only [Option.some.injEq, Prod.mk.injEq] at H
 obtain ⟨rfl, rfl, rfl, rfl⟩ := H
 go_wp2
 refine bodyPost_ret (results_ct rfl _ _ gb918 27 #[.int .i64 0, .string (⟨#[]⟩ : ByteArray), .slice none 0 0] (0, 0) _ rfl xB Tryz.underlying27 rfl (by kernel_rfl)) rfl ?_
 exact ⟨_, y0_17, Kd.R_nil _ _ _ _ _, UpW.out⟩
def spec_Quorum.f (a0_0 : Int) (a0_1 : Int) : Option (Int) := (spec_ConfOk.f a0_0 a0_1).bind fun t927 => (if t927 = true then (some (wrap64 (a0_0 - (wrap64 (Int.tdiv (wrap64 (a0_0 - 1)) 3))))) else (some 0))
theorem spec_Quorum.calls (a0_0 : Int) (a0_1 : Int) (r : Int) (w : World) (h : spec_Quorum.f a0_0 a0_1 = some r) :
  Calls Tryz.prog 148 #[.agg #[.int .i64 a0_0, .int .i64 a0_1]] w fun e w' => e = .returned (.int .i64 r) ∧ Below w.heap.size w w' := by
 have hu32 := Tryz.underlying32; have HB := Aside0.mk (Below.refl w.heap.size w)
 have H := h; unfold spec_Quorum.f at H
 clear h; obtain ⟨t927, A2, H⟩ := oB H; (try dsimp only at H)
 go_enter Tryz.func148, Tryz.ntmps148
 have H' := Aside0.mk H; clear H
 go_upto_if 5 with (first | ((with_reducible refine gd 1 ?_); refine bL 1 #[.int .i64 a0_0, .int .i64 a0_1] 32 ?_; intro gb926 w3 _ _ _) | ((with_reducible refine gate_callee (f := 109) rfl ?_); refine gC (some 4) Tryz.func109 (spec_ConfOk.calls (w := _) (h := A2.out)) ?_; intro w4 _))
 have H := H'.out; clear H'
 by_cases c5 : t927 = true
 ·
  subst c5
  rw [if_pos rfl] at H
  obtain rfl := Option.some.inj H
  go_wp2
  go_ret
  exact ⟨y0_17, UpW.out⟩
 replace c5 := Bool.eq_false_iff.mpr c5; subst c5
 rw [if_neg Bool.false_ne_true] at H
 obtain rfl := Option.some.inj H
 go_wp2
 go_ret
 exact ⟨y0_17, UpW.out⟩
def spec_QcOk.f (k : Nat) (a0_0 : Int) (a0_1 : Int) (a1_0 : Int) (a1_1 : ByteArray) (l1_2 : List Int) : Option (Bool) := (spec_ConfOk.f a0_0 a0_1).bind fun t930 => (if t930 = true then ((spec_NameOk.f k a1_1).bind fun t931 => (if t931 = true then ((spec_ViewOf.f k a1_1).bind fun t932 => (if t932 = a1_0 then (if a1_1.toList = ([] : List UInt8) then (some ((l1_2.length : Int) == 0)) else ((spec_SetOk.f k a0_0 l1_2).bind fun t933 => (if t933 = true then ((spec_Quorum.f a0_0 a0_1).bind fun t934 => (some (decide ((l1_2.length : Int) ≥ t934)))) else (some false)))) else (some false))) else (some false))) else (some false))
def spec_QcOk.T1 : Bool × List (List Nat × List Nat) := (true, [([], []), ([0], [0]), ([1], [1]), ([2, 1], [2]), ([3], [3]), ([4, 3], [3, 4]), ([5, 3, 3], [3, 5]), ([6, 3], [3, 6]), ([3, 7], [3, 7]), ([8, 6], [8]), ([9], [9]), ([10, 9], [9, 10]), ([11, 9, 9], [9, 11]), ([9], [9]), ([13, 9], [9, 13]), ([12, 14, 9], [9, 12, 14]), ([9, 15], [9, 15])])
def spec_QcOk.B1 : List Nat := [0, 1, 3, 7, 15, 31, 63, 127, 255, 511, 1023, 2047, 4095, 1023, 9215, 32767, 65535]
theorem spec_QcOk.tab1 : rtab .any (opsOf Tryz.f100 1) = spec_QcOk.T1 := by kernel_rfl
theorem spec_QcOk.bits1 : waitsOk spec_QcOk.T1.2 spec_QcOk.B1 = true := by kernel_rfl
def spec_QcOk.T5 : Bool × List (List Nat × List Nat) := (true, [([], []), ([0], [0]), ([], []), ([2], [2]), ([1, 3], [1, 3]), ([4, 4], [4]), ([5], [5]), ([6, 5], [5, 6]), ([7, 5], [5, 7]), ([5], [5]), ([9, 5, 5], [5, 9]), ([8, 10, 5], [5, 8, 10]), ([5, 11], [5, 11]), ([12, 10, 0, 1, 2, 3, 4, 5, 6, 7, 8, 9, 10, 11, 12], [12])])
def spec_QcOk.B5 : List Nat := [0, 1, 0, 4, 15, 31, 63, 127, 255, 63, 575, 2047, 4095, 8191]
theorem spec_QcOk.tab5 : rtab .any (opsOf Tryz.f100 5) = spec_QcOk.T5 := by kernel_rfl
theorem spec_QcOk.bits5 : waitsOk spec_QcOk.T5.2 spec_QcOk.B5 = true := by kernel_rfl
theorem spec_QcOk.calls (k : Nat) (a0_0 : Int) (a0_1 : Int) (a1_0 : Int) (a1_1 : ByteArray) (A1_2 : Option Addr) (c1_2 : Nat) (l1_2 : List Int) (r : Bool) (w : World) (hr1_2 : Kd.C (Kd.int .i64) w A1_2 l1_2.length l1_2) (hc1_2 : l1_2.length ≤ c1_2) (h : spec_QcOk.f k a0_0 a0_1 a1_0 a1_1 l1_2 = some r) :
  Calls Tryz.prog 100 #[.agg #[.int .i64 a0_0, .int .i64 a0_1], .agg #[.int .i64 a1_0, .string a1_1, .slice A1_2 l1_2.length c1_2]] w fun e w' => e = .returned (.bool r) ∧ Below w.heap.size w w' := by
 have hu32 := Tryz.underlying32; have hu27 := Tryz.underlying27; have HR1_2 := Aside0.mk hr1_2; have HC1_2 := Aside0.mk hc1_2; clear hr1_2 hc1_2; have HB := Aside0.mk (Below.refl w.heap.size w)
 have H := h; unfold spec_QcOk.f at H
 clear h
 go_enter Tryz.func100, Tryz.ntmps100
 have H' := Aside0.mk H; clear H
 go_upto_region 1 with (first | ((with_reducible refine gd 2 ?_); refine bL 2 #[.int .i64 a0_0, .int .i64 a0_1] 32 ?_; intro gb928 w3 _ _ _) | ((with_reducible refine gd 3 ?_); refine bL 3 #[.int .i64 a1_0, .string a1_1, .slice A1_2 l1_2.length c1_2] 27 ?_; intro gb929 w4 _ _ _))
 have H := H'.out; clear H'; obtain ⟨t930, A5, H⟩ := oB H; (try dsimp only at H)
 by_cases c6 : t930 = true
 ·
  subst c6
  rw [if_pos rfl] at H
  obtain ⟨t931, A7, H⟩ := oB H; (try dsimp only at H)
  by_cases c8 : t931 = true
  ·
   subst c8
   rw [if_pos rfl] at H
   obtain ⟨t932, A9, H⟩ := oB H; (try dsimp only at H); have H' := Aside0.mk H; clear H
   try go_wp2
   refine sB [] spec_QcOk.tab1 spec_QcOk.bits1 ?_; intro w10 _ HT_ HW_
   refine tB 0 (some 5) (bz 17 1) HT_ HW_ ?_
   refine o1 1 (some 6) (bz 17 3) HT_ rfl (kC Tryz.func109 (spec_ConfOk.calls (w := _) (h := A5.out)) ?_); intro w11 _
   refine nA (some 6) ?_
   refine pA 2 (some 7) (bz 17 7) HT_ ?_
   refine pA 3 (some 8) (bz 17 15) HT_ ?_
   refine pA 4 (some 9) (bz 17 31) HT_ ?_
   refine tB 5 (some 10) (bz 17 63) HT_ HW_ ?_
   refine o1 6 (some 11) (bz 17 127) HT_ rfl (kC Tryz.func112 (spec_NameOk.calls (w := _) (h := A7.out)) ?_); intro w12 _
   refine nA (some 11) ?_
   refine pA 7 (some 12) (bz 17 255) HT_ ?_
   refine pA 8 (some 13) (bz 17 511) HT_ ?_
   refine pA 9 (some 14) (bz 17 1023) HT_ ?_
   refine pA 10 (some 15) (bz 17 2047) HT_ ?_
   refine tB 11 (some 16) (bz 17 4095) HT_ HW_ ?_
   refine pA 13 (some 18) (bz 17 0x2fff) HT_ ?_
   refine tB 14 (some 19) (bz 17 0x6fff) HT_ HW_ ?_
   refine o1 12 (some 17) (bz 17 0x7fff) HT_ rfl (kC Tryz.func113 (spec_ViewOf.calls (w := _) (h := A9.out)) ?_); intro w13 _
   refine nA (some 17) ?_
   refine pA 15 (some 20) (bz 17 0xffff) HT_ ?_
   refine pA 16 (some 21) (bz 17 0x1ffff) HT_ ?_
   refine done_ (done_of HT_.out (by kernel_rfl)) ?_
   go_upto_if 21 with fail
   have H := H'.out; clear H'
   by_cases c14 : t932 = a1_0
   ·
    rw [if_pos c14] at H
    have c14b0 : (t932 == a1_0) = true := beq_iff_eq.mpr c14; have c14b1 : (t932 != a1_0) = false := bne_eq_false_iff_eq.mpr c14; clear c14
    (first | rw [c14b0] | (simp only [i64_w, i32_w]; rw [c14b0]) | skip)
    have H' := Aside0.mk H; clear H
    go_upto_if 24 with fail
    have H := H'.out; clear H'
    by_cases c15 : a1_1.toList = ([] : List UInt8)
    ·
     rw [if_pos c15] at H
     have c15b0 : (a1_1.toList == ([] : List UInt8)) = true := beq_iff_eq.mpr c15; have c15b1 : (a1_1.toList != ([] : List UInt8)) = false := bne_eq_false_iff_eq.mpr c15; clear c15
     (first | rw [c15b0] | (simp only [i64_w, i32_w]; rw [c15b0]) | rw [show List.isEmpty (a1_1.toList) = true from by simpa using c15b0] | skip)
     obtain rfl := Option.some.inj H
     go_wp2
     go_ret
     exact ⟨y0_17, UpW.out⟩
    rw [if_neg c15] at H
    have c15b0 : (a1_1.toList == ([] : List UInt8)) = false := beq_eq_false_iff_ne.mpr c15; have c15b1 : (a1_1.toList != ([] : List UInt8)) = true := bne_iff_ne.mpr c15
    (first | rw [c15b0] | (simp only [i64_w, i32_w]; rw [c15b0]) | rw [show List.isEmpty (a1_1.toList) = false from by simpa using c15b0] | skip)
    obtain ⟨t933, A16, H⟩ := oB H; (try dsimp only at H)
    by_cases c17 : t933 = true
    ·
     subst c17
     rw [if_pos rfl] at H
     obtain ⟨t934, A18, H⟩ := oB H; (try dsimp only at H); obtain rfl := Option.some.inj H
     try go_wp2
     refine sB [] spec_QcOk.tab5 spec_QcOk.bits5 ?_; intro w19 _ HT_ HW_
     refine pA 0 (some 29) (bz 14 1) HT_ ?_
     refine tB 1 (some 30) (bz 14 3) HT_ HW_ ?_
     refine pA 2 (some 31) (bz 14 7) HT_ ?_
     refine tB 3 (some 32) (bz 14 15) HT_ HW_ ?_
     refine o1 4 (some 33) (bz 14 31) HT_ rfl (kD Tryz.func111 (spec_SetOk.calls (hr1 := pC HR1_2) (hc1 := HC1_2.out) (w := _) (h := A16.out)) ?_); intro w20 _
     refine nA (some 33) ?_
     refine pA 5 (some 34) (bz 14 63) HT_ ?_
     refine pA 6 (some 35) (bz 14 127) HT_ ?_
     refine tB 7 (some 36) (bz 14 255) HT_ HW_ ?_
     refine pA 8 (some 37) (bz 14 511) HT_ ?_
     refine tB 9 (some 38) (bz 14 1023) HT_ HW_ ?_
     refine o1 10 (some 39) (bz 14 2047) HT_ rfl (kC Tryz.func148 (spec_Quorum.calls (w := _) (h := A18.out)) ?_); intro w21 _
     refine nA (some 39) ?_
     refine pA 11 (some 40) (bz 14 4095) HT_ ?_
     refine pA 12 (some 41) (bz 14 0x1fff) HT_ ?_
     refine pA 13 (some 4) (bz 14 0x3fff) HT_ ?_
     refine done_ (done_of HT_.out (by kernel_rfl)) ?_
     try go_wp2
     go_ret
     exact ⟨y0_17, UpW.out⟩
    replace c17 := Bool.eq_false_iff.mpr c17; subst c17
    rw [if_neg Bool.false_ne_true] at H
    obtain rfl := Option.some.inj H
    try go_wp2
    refine sB [] spec_QcOk.tab5 spec_QcOk.bits5 ?_; intro w22 _ HT_ HW_
    refine pA 0 (some 29) (bz 14 1) HT_ ?_
    refine tB 1 (some 30) (bz 14 3) HT_ HW_ ?_
    refine pA 2 (some 31) (bz 14 7) HT_ ?_
    refine tB 3 (some 32) (bz 14 15) HT_ HW_ ?_
    refine o1 4 (some 33) (bz 14 31) HT_ rfl (kD Tryz.func111 (spec_SetOk.calls (hr1 := pC HR1_2) (hc1 := HC1_2.out) (w := _) (h := A16.out)) ?_); intro w23 _
    refine nA (some 33) ?_
    refine pA 5 (some 34) (bz 14 63) HT_ ?_
    refine pU 6 (some 35) (bz 14 127) HT_ ?_
    refine pU 7 (some 36) (bz 14 255) HT_ ?_
    refine pU 8 (some 37) (bz 14 511) HT_ ?_
    refine pU 9 (some 38) (bz 14 1023) HT_ ?_
    refine pU 10 (some 39) (bz 14 2047) HT_ ?_
    refine pU 11 (some 40) (bz 14 4095) HT_ ?_
    refine pA 12 (some 41) (bz 14 0x1fff) HT_ ?_
    refine pA 13 (some 4) (bz 14 0x3fff) HT_ ?_
    refine done_ (done_of HT_.out (by kernel_rfl)) ?_
    try go_wp2
    go_ret
    exact ⟨y0_17, UpW.out⟩
   rw [if_neg c14] at H
   have c14b0 : (t932 == a1_0) = false := beq_eq_false_iff_ne.mpr c14; have c14b1 : (t932 != a1_0) = true := bne_iff_ne.mpr c14
   (first | rw [c14b0] | (simp only [i64_w, i32_w]; rw [c14b0]) | skip)
   obtain rfl := Option.some.inj H
   go_wp2
   go_ret
   exact ⟨y0_17, UpW.out⟩
  replace c8 := Bool.eq_false_iff.mpr c8; subst c8
  rw [if_neg Bool.false_ne_true] at H
  have H' := Aside0.mk H; clear H
  try go_wp2
  refine sB [] spec_QcOk.tab1 spec_QcOk.bits1 ?_; intro w24 _ HT_ HW_
  refine tB 0 (some 5) (bz 17 1) HT_ HW_ ?_
  refine o1 1 (some 6) (bz 17 3) HT_ rfl (kC Tryz.func109 (spec_ConfOk.calls (w := _) (h := A5.out)) ?_); intro w25 _
  refine nA (some 6) ?_
  refine pA 2 (some 7) (bz 17 7) HT_ ?_
  refine pA 3 (some 8) (bz 17 15) HT_ ?_
  refine pA 4 (some 9) (bz 17 31) HT_ ?_
  refine tB 5 (some 10) (bz 17 63) HT_ HW_ ?_
  refine o1 6 (some 11) (bz 17 127) HT_ rfl (kC Tryz.func112 (spec_NameOk.calls (w := _) (h := A7.out)) ?_); intro w26 _
  refine nA (some 11) ?_
  refine pA 7 (some 12) (bz 17 255) HT_ ?_
  refine pA 8 (some 13) (bz 17 511) HT_ ?_
  refine pA 9 (some 14) (bz 17 1023) HT_ ?_
  refine pU 10 (some 15) (bz 17 2047) HT_ ?_
  refine pU 11 (some 16) (bz 17 4095) HT_ ?_
  refine pU 12 (some 17) (bz 17 0x1fff) HT_ ?_
  refine pU 13 (some 18) (bz 17 0x3fff) HT_ ?_
  refine pU 14 (some 19) (bz 17 0x7fff) HT_ ?_
  refine pU 15 (some 20) (bz 17 0xffff) HT_ ?_
  refine pA 16 (some 21) (bz 17 0x1ffff) HT_ ?_
  refine done_ (done_of HT_.out (by kernel_rfl)) ?_
  go_upto_if 21 with fail
  have H := H'.out; clear H'; obtain rfl := Option.some.inj H
  go_wp2
  go_ret
  exact ⟨y0_17, UpW.out⟩
 replace c6 := Bool.eq_false_iff.mpr c6; subst c6
 rw [if_neg Bool.false_ne_true] at H
 have H' := Aside0.mk H; clear H
 try go_wp2
 refine sB [] spec_QcOk.tab1 spec_QcOk.bits1 ?_; intro w27 _ HT_ HW_
 refine tB 0 (some 5) (bz 17 1) HT_ HW_ ?_
 refine o1 1 (some 6) (bz 17 3) HT_ rfl (kC Tryz.func109 (spec_ConfOk.calls (w := _) (h := A5.out)) ?_); intro w28 _
 refine nA (some 6) ?_
 refine pA 2 (some 7) (bz 17 7) HT_ ?_
 refine pA 3 (some 8) (bz 17 15) HT_ ?_
 refine pU 4 (some 9) (bz 17 31) HT_ ?_
 refine pU 5 (some 10) (bz 17 63) HT_ ?_
 refine pU 6 (some 11) (bz 17 127) HT_ ?_
 refine pU 7 (some 12) (bz 17 255) HT_ ?_
 refine pA 8 (some 13) (bz 17 511) HT_ ?_
 refine pA 9 (some 14) (bz 17 1023) HT_ ?_
 refine pU 10 (some 15) (bz 17 2047) HT_ ?_
 refine pU 11 (some 16) (bz 17 4095) HT_ ?_
 refine pU 12 (some 17) (bz 17 0x1fff) HT_ ?_
 refine pU 13 (some 18) (bz 17 0x3fff) HT_ ?_
 refine pU 14 (some 19) (bz 17 0x7fff) HT_ ?_
 refine pU 15 (some 20) (bz 17 0xffff) HT_ ?_
 refine pA 16 (some 21) (bz 17 0x1ffff) HT_ ?_
 refine done_ (done_of HT_.out (by kernel_rfl)) ?_
 go_upto_if 21 with fail
 have H := H'.out; clear H'; obtain rfl := Option.some.inj H
 go_wp2
 go_ret
 exact ⟨y0_17, UpW.out⟩
def spec_PartQc.f (k : Nat) (a0_0 : Int) (a0_1 : Int) (a1_0 : Int) (a1_1 : ByteArray) (l1_2 : List Int) : Option (Int × ByteArray × List Int × Bool) := (some (([] : List Int) : List Int)).bind fun y938 => (if y938.length + l1_2.length < 17592186044416 then ((some (y938 ++ l1_2 : List Int)).bind fun y941 => (if a1_1.toList = ([] : List UInt8) then (some (0, (⟨#[]⟩ : ByteArray), ([] : List Int), false)) else ((spec_QcOk.f k a0_0 a0_1 a1_0 a1_1 y941).bind fun t945 => (if t945 = true then (some (a1_0, a1_1, y941, true)) else (some (0, (⟨#[]⟩ : ByteArray), ([] : List Int), false)))))) else (none))
def spec_PartQc.T1 : Bool × List (List Nat × List Nat) := (true, [([], []), ([0], [0]), ([], []), ([2], [2]), ([], []), ([], []), ([5], [5]), ([4, 6], [4, 6]), ([1, 3, 7], [1, 3, 7]), ([], []), ([9, 8, 7, 0, 1, 2, 3, 4, 5, 6, 7, 8, 9], [8, 9])])
def spec_PartQc.B1 : List Nat := [0, 1, 0, 4, 0, 0, 32, 112, 255, 0, 1023]
theorem spec_PartQc.tab1 : rtab .any (opsOf Tryz.f34 1) = spec_PartQc.T1 := by kernel_rfl
theorem spec_PartQc.bits1 : waitsOk spec_PartQc.T1.2 spec_PartQc.B1 = true := by kernel_rfl
theorem spec_PartQc.calls (k : Nat) (a0_0 : Int) (a0_1 : Int) (a1_0 : Int) (a1_1 : ByteArray) (A1_2 : Option Addr) (c1_2 : Nat) (l1_2 : List Int) (r1 : Int) (r2 : ByteArray) (r3 : List Int) (r4 : Bool) (w : World) (hr1_2 : Kd.C (Kd.int .i64) w A1_2 l1_2.length l1_2) (hc1_2 : l1_2.length ≤ c1_2) (h : spec_PartQc.f k a0_0 a0_1 a1_0 a1_1 l1_2 = some (r1, r2, r3, r4)) :
  Calls Tryz.prog 34 #[.agg #[.int .i64 a0_0, .int .i64 a0_1], .agg #[.int .i64 a1_0, .string a1_1, .slice A1_2 l1_2.length c1_2]] w fun e w' => ∃ v2_ : Value, e = .returned (.tuple #[.agg #[.int .i64 r1, .string r2, v2_], .bool r4]) ∧ Kd.R (Kd.int .i64) 3 w' w.heap.size (fun _ => True) v2_ r3 ∧ Below w.heap.size w w' := by
 have hu32 := Tryz.underlying32; have hu48 := Tryz.underlying48; have hu27 := Tryz.underlying27; have HR1_2 := Aside0.mk hr1_2; have HC1_2 := Aside0.mk hc1_2; clear hr1_2 hc1_2; have HB := Aside0.mk (Below.refl w.heap.size w)
 have H := h; unfold spec_PartQc.f at H
 clear h; obtain ⟨y938, hy938⟩ : ∃ y_ : List Int, y_ = (([] : List Int)) := ⟨_, rfl⟩
 replace H : (if y938.length + l1_2.length < 17592186044416 then ((some (y938 ++ l1_2 : List Int)).bind fun y941 => (if a1_1.toList = ([] : List UInt8) then (some (0, (⟨#[]⟩ : ByteArray), ([] : List Int), false)) else ((spec_QcOk.f k a0_0 a0_1 a1_0 a1_1 y941).bind fun t945 => (if t945 = true then (some (a1_0, a1_1, y941, true)) else (some (0, (⟨#[]⟩ : ByteArray), ([] : List Int), false)))))) else (none)) = some (r1, r2, r3, r4) := by first | (rw [hy938]; with_reducible exact H) | (rw [hy938]; with_reducible exact (Option.bind_some _ _).symm.trans H) | (rw [hy938]; exact H) | exact H
 have Ny938 := Aside0.mk hy938; clear hy938
 by_cases c3 : y938.length + l1_2.length < 17592186044416
 ·
  rw [if_pos c3] at H
  have LMc3 := Aside0.mk c3; clear c3; obtain ⟨y941, hy941⟩ : ∃ y_ : List Int, y_ = (y938 ++ l1_2) := ⟨_, rfl⟩
  replace H : (if a1_1.toList = ([] : List UInt8) then (some (0, (⟨#[]⟩ : ByteArray), ([] : List Int), false)) else ((spec_QcOk.f k a0_0 a0_1 a1_0 a1_1 y941).bind fun t945 => (if t945 = true then (some (a1_0, a1_1, y941, true)) else (some (0, (⟨#[]⟩ : ByteArray), ([] : List Int), false))))) = some (r1, r2, r3, r4) := by first | (rw [hy941]; with_reducible exact H) | (rw [hy941]; with_reducible exact (Option.bind_some _ _).symm.trans H) | (rw [hy941]; exact H) | exact H
  have Ny941 := Aside0.mk hy941; clear hy941
  go_enter Tryz.func34, Tryz.ntmps34
  have H' := Aside0.mk H; clear H
  try go_wp2_with (first | ((with_reducible refine gd 2 ?_); refine bL 2 #[.int .i64 a0_0, .int .i64 a0_1] 32 ?_; intro gb935 w4 _ _ _) | ((with_reducible refine gd 3 ?_); refine bL 3 #[.int .i64 a1_0, .string a1_1, .slice A1_2 l1_2.length c1_2] 48 ?_; intro gb936 w5 _ _ _) | ((with_reducible refine gd 4 ?_); refine bL 4 #[.int .i64 0, .string (⟨#[]⟩ : ByteArray), .slice none 0 0] 27 ?_; intro gb937 w6 _ _ _))
  refine sB [] spec_PartQc.tab1 spec_PartQc.bits1 ?_; intro w7 _ HT_ HW_
  refine pA 0 (some 7) (bz 11 1) HT_ ?_
  refine tB 1 (some 8) (bz 11 3) HT_ HW_ ?_
  refine pA 2 (some 9) (bz 11 7) HT_ ?_
  refine tB 3 (some 10) (bz 11 15) HT_ HW_ ?_
  refine pA 5 (some 12) (bz 11 47) HT_ ?_
  refine tB 6 (some 13) (bz 11 111) HT_ HW_ ?_
  refine join_ (σ := Option Addr × Nat × Option Addr × Nat × Nat) 1 (bz 11 1023) (fun s_ => [(11, .slice s_.1 y938.length s_.2.1), (14, .slice s_.2.2.1 y941.length s_.2.2.2.1), (15, .agg #[.int .i64 a1_0, .string a1_1, .slice s_.2.2.1 y941.length s_.2.2.2.1]), (6, .pointer (some ⟨s_.2.2.2.2, 0, none⟩))]) (fun s_ w' => Aside0 (Kd.R (Kd.int .i64) 3 w' w7.heap.size (iv w7 w') (.slice s_.2.2.1 y941.length s_.2.2.2.1) y941) ∧ BkI (s_.2.2.2.2) w' #[.int .i64 0, .string (⟨#[]⟩ : ByteArray), .slice none 0 0] 27 ∧ BornI (s_.2.2.2.2) w7 ∧ UB w7 w') ?_ ?_
  rotate_left
  ·
   intro hCont
   refine o2 4 9 (some 11) (some 6) (bz 11 127) (bz 11 623) HT_ rfl rfl (kL 3 (Kd.int .i64) rfl Ny938 ?_) (kB #[.int .i64 0, .string (⟨#[]⟩ : ByteArray), .slice none 0 0] 27 ?_)
   ·
    intro Ao939 co939 w8 _ HO940
    refine nA (some 11) ?_
    refine o2 7 9 (some 14) (some 6) (bz 11 255) (bz 11 639) HT_ rfl rfl (kGR (Kd.int .i64) (.tmp 11) (.tmp 13) 25 3 (.int .i64 0) 8 w7 Ny941 HO940 (pC HR1_2) (by have := LMc3.out; omega) ?_ (ht := Tryz.underlying25) (hinfo := info3)) (kB #[.int .i64 0, .string (⟨#[]⟩ : ByteArray), .slice none 0 0] 27 ?_)
    ·
     intro Ao942 co942 w10 _ _ HO943
     refine nA (some 14) ?_
     refine pA 8 (some 15) (bz 11 511) HT_ ?_
     refine o1 9 (some 6) (bz 11 1023) HT_ rfl (kB #[.int .i64 0, .string (⟨#[]⟩ : ByteArray), .slice none 0 0] 27 ?_); intro gb944 w12 _ _ _
     refine nA (some 6) ?_
     exact hJ (hCont (Ao939, co939, Ao942, co942, gb944) _ ⟨⟨rJ HO943⟩, ⟨xB⟩, ⟨GeI.out⟩, ⟨UpW.out⟩⟩)
    intro gb944 w11 _ _ _
    refine nA (some 6) ?_
    refine o1 7 (some 14) (bz 11 767) HT_ rfl (kGR (Kd.int .i64) (.tmp 11) (.tmp 13) 25 3 (.int .i64 0) 8 w7 Ny941 HO940 (pC HR1_2) (by have := LMc3.out; omega) ?_ (ht := Tryz.underlying25) (hinfo := info3)); intro Ao942 co942 w13 _ _ HO943
    refine nA (some 14) ?_
    refine pA 8 (some 15) (bz 11 1023) HT_ ?_
    exact hJ (hCont (Ao939, co939, Ao942, co942, gb944) _ ⟨⟨rJ HO943⟩, ⟨xB⟩, ⟨GeI.out⟩, ⟨UpW.out⟩⟩)
   intro gb944 w9 _ _ _
   refine nA (some 6) ?_
   refine o1 4 (some 11) (bz 11 639) HT_ rfl (kL 3 (Kd.int .i64) rfl Ny938 ?_); intro Ao939 co939 w14 _ HO940
   refine nA (some 11) ?_
   refine o1 7 (some 14) (bz 11 767) HT_ rfl (kGR (Kd.int .i64) (.tmp 11) (.tmp 13) 25 3 (.int .i64 0) 8 w9 Ny941 HO940 (pC HR1_2) (by have := LMc3.out; omega) ?_ (ht := Tryz.underlying25) (hinfo := info3)); intro Ao942 co942 w15 _ _ HO943
   refine nA (some 14) ?_
   refine pA 8 (some 15) (bz 11 1023) HT_ ?_
   exact hJ (hCont (Ao939, co939, Ao942, co942, gb944) _ ⟨⟨rJ HO943⟩, ⟨xB⟩, ⟨GeI.out⟩, ⟨UpW.out⟩⟩)
  rintro ⟨Ao939, co939, Ao942, co942, gb944⟩ w16 ⟨HO943, _, _, _⟩
  refine nP ?_
  refine o1 10 none (bz 11 2047) HT_ rfl (kS ?_)
  refine done_ (done_of HT_.out (by kernel_rfl)) ?_
  go_upto_region 2 with fail
  have H := H'.out; clear H'
  by_cases c17 : a1_1.toList = ([] : List UInt8)
  ·
   rw [if_pos c17] at H
   have c17b0 : (a1_1.toList == ([] : List UInt8)) = true := beq_iff_eq.mpr c17; have c17b1 : (a1_1.toList != ([] : List UInt8)) = false := bne_eq_false_iff_eq.mpr c17; clear c17
   (first | rw [c17b0] | (simp only [i64_w, i32_w]; rw [c17b0]) | rw [show List.isEmpty (a1_1.toList) = true from by simpa using c17b0] | skip)
   have H' := Aside0.mk H; clear H
   go_upto_if 24 with fail
   have H := H'.out; clear H'
   simp only [Option.some.injEq, Prod.mk.injEq] at H
   obtain ⟨rfl, rfl, rfl, rfl⟩ := H
   go_wp2
   refine bodyPost_ret (results_ct rfl _ _ gb937 27 #[.int .i64 0, .string (⟨#[]⟩ : ByteArray), .slice none 0 0] (0, 0) _ rfl xB Tryz.underlying27 rfl (by kernel_rfl)) rfl ?_
   exact ⟨_, y0_17, Kd.R_nil _ _ _ _ _, UpW.out⟩
  rw [if_neg c17] at H
  have c17b0 : (a1_1.toList == ([] : List UInt8)) = false := beq_eq_false_iff_ne.mpr c17; have c17b1 : (a1_1.toList != ([] : List UInt8)) = true := bne_iff_ne.mpr c17
  (first | rw [c17b0] | (simp only [i64_w, i32_w]; rw [c17b0]) | rw [show List.isEmpty (a1_1.toList) = false from by simpa using c17b0] | skip)
  obtain ⟨t945, A18, H⟩ := oB H; (try dsimp only at H); have H' := Aside0.mk H; clear H
  go_upto_if 24 with (first | (go_at_call 100; refine aC (spec_QcOk.calls (hr1_2 := rC HO943) (hc1_2 := rL HO943) (w := _) (h := A18.out)) ?_; intro w19 _))
  have H := H'.out; clear H'
  by_cases c20 : t945 = true
  ·
   subst c20
   rw [if_pos rfl] at H
   simp only [Option.some.injEq, Prod.mk.injEq] at H
   obtain ⟨rfl, rfl, rfl, rfl⟩ := H
   go_wp2
   refine bodyPost_ret (results_ct rfl _ _ gb937 27 #[.int .i64 a1_0, .string a1_1, .slice Ao942 y941.length co942] (0, 0) _ rfl xB Tryz.underlying27 rfl (by kernel_rfl)) rfl ?_
   exact ⟨_, y0_17, rR HO943, UpW.out⟩
  replace c20 := Bool.eq_false_iff.mpr c20; subst c20
  rw [if_neg Bool.false_ne_true] at H
  simp only [Option.some.injEq, Prod.mk.injEq] at H
  obtain ⟨rfl, rfl, rfl, rfl⟩ := H
  go_wp2
  refine bodyPost_ret (results_ct rfl _ _ gb937 27 #[.int .i64 0, .string (⟨#[]⟩ : ByteArray), .slice none 0 0] (0, 0) _ rfl xB Tryz.underlying27 rfl (by kernel_rfl)) rfl ?_
  exact ⟨_, y0_17, Kd.R_nil _ _ _ _ _, UpW.out⟩
 rw [if_neg c3] at H
 exact absurd H (by simp)
def spec_DrawTableGet.f (k : Nat) (l0 : List Int) : Option ((List (S48)) × Int × ByteArray) := (spec_l1New.f k l0).bind fun bt946 => ((spec_l7DrawConf.f bt946.1 bt946.2.1 bt946.2.2).bind fun bt950 => ((spec_l10DrawTable.f k bt946.1 bt950.2.2.1 bt950.2.2.2 bt950.1 bt950.2.1).bind fun bt954 => (if (bt954.1.length : Int) > 0 then ((spec_l1Once.f bt946.1 bt954.2.1 bt954.2.2 2).bind fun bt959 => (if bt959.1 = true then ((spec_l1Below.f bt946.1 bt959.2.1 bt959.2.2 (bt954.1.length : Int)).bind fun bt962 => (if 0 ≤ bt962.1 then (if bt962.1 < (bt954.1.length : Int) then (some (bt954.1, (rd_T48 bt954.1 bt962.1).f0, (rd_T48 bt954.1 bt962.1).f1)) else (none)) else (none))) else ((spec_l1Below.f bt946.1 bt959.2.1 bt959.2.2 5).bind fun bt967 => ((spec_l5DrawRight.f k bt946.1 bt967.2.1 bt967.2.2).bind fun bt970 => (some (bt954.1, bt967.1, bt970.1)))))) else ((spec_l1Below.f bt946.1 bt954.2.1 bt954.2.2 5).bind fun bt973 => ((spec_l5DrawRight.f k bt946.1 bt973.2.1 bt973.2.2).bind fun bt976 => (some (bt954.1, bt973.1, bt976.1)))))))
theorem spec_DrawTableGet.calls (k : Nat) (A0 : Option Addr) (c0 : Nat) (l0 : List Int) (r1 : List (S48)) (r2 : Int) (r3 : ByteArray) (w : World) (hr0 : Kd.C (Kd.int .u8) w A0 l0.length l0) (hc0 : l0.length ≤ c0) (h : spec_DrawTableGet.f k l0 = some (r1, r2, r3)) :
  Calls Tryz.prog 35 #[.slice A0 l0.length c0] w fun e w' => ∃ v0_ : Value, e = .returned (.tuple #[v0_, .int .i64 r2, .string r3]) ∧ Kd.S k48 48 w' w.heap.size (fun _ => True) v0_ r1 ∧ Below w.heap.size w w' := by
 have hu48 := Tryz.underlying48; have HR0 := Aside0.mk hr0; have HC0 := Aside0.mk hc0; clear hr0 hc0; have HB := Aside0.mk (Below.refl w.heap.size w)
 have H := h; unfold spec_DrawTableGet.f at H
 clear h; obtain ⟨⟨t946, t947, t948⟩, A2, H⟩ := oB H; (try dsimp only at H); obtain ⟨⟨t950, t951, t952, t953⟩, A3, H⟩ := oB H; (try dsimp only at H); obtain ⟨⟨t954, t957, t958⟩, A4, H⟩ := oB H; (try dsimp only at H)
 go_enter Tryz.func35, Tryz.ntmps35
 have H' := Aside0.mk H; clear H
 go_upto_region 3 with (first | ((with_reducible refine gate_callee (f := 90) rfl ?_); refine wL ?_; intro w5 _; refine gN (some 9) Tryz.func90 (spec_l1New.calls (hB := Below.refl _ _) (hr0 := pC HR0) (hc0 := HC0.out) (w := _) (h := A2.out)) ?_; intro g949 w6 _ _ _ HI7) | ((with_reducible refine gate_callee (f := 91) rfl ?_); refine gK (some 12) Tryz.func91 (spec_l7DrawConf.calls (hI := iS149 HI7) (hB := UpW.out) (w := _) (h := A3.out)) ?_; intro w8 _ _ _ HI9) | ((with_reducible refine gate_callee (f := 96) rfl ?_); refine gKS1 (some 13) Tryz.func96 (spec_l10DrawTable.calls (hI := iS149 HI9) (hB := UpW.out) (w := _) (h := A4.out)) ?_; intro Ao955 co955 w10 _ _ _ HI11 HO956))
 repeat (go_quiet (first | ((with_reducible refine gate_callee (f := 90) rfl ?_); refine wL ?_; intro w5 _; refine gN (some 9) Tryz.func90 (spec_l1New.calls (hB := Below.refl _ _) (hr0 := pC HR0) (hc0 := HC0.out) (w := _) (h := A2.out)) ?_; intro g949 w6 _ _ _ HI7) | ((with_reducible refine gate_callee (f := 91) rfl ?_); refine gK (some 12) Tryz.func91 (spec_l7DrawConf.calls (hI := iS149 HI7) (hB := UpW.out) (w := _) (h := A3.out)) ?_; intro w8 _ _ _ HI9) | ((with_reducible refine gate_callee (f := 96) rfl ?_); refine gKS1 (some 13) Tryz.func96 (spec_l10DrawTable.calls (hI := iS149 HI9) (hB := UpW.out) (w := _) (h := A4.out)) ?_; intro Ao955 co955 w10 _ _ _ HI11 HO956)); go_upto_region 3 with (first | ((with_reducible refine gate_callee (f := 90) rfl ?_); refine wL ?_; intro w5 _; refine gN (some 9) Tryz.func90 (spec_l1New.calls (hB := Below.refl _ _) (hr0 := pC HR0) (hc0 := HC0.out) (w := _) (h := A2.out)) ?_; intro g949 w6 _ _ _ HI7) | ((with_reducible refine gate_callee (f := 91) rfl ?_); refine gK (some 12) Tryz.func91 (spec_l7DrawConf.calls (hI := iS149 HI7) (hB := UpW.out) (w := _) (h := A3.out)) ?_; intro w8 _ _ _ HI9) | ((with_reducible refine gate_callee (f := 96) rfl ?_); refine gKS1 (some 13) Tryz.func96 (spec_l10DrawTable.calls (hI := iS149 HI9) (hB := UpW.out) (w := _) (h := A4.out)) ?_; intro Ao955 co955 w10 _ _ _ HI11 HO956)))
 have H := H'.out; clear H'
 by_cases c12 : (t954.length : Int) > 0
 ·
  rw [if_pos c12] at H
  have c12b0 : decide (0 < (t954.length : Int)) = true := decide_eq_true c12
  have c12b1 : decide (0 < t954.length) = true := decide_eq_true (by omega)
  clear c12
  (first | rw [c12b0] | (simp only [i64_w, i32_w]; rw [c12b0]) | skip)
  obtain ⟨⟨t959, t960, t961⟩, A13, H⟩ := oB H; (try dsimp only at H); have H' := Aside0.mk H; clear H
  go_upto_if 20 with (first | (go_at_call 93; refine aK (spec_l1Once.calls (hI := iS149 HI11) (hB := UpW.out) (w := _) (h := A13.out)) ?_; intro w14 _ _ _ HI15))
  repeat (go_quiet (first | (go_at_call 93; refine aK (spec_l1Once.calls (hI := iS149 HI11) (hB := UpW.out) (w := _) (h := A13.out)) ?_; intro w14 _ _ _ HI15)); go_upto_if 20 with (first | (go_at_call 93; refine aK (spec_l1Once.calls (hI := iS149 HI11) (hB := UpW.out) (w := _) (h := A13.out)) ?_; intro w14 _ _ _ HI15)))
  have H := H'.out; clear H'
  by_cases c16 : t959 = true
  ·
   subst c16
   rw [if_pos rfl] at H
   obtain ⟨⟨t962, t963, t964⟩, A17, H⟩ := oB H; (try dsimp only at H)
   by_cases c18 : 0 ≤ t962
   rotate_left
   ·
    rw [if_neg c18] at H
    exact absurd H (by simp)
   rw [if_pos c18] at H
   have c18b0 : decide (0 ≤ t962) = true := decide_eq_true c18; clear c18
   (first | rw [c18b0] | (simp only [i64_w, i32_w]; rw [c18b0]) | skip)
   by_cases c19 : t962 < (t954.length : Int)
   rotate_left
   ·
    rw [if_neg c19] at H
    exact absurd H (by simp)
   rw [if_pos c19] at H
   have c19b0 : decide (t962 < (t954.length : Int)) = true := decide_eq_true c19; clear c19
   simp only [Option.some.injEq, Prod.mk.injEq] at H
   obtain ⟨rfl, rfl, rfl⟩ := H
   go_wp2_with (first | ((with_reducible refine gate_callee (f := 97) rfl ?_); refine gK (some 25) Tryz.func97 (spec_l1Below.calls (hI := iS149 HI15) (hB := UpW.out) (w := _) (h := A17.out)) ?_; intro w20 _ _ _ HI21; have p965 : 0 ≤ (t962 : Int) := of_decide_eq_true y0_16; have q965 : t962 < (t954.length : Int) := of_decide_eq_true y0_16; obtain ⟨go965, cc965, eo965, hb965, _, hg965⟩ := Kd.S_form HO956.out (by omega); have bo965 : BornI go965 _ := ⟨hb965⟩; injection eo965 with ea_ en_ ec_; subst ea_; subst ec_; clear en_; have sb965 : StB go965 w10 48 := ⟨hg965⟩; obtain ⟨ok965, ce965, _, hM965, hcc965, _, _, _⟩ := Kd.S_elem HO956.out z48 t962 p965 q965; obtain ⟨ve965_2, rfl, ge965_2⟩ := k48_openM hM965; obtain ⟨A965_2, c965_2, ev965_2⟩ := Kd.R_slice ge965_2; subst ev965_2; have i965_0_ : RdG go965 ((t962 : Int).toNat * 3) w10 (.int .i64 ((rd_T48 t954 t962).f0)) := RdG.of hg965 (hcc965 0 _ rfl); have i965_1_ : RdG go965 ((t962 : Int).toNat * 3 + 1) w10 (.string ((rd_T48 t954 t962).f1)) := RdG.of hg965 (hcc965 1 _ rfl); have i965_2_ : RdG go965 ((t962 : Int).toNat * 3 + 2) w10 (.slice A965_2 ((rd_T48 t954 t962).f2).length c965_2) := RdG.of hg965 (hcc965 2 _ rfl); have HR965_2 := Aside0.mk (show Kd.R (Kd.int .i64) 3 w10 _ ok965 (.slice A965_2 ((rd_T48 t954 t962).f2).length c965_2) ((rd_T48 t954 t962).f2) from ge965_2); replace p965 := eq_true p965; replace q965 := eq_true q965) | ((with_reducible refine gd 7 ?_); refine bL 7 #[.int .i64 0, .string (⟨#[]⟩ : ByteArray), .slice none 0 0] 48 ?_; intro gb966 w22 _ _ _))
   repeat (go_quiet (fail); try go_wp2_with (first | ((with_reducible refine gate_callee (f := 97) rfl ?_); refine gK (some 25) Tryz.func97 (spec_l1Below.calls (hI := iS149 HI15) (hB := UpW.out) (w := _) (h := A17.out)) ?_; intro w20 _ _ _ HI21; have p965 : 0 ≤ (t962 : Int) := of_decide_eq_true y0_16; have q965 : t962 < (t954.length : Int) := of_decide_eq_true y0_16; obtain ⟨go965, cc965, eo965, hb965, _, hg965⟩ := Kd.S_form HO956.out (by omega); have bo965 : BornI go965 _ := ⟨hb965⟩; injection eo965 with ea_ en_ ec_; subst ea_; subst ec_; clear en_; have sb965 : StB go965 w10 48 := ⟨hg965⟩; obtain ⟨ok965, ce965, _, hM965, hcc965, _, _, _⟩ := Kd.S_elem HO956.out z48 t962 p965 q965; obtain ⟨ve965_2, rfl, ge965_2⟩ := k48_openM hM965; obtain ⟨A965_2, c965_2, ev965_2⟩ := Kd.R_slice ge965_2; subst ev965_2; have i965_0_ : RdG go965 ((t962 : Int).toNat * 3) w10 (.int .i64 ((rd_T48 t954 t962).f0)) := RdG.of hg965 (hcc965 0 _ rfl); have i965_1_ : RdG go965 ((t962 : Int).toNat * 3 + 1) w10 (.string ((rd_T48 t954 t962).f1)) := RdG.of hg965 (hcc965 1 _ rfl); have i965_2_ : RdG go965 ((t962 : Int).toNat * 3 + 2) w10 (.slice A965_2 ((rd_T48 t954 t962).f2).length c965_2) := RdG.of hg965 (hcc965 2 _ rfl); have HR965_2 := Aside0.mk (show Kd.R (Kd.int .i64) 3 w10 _ ok965 (.slice A965_2 ((rd_T48 t954 t962).f2).length c965_2) ((rd_T48 t954 t962).f2) from ge965_2); replace p965 := eq_true p965; replace q965 := eq_true q965) | ((with_reducible refine gd 7 ?_); refine bL 7 #[.int .i64 0, .string (⟨#[]⟩ : ByteArray), .slice none 0 0] 48 ?_; intro gb966 w22 _ _ _)))
   go_ret3
   exact ⟨_, y0_17, rSl [g949, gb966] HO956, UpW.out⟩
  replace c16 := Bool.eq_false_iff.mpr c16; subst c16
  rw [if_neg Bool.false_ne_true] at H
  obtain ⟨⟨t967, t968, t969⟩, A23, H⟩ := oB H; (try dsimp only at H); obtain ⟨⟨t970, t971, t972⟩, A24, H⟩ := oB H; (try dsimp only at H)
  simp only [Option.some.injEq, Prod.mk.injEq] at H
  obtain ⟨rfl, rfl, rfl⟩ := H
  go_wp2_with (first | ((with_reducible refine gate_callee (f := 97) rfl ?_); refine gK (some 35) Tryz.func97 (spec_l1Below.calls (hI := iS149 HI15) (hB := UpW.out) (w := _) (h := A23.out)) ?_; intro w25 _ _ _ HI26) | ((with_reducible refine gate_callee (f := 101) rfl ?_); refine gK (some 37) Tryz.func101 (spec_l5DrawRight.calls (hI := iS149 HI26) (hB := UpW.out) (w := _) (h := A24.out)) ?_; intro w27 _ _ _ HI28))
  repeat (go_quiet (fail); try go_wp2_with (first | ((with_reducible refine gate_callee (f := 97) rfl ?_); refine gK (some 35) Tryz.func97 (spec_l1Below.calls (hI := iS149 HI15) (hB := UpW.out) (w := _) (h := A23.out)) ?_; intro w25 _ _ _ HI26) | ((with_reducible refine gate_callee (f := 101) rfl ?_); refine gK (some 37) Tryz.func101 (spec_l5DrawRight.calls (hI := iS149 HI26) (hB := UpW.out) (w := _) (h := A24.out)) ?_; intro w27 _ _ _ HI28)))
  go_ret3
  exact ⟨_, y0_17, rS HO956, UpW.out⟩
 rw [if_neg c12] at H
 have c12b0 : decide (0 < (t954.length : Int)) = false := decide_eq_false c12
 have c12b1 : decide (0 < t954.length) = false := decide_eq_false (by omega)
 clear c12
 (first | rw [c12b0] | (simp only [i64_w, i32_w]; rw [c12b0]) | skip)
 have H' := Aside0.mk H; clear H
 go_upto_if 20 with fail
 repeat (go_quiet (fail); go_upto_if 20 with fail)
 have H := H'.out; clear H'; obtain ⟨⟨t973, t974, t975⟩, A29, H⟩ := oB H; (try dsimp only at H); obtain ⟨⟨t976, t977, t978⟩, A30, H⟩ := oB H; (try dsimp only at H)
 simp only [Option.some.injEq, Prod.mk.injEq] at H
 obtain ⟨rfl, rfl, rfl⟩ := H
 go_wp2_with (first | ((with_reducible refine gate_callee (f := 97) rfl ?_); refine gK (some 35) Tryz.func97 (spec_l1Below.calls (hI := iS149 HI11) (hB := UpW.out) (w := _) (h := A29.out)) ?_; intro w31 _ _ _ HI32) | ((with_reducible refine gate_callee (f := 101) rfl ?_); refine gK (some 37) Tryz.func101 (spec_l5DrawRight.calls (hI := iS149 HI32) (hB := UpW.out) (w := _) (h := A30.out)) ?_; intro w33 _ _ _ HI34))
 repeat (go_quiet (fail); try go_wp2_with (first | ((with_reducible refine gate_callee (f := 97) rfl ?_); refine gK (some 35) Tryz.func97 (spec_l1Below.calls (hI := iS149 HI11) (hB := UpW.out) (w := _) (h := A29.out)) ?_; intro w31 _ _ _ HI32) | ((with_reducible refine gate_callee (f := 101) rfl ?_); refine gK (some 37) Tryz.func101 (spec_l5DrawRight.calls (hI := iS149 HI32) (hB := UpW.out) (w := _) (h := A30.out)) ?_; intro w33 _ _ _ HI34)))
 go_ret3
 exact ⟨_, y0_17, rS HO956, UpW.out⟩
def spec_DrawTableDrop.f (k : Nat) (l0 : List Int) : Option ((List (S48)) × Int) := (spec_l1New.f k l0).bind fun bt979 => ((spec_l7DrawConf.f bt979.1 bt979.2.1 bt979.2.2).bind fun bt983 => ((spec_l10DrawTable.f k bt979.1 bt983.2.2.1 bt983.2.2.2 bt983.1 bt983.2.1).bind fun bt987 => ((spec_l1Below.f bt979.1 bt987.2.1 bt987.2.2 6).bind fun bt992 => (some (bt987.1, bt992.1)))))
theorem spec_DrawTableDrop.calls (k : Nat) (A0 : Option Addr) (c0 : Nat) (l0 : List Int) (r1 : List (S48)) (r2 : Int) (w : World) (hr0 : Kd.C (Kd.int .u8) w A0 l0.length l0) (hc0 : l0.length ≤ c0) (h : spec_DrawTableDrop.f k l0 = some (r1, r2)) :
  Calls Tryz.prog 36 #[.slice A0 l0.length c0] w fun e w' => ∃ v0_ : Value, e = .returned (.tuple #[v0_, .int .i64 r2]) ∧ Kd.S k48 48 w' w.heap.size (fun _ => True) v0_ r1 ∧ Below w.heap.size w w' := by
 have HR0 := Aside0.mk hr0; have HC0 := Aside0.mk hc0; clear hr0 hc0; have HB := Aside0.mk (Below.refl w.heap.size w)
 have H := h; unfold spec_DrawTableDrop.f at H
 clear h; obtain ⟨⟨t979, t980, t981⟩, A2, H⟩ := oB H; (try dsimp only at H); obtain ⟨⟨t983, t984, t985, t986⟩, A3, H⟩ := oB H; (try dsimp only at H); obtain ⟨⟨t987, t990, t991⟩, A4, H⟩ := oB H; (try dsimp only at H); obtain ⟨⟨t992, t993, t994⟩, A5, H⟩ := oB H; (try dsimp only at H)
 simp only [Option.some.injEq, Prod.mk.injEq] at H
 obtain ⟨rfl, rfl⟩ := H
 go_enter Tryz.func36, Tryz.ntmps36
 go_wp2_with (first | ((with_reducible refine gate_callee (f := 90) rfl ?_); refine wL ?_; intro w6 _; refine gN (some 7) Tryz.func90 (spec_l1New.calls (hB := Below.refl _ _) (hr0 := pC HR0) (hc0 := HC0.out) (w := _) (h := A2.out)) ?_; intro g982 w7 _ _ _ HI8) | ((with_reducible refine gate_callee (f := 91) rfl ?_); refine gK (some 10) Tryz.func91 (spec_l7DrawConf.calls (hI := iS149 HI8) (hB := UpW.out) (w := _) (h := A3.out)) ?_; intro w9 _ _ _ HI10) | ((with_reducible refine gate_callee (f := 96) rfl ?_); refine gKS1 (some 11) Tryz.func96 (spec_l10DrawTable.calls (hI := iS149 HI10) (hB := UpW.out) (w := _) (h := A4.out)) ?_; intro Ao988 co988 w11 _ _ _ HI12 HO989) | ((with_reducible refine gate_callee (f := 97) rfl ?_); refine gK (some 14) Tryz.func97 (spec_l1Below.calls (hI := iS149 HI12) (hB := UpW.out) (w := _) (h := A5.out)) ?_; intro w13 _ _ _ HI14))
 go_ret2
 exact ⟨_, y0_17, rS HO989, UpW.out⟩
def spec_DrawTableOk.f (k : Nat) (l0 : List Int) : Option (Int × Int × (List (S48))) := (spec_l1New.f k l0).bind fun bt996 => ((spec_l7DrawConf.f bt996.1 bt996.2.1 bt996.2.2).bind fun bt1000 => ((spec_l10DrawTable.f k bt996.1 bt1000.2.2.1 bt1000.2.2.2 bt1000.1 bt1000.2.1).bind fun bt1005 => (some (bt1000.1, bt1000.2.1, bt1005.1))))
def spec_DrawTableOk.T3 : Bool × List (List Nat × List Nat) := (true, [([], []), ([], []), ([], []), ([1, 2], [1, 2]), ([0, 3, 0], [0]), ([3, 4, 0, 1, 2, 3, 4], [3])])
def spec_DrawTableOk.B3 : List Nat := [0, 0, 0, 6, 15, 31]
theorem spec_DrawTableOk.tab3 : rtab .any (opsOf Tryz.f37 3) = spec_DrawTableOk.T3 := by kernel_rfl
theorem spec_DrawTableOk.bits3 : waitsOk spec_DrawTableOk.T3.2 spec_DrawTableOk.B3 = true := by kernel_rfl
theorem spec_DrawTableOk.calls (k : Nat) (A0 : Option Addr) (c0 : Nat) (l0 : List Int) (r1 : Int) (r2 : Int) (r3 : List (S48)) (w : World) (hr0 : Kd.C (Kd.int .u8) w A0 l0.length l0) (hc0 : l0.length ≤ c0) (h : spec_DrawTableOk.f k l0 = some (r1, r2, r3)) :
  Calls Tryz.prog 37 #[.slice A0 l0.length c0] w fun e w' => ∃ v2_ : Value, e = .returned (.tuple #[.agg #[.int .i64 r1, .int .i64 r2], v2_]) ∧ Kd.S k48 48 w' w.heap.size (fun _ => True) v2_ r3 ∧ Below w.heap.size w w' := by
 have hu32 := Tryz.underlying32; have HR0 := Aside0.mk hr0; have HC0 := Aside0.mk hc0; clear hr0 hc0; have HB := Aside0.mk (Below.refl w.heap.size w)
 have H := h; unfold spec_DrawTableOk.f at H
 clear h; obtain ⟨⟨t996, t997, t998⟩, A2, H⟩ := oB H; (try dsimp only at H); obtain ⟨⟨t1000, t1001, t1002, t1003⟩, A3, H⟩ := oB H; (try dsimp only at H); obtain ⟨⟨t1005, t1008, t1009⟩, A4, H⟩ := oB H; (try dsimp only at H)
 simp only [Option.some.injEq, Prod.mk.injEq] at H
 obtain ⟨rfl, rfl, rfl⟩ := H
 go_enter Tryz.func37, Tryz.ntmps37
 try go_wp2_with (first | ((with_reducible refine gd 2 ?_); refine bL 2 #[.int .i64 0, .int .i64 0] 32 ?_; intro gb995 w5 _ _ _) | ((with_reducible refine gate_callee (f := 90) rfl ?_); refine wL ?_; intro w6 _; refine gN (some 7) Tryz.func90 (spec_l1New.calls (hB := Below.refl _ _) (hr0 := pC HR0) (hc0 := HC0.out) (w := _) (h := A2.out)) ?_; intro g999 w7 _ _ _ HI8) | ((with_reducible refine gate_callee (f := 91) rfl ?_); refine gK (some 9) Tryz.func91 (spec_l7DrawConf.calls (hI := iS149 HI8) (hB := UpW.out) (w := _) (h := A3.out)) ?_; intro w9 _ _ _ HI10) | ((with_reducible refine gd 5 ?_); refine bL 5 #[.int .i64 0, .int .i64 0] 32 ?_; intro gb1004 w11 _ _ _))
 refine sB [g999, gb995] spec_DrawTableOk.tab3 spec_DrawTableOk.bits3 ?_; intro w12 _ HT_ HW_
 refine tB 0 (some 10) (bz 6 1) HT_ HW_ ?_
 refine pA 1 (some 11) (bz 6 3) HT_ ?_
 refine tB 2 (some 12) (bz 6 7) HT_ HW_ ?_
 refine o1 3 (some 13) (bz 6 15) HT_ rfl (kKS1 Tryz.func96 (spec_l10DrawTable.calls (hI := iS149 HI10) (hB := UpW.out) (w := _) (h := A4.out)) ?_); intro Ao1006 co1006 w13 _ _ _ HI14 HO1007
 refine nA (some 13) ?_
 refine o1 4 none (bz 6 31) HT_ rfl (kS ?_)
 refine pA 5 (some 3) (bz 6 63) HT_ ?_
 refine done_ (done_of HT_.out (by kernel_rfl)) ?_
 try go_wp2
 refine bodyPost_ret (results_ct rfl _ _ gb995 32 #[.int .i64 t1000, .int .i64 t1001] (0, 0) _ rfl xB Tryz.underlying32 rfl (by kernel_rfl)) rfl ?_
 exact ⟨_, y0_17, rS HO1007, UpW.out⟩
def spec_l7DrawBent.f (s0_0 : List Int) (s0_1 : Int) (s0_2 : Int) : Option (Int × Int × Int × Int) := (spec_l7DrawConf.f s0_0 s0_1 s0_2).bind fun bt1011 => ((spec_l1Below.f s0_0 bt1011.2.2.1 bt1011.2.2.2 12).bind fun bt1016 => (if bt1016.1 = 0 then ((spec_l1PickInt.f s0_0 bt1016.2.1 bt1016.2.2 (([0, 3, 8, (-1)] : List Int))).bind fun bt1022 => (some (bt1022.1, bt1011.2.1, bt1022.2.1, bt1022.2.2))) else (if bt1016.1 = 1 then ((spec_l1PickInt.f s0_0 bt1016.2.1 bt1016.2.2 (([0, 6, 7] : List Int))).bind fun bt1028 => (some (bt1011.1, bt1028.1, bt1028.2.1, bt1028.2.2))) else (some (bt1011.1, bt1011.2.1, bt1016.2.1, bt1016.2.2)))))
theorem spec_l7DrawBent.calls (g : Nat) (s0_0 : List Int) (s0_1 : Int) (s0_2 : Int) (r1 : Int) (r2 : Int) (r3 : Int) (r4 : Int) (w0 w : World) (hI : IsS149 w0 w g s0_0 s0_1 s0_2) (hB : Below w0.heap.size w0 w) (h : spec_l7DrawBent.f s0_0 s0_1 s0_2 = some (r1, r2, r3, r4)) :
  Calls Tryz.prog 102 #[.pointer (some ⟨g, 0, none⟩)] w fun e w' => e = .returned (.agg #[.int .i64 r1, .int .i64 r2]) ∧ IsS149 w0 w' g s0_0 r3 r4 ∧ Below w0.heap.size w0 w' ∧ KeepBut w w' g none := by
 have hu32 := Tryz.underlying32; have HI0 := Aside0.mk hI; have HK := Aside0.mk (KeepBut.refl w g none); have HL := Aside0.mk hB.size; clear hI; have HW0 := Aside0.mk hB.size; have HB := Aside0.mk hB; clear hB
 have H := h; unfold spec_l7DrawBent.f at H
 clear h; obtain ⟨⟨t1011, t1012, t1013, t1014⟩, A2, H⟩ := oB H; (try dsimp only at H); obtain ⟨⟨t1016, t1017, t1018⟩, A3, H⟩ := oB H; (try dsimp only at H); have i0_ := iB149 HI0; have i1_ : LB w0 w := ⟨HB.out⟩
 go_enter Tryz.func102, Tryz.ntmps102
 have H' := Aside0.mk H; clear H
 go_upto_if 8 with (first | ((with_reducible refine gd 2 ?_); refine bL 2 #[.int .i64 0, .int .i64 0] 32 ?_; intro gb1010 w4 _ _ _) | ((with_reducible refine gate_callee (f := 91) rfl ?_); refine gK (some 5) Tryz.func91 (spec_l7DrawConf.calls (hI := iS149 HI0) (hB := UpW.out) (w := _) (h := A2.out)) ?_; intro w5 _ _ _ HI6) | ((with_reducible refine gd 3 ?_); refine bL 3 #[.int .i64 0, .int .i64 0] 32 ?_; intro gb1015 w7 _ _ _) | ((with_reducible refine gate_callee (f := 97) rfl ?_); refine gK (some 7) Tryz.func97 (spec_l1Below.calls (hI := iS149 HI6) (hB := UpW.out) (w := _) (h := A3.out)) ?_; intro w8 _ _ _ HI9))
 have H := H'.out; clear H'
 by_cases c10 : t1016 = 0
 ·
  rw [if_pos c10] at H
  have c10b0 : (t1016 == 0) = true := beq_iff_eq.mpr c10; have c10b1 : (t1016 != 0) = false := bne_eq_false_iff_eq.mpr c10; clear c10
  (first | rw [c10b0] | (simp only [i64_w, i32_w]; rw [c10b0]) | skip)
  obtain ⟨y1019, hy1019⟩ : ∃ y_ : List Int, y_ = (([0, 3, 8, (-1)] : List Int)) := ⟨_, rfl⟩
  replace H : ((spec_l1PickInt.f s0_0 t1017 t1018 y1019).bind fun bt1022 => (some (bt1022.1, t1012, bt1022.2.1, bt1022.2.2))) = some (r1, r2, r3, r4) := by first | (rw [hy1019]; with_reducible exact H) | (rw [hy1019]; with_reducible exact (Option.bind_some _ _).symm.trans H) | (rw [hy1019]; exact H) | exact H
  have Ny1019 := Aside0.mk hy1019; clear hy1019; obtain ⟨⟨t1022, t1023, t1024⟩, A11, H⟩ := oB H; (try dsimp only at H)
  simp only [Option.some.injEq, Prod.mk.injEq] at H
  obtain ⟨rfl, rfl, rfl, rfl⟩ := H
  go_wp2_with (first | ((with_reducible refine gate_dst (N := 11) rfl ?_); refine lL 11 3 (Kd.int .i64) rfl Ny1019 ?_; intro Ao1020 co1020 w12 _ HO1021) | ((with_reducible refine gate_callee (f := 132) rfl ?_); refine gK (some 12) Tryz.func132 (spec_l1PickInt.calls (hI := iS149 HI9) (hB := UpW.out) (hr1 := rC HO1021) (hc1 := rL HO1021) (hf1 := fS HO1021) (w := _) (h := A11.out)) ?_; intro w13 _ _ _ HI14))
  refine bodyPost_ret (results_cell_row rfl _ _ gb1010 32 #[.int .i64 t1022, .int .i64 t1012] (0, 0) _ rfl xB Tryz.underlying32 rfl (by kernel_rfl)) rfl ?_
  exact ⟨y0_17, iS149 HI14, UpW.out, UpB.out⟩
 rw [if_neg c10] at H
 have c10b0 : (t1016 == 0) = false := beq_eq_false_iff_ne.mpr c10; have c10b1 : (t1016 != 0) = true := bne_iff_ne.mpr c10
 (first | rw [c10b0] | (simp only [i64_w, i32_w]; rw [c10b0]) | skip)
 by_cases c15 : t1016 = 1
 ·
  rw [if_pos c15] at H
  have c15b0 : (t1016 == 1) = true := beq_iff_eq.mpr c15; have c15b1 : (t1016 != 1) = false := bne_eq_false_iff_eq.mpr c15; clear c15; obtain ⟨y1025, hy1025⟩ : ∃ y_ : List Int, y_ = (([0, 6, 7] : List Int)) := ⟨_, rfl⟩
  replace H : ((spec_l1PickInt.f s0_0 t1017 t1018 y1025).bind fun bt1028 => (some (t1011, bt1028.1, bt1028.2.1, bt1028.2.2))) = some (r1, r2, r3, r4) := by first | (rw [hy1025]; with_reducible exact H) | (rw [hy1025]; with_reducible exact (Option.bind_some _ _).symm.trans H) | (rw [hy1025]; exact H) | exact H
  have Ny1025 := Aside0.mk hy1025; clear hy1025; obtain ⟨⟨t1028, t1029, t1030⟩, A16, H⟩ := oB H; (try dsimp only at H)
  simp only [Option.some.injEq, Prod.mk.injEq] at H
  obtain ⟨rfl, rfl, rfl, rfl⟩ := H
  go_wp2_with (first | ((with_reducible refine gate_dst (N := 17) rfl ?_); refine lL 17 3 (Kd.int .i64) rfl Ny1025 ?_; intro Ao1026 co1026 w17 _ HO1027) | ((with_reducible refine gate_callee (f := 132) rfl ?_); refine gK (some 18) Tryz.func132 (spec_l1PickInt.calls (hI := iS149 HI9) (hB := UpW.out) (hr1 := rC HO1027) (hc1 := rL HO1027) (hf1 := fS HO1027) (w := _) (h := A16.out)) ?_; intro w18 _ _ _ HI19))
  refine bodyPost_ret (results_cell_row rfl _ _ gb1010 32 #[.int .i64 t1011, .int .i64 t1028] (0, 0) _ rfl xB Tryz.underlying32 rfl (by kernel_rfl)) rfl ?_
  exact ⟨y0_17, iS149 HI19, UpW.out, UpB.out⟩
 rw [if_neg c15] at H
 have c15b0 : (t1016 == 1) = false := beq_eq_false_iff_ne.mpr c15; have c15b1 : (t1016 != 1) = true := bne_iff_ne.mpr c15
 simp only [Option.some.injEq, Prod.mk.injEq] at H
 obtain ⟨rfl, rfl, rfl, rfl⟩ := H
 go_wp2
 refine bodyPost_ret (results_cell_row rfl _ _ gb1010 32 #[.int .i64 t1011, .int .i64 t1012] (0, 0) _ rfl xB Tryz.underlying32 rfl (by kernel_rfl)) rfl ?_
 exact ⟨y0_17, iS149 HI9, UpW.out, UpB.out⟩
def spec_DrawPartOk.f (k : Nat) (l0 : List Int) : Option (Int × Int × Int × ByteArray × List Int) := (spec_l1New.f k l0).bind fun bt1033 => ((spec_l7DrawBent.f bt1033.1 bt1033.2.1 bt1033.2.2).bind fun bt1037 => ((spec_l10Draw.f k bt1033.1 bt1037.2.2.1 bt1037.2.2.2 bt1037.1 bt1037.2.1).bind fun bt1042 => (some (bt1037.1, bt1037.2.1, bt1042.1, bt1042.2.1, bt1042.2.2.1))))
def spec_DrawPartOk.T3 : Bool × List (List Nat × List Nat) := (true, [([], []), ([], []), ([], []), ([1, 2], [1, 2]), ([0, 3, 0], [0]), ([3, 4, 0, 1, 2, 3, 4], [3])])
def spec_DrawPartOk.B3 : List Nat := [0, 0, 0, 6, 15, 31]
theorem spec_DrawPartOk.tab3 : rtab .any (opsOf Tryz.f38 3) = spec_DrawPartOk.T3 := by kernel_rfl
theorem spec_DrawPartOk.bits3 : waitsOk spec_DrawPartOk.T3.2 spec_DrawPartOk.B3 = true := by kernel_rfl
theorem spec_DrawPartOk.calls (k : Nat) (A0 : Option Addr) (c0 : Nat) (l0 : List Int) (r1 : Int) (r2 : Int) (r3 : Int) (r4 : ByteArray) (r5 : List Int) (w : World) (hr0 : Kd.C (Kd.int .u8) w A0 l0.length l0) (hc0 : l0.length ≤ c0) (h : spec_DrawPartOk.f k l0 = some (r1, r2, r3, r4, r5)) :
  Calls Tryz.prog 38 #[.slice A0 l0.length c0] w fun e w' => ∃ v4_ : Value, e = .returned (.tuple #[.agg #[.int .i64 r1, .int .i64 r2], .agg #[.int .i64 r3, .string r4, v4_]]) ∧ Kd.R (Kd.int .i64) 3 w' w.heap.size (fun _ => True) v4_ r5 ∧ Below w.heap.size w w' := by
 have hu32 := Tryz.underlying32; have hu48 := Tryz.underlying48; have HR0 := Aside0.mk hr0; have HC0 := Aside0.mk hc0; clear hr0 hc0; have HB := Aside0.mk (Below.refl w.heap.size w)
 have H := h; unfold spec_DrawPartOk.f at H
 clear h; obtain ⟨⟨t1033, t1034, t1035⟩, A2, H⟩ := oB H; (try dsimp only at H); obtain ⟨⟨t1037, t1038, t1039, t1040⟩, A3, H⟩ := oB H; (try dsimp only at H); obtain ⟨⟨t1042, t1043, t1044, t1047, t1048⟩, A4, H⟩ := oB H; (try dsimp only at H)
 simp only [Option.some.injEq, Prod.mk.injEq] at H
 obtain ⟨rfl, rfl, rfl, rfl, rfl⟩ := H
 go_enter Tryz.func38, Tryz.ntmps38
 try go_wp2_with (first | ((with_reducible refine gd 2 ?_); refine bL 2 #[.int .i64 0, .int .i64 0] 32 ?_; intro gb1031 w5 _ _ _) | ((with_reducible refine gd 3 ?_); refine bL 3 #[.int .i64 0, .string (⟨#[]⟩ : ByteArray), .slice none 0 0] 48 ?_; intro gb1032 w6 _ _ _) | ((with_reducible refine gate_callee (f := 90) rfl ?_); refine wL ?_; intro w7 _; refine gN (some 7) Tryz.func90 (spec_l1New.calls (hB := Below.refl _ _) (hr0 := pC HR0) (hc0 := HC0.out) (w := _) (h := A2.out)) ?_; intro g1036 w8 _ _ _ HI9) | ((with_reducible refine gate_callee (f := 102) rfl ?_); refine gK (some 9) Tryz.func102 (spec_l7DrawBent.calls (hI := iS149 HI9) (hB := UpW.out) (w := _) (h := A3.out)) ?_; intro w10 _ _ _ HI11) | ((with_reducible refine gd 5 ?_); refine bL 5 #[.int .i64 0, .int .i64 0] 32 ?_; intro gb1041 w12 _ _ _))
 refine sB [g1036, gb1031, gb1032] spec_DrawPartOk.tab3 spec_DrawPartOk.bits3 ?_; intro w13 _ HT_ HW_
 refine tB 0 (some 10) (bz 6 1) HT_ HW_ ?_
 refine pA 1 (some 11) (bz 6 3) HT_ ?_
 refine tB 2 (some 12) (bz 6 7) HT_ HW_ ?_
 refine o1 3 (some 13) (bz 6 15) HT_ rfl (kK1 Tryz.func92 (spec_l10Draw.calls (hI := iS149 HI11) (hB := UpW.out) (w := _) (h := A4.out)) ?_); intro Ao1045 co1045 w14 _ _ _ HI15 HO1046
 refine nA (some 13) ?_
 refine o1 4 none (bz 6 31) HT_ rfl (kS ?_)
 refine o1 5 none (bz 6 63) HT_ rfl (kS ?_)
 refine done_ (done_of HT_.out (by kernel_rfl)) ?_
 try go_wp2
 refine bodyPost_ret (results_cc rfl _ _ gb1031 gb1032 32 48 #[.int .i64 t1037, .int .i64 t1038] #[.int .i64 t1042, .string t1043, .slice Ao1045 t1044.length co1045] (0, 0) (0, 0) _ _ rfl xB Tryz.underlying32 rfl (by kernel_rfl) rfl xB Tryz.underlying48 rfl (by kernel_rfl)) rfl ?_
 exact ⟨_, y0_17, rR HO1046, UpW.out⟩
end Go.Proofs.YtdmjhgogljhfkaaGreatDoor.PFnParts
