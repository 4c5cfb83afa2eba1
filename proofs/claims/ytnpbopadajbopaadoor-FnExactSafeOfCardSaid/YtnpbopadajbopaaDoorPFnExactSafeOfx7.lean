-- By a program of this session, out of the translation (the print of the kit, with turns of its own). Lean checks it.
import Derived.Test.YtnpbopadajbopaaDoorPFnExactSafeOfx0
import Derived.Test.YtnpbopadajbopaaDoorPFnExactSafeOfx5
import Derived.Test.YtnpbopadajbopaaDoorPFnExactSafeOfx6
namespace Go.Proofs.YtnpbopadajbopaaDoor.PFnExactSafeOf
open Go.RowKit Go.Proofs.YtnpbopadajbopaaDoorW.PrintWords Go.Proofs.YtnpbopadajbopaaDoorW.PrintLast Go.Proofs.YtnpbopadajbopaaDoorW.PrintMore
attribute [local go_sem] max2_int min2_int max_two min_two max_three min_three max_four min_four   -- for this text's walks alone
attribute [local go_sem] cell_in frozen_in
set_option synthInstance.maxSize 1000000
set_option synthInstance.maxHeartbeats 2000000
set_option linter.unusedVariables false
set_option linter.unusedSimpArgs false

/-! ### impl_Faults: function 31 -/
def impl_Faults.f (a0_0 : Int) (a0_1 : Int) : Option (Int) := (impl_ConfOk.f a0_0 a0_1).bind fun t337 => (if t337 = true then (some (wrap64 (Int.tdiv (wrap64 (a0_0 - 1)) 3))) else (some 0))
set_option maxHeartbeats 8000000 in
set_option maxRecDepth 100000 in
theorem impl_Faults.calls (a0_0 : Int) (a0_1 : Int) (r : Int) (w : World) (h : impl_Faults.f a0_0 a0_1 = some r) :
  Calls Tryd.prog 31 #[.agg #[.int .i64 a0_0, .int .i64 a0_1]] w fun e w' => e = .returned (.int .i64 r) ∧ Below w.heap.size w w' := by
 have hu25 := Tryd.underlying25; have HB := Aside0.mk (Below.refl w.heap.size w)
 have H := h; unfold impl_Faults.f at H
 clear h; obtain ⟨t337, A2, H⟩ := oB H; (try dsimp only at H)
 go_enter Tryd.func31, Tryd.ntmps31
 have H' := Aside0.mk H; clear H
 go_upto_if 5 with (first | ((with_reducible refine gd 1 ?_); refine bL 1 #[.int .i64 a0_0, .int .i64 a0_1] 25 ?_; intro gb336 w3 _ _ _) | ((with_reducible refine gate_callee (f := 30) rfl ?_); refine gC (some 4) Tryd.func30 (impl_ConfOk.calls (w := _) (h := A2.out)) ?_; intro w4 _))
 have H := H'.out; clear H'
 by_cases c5 : t337 = true
 ·
  subst c5
  rw [if_pos rfl] at H
  obtain rfl := Option.some.inj H
  go_wp2
  go_ret
  exact ⟨y0_11, UpW.out⟩
 replace c5 := Bool.eq_false_iff.mpr c5; subst c5
 rw [if_neg (show ¬ (false = true) by decide)] at H
 obtain rfl := Option.some.inj H
 go_wp2
 go_ret
 exact ⟨y0_11, UpW.out⟩

/-! ### impl_Quorum: function 8 -/
def impl_Quorum.f (a0_0 : Int) (a0_1 : Int) : Option (Int) := (impl_ConfOk.f a0_0 a0_1).bind fun t339 => (if t339 = true then ((impl_Faults.f a0_0 a0_1).bind fun t340 => (some (wrap64 (a0_0 - t340)))) else (some 0))
def impl_Quorum.T3 : Bool × List (List Nat × List Nat) := (true, [([], []), ([0], [0]), ([], []), ([2], [2]), ([1, 3], [1, 3]), ([4, 3, 0, 1, 2, 3, 4], [4])])
def impl_Quorum.B3 : List Nat := [0, 1, 0, 4, 15, 31]
theorem impl_Quorum.tab3 : rtab .any (opsOf Tryd.f8 3) = impl_Quorum.T3 := by kernel_rfl
theorem impl_Quorum.bits3 : waitsOk impl_Quorum.T3.2 impl_Quorum.B3 = true := by kernel_rfl
set_option maxHeartbeats 8000000 in
set_option maxRecDepth 100000 in
theorem impl_Quorum.calls (a0_0 : Int) (a0_1 : Int) (r : Int) (w : World) (h : impl_Quorum.f a0_0 a0_1 = some r) :
  Calls Tryd.prog 8 #[.agg #[.int .i64 a0_0, .int .i64 a0_1]] w fun e w' => e = .returned (.int .i64 r) ∧ Below w.heap.size w w' := by
 have hu25 := Tryd.underlying25; have HB := Aside0.mk (Below.refl w.heap.size w)
 have H := h; unfold impl_Quorum.f at H
 clear h; obtain ⟨t339, A2, H⟩ := oB H; (try dsimp only at H)
 go_enter Tryd.func8, Tryd.ntmps8
 have H' := Aside0.mk H; clear H
 go_upto_if 5 with (first | ((with_reducible refine gd 1 ?_); refine bL 1 #[.int .i64 a0_0, .int .i64 a0_1] 25 ?_; intro gb338 w3 _ _ _) | ((with_reducible refine gate_callee (f := 30) rfl ?_); refine gC (some 4) Tryd.func30 (impl_ConfOk.calls (w := _) (h := A2.out)) ?_; intro w4 _))
 have H := H'.out; clear H'
 by_cases c5 : t339 = true
 ·
  subst c5
  rw [if_pos rfl] at H
  obtain ⟨t340, A6, H⟩ := oB H; (try dsimp only at H); obtain rfl := Option.some.inj H
  try go_wp2
  refine sB [] impl_Quorum.tab3 impl_Quorum.bits3 ?_; intro w7 _ HT_ HW_
  refine pA 0 (some 6) (bz 6 1) HT_ ?_
  refine tB 1 (some 7) (bz 6 3) HT_ HW_ ?_
  refine tB 2 (some 8) (bz 6 7) HT_ HW_ ?_
  refine o1 3 (some 9) (bz 6 15) HT_ rfl (kC Tryd.func31 (impl_Faults.calls (w := _) (h := A6.out)) ?_); intro w8 _
  refine nA (some 9) ?_
  refine pA 4 (some 10) (bz 6 31) HT_ ?_
  refine pA 5 (some 2) (bz 6 63) HT_ ?_
  refine done_ (done_of HT_.out (by kernel_rfl)) ?_
  try go_wp2
  go_ret
  exact ⟨y0_11, UpW.out⟩
 replace c5 := Bool.eq_false_iff.mpr c5; subst c5
 rw [if_neg (show ¬ (false = true) by decide)] at H
 obtain rfl := Option.some.inj H
 go_wp2
 go_ret
 exact ⟨y0_11, UpW.out⟩

/-! ### slices_Equal_int_int: function 78 -/
def slices_Equal_int_int.l0 : Nat → List Int → List Int → Int → Int → Option (Bool)
 | 0, _, _, _, _ => none
 | k + 1, x0, x1, x12, x13 => if x13 < x12 then (if 0 ≤ x13 then (if x13 < (x0.length : Int) then (if x13 < (x1.length : Int) then (if (rd x0 x13) = (rd x1 x13) then (slices_Equal_int_int.l0 k x0 x1 x12 (wrap64 (x13 + 1))) else (some false)) else (none)) else (none)) else (none)) else (some true)
def slices_Equal_int_int.f (k : Nat) (l0 : List Int) (l1 : List Int) : Option (Bool) := if (l0.length : Int) = (l1.length : Int) then (slices_Equal_int_int.l0 k l0 l1 (l0.length : Int) 0) else (some false)
theorem slices_Equal_int_int.mono_l : ∀ k, (∀ y0 y1 y2 y3, LeO (slices_Equal_int_int.l0 k y0 y1 y2 y3) (slices_Equal_int_int.l0 (k + 1) y0 y1 y2 y3))
 | 0 => fun _ _ _ _ r h => by simp [slices_Equal_int_int.l0] at h
 | k + 1 => by
  have ih0 := slices_Equal_int_int.mono_l k
  intro y0 y1 y2 y3
  unfold slices_Equal_int_int.l0
  repeat' first | (with_reducible exact ih0 _ _ _ _) | (with_reducible exact LeO.refl _) | (with_reducible exact LeO.none _) | (with_reducible refine LeO.ite ?_ ?_) | (with_reducible refine LeO.bind ?_ (fun _ => ?_))
theorem slices_Equal_int_int.mono : ∀ a0 a1 k, LeO (slices_Equal_int_int.f k a0 a1) (slices_Equal_int_int.f (k + 1) a0 a1) := by
 intro a0 a1 k
 have ih0 := slices_Equal_int_int.mono_l k
 unfold slices_Equal_int_int.f
 repeat' first | (with_reducible exact ih0 _ _ _ _) | (with_reducible exact LeO.refl _) | (with_reducible exact LeO.none _) | (with_reducible refine LeO.ite ?_ ?_) | (with_reducible refine LeO.bind ?_ (fun _ => ?_))
set_option maxHeartbeats 8000000 in
set_option maxRecDepth 100000 in
theorem slices_Equal_int_int.calls (k : Nat) (A0 : Option Addr) (c0 : Nat) (l0 : List Int) (A1 : Option Addr) (c1 : Nat) (l1 : List Int) (r : Bool) (w : World) (hr0 : Kd.C (Kd.int .i64) w A0 l0.length l0) (hc0 : l0.length ≤ c0) (hr1 : Kd.C (Kd.int .i64) w A1 l1.length l1) (hc1 : l1.length ≤ c1) (h : slices_Equal_int_int.f k l0 l1 = some r) :
  Calls Tryd.prog 78 #[.slice A0 l0.length c0, .slice A1 l1.length c1] w fun e w' => e = .returned (.bool r) ∧ Drawn0 w w' := by
 have HR0 := Aside0.mk hr0; have HC0 := Aside0.mk hc0; clear hr0 hc0; have HR1 := Aside0.mk hr1; have HC1 := Aside0.mk hc1; clear hr1 hc1; have H := h; unfold slices_Equal_int_int.f at H; clear h
 by_cases c3 : (l0.length : Int) = (l1.length : Int)
 ·
  rw [if_pos c3] at H
  have c3b0 : ((l0.length : Int) == (l1.length : Int)) = true := beq_iff_eq.mpr c3; have c3b1 : ((l0.length : Int) != (l1.length : Int)) = false := bne_eq_false_iff_eq.mpr c3
  have c3b2 : (l0.length == l1.length) = true := by first | simpa using c3 | (simp at c3 ⊢; omega)
  clear c3; have H' := Aside0.mk H; clear H
  go_enter Tryd.func78, Tryd.ntmps78
  go_wp2
  repeat (go_quiet (fail); try go_wp2)
  go_loopg [13] k (fun kq v13 w' => ∃ (x13_1 : Int), v13 = .int .i64 x13_1 ∧ Aside0 (slices_Equal_int_int.l0 kq l0 l1 (l0.length : Int) x13_1 = some r) ∧ Aside0 (kq ≤ k) ∧ Drawn0 w w')
  case atStart => exact ⟨(0), y0_11, H', ⟨Nat.le_refl _⟩, y0_8⟩
  case round =>
   clear H'
   try clear c1
   try clear p2
   try clear c3
   try clear c3b0
   try clear c3b1
   try clear c3b2
   obtain ⟨x13_1, rfl, HA, HK1, ⟨m1, rfl⟩⟩ := hrel; cases gk with
   | zero => exact absurd HA.out (by simp [slices_Equal_int_int.l0])
   | succ k1 =>
    have H := HA.out; clear HA
    simp only [slices_Equal_int_int.l0] at H
    by_cases c4 : x13_1 < (l0.length : Int)
    ·
     rw [if_pos c4] at H
     have c4b0 : decide (x13_1 < (l0.length : Int)) = true := decide_eq_true c4; clear c4
     by_cases c5 : 0 ≤ x13_1
     rotate_left
     ·
      rw [if_neg c5] at H
      exact absurd H (by simp)
     rw [if_pos c5] at H
     have c5b0 : decide (0 ≤ x13_1) = true := decide_eq_true c5; clear c5
     by_cases c6 : x13_1 < (l0.length : Int)
     rotate_left
     ·
      rw [if_neg c6] at H
      exact absurd H (by simp)
     rw [if_pos c6] at H
     have c6b0 : decide (x13_1 < (l0.length : Int)) = true := decide_eq_true c6; clear c6
     by_cases c7 : x13_1 < (l1.length : Int)
     rotate_left
     ·
      rw [if_neg c7] at H
      exact absurd H (by simp)
     rw [if_pos c7] at H
     have c7b0 : decide (x13_1 < (l1.length : Int)) = true := decide_eq_true c7; clear c7
     by_cases c8 : (rd l0 x13_1) = (rd l1 x13_1)
     ·
      rw [if_pos c8] at H
      have c8b0 : ((rd l0 x13_1) == (rd l1 x13_1)) = true := beq_iff_eq.mpr c8; have c8b1 : ((rd l0 x13_1) != (rd l1 x13_1)) = false := bne_eq_false_iff_eq.mpr c8; clear c8; have H' := Aside0.mk H; clear H; have p341 : 0 ≤ (x13_1 : Int) := of_decide_eq_true y0_10; have q341 : x13_1 < (l0.length : Int) := of_decide_eq_true y0_10; obtain ⟨ad341, e341, hx341_0⟩ := Kd.at_int HR0.out x13_1 p341 q341; cases e341; replace p341 := eq_true p341; replace q341 := eq_true q341; have p342 : 0 ≤ (x13_1 : Int) := of_decide_eq_true y0_10; have q342 : x13_1 < (l1.length : Int) := of_decide_eq_true y0_10; obtain ⟨ad342, e342, hx342_0⟩ := Kd.at_int HR1.out x13_1 p342 q342; cases e342; replace p342 := eq_true p342; replace q342 := eq_true q342
      go_wp2
      repeat (go_quiet (fail); try go_wp2)
      go_roundg k1
      case measure => have := HK1.out; omega
      case rel => exact ⟨(wrap64 (x13_1 + 1)), y0_11, H', ⟨y0_13⟩, y0_8⟩
     rw [if_neg c8] at H
     have c8b0 : ((rd l0 x13_1) == (rd l1 x13_1)) = false := beq_eq_false_iff_ne.mpr c8; have c8b1 : ((rd l0 x13_1) != (rd l1 x13_1)) = true := bne_iff_ne.mpr c8; obtain rfl := Option.some.inj H; have p341 : 0 ≤ (x13_1 : Int) := of_decide_eq_true y0_10; have q341 : x13_1 < (l0.length : Int) := of_decide_eq_true y0_10; obtain ⟨ad341, e341, hx341_0⟩ := Kd.at_int HR0.out x13_1 p341 q341; cases e341; replace p341 := eq_true p341; replace q341 := eq_true q341; have p342 : 0 ≤ (x13_1 : Int) := of_decide_eq_true y0_10; have q342 : x13_1 < (l1.length : Int) := of_decide_eq_true y0_10; obtain ⟨ad342, e342, hx342_0⟩ := Kd.at_int HR1.out x13_1 p342 q342; cases e342; replace p342 := eq_true p342; replace q342 := eq_true q342
     go_wp2
     repeat (go_quiet (fail); try go_wp2)
     go_ret
     exact ⟨y0_11, y0_8⟩
    rw [if_neg c4] at H
    have c4b0 : decide (x13_1 < (l0.length : Int)) = false := decide_eq_false c4; clear c4; obtain rfl := Option.some.inj H
    go_wp2
    repeat (go_quiet (fail); try go_wp2)
    go_ret
    exact ⟨y0_11, y0_8⟩
 rw [if_neg c3] at H
 have c3b0 : ((l0.length : Int) == (l1.length : Int)) = false := beq_eq_false_iff_ne.mpr c3; have c3b1 : ((l0.length : Int) != (l1.length : Int)) = true := bne_iff_ne.mpr c3
 have c3b2 : (l0.length == l1.length) = false := by first | simpa using c3 | (simp at c3 ⊢; omega)
 obtain rfl := Option.some.inj H
 go_enter Tryd.func78, Tryd.ntmps78
 go_wp2
 repeat (go_quiet (fail); try go_wp2)
 go_ret
 exact ⟨y0_11, y0_8⟩

/-! ### impl_QcSame: function 57 -/
def impl_QcSame.f (k : Nat) (a0_0 : Int) (a0_1 : ByteArray) (l0_2 : List Int) (a1_0 : Int) (a1_1 : ByteArray) (l1_2 : List Int) : Option (Bool) := if a0_0 = a1_0 then (if a0_1.toList = a1_1.toList then ((slices_Equal_int_int.f k l0_2 l1_2).bind fun t345 => (some t345)) else (some false)) else (some false)
theorem impl_QcSame.mono : ∀ a0 a1 a2 a3 a4 a5 k, LeO (impl_QcSame.f k a0 a1 a2 a3 a4 a5) (impl_QcSame.f (k + 1) a0 a1 a2 a3 a4 a5) := by
 intro a0 a1 a2 a3 a4 a5 k
 unfold impl_QcSame.f
 repeat' first | (with_reducible exact slices_Equal_int_int.mono _ _ _) | (with_reducible exact LeO.refl _) | (with_reducible exact LeO.none _) | (with_reducible refine LeO.ite ?_ ?_) | (with_reducible refine LeO.bind ?_ (fun _ => ?_))
set_option maxHeartbeats 8000000 in
set_option maxRecDepth 100000 in
theorem impl_QcSame.calls (k : Nat) (a0_0 : Int) (a0_1 : ByteArray) (A0_2 : Option Addr) (c0_2 : Nat) (l0_2 : List Int) (a1_0 : Int) (a1_1 : ByteArray) (A1_2 : Option Addr) (c1_2 : Nat) (l1_2 : List Int) (r : Bool) (w : World) (hr0_2 : Kd.C (Kd.int .i64) w A0_2 l0_2.length l0_2) (hc0_2 : l0_2.length ≤ c0_2) (hr1_2 : Kd.C (Kd.int .i64) w A1_2 l1_2.length l1_2) (hc1_2 : l1_2.length ≤ c1_2) (h : impl_QcSame.f k a0_0 a0_1 l0_2 a1_0 a1_1 l1_2 = some r) :
  Calls Tryd.prog 57 #[.agg #[.int .i64 a0_0, .string a0_1, .slice A0_2 l0_2.length c0_2], .agg #[.int .i64 a1_0, .string a1_1, .slice A1_2 l1_2.length c1_2]] w fun e w' => e = .returned (.bool r) ∧ Below w.heap.size w w' := by
 have hu32 := Tryd.underlying32; have HR0_2 := Aside0.mk hr0_2; have HC0_2 := Aside0.mk hc0_2; clear hr0_2 hc0_2; have HR1_2 := Aside0.mk hr1_2; have HC1_2 := Aside0.mk hc1_2; clear hr1_2 hc1_2; have HB := Aside0.mk (Below.refl w.heap.size w)
 have H := h; unfold impl_QcSame.f at H
 clear h
 go_enter Tryd.func57, Tryd.ntmps57
 have H' := Aside0.mk H; clear H
 go_upto_region 1 with (first | ((with_reducible refine gd 2 ?_); refine bL 2 #[.int .i64 a0_0, .string a0_1, .slice A0_2 l0_2.length c0_2] 32 ?_; intro gb343 w3 _ _ _) | ((with_reducible refine gd 3 ?_); refine bL 3 #[.int .i64 a1_0, .string a1_1, .slice A1_2 l1_2.length c1_2] 32 ?_; intro gb344 w4 _ _ _))
 have H := H'.out; clear H'
 by_cases c5 : a0_0 = a1_0
 ·
  rw [if_pos c5] at H
  have c5b0 : (a0_0 == a1_0) = true := beq_iff_eq.mpr c5; have c5b1 : (a0_0 != a1_0) = false := bne_eq_false_iff_eq.mpr c5; clear c5
  (first | rw [c5b0] | (simp only [i64_w, i32_w]; rw [c5b0]) | skip)
  by_cases c6 : a0_1.toList = a1_1.toList
  ·
   rw [if_pos c6] at H
   have c6b0 : (a0_1.toList == a1_1.toList) = true := beq_iff_eq.mpr c6; have c6b1 : (a0_1.toList != a1_1.toList) = false := bne_eq_false_iff_eq.mpr c6; clear c6; obtain ⟨t345, A7, H⟩ := oB H; (try dsimp only at H); obtain rfl := Option.some.inj H
   go_wp2_with (first | (go_at_call 78; refine aD (slices_Equal_int_int.calls (hr0 := pC HR0_2) (hc0 := HC0_2.out) (hr1 := pC HR1_2) (hc1 := HC1_2.out) (w := _) (h := A7.out)) ?_; intro w8 _))
   go_ret
   exact ⟨y0_11, UpW.out⟩
  rw [if_neg c6] at H
  have c6b0 : (a0_1.toList == a1_1.toList) = false := beq_eq_false_iff_ne.mpr c6; have c6b1 : (a0_1.toList != a1_1.toList) = true := bne_iff_ne.mpr c6; obtain rfl := Option.some.inj H
  go_wp2
  go_ret
  exact ⟨y0_11, UpW.out⟩
 rw [if_neg c5] at H
 have c5b0 : (a0_0 == a1_0) = false := beq_eq_false_iff_ne.mpr c5; have c5b1 : (a0_0 != a1_0) = true := bne_iff_ne.mpr c5
 (first | rw [c5b0] | (simp only [i64_w, i32_w]; rw [c5b0]) | skip)
 obtain rfl := Option.some.inj H
 go_wp2
 go_ret
 exact ⟨y0_11, UpW.out⟩

/-! ### impl_QcFirst: function 58 -/
def impl_QcFirst.f  : Option (Int × ByteArray × List Int) := some (0, (⟨#[]⟩ : ByteArray), ([] : List Int))
set_option maxHeartbeats 8000000 in
set_option maxRecDepth 100000 in
theorem impl_QcFirst.calls  (r1 : Int) (r2 : ByteArray) (r3 : List Int) (w : World) (h : impl_QcFirst.f  = some (r1, r2, r3)) :
  Calls Tryd.prog 58 #[] w fun e w' => ∃ v2_ : Value, e = .returned (.agg #[.int .i64 r1, .string r2, v2_]) ∧ Kd.R (Kd.int .i64) 3 w' w.heap.size (fun _ => True) v2_ r3 ∧ Below w.heap.size w w' := by
 have hu32 := Tryd.underlying32; have HB := Aside0.mk (Below.refl w.heap.size w); have H := h; unfold impl_QcFirst.f at H; clear h
 simp only [Option.some.injEq, Prod.mk.injEq] at H
 obtain ⟨rfl, rfl, rfl⟩ := H
 go_enter Tryd.func58, Tryd.ntmps58
 go_wp2_with (first | ((with_reducible refine gd 0 ?_); refine bL 0 #[.int .i64 0, .string (⟨#[]⟩ : ByteArray), .slice none 0 0] 32 ?_; intro gb346 w1 _ _ _))
 refine bodyPost_ret (results_cell_row rfl _ _ gb346 32 #[.int .i64 0, .string (⟨#[]⟩ : ByteArray), .slice none 0 0] (0, 0) _ rfl xB Tryd.underlying32 rfl (by kernel_rfl)) rfl ?_
 exact ⟨_, y0_11, Kd.R_nil _ _ _ _ _, UpW.out⟩

/-! ### strings_Split: function 95 -/

/-! ### impl_Split: function 86 -/
def impl_Split.f (a0 : ByteArray) (a1 : Int) : Option (List ByteArray) := (strings_Split.f a0 (strOfNums (([a1] : List Int)))).bind fun t350 => (some t350)
set_option maxHeartbeats 8000000 in
set_option maxRecDepth 100000 in
theorem impl_Split.calls (a0 : ByteArray) (a1 : Int) (r : List ByteArray) (w : World) (h : impl_Split.f a0 a1 = some r) (hG : Glob w := by exact gG HG HB) :
  Calls Tryd.prog 86 #[.string a0, .int .u8 a1] w fun e w' => ∃ v0_ : Value, e = .returned (v0_) ∧ Kd.R Kd.string 9 w' w.heap.size (fun _ => True) v0_ r ∧ Below w.heap.size w w' := by
 have HG := Aside0.mk hG; clear hG; have HB := Aside0.mk (Below.refl w.heap.size w)
 have H := h; unfold impl_Split.f at H
 clear h; obtain ⟨y347, hy347⟩ : ∃ y_ : List Int, y_ = (([a1] : List Int)) := ⟨_, rfl⟩
 replace H : ((strings_Split.f a0 (strOfNums y347)).bind fun t350 => (some t350)) = some r := by first | (rw [hy347]; with_reducible exact H) | (have H2_ := (Option.bind_some _ _).symm.trans H; rw [hy347]; with_reducible exact H2_) | (have H2_ := (Option.bind_some _ _).symm.trans H; with_reducible exact H2_) | with_reducible exact H | (rw [hy347]; exact H) | exact H
 have Ny347 := Aside0.mk hy347; clear hy347; obtain ⟨t350, A3, H⟩ := oB H; (try dsimp only at H); obtain rfl := Option.some.inj H
 go_enter Tryd.func86, Tryd.ntmps86
 go_wp2_with (first | ((with_reducible refine gate_dst (N := 7) rfl ?_); refine Kd.R_lit (Kd.int .u8) _ 5 ?hg (N := 7) ?hd (xs := ([a1] : List Int)) (inner := [.int .u8 a1]) (ok := fun _ => True) (okp := fun _ => True) ?hr ?hp (fun _ hk => hk) trivial (Below.refl _ _) (Nat.le_refl _) (by simp) ?_; (case hd => rfl); (case hg => rfl); (case hr => first | (go_simp; done) | (go_simp; rfl)); (case hp => exact (Reps.one (show Kd.M (Kd.int .u8) _ _ _ a1 [.int .u8 a1] from rfl) (Reps.none _ _))); intro v348 w4 ho5 hb hg_ hnew_; clear hg_ hnew_; (first | rw [← Ny347.out] at ho5 | (simp only [Int.reduceToNat] at ho5; rw [← Ny347.out] at ho5)); have HO349 := Aside0.mk (Kd.R_lower ho5 (below_size (bI HB.out))); replace HB := bs HB hb; clear hb ho5; have hcv6 := own_string (P := Tryd.prog) Tryd.underlying22 Tryd.underlying5 Tryd.underlying9 (Kd.own_of_R HO349.out)) | ((with_reducible refine gate_callee (f := 95) rfl ?_); refine gB (some 9) Tryd.func95 #[.string a0, .string (strOfNums y347)] ?_; (with_reducible refine (strings_Split.calls a0 (strOfNums y347) t350 _ A3.out).mono ?_); rintro e w7 ⟨v351, rfl, ho0, hb⟩; refine ⟨_, rfl, ?_⟩; replace HO349 := rb HO349 hb; have HO352 := Aside0.mk (Kd.R_lower ho0 (below_size (bI HB.out))); replace HB := bs HB hb; (try clear hb); (try clear ho0)))
 go_ret
 exact ⟨_, y0_7, by (with_reducible repeat (first | apply Kd.R_alloc | apply Kd.R_drewN | apply Kd.R_drew)); exact HO352.out, bI HB.out⟩

/-! ### strings_Cut: function 87 -/

/-! ### strconv_Itoa_102: function 102 -/

/-! ### impl_Digits: function 97 -/
def impl_Digits.f (a0 : Int) : Option (ByteArray) := (strconv_Itoa_102.f a0).bind fun t353 => (some t353)
set_option maxHeartbeats 8000000 in
set_option maxRecDepth 100000 in
theorem impl_Digits.calls (a0 : Int) (r : ByteArray) (w : World) (h : impl_Digits.f a0 = some r) (hG : Glob w := by exact gG HG HB) :
  Calls Tryd.prog 97 #[.int .i64 a0] w fun e w' => e = .returned (.string r) ∧ Below w.heap.size w w' := by
 have HG := Aside0.mk hG; clear hG; have HB := Aside0.mk (Below.refl w.heap.size w)
 have H := h; unfold impl_Digits.f at H
 clear h; obtain ⟨t353, A2, H⟩ := oB H; (try dsimp only at H); obtain rfl := Option.some.inj H
 go_enter Tryd.func97, Tryd.ntmps97
 go_wp2_with (first | ((with_reducible refine gate_callee (f := 102) rfl ?_); refine gC (some 4) Tryd.func102 (strconv_Itoa_102.calls (w := _) (h := A2.out)) ?_; intro w3 _))
 go_ret
 exact ⟨y0_11, UpW.out⟩

/-! ### impl_Number: function 88 -/
mutual
def impl_Number.j0 : Nat → ByteArray → Bool → Option (Int × Bool)
 | 0, _, _ => none
 | k + 1, x0, x13 => if x13 = true then (some (0, false)) else (impl_Number.l0 k x0 0 0)
def impl_Number.l0 : Nat → ByteArray → Int → Int → Option (Int × Bool)
 | 0, _, _, _ => none
 | k + 1, x0, x4, x5 => if x5 < (x0.size : Int) then (if 0 ≤ x5 then (if (bt x0 x5) < 48 then (some (0, false)) else (if (bt x0 x5) > 57 then (some (0, false)) else (impl_Number.l0 k x0 (wrap64 ((wrap64 (10 * x4)) + (((bt x0 x5) - 48) % 256))) (wrap64 (x5 + 1))))) else (none)) else ((impl_Digits.f x4).bind fun t354 => (if t354.toList = x0.toList then (some (x4, true)) else (some (0, false))))
end
def impl_Number.f (k : Nat) (a0 : ByteArray) : Option (Int × Bool) := if (a0.size : Int) < 1 then (impl_Number.j0 k a0 true) else (impl_Number.j0 k a0 (decide ((a0.size : Int) > 6)))
theorem impl_Number.mono_l : ∀ k, (∀ y0 y1, LeO (impl_Number.j0 k y0 y1) (impl_Number.j0 (k + 1) y0 y1)) ∧ (∀ y0 y1 y2, LeO (impl_Number.l0 k y0 y1 y2) (impl_Number.l0 (k + 1) y0 y1 y2))
 | 0 => ⟨fun _ _ r h => by simp [impl_Number.j0] at h, fun _ _ _ r h => by simp [impl_Number.l0] at h⟩
 | k + 1 => by
  obtain ⟨ih0, ih1⟩ := impl_Number.mono_l k
  refine ⟨?_, ?_⟩
  ·
   intro y0 y1
   unfold impl_Number.j0
   repeat' first | (with_reducible exact ih0 _ _) | (with_reducible exact ih1 _ _ _) | (with_reducible exact LeO.refl _) | (with_reducible exact LeO.none _) | (with_reducible refine LeO.ite ?_ ?_) | (with_reducible refine LeO.bind ?_ (fun _ => ?_))
  intro y0 y1 y2
  unfold impl_Number.l0
  repeat' first | (with_reducible exact ih0 _ _) | (with_reducible exact ih1 _ _ _) | (with_reducible exact LeO.refl _) | (with_reducible exact LeO.none _) | (with_reducible refine LeO.ite ?_ ?_) | (with_reducible refine LeO.bind ?_ (fun _ => ?_))
theorem impl_Number.mono : ∀ a0 k, LeO (impl_Number.f k a0) (impl_Number.f (k + 1) a0) := by
 intro a0 k
 obtain ⟨ih0, ih1⟩ := impl_Number.mono_l k
 unfold impl_Number.f
 repeat' first | (with_reducible exact ih0 _ _) | (with_reducible exact ih1 _ _ _) | (with_reducible exact LeO.refl _) | (with_reducible exact LeO.none _) | (with_reducible refine LeO.ite ?_ ?_) | (with_reducible refine LeO.bind ?_ (fun _ => ?_))
set_option maxHeartbeats 8000000 in
set_option maxRecDepth 100000 in
theorem impl_Number.calls (k : Nat) (a0 : ByteArray) (r1 : Int) (r2 : Bool) (w : World) (h : impl_Number.f k a0 = some (r1, r2)) (hG : Glob w := by exact gG HG HB) :
  Calls Tryd.prog 88 #[.string a0] w fun e w' => e = .returned (.tuple #[.int .i64 r1, .bool r2]) ∧ Below w.heap.size w w' := by
 have HG := Aside0.mk hG; clear hG; have HB := Aside0.mk (Below.refl w.heap.size w); have H := h; unfold impl_Number.f at H; clear h; have HC2 := Aside0.mk H; clear H
 go_enter Tryd.func88, Tryd.ntmps88
 go_upto_region 1 with (fail)
 go_cut [13] (fun v13 wc => ∃ (kq : Nat) (x13_1 : Bool), v13 = .bool x13_1 ∧ Aside0 (impl_Number.j0 kq a0 x13_1 = some (r1, r2)) ∧ Aside0 (kq ≤ k) ∧ Aside0 (Below w.heap.size w wc))
 case first =>
  have H := HC2.out; clear HC2
  by_cases c3 : (a0.size : Int) < 1
  ·
   rw [if_pos c3] at H
   have c3b0 : decide ((a0.size : Int) < 1) = true := decide_eq_true c3
   have c3b1 : decide (a0.size < 1) = true := decide_eq_true (by omega)
   clear c3
   (first | rw [c3b0] | (simp only [i64_w, i32_w]; rw [c3b0]) | skip)
   have H' := Aside0.mk H; clear H
   go_wp2
   go_meet
   case rel => exact ⟨_, (true), y0_11, H', ⟨y0_12⟩, ⟨bI HB.out⟩⟩
  rw [if_neg c3] at H
  have c3b0 : decide ((a0.size : Int) < 1) = false := decide_eq_false c3
  have c3b1 : decide (a0.size < 1) = false := decide_eq_false (by omega)
  clear c3
  (first | rw [c3b0] | (simp only [i64_w, i32_w]; rw [c3b0]) | skip)
  have H' := Aside0.mk H; clear H
  go_wp2
  go_meet
  case rel => exact ⟨_, (decide ((a0.size : Int) > 6)), y0_11, H', ⟨y0_12⟩, ⟨bI HB.out⟩⟩
 case rest =>
  clear HC2
  try clear p2
  try clear c3
  try clear c3b0
  try clear c3b1
  obtain ⟨kq, x13_1, rfl, HA, HJ1, HB⟩ := hcut; cases kq with
  | zero => exact absurd HA.out (by simp [impl_Number.j0])
  | succ kj1 =>
   have H := HA.out; clear HA
   simp only [impl_Number.j0] at H
   by_cases c4 : x13_1 = true
   ·
    subst c4
    rw [if_pos rfl] at H
    simp only [Option.some.injEq, Prod.mk.injEq] at H
    obtain ⟨rfl, rfl⟩ := H
    go_wp2
    go_ret2
    exact ⟨y0_7, bI HB.out⟩
   replace c4 := Bool.eq_false_iff.mpr c4; subst c4
   rw [if_neg (show ¬ (false = true) by decide)] at H
   have H' := Aside0.mk H; clear H
   go_wp2
   go_loopg [4, 5] kj1 (fun kq v4 v5 w' => ∃ (x4_2 : Int) (x5_2 : Int), v4 = .int .i64 x4_2 ∧ v5 = .int .i64 x5_2 ∧ Aside0 (impl_Number.l0 kq a0 x4_2 x5_2 = some (r1, r2)) ∧ Aside0 (kq ≤ kj1) ∧ Aside0 (Below w.heap.size w w'))
   case atStart => exact ⟨(0), (0), y0_11, y0_11, H', ⟨Nat.le_refl _⟩, ⟨bI HB.out⟩⟩
   case round =>
    clear H'
    try clear p2
    try clear c3
    try clear c3b0
    try clear c3b1
    try clear c4
    try clear p2
    obtain ⟨x4_2, x5_2, rfl, rfl, HA, HK2, HB⟩ := hrel; cases gk with
    | zero => exact absurd HA.out (by simp [impl_Number.l0])
    | succ k2 =>
     have H := HA.out; clear HA
     simp only [impl_Number.l0] at H
     by_cases c5 : x5_2 < (a0.size : Int)
     ·
      rw [if_pos c5] at H
      have c5b0 : decide (x5_2 < (a0.size : Int)) = true := decide_eq_true c5; clear c5
      by_cases c6 : 0 ≤ x5_2
      rotate_left
      ·
       rw [if_neg c6] at H
       exact absurd H (by simp)
      rw [if_pos c6] at H
      have c6b0 : decide (0 ≤ x5_2) = true := decide_eq_true c6; clear c6
      by_cases c8 : (bt a0 x5_2) < 48
      ·
       rw [if_pos c8] at H
       have c8b0 : decide ((bt a0 x5_2) < 48) = true := decide_eq_true c8; clear c8
       simp only [Option.some.injEq, Prod.mk.injEq] at H
       obtain ⟨rfl, rfl⟩ := H; have p7 : 0 ≤ (x5_2 : Int) := of_decide_eq_true y0_10; have q7 : x5_2 < (a0.size : Int) := of_decide_eq_true y0_10; have hx7 := bt_at a0 x5_2; replace p7 := eq_true p7; replace q7 := eq_true q7
       go_wp2
       go_ret2
       exact ⟨y0_7, bI HB.out⟩
      rw [if_neg c8] at H
      have c8b0 : decide ((bt a0 x5_2) < 48) = false := decide_eq_false c8; clear c8
      by_cases c10 : (bt a0 x5_2) > 57
      ·
       rw [if_pos c10] at H
       have c10b0 : decide (57 < (bt a0 x5_2)) = true := decide_eq_true c10; clear c10
       simp only [Option.some.injEq, Prod.mk.injEq] at H
       obtain ⟨rfl, rfl⟩ := H; have p7 : 0 ≤ (x5_2 : Int) := of_decide_eq_true y0_10; have q7 : x5_2 < (a0.size : Int) := of_decide_eq_true y0_10; have hx7 := bt_at a0 x5_2; replace p7 := eq_true p7; replace q7 := eq_true q7; have p9 : 0 ≤ (x5_2 : Int) := of_decide_eq_true y0_10; have q9 : x5_2 < (a0.size : Int) := of_decide_eq_true y0_10; have hx9 := bt_at a0 x5_2; replace p9 := eq_true p9; replace q9 := eq_true q9
       go_wp2
       go_ret2
       exact ⟨y0_7, bI HB.out⟩
      rw [if_neg c10] at H
      have c10b0 : decide (57 < (bt a0 x5_2)) = false := decide_eq_false c10; clear c10; have H' := Aside0.mk H; clear H; have p7 : 0 ≤ (x5_2 : Int) := of_decide_eq_true y0_10; have q7 : x5_2 < (a0.size : Int) := of_decide_eq_true y0_10; have hx7 := bt_at a0 x5_2; replace p7 := eq_true p7; replace q7 := eq_true q7; have p9 : 0 ≤ (x5_2 : Int) := of_decide_eq_true y0_10; have q9 : x5_2 < (a0.size : Int) := of_decide_eq_true y0_10; have hx9 := bt_at a0 x5_2; replace p9 := eq_true p9; replace q9 := eq_true q9; have p11 : 0 ≤ (x5_2 : Int) := of_decide_eq_true y0_10; have q11 : x5_2 < (a0.size : Int) := of_decide_eq_true y0_10; have hx11 := bt_at a0 x5_2; replace p11 := eq_true p11; replace q11 := eq_true q11
      go_wp2
      go_roundg k2
      case measure => have := HJ1.out; have := HK2.out; omega
      case rel => exact ⟨(wrap64 ((wrap64 (10 * x4_2)) + (((bt a0 x5_2) - 48) % 256))), (wrap64 (x5_2 + 1)), y0_11, y0_11, H', ⟨by have := HJ1.out; have := HK2.out; omega⟩, ⟨bI HB.out⟩⟩
     rw [if_neg c5] at H
     have c5b0 : decide (x5_2 < (a0.size : Int)) = false := decide_eq_false c5; clear c5; obtain ⟨t354, A12, H⟩ := oB H; (try dsimp only at H)
     by_cases c13 : t354.toList = a0.toList
     ·
      rw [if_pos c13] at H
      have c13b0 : (t354.toList == a0.toList) = true := beq_iff_eq.mpr c13; have c13b1 : (t354.toList != a0.toList) = false := bne_eq_false_iff_eq.mpr c13; clear c13
      simp only [Option.some.injEq, Prod.mk.injEq] at H
      obtain ⟨rfl, rfl⟩ := H
      go_wp2_with (first | ((with_reducible refine gate_callee (f := 97) rfl ?_); refine gB (some 39) Tryd.func97 #[.int .i64 x4_2] ?_; (with_reducible refine (impl_Digits.calls x4_2 t354 _ A12.out).mono ?_); rintro e w14 ⟨rfl, hb⟩; refine ⟨_, rfl, ?_⟩; replace HB := bs HB hb; (try clear hb); (try clear hb2); (try clear hk); (try clear hi)))
      go_ret2
      exact ⟨y0_7, bI HB.out⟩
     rw [if_neg c13] at H
     have c13b0 : (t354.toList == a0.toList) = false := beq_eq_false_iff_ne.mpr c13; have c13b1 : (t354.toList != a0.toList) = true := bne_iff_ne.mpr c13
     simp only [Option.some.injEq, Prod.mk.injEq] at H
     obtain ⟨rfl, rfl⟩ := H
     go_wp2_with (first | ((with_reducible refine gate_callee (f := 97) rfl ?_); refine gB (some 39) Tryd.func97 #[.int .i64 x4_2] ?_; (with_reducible refine (impl_Digits.calls x4_2 t354 _ A12.out).mono ?_); rintro e w15 ⟨rfl, hb⟩; refine ⟨_, rfl, ?_⟩; replace HB := bs HB hb; (try clear hb); (try clear hb2); (try clear hk); (try clear hi)))
     go_ret2
     exact ⟨y0_7, bI HB.out⟩

/-! ### impl_TxOk: function 103 -/
def impl_TxOk.f (a0_0 : Int) (a0_1 : Int) (a0_2 : Int) (a0_3 : Int) : Option (Bool) := (impl_within.f a0_0 0 3).bind fun t356 => (if t356 = true then ((impl_within.f a0_1 0 3).bind fun t357 => (if t357 = true then ((impl_within.f a0_2 0 1000).bind fun t358 => (if t358 = true then ((impl_within.f a0_3 0 99).bind fun t359 => (some t359)) else (some false))) else (some false))) else (some false))
set_option maxHeartbeats 8000000 in
set_option maxRecDepth 100000 in
theorem impl_TxOk.calls (a0_0 : Int) (a0_1 : Int) (a0_2 : Int) (a0_3 : Int) (r : Bool) (w : World) (h : impl_TxOk.f a0_0 a0_1 a0_2 a0_3 = some r) :
  Calls Tryd.prog 103 #[.agg #[.int .i64 a0_0, .int .i64 a0_1, .int .i64 a0_2, .int .i64 a0_3]] w fun e w' => e = .returned (.bool r) ∧ Below w.heap.size w w' := by
 have hu97 := Tryd.underlying97; have HB := Aside0.mk (Below.refl w.heap.size w)
 have H := h; unfold impl_TxOk.f at H
 clear h
 go_enter Tryd.func103, Tryd.ntmps103
 have H' := Aside0.mk H; clear H
 go_upto_region 1 with (first | ((with_reducible refine gd 1 ?_); refine bL 1 #[.int .i64 a0_0, .int .i64 a0_1, .int .i64 a0_2, .int .i64 a0_3] 97 ?_; intro gb355 w2 _ _ _))
 have H := H'.out; clear H'; obtain ⟨t356, A3, H⟩ := oB H; (try dsimp only at H)
 by_cases c4 : t356 = true
 ·
  subst c4
  rw [if_pos rfl] at H
  obtain ⟨t357, A5, H⟩ := oB H; (try dsimp only at H)
  by_cases c6 : t357 = true
  ·
   subst c6
   rw [if_pos rfl] at H
   obtain ⟨t358, A7, H⟩ := oB H; (try dsimp only at H)
   by_cases c8 : t358 = true
   ·
    subst c8
    rw [if_pos rfl] at H
    obtain ⟨t359, A9, H⟩ := oB H; (try dsimp only at H); obtain rfl := Option.some.inj H
    go_wp2_with (first | ((with_reducible refine gate_callee (f := 54) rfl ?_); refine gD (some 5) Tryd.func54 (impl_within.calls (w := _) (h := A3.out)) ?_; intro w10 _) | (go_at_call 54; refine aD (impl_within.calls (w := _) (h := A5.out)) ?_; intro w11 _) | (go_at_call 54; refine aD (impl_within.calls (w := _) (h := A7.out)) ?_; intro w12 _) | (go_at_call 54; refine aD (impl_within.calls (w := _) (h := A9.out)) ?_; intro w13 _))
    go_ret
    exact ⟨y0_11, UpW.out⟩
   replace c8 := Bool.eq_false_iff.mpr c8; subst c8
   rw [if_neg (show ¬ (false = true) by decide)] at H
   obtain rfl := Option.some.inj H
   go_wp2_with (first | ((with_reducible refine gate_callee (f := 54) rfl ?_); refine gD (some 5) Tryd.func54 (impl_within.calls (w := _) (h := A3.out)) ?_; intro w14 _) | (go_at_call 54; refine aD (impl_within.calls (w := _) (h := A5.out)) ?_; intro w15 _) | (go_at_call 54; refine aD (impl_within.calls (w := _) (h := A7.out)) ?_; intro w16 _))
   go_ret
   exact ⟨y0_11, UpW.out⟩
  replace c6 := Bool.eq_false_iff.mpr c6; subst c6
  rw [if_neg (show ¬ (false = true) by decide)] at H
  obtain rfl := Option.some.inj H
  go_wp2_with (first | ((with_reducible refine gate_callee (f := 54) rfl ?_); refine gD (some 5) Tryd.func54 (impl_within.calls (w := _) (h := A3.out)) ?_; intro w17 _) | (go_at_call 54; refine aD (impl_within.calls (w := _) (h := A5.out)) ?_; intro w18 _))
  go_ret
  exact ⟨y0_11, UpW.out⟩
 replace c4 := Bool.eq_false_iff.mpr c4; subst c4
 rw [if_neg (show ¬ (false = true) by decide)] at H
 obtain rfl := Option.some.inj H
 go_wp2_with (first | ((with_reducible refine gate_callee (f := 54) rfl ?_); refine gD (some 5) Tryd.func54 (impl_within.calls (w := _) (h := A3.out)) ?_; intro w19 _))
 go_ret
 exact ⟨y0_11, UpW.out⟩

/-! ### impl_TxText: function 104 -/
def impl_TxText.f (a0_0 : Int) (a0_1 : Int) (a0_2 : Int) (a0_3 : Int) : Option (ByteArray) := (impl_TxOk.f a0_0 a0_1 a0_2 a0_3).bind fun t361 => (if t361 = true then ((impl_Digits.f a0_0).bind fun t362 => (if t362.size + 1 ≤ 9223372036854775807 then ((impl_Digits.f a0_1).bind fun t363 => (if (t362 ++ (⟨#[62]⟩ : ByteArray)).size + t363.size ≤ 9223372036854775807 then (if ((t362 ++ (⟨#[62]⟩ : ByteArray)) ++ t363).size + 1 ≤ 9223372036854775807 then ((impl_Digits.f a0_2).bind fun t364 => (if (((t362 ++ (⟨#[62]⟩ : ByteArray)) ++ t363) ++ (⟨#[58]⟩ : ByteArray)).size + t364.size ≤ 9223372036854775807 then (if ((((t362 ++ (⟨#[62]⟩ : ByteArray)) ++ t363) ++ (⟨#[58]⟩ : ByteArray)) ++ t364).size + 1 ≤ 9223372036854775807 then ((impl_Digits.f a0_3).bind fun t365 => (if (((((t362 ++ (⟨#[62]⟩ : ByteArray)) ++ t363) ++ (⟨#[58]⟩ : ByteArray)) ++ t364) ++ (⟨#[35]⟩ : ByteArray)).size + t365.size ≤ 9223372036854775807 then (some ((((((t362 ++ (⟨#[62]⟩ : ByteArray)) ++ t363) ++ (⟨#[58]⟩ : ByteArray)) ++ t364) ++ (⟨#[35]⟩ : ByteArray)) ++ t365)) else (none))) else (none)) else (none))) else (none)) else (none))) else (none))) else (some (⟨#[]⟩ : ByteArray)))
def impl_TxText.T3 : Bool × List (List Nat × List Nat) := (true, [([], []), ([0], [0]), ([1], [1]), ([2], [2]), ([], []), ([4], [4]), ([5, 2], [5]), ([3, 6], [3, 6]), ([7], [7]), ([], []), ([9], [9]), ([10, 6], [10]), ([8, 11], [8, 11]), ([12], [12]), ([], []), ([14], [14]), ([15, 11], [15]), ([13, 16], [13, 16]), ([17, 16, 0, 1, 2, 3, 4, 5, 6, 7, 8, 9, 10, 11, 12, 13, 14, 15, 16, 17], [17])])
def impl_TxText.B3 : List Nat := [0, 1, 3, 7, 0, 16, 55, 127, 255, 0, 512, 1655, 4095, 8191, 0, 16384, 52855, 131071, 262143]
theorem impl_TxText.tab3 : rtab .any (opsOf Tryd.f104 3) = impl_TxText.T3 := by kernel_rfl
theorem impl_TxText.bits3 : waitsOk impl_TxText.T3.2 impl_TxText.B3 = true := by kernel_rfl
set_option maxHeartbeats 8000000 in
set_option maxRecDepth 100000 in
theorem impl_TxText.calls (a0_0 : Int) (a0_1 : Int) (a0_2 : Int) (a0_3 : Int) (r : ByteArray) (w : World) (h : impl_TxText.f a0_0 a0_1 a0_2 a0_3 = some r) (hG : Glob w := by exact gG HG HB) :
  Calls Tryd.prog 104 #[.agg #[.int .i64 a0_0, .int .i64 a0_1, .int .i64 a0_2, .int .i64 a0_3]] w fun e w' => e = .returned (.string r) ∧ Below w.heap.size w w' := by
 have HG := Aside0.mk hG; clear hG; have hu97 := Tryd.underlying97; have HB := Aside0.mk (Below.refl w.heap.size w)
 have H := h; unfold impl_TxText.f at H
 clear h; obtain ⟨t361, A2, H⟩ := oB H; (try dsimp only at H)
 go_enter Tryd.func104, Tryd.ntmps104
 have H' := Aside0.mk H; clear H
 go_upto_if 5 with (first | ((with_reducible refine gd 1 ?_); refine bL 1 #[.int .i64 a0_0, .int .i64 a0_1, .int .i64 a0_2, .int .i64 a0_3] 97 ?_; intro gb360 w3 _ _ _) | ((with_reducible refine gate_callee (f := 103) rfl ?_); refine gC (some 4) Tryd.func103 (impl_TxOk.calls (w := _) (h := A2.out)) ?_; intro w4 _))
 have H := H'.out; clear H'
 by_cases c5 : t361 = true
 ·
  subst c5
  rw [if_pos rfl] at H
  obtain ⟨t362, A6, H⟩ := oB H; (try dsimp only at H)
  by_cases c7 : t362.size + 1 ≤ 9223372036854775807
  rotate_left
  ·
   rw [if_neg c7] at H
   exact absurd H (by simp)
  rw [if_pos c7] at H
  have c7b0 := eq_true c7; have c7b1 : decide (t362.size + 1 ≤ 9223372036854775807) = true := decide_eq_true c7
  try have c7b2 : (9223372036854775807 < t362.size + 1) = False := eq_false (Nat.not_lt.2 c7)
  obtain ⟨t363, A8, H⟩ := oB H; (try dsimp only at H)
  by_cases c9 : (t362 ++ (⟨#[62]⟩ : ByteArray)).size + t363.size ≤ 9223372036854775807
  rotate_left
  ·
   rw [if_neg c9] at H
   exact absurd H (by simp)
  rw [if_pos c9] at H
  have c9b0 := eq_true c9; have c9b1 : decide ((t362 ++ (⟨#[62]⟩ : ByteArray)).size + t363.size ≤ 9223372036854775807) = true := decide_eq_true c9
  try have c9b2 : (9223372036854775807 < (t362 ++ (⟨#[62]⟩ : ByteArray)).size + t363.size) = False := eq_false (Nat.not_lt.2 c9)
  (try have c9b3 : (9223372036854775807 < t362.size + 1 + t363.size) = False := eq_false (by have h_ := c9; simp only [ByteArray.size_append, ByteArray.size_extract, show (⟨#[62]⟩ : ByteArray).size = 1 from rfl] at h_; omega))
  by_cases c10 : ((t362 ++ (⟨#[62]⟩ : ByteArray)) ++ t363).size + 1 ≤ 9223372036854775807
  rotate_left
  ·
   rw [if_neg c10] at H
   exact absurd H (by simp)
  rw [if_pos c10] at H
  have c10b0 := eq_true c10; have c10b1 : decide (((t362 ++ (⟨#[62]⟩ : ByteArray)) ++ t363).size + 1 ≤ 9223372036854775807) = true := decide_eq_true c10
  try have c10b2 : (9223372036854775807 < ((t362 ++ (⟨#[62]⟩ : ByteArray)) ++ t363).size + 1) = False := eq_false (Nat.not_lt.2 c10)
  (try have c10b3 : (9223372036854775807 < t362.size + 1 + t363.size + 1) = False := eq_false (by have h_ := c10; simp only [ByteArray.size_append, ByteArray.size_extract, show (⟨#[62]⟩ : ByteArray).size = 1 from rfl] at h_; omega))
  obtain ⟨t364, A11, H⟩ := oB H; (try dsimp only at H)
  by_cases c12 : (((t362 ++ (⟨#[62]⟩ : ByteArray)) ++ t363) ++ (⟨#[58]⟩ : ByteArray)).size + t364.size ≤ 9223372036854775807
  rotate_left
  ·
   rw [if_neg c12] at H
   exact absurd H (by simp)
  rw [if_pos c12] at H
  have c12b0 := eq_true c12; have c12b1 : decide ((((t362 ++ (⟨#[62]⟩ : ByteArray)) ++ t363) ++ (⟨#[58]⟩ : ByteArray)).size + t364.size ≤ 9223372036854775807) = true := decide_eq_true c12
  try have c12b2 : (9223372036854775807 < (((t362 ++ (⟨#[62]⟩ : ByteArray)) ++ t363) ++ (⟨#[58]⟩ : ByteArray)).size + t364.size) = False := eq_false (Nat.not_lt.2 c12)
  (try have c12b3 : (9223372036854775807 < t362.size + 1 + t363.size + 1 + t364.size) = False := eq_false (by have h_ := c12; simp only [ByteArray.size_append, ByteArray.size_extract, show (⟨#[58]⟩ : ByteArray).size = 1 from rfl, show (⟨#[62]⟩ : ByteArray).size = 1 from rfl] at h_; omega))
  by_cases c13 : ((((t362 ++ (⟨#[62]⟩ : ByteArray)) ++ t363) ++ (⟨#[58]⟩ : ByteArray)) ++ t364).size + 1 ≤ 9223372036854775807
  rotate_left
  ·
   rw [if_neg c13] at H
   exact absurd H (by simp)
  rw [if_pos c13] at H
  have c13b0 := eq_true c13; have c13b1 : decide (((((t362 ++ (⟨#[62]⟩ : ByteArray)) ++ t363) ++ (⟨#[58]⟩ : ByteArray)) ++ t364).size + 1 ≤ 9223372036854775807) = true := decide_eq_true c13
  try have c13b2 : (9223372036854775807 < ((((t362 ++ (⟨#[62]⟩ : ByteArray)) ++ t363) ++ (⟨#[58]⟩ : ByteArray)) ++ t364).size + 1) = False := eq_false (Nat.not_lt.2 c13)
  (try have c13b3 : (9223372036854775807 < t362.size + 1 + t363.size + 1 + t364.size + 1) = False := eq_false (by have h_ := c13; simp only [ByteArray.size_append, ByteArray.size_extract, show (⟨#[58]⟩ : ByteArray).size = 1 from rfl, show (⟨#[62]⟩ : ByteArray).size = 1 from rfl] at h_; omega))
  obtain ⟨t365, A14, H⟩ := oB H; (try dsimp only at H)
  by_cases c15 : (((((t362 ++ (⟨#[62]⟩ : ByteArray)) ++ t363) ++ (⟨#[58]⟩ : ByteArray)) ++ t364) ++ (⟨#[35]⟩ : ByteArray)).size + t365.size ≤ 9223372036854775807
  rotate_left
  ·
   rw [if_neg c15] at H
   exact absurd H (by simp)
  rw [if_pos c15] at H
  have c15b0 := eq_true c15; have c15b1 : decide ((((((t362 ++ (⟨#[62]⟩ : ByteArray)) ++ t363) ++ (⟨#[58]⟩ : ByteArray)) ++ t364) ++ (⟨#[35]⟩ : ByteArray)).size + t365.size ≤ 9223372036854775807) = true := decide_eq_true c15
  try have c15b2 : (9223372036854775807 < (((((t362 ++ (⟨#[62]⟩ : ByteArray)) ++ t363) ++ (⟨#[58]⟩ : ByteArray)) ++ t364) ++ (⟨#[35]⟩ : ByteArray)).size + t365.size) = False := eq_false (Nat.not_lt.2 c15)
  (try have c15b3 : (9223372036854775807 < t362.size + 1 + t363.size + 1 + t364.size + 1 + t365.size) = False := eq_false (by have h_ := c15; simp only [ByteArray.size_append, ByteArray.size_extract, show (⟨#[35]⟩ : ByteArray).size = 1 from rfl, show (⟨#[58]⟩ : ByteArray).size = 1 from rfl, show (⟨#[62]⟩ : ByteArray).size = 1 from rfl] at h_; omega))
  obtain rfl := Option.some.inj H
  try go_wp2
  refine sB [] impl_TxText.tab3 impl_TxText.bits3 ?_; intro w16 _ HT_ HW_
  refine pA 0 (some 6) (bz 19 1) HT_ ?_
  refine tB 1 (some 7) (bz 19 3) HT_ HW_ ?_
  refine pA 4 (some 10) (bz 19 19) HT_ ?_
  refine tB 5 (some 11) (bz 19 51) HT_ HW_ ?_
  refine pA 9 (some 15) (bz 19 563) HT_ ?_
  refine tB 10 (some 16) (bz 19 1587) HT_ HW_ ?_
  refine pA 14 (some 20) (bz 19 0x4633) HT_ ?_
  refine tB 15 (some 21) (bz 19 0xc633) HT_ HW_ ?_
  refine o1 2 (some 8) (bz 19 0xc637) HT_ rfl (kC Tryd.func97 (impl_Digits.calls (w := _) (h := A6.out)) ?_); intro w17 _
  refine nA (some 8) ?_
  refine pA 3 (some 9) (bz 19 0xc63f) HT_ ?_
  refine o1 6 (some 12) (bz 19 0xc67f) HT_ rfl (kC Tryd.func97 (impl_Digits.calls (w := _) (h := A8.out)) ?_); intro w18 _
  refine nA (some 12) ?_
  refine pA 7 (some 13) (bz 19 0xc6ff) HT_ ?_
  refine pA 8 (some 14) (bz 19 0xc7ff) HT_ ?_
  refine o1 11 (some 17) (bz 19 0xcfff) HT_ rfl (kC Tryd.func97 (impl_Digits.calls (w := _) (h := A11.out)) ?_); intro w19 _
  refine nA (some 17) ?_
  refine pA 12 (some 18) (bz 19 0xdfff) HT_ ?_
  refine pA 13 (some 19) (bz 19 0xffff) HT_ ?_
  refine o1 16 (some 22) (bz 19 0x1ffff) HT_ rfl (kC Tryd.func97 (impl_Digits.calls (w := _) (h := A14.out)) ?_); intro w20 _
  refine nA (some 22) ?_
  refine pA 17 (some 23) (bz 19 0x3ffff) HT_ ?_
  refine pA 18 (some 2) (bz 19 0x7ffff) HT_ ?_
  refine done_ (done_of HT_.out (by kernel_rfl)) ?_
  try go_wp2
  go_ret
  exact ⟨y0_11, UpW.out⟩
 replace c5 := Bool.eq_false_iff.mpr c5; subst c5
 rw [if_neg (show ¬ (false = true) by decide)] at H
 obtain rfl := Option.some.inj H
 go_wp2
 go_ret
 exact ⟨y0_11, UpW.out⟩

end Go.Proofs.YtnpbopadajbopaaDoor.PFnExactSafeOf
