-- By a program of this session, out of the translation (the print of the kit, with turns of its own). Lean checks it.
import Derived.Test.YtnpbopadajbopaaDoorPFnExactSafeOfx0
import Derived.Test.YtnpbopadajbopaaDoorPFnExactSafeOfx5
import Derived.Test.YtnpbopadajbopaaDoorPFnExactSafeOfx6
import Derived.Test.YtnpbopadajbopaaDoorPFnExactSafeOfx7
import Derived.Test.YtnpbopadajbopaaDoorPFnExactSafeOfx8
namespace Go.Proofs.YtnpbopadajbopaaDoor.PFnExactSafeOf
open Go.RowKit Go.Proofs.YtnpbopadajbopaaDoorW.PrintWords Go.Proofs.YtnpbopadajbopaaDoorW.PrintLast Go.Proofs.YtnpbopadajbopaaDoorW.PrintMore
attribute [local go_sem] max2_int min2_int max_two min_two max_three min_three max_four min_four   -- for this text's walks alone
attribute [local go_sem] cell_in frozen_in
set_option synthInstance.maxSize 1000000
set_option synthInstance.maxHeartbeats 2000000
set_option linter.unusedVariables false
set_option linter.unusedSimpArgs false

/-! ### impl_SetOk: function 61 -/
def impl_SetOk.l0 : Nat → Int → List Int → List Int → Int → Int → Option (Bool)
 | 0, _, _, _, _, _ => none
 | k + 1, x0, x1, x7, x8, x9 => if x9 < x8 then (if 0 ≤ x9 then (if x9 < (x7.length : Int) then (if (rd x7 x9) < 0 then (some false) else (if (rd x7 x9) ≥ x0 then (some false) else (if x9 > 0 then (if 0 ≤ (wrap64 (x9 - 1)) then (if (wrap64 (x9 - 1)) < (x1.length : Int) then (if (rd x1 (wrap64 (x9 - 1))) ≥ (rd x7 x9) then (some false) else (impl_SetOk.l0 k x0 x1 x7 x8 (wrap64 (x9 + 1)))) else (none)) else (none)) else (impl_SetOk.l0 k x0 x1 x7 x8 (wrap64 (x9 + 1)))))) else (none)) else (none)) else (some true)
def impl_SetOk.f (k : Nat) (a0 : Int) (l1 : List Int) : Option (Bool) := impl_SetOk.l0 k a0 l1 l1 (l1.length : Int) 0
theorem impl_SetOk.mono_l : ∀ k, (∀ y0 y1 y2 y3 y4, LeO (impl_SetOk.l0 k y0 y1 y2 y3 y4) (impl_SetOk.l0 (k + 1) y0 y1 y2 y3 y4))
 | 0 => fun _ _ _ _ _ r h => by simp [impl_SetOk.l0] at h
 | k + 1 => by
  have ih0 := impl_SetOk.mono_l k
  intro y0 y1 y2 y3 y4
  unfold impl_SetOk.l0
  repeat' first | (with_reducible exact ih0 _ _ _ _ _) | (with_reducible exact LeO.refl _) | (with_reducible exact LeO.none _) | (with_reducible refine LeO.ite ?_ ?_) | (with_reducible refine LeO.bind ?_ (fun _ => ?_))
theorem impl_SetOk.mono : ∀ a0 a1 k, LeO (impl_SetOk.f k a0 a1) (impl_SetOk.f (k + 1) a0 a1) := by
 intro a0 a1 k
 have ih0 := impl_SetOk.mono_l k
 unfold impl_SetOk.f
 repeat' first | (with_reducible exact ih0 _ _ _ _ _) | (with_reducible exact LeO.refl _) | (with_reducible exact LeO.none _) | (with_reducible refine LeO.ite ?_ ?_) | (with_reducible refine LeO.bind ?_ (fun _ => ?_))
set_option maxHeartbeats 8000000 in
set_option maxRecDepth 100000 in
theorem impl_SetOk.calls (k : Nat) (a0 : Int) (A1 : Option Addr) (c1 : Nat) (l1 : List Int) (r : Bool) (w : World) (hr1 : Kd.C (Kd.int .i64) w A1 l1.length l1) (hc1 : l1.length ≤ c1) (h : impl_SetOk.f k a0 l1 = some r) :
  Calls Tryd.prog 61 #[.int .i64 a0, .slice A1 l1.length c1] w fun e w' => e = .returned (.bool r) ∧ Drawn0 w w' := by
 have HR1 := Aside0.mk hr1; have HC1 := Aside0.mk hc1; clear hr1 hc1; have H := h; unfold impl_SetOk.f at H; clear h; have H' := Aside0.mk H; clear H
 go_enter Tryd.func61, Tryd.ntmps61
 go_wp2
 go_loopg [9] k (fun kq v9 w' => ∃ (x9_1 : Int), v9 = .int .i64 x9_1 ∧ Aside0 (impl_SetOk.l0 kq a0 l1 l1 (l1.length : Int) x9_1 = some r) ∧ Aside0 (kq ≤ k) ∧ Drawn0 w w')
 case atStart => exact ⟨(0), y0_11, H', ⟨Nat.le_refl _⟩, y0_8⟩
 case round =>
  clear H'
  try clear c1
  try clear p2
  obtain ⟨x9_1, rfl, HA, HK1, ⟨m1, rfl⟩⟩ := hrel; cases gk with
  | zero => exact absurd HA.out (by simp [impl_SetOk.l0])
  | succ k1 =>
   have H := HA.out; clear HA
   simp only [impl_SetOk.l0] at H
   by_cases c3 : x9_1 < (l1.length : Int)
   ·
    rw [if_pos c3] at H
    have c3b0 : decide (x9_1 < (l1.length : Int)) = true := decide_eq_true c3; clear c3
    by_cases c4 : 0 ≤ x9_1
    rotate_left
    ·
     rw [if_neg c4] at H
     exact absurd H (by simp)
    rw [if_pos c4] at H
    have c4b0 : decide (0 ≤ x9_1) = true := decide_eq_true c4; clear c4
    by_cases c5 : x9_1 < (l1.length : Int)
    rotate_left
    ·
     rw [if_neg c5] at H
     exact absurd H (by simp)
    rw [if_pos c5] at H
    have c5b0 : decide (x9_1 < (l1.length : Int)) = true := decide_eq_true c5; clear c5
    by_cases c6 : (rd l1 x9_1) < 0
    ·
     rw [if_pos c6] at H
     have c6b0 : decide ((rd l1 x9_1) < 0) = true := decide_eq_true c6; clear c6; obtain rfl := Option.some.inj H; have p410 : 0 ≤ (x9_1 : Int) := of_decide_eq_true y0_10; have q410 : x9_1 < (l1.length : Int) := of_decide_eq_true y0_10; obtain ⟨ad410, e410, hx410_0⟩ := Kd.at_int HR1.out x9_1 p410 q410; cases e410; replace p410 := eq_true p410; replace q410 := eq_true q410
     go_wp2
     go_ret
     exact ⟨y0_11, y0_8⟩
    rw [if_neg c6] at H
    have c6b0 : decide ((rd l1 x9_1) < 0) = false := decide_eq_false c6; clear c6
    by_cases c7 : (rd l1 x9_1) ≥ a0
    ·
     rw [if_pos c7] at H
     have c7b0 : decide (a0 ≤ (rd l1 x9_1)) = true := decide_eq_true c7; clear c7; obtain rfl := Option.some.inj H; have p410 : 0 ≤ (x9_1 : Int) := of_decide_eq_true y0_10; have q410 : x9_1 < (l1.length : Int) := of_decide_eq_true y0_10; obtain ⟨ad410, e410, hx410_0⟩ := Kd.at_int HR1.out x9_1 p410 q410; cases e410; replace p410 := eq_true p410; replace q410 := eq_true q410
     go_wp2
     go_ret
     exact ⟨y0_11, y0_8⟩
    rw [if_neg c7] at H
    have c7b0 : decide (a0 ≤ (rd l1 x9_1)) = false := decide_eq_false c7; clear c7
    by_cases c8 : x9_1 > 0
    ·
     rw [if_pos c8] at H
     have c8b0 : decide (0 < x9_1) = true := decide_eq_true c8; clear c8; obtain ⟨ji9, hji9⟩ : ∃ j_ : Int, (wrap64 (x9_1 - 1)) = j_ := ⟨_, rfl⟩
     replace H : (if 0 ≤ (ji9) then (if (ji9) < (l1.length : Int) then (if (rd l1 (ji9)) ≥ (rd l1 x9_1) then (some false) else (impl_SetOk.l0 k1 a0 l1 l1 (l1.length : Int) (wrap64 (x9_1 + 1)))) else (none)) else (none)) = some r := by first | (rw [hji9] at H; exact H) | (simp only [hji9] at H ⊢; exact H)
     have hji9w : (IntKind.i64.wrap (x9_1 - 1)) = ji9 := (i64_w _).trans hji9
     by_cases c10 : 0 ≤ (ji9)
     rotate_left
     ·
      rw [if_neg c10] at H
      exact absurd H (by simp)
     rw [if_pos c10] at H
     have c10b0 : decide (0 ≤ (ji9)) = true := decide_eq_true c10; clear c10
     by_cases c11 : (ji9) < (l1.length : Int)
     rotate_left
     ·
      rw [if_neg c11] at H
      exact absurd H (by simp)
     rw [if_pos c11] at H
     have c11b0 : decide ((ji9) < (l1.length : Int)) = true := decide_eq_true c11; clear c11
     by_cases c12 : (rd l1 (ji9)) ≥ (rd l1 x9_1)
     ·
      rw [if_pos c12] at H
      have c12b0 : decide ((rd l1 x9_1) ≤ (rd l1 (ji9))) = true := decide_eq_true c12; clear c12; obtain rfl := Option.some.inj H; have p410 : 0 ≤ (x9_1 : Int) := of_decide_eq_true y0_10; have q410 : x9_1 < (l1.length : Int) := of_decide_eq_true y0_10; obtain ⟨ad410, e410, hx410_0⟩ := Kd.at_int HR1.out x9_1 p410 q410; cases e410; replace p410 := eq_true p410; replace q410 := eq_true q410; have p411 : 0 ≤ ((ji9) : Int) := of_decide_eq_true y0_10; have q411 : (ji9) < (l1.length : Int) := of_decide_eq_true y0_10; obtain ⟨ad411, e411, hx411_0⟩ := Kd.at_int HR1.out (ji9) p411 q411
      obtain rfl : ad410 = ad411 := (by injection e411)
      replace p411 := eq_true p411; replace q411 := eq_true q411
      go_wp2
      go_ret
      exact ⟨by first | rfl | (simp; done) | (simp only [← hji9] <;> (first | rfl | simp)) | (simp [*]; done), y0_8⟩
     rw [if_neg c12] at H
     have c12b0 : decide ((rd l1 x9_1) ≤ (rd l1 (ji9))) = false := decide_eq_false c12; clear c12; have H' := Aside0.mk H; clear H; have p410 : 0 ≤ (x9_1 : Int) := of_decide_eq_true y0_10; have q410 : x9_1 < (l1.length : Int) := of_decide_eq_true y0_10; obtain ⟨ad410, e410, hx410_0⟩ := Kd.at_int HR1.out x9_1 p410 q410; cases e410; replace p410 := eq_true p410; replace q410 := eq_true q410; have p411 : 0 ≤ ((ji9) : Int) := of_decide_eq_true y0_10; have q411 : (ji9) < (l1.length : Int) := of_decide_eq_true y0_10; obtain ⟨ad411, e411, hx411_0⟩ := Kd.at_int HR1.out (ji9) p411 q411
     obtain rfl : ad410 = ad411 := (by injection e411)
     replace p411 := eq_true p411; replace q411 := eq_true q411
     go_wp2
     go_roundg k1
     case measure => have := HK1.out; omega
     case rel => exact ⟨(wrap64 (x9_1 + 1)), y0_11, H', ⟨y0_13⟩, y0_8⟩
    rw [if_neg c8] at H
    have c8b0 : decide (0 < x9_1) = false := decide_eq_false c8; clear c8; have H' := Aside0.mk H; clear H; have p410 : 0 ≤ (x9_1 : Int) := of_decide_eq_true y0_10; have q410 : x9_1 < (l1.length : Int) := of_decide_eq_true y0_10; obtain ⟨ad410, e410, hx410_0⟩ := Kd.at_int HR1.out x9_1 p410 q410; cases e410; replace p410 := eq_true p410; replace q410 := eq_true q410
    go_wp2
    go_roundg k1
    case measure => have := HK1.out; omega
    case rel => exact ⟨(wrap64 (x9_1 + 1)), y0_11, H', ⟨y0_13⟩, y0_8⟩
   rw [if_neg c3] at H
   have c3b0 : decide (x9_1 < (l1.length : Int)) = false := decide_eq_false c3; clear c3; obtain rfl := Option.some.inj H
   go_wp2
   go_ret
   exact ⟨y0_11, y0_8⟩

/-! ### impl_QcOk: function 34 -/
def impl_QcOk.f (k : Nat) (a0_0 : Int) (a0_1 : Int) (a1_0 : Int) (a1_1 : ByteArray) (l1_2 : List Int) : Option (Bool) := (impl_ConfOk.f a0_0 a0_1).bind fun t414 => (if t414 = true then ((impl_QcFirst.f).bind fun bt415 => ((impl_QcSame.f k a1_0 a1_1 l1_2 bt415.1 bt415.2.1 bt415.2.2).bind fun t420 => (if t420 = true then (some true) else (if a1_0 ≥ 1 then ((impl_NameOk.f k a1_1).bind fun t421 => (if t421 = true then ((impl_ViewOf.f k a1_1).bind fun t422 => (if a1_0 = t422 then ((impl_SetOk.f k a0_0 l1_2).bind fun t423 => (if t423 = true then ((impl_Quorum.f a0_0 a0_1).bind fun t424 => (some (decide ((l1_2.length : Int) ≥ t424)))) else (some false))) else (some false))) else (some false))) else (some false))))) else (some false))
theorem impl_QcOk.mono : ∀ a0 a1 a2 a3 a4 k, LeO (impl_QcOk.f k a0 a1 a2 a3 a4) (impl_QcOk.f (k + 1) a0 a1 a2 a3 a4) := by
 intro a0 a1 a2 a3 a4 k
 unfold impl_QcOk.f
 repeat' first | (with_reducible exact impl_NameOk.mono _ _) | (with_reducible exact impl_QcSame.mono _ _ _ _ _ _ _) | (with_reducible exact impl_SetOk.mono _ _ _) | (with_reducible exact impl_ViewOf.mono _ _) | (with_reducible exact LeO.refl _) | (with_reducible exact LeO.none _) | (with_reducible refine LeO.ite ?_ ?_) | (with_reducible refine LeO.bind ?_ (fun _ => ?_))
def impl_QcOk.T3 : Bool × List (List Nat × List Nat) := (true, [([], []), ([], []), ([0, 1, 1], [0, 1]), ([2, 2], [2]), ([3], [3]), ([4, 3], [3, 4]), ([5, 3], [3, 5]), ([6, 3, 3], [3, 6]), ([7], [7]), ([8, 7], [7, 8]), ([9, 7, 7], [7, 9]), ([7, 10, 3], [3, 7, 10]), ([11, 10, 3], [3, 11]), ([12], [12]), ([13, 12], [12, 13]), ([12], [12]), ([15, 12], [12, 15]), ([16, 12, 12], [12, 16]), ([14, 17, 12], [12, 14, 17]), ([12, 18, 3], [3, 12, 18]), ([19, 17, 3], [3, 19]), ([20], [20]), ([21, 20], [20, 21]), ([20], [20]), ([23, 20], [20, 23]), ([22, 24, 20, 20], [20, 22, 24]), ([20, 25, 3], [3, 20, 25]), ([26, 25, 3], [3, 26]), ([27], [27]), ([28, 27], [27, 28]), ([29, 27], [27, 29]), ([27], [27]), ([31, 27, 27], [27, 31]), ([30, 32, 27], [27, 30, 32]), ([27, 33, 3], [3, 27, 33]), ([3, 34], [3, 34]), ([35, 32, 0, 1, 2, 3, 4, 5, 6, 7, 8, 9, 10, 11, 12, 13, 14, 15, 16, 17, 18, 19, 20, 21, 22, 23, 24, 25, 26, 27, 28, 29, 30, 31, 32, 33, 34, 35], [35])])
def impl_QcOk.B3 : List Nat := [0, 0, 3, 7, 15, 31, 63, 127, 255, 511, 1023, 2047, 4095, 8191, 16383, 8191, 40959, 106495, 262143, 524287, 1048575, 2097151, 4194303, 2097151, 10485759, 33554431, 67108863, 134217727, 268435455, 536870911, 1073741823, 268435455, 2415919103, 8589934591, 17179869183, 34359738367, 68719476735]
theorem impl_QcOk.tab3 : rtab .any (opsOf Tryd.f34 3) = impl_QcOk.T3 := by kernel_rfl
theorem impl_QcOk.bits3 : waitsOk impl_QcOk.T3.2 impl_QcOk.B3 = true := by kernel_rfl
set_option maxHeartbeats 8000000 in
set_option maxRecDepth 100000 in
theorem impl_QcOk.calls (k : Nat) (a0_0 : Int) (a0_1 : Int) (a1_0 : Int) (a1_1 : ByteArray) (A1_2 : Option Addr) (c1_2 : Nat) (l1_2 : List Int) (r : Bool) (w : World) (hr1_2 : Kd.C (Kd.int .i64) w A1_2 l1_2.length l1_2) (hc1_2 : l1_2.length ≤ c1_2) (h : impl_QcOk.f k a0_0 a0_1 a1_0 a1_1 l1_2 = some r) (hG : Glob w := by exact gG HG HB) :
  Calls Tryd.prog 34 #[.agg #[.int .i64 a0_0, .int .i64 a0_1], .agg #[.int .i64 a1_0, .string a1_1, .slice A1_2 l1_2.length c1_2]] w fun e w' => e = .returned (.bool r) ∧ Below w.heap.size w w' := by
 have HG := Aside0.mk hG; clear hG; have hu25 := Tryd.underlying25; have hu32 := Tryd.underlying32; have HR1_2 := Aside0.mk hr1_2; have HC1_2 := Aside0.mk hc1_2; clear hr1_2 hc1_2; have HB := Aside0.mk (Below.refl w.heap.size w)
 have H := h; unfold impl_QcOk.f at H
 clear h; obtain ⟨t414, A3, H⟩ := oB H; (try dsimp only at H)
 go_enter Tryd.func34, Tryd.ntmps34
 have H' := Aside0.mk H; clear H
 go_upto_if 7 with (first | ((with_reducible refine gd 2 ?_); refine bL 2 #[.int .i64 a0_0, .int .i64 a0_1] 25 ?_; intro gb412 w4 _ _ _) | ((with_reducible refine gd 3 ?_); refine bL 3 #[.int .i64 a1_0, .string a1_1, .slice A1_2 l1_2.length c1_2] 32 ?_; intro gb413 w5 _ _ _) | ((with_reducible refine gate_callee (f := 30) rfl ?_); refine gC (some 6) Tryd.func30 (impl_ConfOk.calls (w := _) (h := A3.out)) ?_; intro w6 _))
 have H := H'.out; clear H'
 by_cases c7 : t414 = true
 ·
  subst c7
  rw [if_pos rfl] at H
  obtain ⟨⟨t415, t416, t417⟩, A8, H⟩ := oB H; (try dsimp only at H); obtain ⟨t420, A9, H⟩ := oB H; (try dsimp only at H)
  by_cases c10 : t420 = true
  ·
   subst c10
   rw [if_pos rfl] at H
   obtain rfl := Option.some.inj H
   try go_wp2
   refine sB [] impl_QcOk.tab3 impl_QcOk.bits3 ?_; intro w11 _ HT_ HW_
   refine tB 0 (some 8) (bz 37 1) HT_ HW_ ?_
   refine o1 1 (some 9) (bz 37 3) HT_ rfl (kC1 Tryd.func58 (impl_QcFirst.calls (w := _) (h := A8.out)) ?_); intro Ao418 co418 w12 _ HO419
   refine nA (some 9) ?_
   refine o1 2 (some 10) (bz 37 7) HT_ rfl (kC Tryd.func57 (impl_QcSame.calls (hr0_2 := pC HR1_2) (hc0_2 := HC1_2.out) (hr1_2 := rC HO419) (hc1_2 := rL HO419) (w := _) (h := A9.out)) ?_); intro w13 _
   refine nA (some 10) ?_
   refine pA 3 (some 11) (bz 37 15) HT_ ?_
   refine pU 4 (some 12) (bz 37 31) HT_ ?_
   refine pU 5 (some 13) (bz 37 63) HT_ ?_
   refine pU 6 (some 14) (bz 37 127) HT_ ?_
   refine pU 7 (some 15) (bz 37 255) HT_ ?_
   refine pU 8 (some 16) (bz 37 511) HT_ ?_
   refine pU 9 (some 17) (bz 37 1023) HT_ ?_
   refine pU 10 (some 18) (bz 37 2047) HT_ ?_
   refine pU 11 (some 19) (bz 37 4095) HT_ ?_
   refine pU 12 (some 20) (bz 37 0x1fff) HT_ ?_
   refine pU 13 (some 21) (bz 37 0x3fff) HT_ ?_
   refine pU 14 (some 22) (bz 37 0x7fff) HT_ ?_
   refine pU 15 (some 23) (bz 37 0xffff) HT_ ?_
   refine pU 16 (some 24) (bz 37 0x1ffff) HT_ ?_
   refine pU 17 (some 25) (bz 37 0x3ffff) HT_ ?_
   refine pU 18 (some 26) (bz 37 0x7ffff) HT_ ?_
   refine pU 19 (some 27) (bz 37 0xfffff) HT_ ?_
   refine pU 20 (some 28) (bz 37 0x1fffff) HT_ ?_
   refine pU 21 (some 29) (bz 37 0x3fffff) HT_ ?_
   refine pU 22 (some 30) (bz 37 0x7fffff) HT_ ?_
   refine pU 23 (some 31) (bz 37 0xffffff) HT_ ?_
   refine pU 24 (some 32) (bz 37 0x1ffffff) HT_ ?_
   refine pU 25 (some 33) (bz 37 0x3ffffff) HT_ ?_
   refine pU 26 (some 34) (bz 37 0x7ffffff) HT_ ?_
   refine pU 27 (some 35) (bz 37 0xfffffff) HT_ ?_
   refine pU 28 (some 36) (bz 37 0x1fffffff) HT_ ?_
   refine pU 29 (some 37) (bz 37 0x3fffffff) HT_ ?_
   refine pU 30 (some 38) (bz 37 0x7fffffff) HT_ ?_
   refine pU 31 (some 39) (bz 37 0xffffffff) HT_ ?_
   refine pU 32 (some 40) (bz 37 0x1ffffffff) HT_ ?_
   refine pU 33 (some 41) (bz 37 0x3ffffffff) HT_ ?_
   refine pU 34 (some 42) (bz 37 0x7ffffffff) HT_ ?_
   refine pA 35 (some 43) (bz 37 0xfffffffff) HT_ ?_
   refine pA 36 (some 4) (bz 37 0x1fffffffff) HT_ ?_
   refine done_ (done_of HT_.out (by kernel_rfl)) ?_
   try go_wp2
   go_ret
   exact ⟨y0_11, UpW.out⟩
  replace c10 := Bool.eq_false_iff.mpr c10; subst c10
  rw [if_neg (show ¬ (false = true) by decide)] at H
  by_cases c14 : a1_0 ≥ 1
  ·
   rw [if_pos c14] at H
   have c14b0 : decide (1 ≤ a1_0) = true := decide_eq_true c14; clear c14
   (first | rw [c14b0] | (simp only [i64_w, i32_w]; rw [c14b0]) | skip)
   obtain ⟨t421, A15, H⟩ := oB H; (try dsimp only at H)
   by_cases c16 : t421 = true
   ·
    subst c16
    rw [if_pos rfl] at H
    obtain ⟨t422, A17, H⟩ := oB H; (try dsimp only at H)
    by_cases c18 : a1_0 = t422
    ·
     rw [if_pos c18] at H
     have c18b0 : (a1_0 == t422) = true := beq_iff_eq.mpr c18; have c18b1 : (a1_0 != t422) = false := bne_eq_false_iff_eq.mpr c18; clear c18; obtain ⟨t423, A19, H⟩ := oB H; (try dsimp only at H)
     by_cases c20 : t423 = true
     ·
      subst c20
      rw [if_pos rfl] at H
      obtain ⟨t424, A21, H⟩ := oB H; (try dsimp only at H); obtain rfl := Option.some.inj H
      try go_wp2
      refine sB [] impl_QcOk.tab3 impl_QcOk.bits3 ?_; intro w22 _ HT_ HW_
      refine tB 0 (some 8) (bz 37 1) HT_ HW_ ?_
      refine o1 1 (some 9) (bz 37 3) HT_ rfl (kC1 Tryd.func58 (impl_QcFirst.calls (w := _) (h := A8.out)) ?_); intro Ao418 co418 w23 _ HO419
      refine nA (some 9) ?_
      refine o1 2 (some 10) (bz 37 7) HT_ rfl (kC Tryd.func57 (impl_QcSame.calls (hr0_2 := pC HR1_2) (hc0_2 := HC1_2.out) (hr1_2 := rC HO419) (hc1_2 := rL HO419) (w := _) (h := A9.out)) ?_); intro w24 _
      refine nA (some 10) ?_
      refine pA 3 (some 11) (bz 37 15) HT_ ?_
      refine pA 4 (some 12) (bz 37 31) HT_ ?_
      refine tB 5 (some 13) (bz 37 63) HT_ HW_ ?_
      refine pA 6 (some 14) (bz 37 127) HT_ ?_
      refine pA 7 (some 15) (bz 37 255) HT_ ?_
      refine pA 8 (some 16) (bz 37 511) HT_ ?_
      refine tB 9 (some 17) (bz 37 1023) HT_ HW_ ?_
      refine o1 10 (some 18) (bz 37 2047) HT_ rfl (kC Tryd.func59 (impl_NameOk.calls (w := _) (h := A15.out)) ?_); intro w25 _
      refine nA (some 18) ?_
      refine pA 11 (some 19) (bz 37 4095) HT_ ?_
      refine pA 12 (some 20) (bz 37 0x1fff) HT_ ?_
      refine pA 13 (some 21) (bz 37 0x3fff) HT_ ?_
      refine tB 14 (some 22) (bz 37 0x7fff) HT_ HW_ ?_
      refine pA 15 (some 23) (bz 37 0xffff) HT_ ?_
      refine tB 16 (some 24) (bz 37 0x1ffff) HT_ HW_ ?_
      refine o1 17 (some 25) (bz 37 0x3ffff) HT_ rfl (kC Tryd.func60 (impl_ViewOf.calls (w := _) (h := A17.out)) ?_); intro w26 _
      refine nA (some 25) ?_
      refine pA 18 (some 26) (bz 37 0x7ffff) HT_ ?_
      refine pA 19 (some 27) (bz 37 0xfffff) HT_ ?_
      refine pA 20 (some 28) (bz 37 0x1fffff) HT_ ?_
      refine pA 21 (some 29) (bz 37 0x3fffff) HT_ ?_
      refine tB 22 (some 30) (bz 37 0x7fffff) HT_ HW_ ?_
      refine pA 23 (some 31) (bz 37 0xffffff) HT_ ?_
      refine tB 24 (some 32) (bz 37 0x1ffffff) HT_ HW_ ?_
      refine o1 25 (some 33) (bz 37 0x3ffffff) HT_ rfl (kD Tryd.func61 (impl_SetOk.calls (hr1 := pC HR1_2) (hc1 := HC1_2.out) (w := _) (h := A19.out)) ?_); intro w27 _
      refine nA (some 33) ?_
      refine pA 26 (some 34) (bz 37 0x7ffffff) HT_ ?_
      refine pA 27 (some 35) (bz 37 0xfffffff) HT_ ?_
      refine pA 28 (some 36) (bz 37 0x1fffffff) HT_ ?_
      refine tB 29 (some 37) (bz 37 0x3fffffff) HT_ HW_ ?_
      refine pA 30 (some 38) (bz 37 0x7fffffff) HT_ ?_
      refine tB 31 (some 39) (bz 37 0xffffffff) HT_ HW_ ?_
      refine o1 32 (some 40) (bz 37 0x1ffffffff) HT_ rfl (kC Tryd.func8 (impl_Quorum.calls (w := _) (h := A21.out)) ?_); intro w28 _
      refine nA (some 40) ?_
      refine pA 33 (some 41) (bz 37 0x3ffffffff) HT_ ?_
      refine pA 34 (some 42) (bz 37 0x7ffffffff) HT_ ?_
      refine pA 35 (some 43) (bz 37 0xfffffffff) HT_ ?_
      refine pA 36 (some 4) (bz 37 0x1fffffffff) HT_ ?_
      refine done_ (done_of HT_.out (by kernel_rfl)) ?_
      try go_wp2
      go_ret
      exact ⟨y0_11, UpW.out⟩
     replace c20 := Bool.eq_false_iff.mpr c20; subst c20
     rw [if_neg (show ¬ (false = true) by decide)] at H
     obtain rfl := Option.some.inj H
     try go_wp2
     refine sB [] impl_QcOk.tab3 impl_QcOk.bits3 ?_; intro w29 _ HT_ HW_
     refine tB 0 (some 8) (bz 37 1) HT_ HW_ ?_
     refine o1 1 (some 9) (bz 37 3) HT_ rfl (kC1 Tryd.func58 (impl_QcFirst.calls (w := _) (h := A8.out)) ?_); intro Ao418 co418 w30 _ HO419
     refine nA (some 9) ?_
     refine o1 2 (some 10) (bz 37 7) HT_ rfl (kC Tryd.func57 (impl_QcSame.calls (hr0_2 := pC HR1_2) (hc0_2 := HC1_2.out) (hr1_2 := rC HO419) (hc1_2 := rL HO419) (w := _) (h := A9.out)) ?_); intro w31 _
     refine nA (some 10) ?_
     refine pA 3 (some 11) (bz 37 15) HT_ ?_
     refine pA 4 (some 12) (bz 37 31) HT_ ?_
     refine tB 5 (some 13) (bz 37 63) HT_ HW_ ?_
     refine pA 6 (some 14) (bz 37 127) HT_ ?_
     refine pA 7 (some 15) (bz 37 255) HT_ ?_
     refine pA 8 (some 16) (bz 37 511) HT_ ?_
     refine tB 9 (some 17) (bz 37 1023) HT_ HW_ ?_
     refine o1 10 (some 18) (bz 37 2047) HT_ rfl (kC Tryd.func59 (impl_NameOk.calls (w := _) (h := A15.out)) ?_); intro w32 _
     refine nA (some 18) ?_
     refine pA 11 (some 19) (bz 37 4095) HT_ ?_
     refine pA 12 (some 20) (bz 37 0x1fff) HT_ ?_
     refine pA 13 (some 21) (bz 37 0x3fff) HT_ ?_
     refine tB 14 (some 22) (bz 37 0x7fff) HT_ HW_ ?_
     refine pA 15 (some 23) (bz 37 0xffff) HT_ ?_
     refine tB 16 (some 24) (bz 37 0x1ffff) HT_ HW_ ?_
     refine o1 17 (some 25) (bz 37 0x3ffff) HT_ rfl (kC Tryd.func60 (impl_ViewOf.calls (w := _) (h := A17.out)) ?_); intro w33 _
     refine nA (some 25) ?_
     refine pA 18 (some 26) (bz 37 0x7ffff) HT_ ?_
     refine pA 19 (some 27) (bz 37 0xfffff) HT_ ?_
     refine pA 20 (some 28) (bz 37 0x1fffff) HT_ ?_
     refine pA 21 (some 29) (bz 37 0x3fffff) HT_ ?_
     refine tB 22 (some 30) (bz 37 0x7fffff) HT_ HW_ ?_
     refine pA 23 (some 31) (bz 37 0xffffff) HT_ ?_
     refine tB 24 (some 32) (bz 37 0x1ffffff) HT_ HW_ ?_
     refine o1 25 (some 33) (bz 37 0x3ffffff) HT_ rfl (kD Tryd.func61 (impl_SetOk.calls (hr1 := pC HR1_2) (hc1 := HC1_2.out) (w := _) (h := A19.out)) ?_); intro w34 _
     refine nA (some 33) ?_
     refine pA 26 (some 34) (bz 37 0x7ffffff) HT_ ?_
     refine pA 27 (some 35) (bz 37 0xfffffff) HT_ ?_
     refine pU 28 (some 36) (bz 37 0x1fffffff) HT_ ?_
     refine pU 29 (some 37) (bz 37 0x3fffffff) HT_ ?_
     refine pU 30 (some 38) (bz 37 0x7fffffff) HT_ ?_
     refine pU 31 (some 39) (bz 37 0xffffffff) HT_ ?_
     refine pU 32 (some 40) (bz 37 0x1ffffffff) HT_ ?_
     refine pU 33 (some 41) (bz 37 0x3ffffffff) HT_ ?_
     refine pA 34 (some 42) (bz 37 0x7ffffffff) HT_ ?_
     refine pA 35 (some 43) (bz 37 0xfffffffff) HT_ ?_
     refine pA 36 (some 4) (bz 37 0x1fffffffff) HT_ ?_
     refine done_ (done_of HT_.out (by kernel_rfl)) ?_
     try go_wp2
     go_ret
     exact ⟨y0_11, UpW.out⟩
    rw [if_neg c18] at H
    have c18b0 : (a1_0 == t422) = false := beq_eq_false_iff_ne.mpr c18; have c18b1 : (a1_0 != t422) = true := bne_iff_ne.mpr c18; obtain rfl := Option.some.inj H
    try go_wp2
    refine sB [] impl_QcOk.tab3 impl_QcOk.bits3 ?_; intro w35 _ HT_ HW_
    refine tB 0 (some 8) (bz 37 1) HT_ HW_ ?_
    refine o1 1 (some 9) (bz 37 3) HT_ rfl (kC1 Tryd.func58 (impl_QcFirst.calls (w := _) (h := A8.out)) ?_); intro Ao418 co418 w36 _ HO419
    refine nA (some 9) ?_
    refine o1 2 (some 10) (bz 37 7) HT_ rfl (kC Tryd.func57 (impl_QcSame.calls (hr0_2 := pC HR1_2) (hc0_2 := HC1_2.out) (hr1_2 := rC HO419) (hc1_2 := rL HO419) (w := _) (h := A9.out)) ?_); intro w37 _
    refine nA (some 10) ?_
    refine pA 3 (some 11) (bz 37 15) HT_ ?_
    refine pA 4 (some 12) (bz 37 31) HT_ ?_
    refine tB 5 (some 13) (bz 37 63) HT_ HW_ ?_
    refine pA 6 (some 14) (bz 37 127) HT_ ?_
    refine pA 7 (some 15) (bz 37 255) HT_ ?_
    refine pA 8 (some 16) (bz 37 511) HT_ ?_
    refine tB 9 (some 17) (bz 37 1023) HT_ HW_ ?_
    refine o1 10 (some 18) (bz 37 2047) HT_ rfl (kC Tryd.func59 (impl_NameOk.calls (w := _) (h := A15.out)) ?_); intro w38 _
    refine nA (some 18) ?_
    refine pA 11 (some 19) (bz 37 4095) HT_ ?_
    refine pA 12 (some 20) (bz 37 0x1fff) HT_ ?_
    refine pA 13 (some 21) (bz 37 0x3fff) HT_ ?_
    refine tB 14 (some 22) (bz 37 0x7fff) HT_ HW_ ?_
    refine pA 15 (some 23) (bz 37 0xffff) HT_ ?_
    refine tB 16 (some 24) (bz 37 0x1ffff) HT_ HW_ ?_
    refine o1 17 (some 25) (bz 37 0x3ffff) HT_ rfl (kC Tryd.func60 (impl_ViewOf.calls (w := _) (h := A17.out)) ?_); intro w39 _
    refine nA (some 25) ?_
    refine pA 18 (some 26) (bz 37 0x7ffff) HT_ ?_
    refine pA 19 (some 27) (bz 37 0xfffff) HT_ ?_
    refine pA 20 (some 28) (bz 37 0x1fffff) HT_ ?_
    refine pU 21 (some 29) (bz 37 0x3fffff) HT_ ?_
    refine pU 22 (some 30) (bz 37 0x7fffff) HT_ ?_
    refine pU 23 (some 31) (bz 37 0xffffff) HT_ ?_
    refine pU 24 (some 32) (bz 37 0x1ffffff) HT_ ?_
    refine pU 25 (some 33) (bz 37 0x3ffffff) HT_ ?_
    refine pA 26 (some 34) (bz 37 0x7ffffff) HT_ ?_
    refine pA 27 (some 35) (bz 37 0xfffffff) HT_ ?_
    refine pU 28 (some 36) (bz 37 0x1fffffff) HT_ ?_
    refine pU 29 (some 37) (bz 37 0x3fffffff) HT_ ?_
    refine pU 30 (some 38) (bz 37 0x7fffffff) HT_ ?_
    refine pU 31 (some 39) (bz 37 0xffffffff) HT_ ?_
    refine pU 32 (some 40) (bz 37 0x1ffffffff) HT_ ?_
    refine pU 33 (some 41) (bz 37 0x3ffffffff) HT_ ?_
    refine pA 34 (some 42) (bz 37 0x7ffffffff) HT_ ?_
    refine pA 35 (some 43) (bz 37 0xfffffffff) HT_ ?_
    refine pA 36 (some 4) (bz 37 0x1fffffffff) HT_ ?_
    refine done_ (done_of HT_.out (by kernel_rfl)) ?_
    try go_wp2
    go_ret
    exact ⟨y0_11, UpW.out⟩
   replace c16 := Bool.eq_false_iff.mpr c16; subst c16
   rw [if_neg (show ¬ (false = true) by decide)] at H
   obtain rfl := Option.some.inj H
   try go_wp2
   refine sB [] impl_QcOk.tab3 impl_QcOk.bits3 ?_; intro w40 _ HT_ HW_
   refine tB 0 (some 8) (bz 37 1) HT_ HW_ ?_
   refine o1 1 (some 9) (bz 37 3) HT_ rfl (kC1 Tryd.func58 (impl_QcFirst.calls (w := _) (h := A8.out)) ?_); intro Ao418 co418 w41 _ HO419
   refine nA (some 9) ?_
   refine o1 2 (some 10) (bz 37 7) HT_ rfl (kC Tryd.func57 (impl_QcSame.calls (hr0_2 := pC HR1_2) (hc0_2 := HC1_2.out) (hr1_2 := rC HO419) (hc1_2 := rL HO419) (w := _) (h := A9.out)) ?_); intro w42 _
   refine nA (some 10) ?_
   refine pA 3 (some 11) (bz 37 15) HT_ ?_
   refine pA 4 (some 12) (bz 37 31) HT_ ?_
   refine tB 5 (some 13) (bz 37 63) HT_ HW_ ?_
   refine pA 6 (some 14) (bz 37 127) HT_ ?_
   refine pA 7 (some 15) (bz 37 255) HT_ ?_
   refine pA 8 (some 16) (bz 37 511) HT_ ?_
   refine tB 9 (some 17) (bz 37 1023) HT_ HW_ ?_
   refine o1 10 (some 18) (bz 37 2047) HT_ rfl (kC Tryd.func59 (impl_NameOk.calls (w := _) (h := A15.out)) ?_); intro w43 _
   refine nA (some 18) ?_
   refine pA 11 (some 19) (bz 37 4095) HT_ ?_
   refine pA 12 (some 20) (bz 37 0x1fff) HT_ ?_
   refine pU 13 (some 21) (bz 37 0x3fff) HT_ ?_
   refine pU 14 (some 22) (bz 37 0x7fff) HT_ ?_
   refine pU 15 (some 23) (bz 37 0xffff) HT_ ?_
   refine pU 16 (some 24) (bz 37 0x1ffff) HT_ ?_
   refine pU 17 (some 25) (bz 37 0x3ffff) HT_ ?_
   refine pU 18 (some 26) (bz 37 0x7ffff) HT_ ?_
   refine pA 19 (some 27) (bz 37 0xfffff) HT_ ?_
   refine pA 20 (some 28) (bz 37 0x1fffff) HT_ ?_
   refine pU 21 (some 29) (bz 37 0x3fffff) HT_ ?_
   refine pU 22 (some 30) (bz 37 0x7fffff) HT_ ?_
   refine pU 23 (some 31) (bz 37 0xffffff) HT_ ?_
   refine pU 24 (some 32) (bz 37 0x1ffffff) HT_ ?_
   refine pU 25 (some 33) (bz 37 0x3ffffff) HT_ ?_
   refine pA 26 (some 34) (bz 37 0x7ffffff) HT_ ?_
   refine pA 27 (some 35) (bz 37 0xfffffff) HT_ ?_
   refine pU 28 (some 36) (bz 37 0x1fffffff) HT_ ?_
   refine pU 29 (some 37) (bz 37 0x3fffffff) HT_ ?_
   refine pU 30 (some 38) (bz 37 0x7fffffff) HT_ ?_
   refine pU 31 (some 39) (bz 37 0xffffffff) HT_ ?_
   refine pU 32 (some 40) (bz 37 0x1ffffffff) HT_ ?_
   refine pU 33 (some 41) (bz 37 0x3ffffffff) HT_ ?_
   refine pA 34 (some 42) (bz 37 0x7ffffffff) HT_ ?_
   refine pA 35 (some 43) (bz 37 0xfffffffff) HT_ ?_
   refine pA 36 (some 4) (bz 37 0x1fffffffff) HT_ ?_
   refine done_ (done_of HT_.out (by kernel_rfl)) ?_
   try go_wp2
   go_ret
   exact ⟨y0_11, UpW.out⟩
  rw [if_neg c14] at H
  have c14b0 : decide (1 ≤ a1_0) = false := decide_eq_false c14; clear c14
  (first | rw [c14b0] | (simp only [i64_w, i32_w]; rw [c14b0]) | skip)
  obtain rfl := Option.some.inj H
  try go_wp2
  refine sB [] impl_QcOk.tab3 impl_QcOk.bits3 ?_; intro w44 _ HT_ HW_
  refine tB 0 (some 8) (bz 37 1) HT_ HW_ ?_
  refine o1 1 (some 9) (bz 37 3) HT_ rfl (kC1 Tryd.func58 (impl_QcFirst.calls (w := _) (h := A8.out)) ?_); intro Ao418 co418 w45 _ HO419
  refine nA (some 9) ?_
  refine o1 2 (some 10) (bz 37 7) HT_ rfl (kC Tryd.func57 (impl_QcSame.calls (hr0_2 := pC HR1_2) (hc0_2 := HC1_2.out) (hr1_2 := rC HO419) (hc1_2 := rL HO419) (w := _) (h := A9.out)) ?_); intro w46 _
  refine nA (some 10) ?_
  refine pA 3 (some 11) (bz 37 15) HT_ ?_
  refine pA 4 (some 12) (bz 37 31) HT_ ?_
  refine tB 5 (some 13) (bz 37 63) HT_ HW_ ?_
  refine pA 6 (some 14) (bz 37 127) HT_ ?_
  refine pA 7 (some 15) (bz 37 255) HT_ ?_
  refine pU 8 (some 16) (bz 37 511) HT_ ?_
  refine pU 9 (some 17) (bz 37 1023) HT_ ?_
  refine pU 10 (some 18) (bz 37 2047) HT_ ?_
  refine pA 11 (some 19) (bz 37 4095) HT_ ?_
  refine pA 12 (some 20) (bz 37 0x1fff) HT_ ?_
  refine pU 13 (some 21) (bz 37 0x3fff) HT_ ?_
  refine pU 14 (some 22) (bz 37 0x7fff) HT_ ?_
  refine pU 15 (some 23) (bz 37 0xffff) HT_ ?_
  refine pU 16 (some 24) (bz 37 0x1ffff) HT_ ?_
  refine pU 17 (some 25) (bz 37 0x3ffff) HT_ ?_
  refine pU 18 (some 26) (bz 37 0x7ffff) HT_ ?_
  refine pA 19 (some 27) (bz 37 0xfffff) HT_ ?_
  refine pA 20 (some 28) (bz 37 0x1fffff) HT_ ?_
  refine pU 21 (some 29) (bz 37 0x3fffff) HT_ ?_
  refine pU 22 (some 30) (bz 37 0x7fffff) HT_ ?_
  refine pU 23 (some 31) (bz 37 0xffffff) HT_ ?_
  refine pU 24 (some 32) (bz 37 0x1ffffff) HT_ ?_
  refine pU 25 (some 33) (bz 37 0x3ffffff) HT_ ?_
  refine pA 26 (some 34) (bz 37 0x7ffffff) HT_ ?_
  refine pA 27 (some 35) (bz 37 0xfffffff) HT_ ?_
  refine pU 28 (some 36) (bz 37 0x1fffffff) HT_ ?_
  refine pU 29 (some 37) (bz 37 0x3fffffff) HT_ ?_
  refine pU 30 (some 38) (bz 37 0x7fffffff) HT_ ?_
  refine pU 31 (some 39) (bz 37 0xffffffff) HT_ ?_
  refine pU 32 (some 40) (bz 37 0x1ffffffff) HT_ ?_
  refine pU 33 (some 41) (bz 37 0x3ffffffff) HT_ ?_
  refine pA 34 (some 42) (bz 37 0x7ffffffff) HT_ ?_
  refine pA 35 (some 43) (bz 37 0xfffffffff) HT_ ?_
  refine pA 36 (some 4) (bz 37 0x1fffffffff) HT_ ?_
  refine done_ (done_of HT_.out (by kernel_rfl)) ?_
  try go_wp2
  go_ret
  exact ⟨y0_11, UpW.out⟩
 replace c7 := Bool.eq_false_iff.mpr c7; subst c7
 rw [if_neg (show ¬ (false = true) by decide)] at H
 obtain rfl := Option.some.inj H
 go_wp2
 go_ret
 exact ⟨y0_11, UpW.out⟩

/-! ### impl_SafeOk: function 46 -/
def impl_SafeOk.f (k : Nat) (a0_0 : Int) (a0_1 : Int) (a1_0 : Int) (a1_1 : Int) (a1_2 : Int) (a1_3 : ByteArray) (l1_4 : List Int) (a1_5 : ByteArray) : Option (Bool) := (impl_within.f a1_0 0 60).bind fun t427 => (if t427 = true then ((impl_within.f a1_1 0 60).bind fun t428 => (if t428 = true then ((impl_QcOk.f k a0_0 a0_1 a1_2 a1_3 l1_4).bind fun t429 => (if t429 = true then ((impl_NameOk.f k a1_5).bind fun t430 => (some t430)) else (some false))) else (some false))) else (some false))
theorem impl_SafeOk.mono : ∀ a0 a1 a2 a3 a4 a5 a6 a7 k, LeO (impl_SafeOk.f k a0 a1 a2 a3 a4 a5 a6 a7) (impl_SafeOk.f (k + 1) a0 a1 a2 a3 a4 a5 a6 a7) := by
 intro a0 a1 a2 a3 a4 a5 a6 a7 k
 unfold impl_SafeOk.f
 repeat' first | (with_reducible exact impl_NameOk.mono _ _) | (with_reducible exact impl_QcOk.mono _ _ _ _ _ _) | (with_reducible exact LeO.refl _) | (with_reducible exact LeO.none _) | (with_reducible refine LeO.ite ?_ ?_) | (with_reducible refine LeO.bind ?_ (fun _ => ?_))
set_option maxHeartbeats 8000000 in
set_option maxRecDepth 100000 in
theorem impl_SafeOk.calls (k : Nat) (a0_0 : Int) (a0_1 : Int) (a1_0 : Int) (a1_1 : Int) (a1_2 : Int) (a1_3 : ByteArray) (A1_4 : Option Addr) (c1_4 : Nat) (l1_4 : List Int) (a1_5 : ByteArray) (r : Bool) (w : World) (hr1_4 : Kd.C (Kd.int .i64) w A1_4 l1_4.length l1_4) (hc1_4 : l1_4.length ≤ c1_4) (h : impl_SafeOk.f k a0_0 a0_1 a1_0 a1_1 a1_2 a1_3 l1_4 a1_5 = some r) (hG : Glob w := by exact gG HG HB) :
  Calls Tryd.prog 46 #[.agg #[.int .i64 a0_0, .int .i64 a0_1], .agg #[.int .i64 a1_0, .int .i64 a1_1, .int .i64 a1_2, .string a1_3, .slice A1_4 l1_4.length c1_4, .string a1_5]] w fun e w' => e = .returned (.bool r) ∧ Below w.heap.size w w' := by
 have HG := Aside0.mk hG; clear hG; have hu25 := Tryd.underlying25; have hu46 := Tryd.underlying46; have hu32 := Tryd.underlying32; have HR1_4 := Aside0.mk hr1_4; have HC1_4 := Aside0.mk hc1_4; clear hr1_4 hc1_4; have HB := Aside0.mk (Below.refl w.heap.size w)
 have H := h; unfold impl_SafeOk.f at H
 clear h
 go_enter Tryd.func46, Tryd.ntmps46
 have H' := Aside0.mk H; clear H
 go_upto_region 1 with (first | ((with_reducible refine gd 2 ?_); refine bL 2 #[.int .i64 a0_0, .int .i64 a0_1] 25 ?_; intro gb425 w3 _ _ _) | ((with_reducible refine gd 3 ?_); refine bL 3 #[.int .i64 a1_0, .int .i64 a1_1, .int .i64 a1_2, .string a1_3, .slice A1_4 l1_4.length c1_4, .string a1_5] 46 ?_; intro gb426 w4 _ _ _))
 have H := H'.out; clear H'; obtain ⟨t427, A5, H⟩ := oB H; (try dsimp only at H)
 by_cases c6 : t427 = true
 ·
  subst c6
  rw [if_pos rfl] at H
  obtain ⟨t428, A7, H⟩ := oB H; (try dsimp only at H)
  by_cases c8 : t428 = true
  ·
   subst c8
   rw [if_pos rfl] at H
   obtain ⟨t429, A9, H⟩ := oB H; (try dsimp only at H)
   by_cases c10 : t429 = true
   ·
    subst c10
    rw [if_pos rfl] at H
    obtain ⟨t430, A11, H⟩ := oB H; (try dsimp only at H); obtain rfl := Option.some.inj H
    go_wp2_with (first | ((with_reducible refine gate_callee (f := 54) rfl ?_); refine gD (some 7) Tryd.func54 (impl_within.calls (w := _) (h := A5.out)) ?_; intro w12 _) | (go_at_call 54; refine aD (impl_within.calls (w := _) (h := A7.out)) ?_; intro w13 _) | (go_at_call 34; refine aC (impl_QcOk.calls (hr1_2 := pC HR1_4) (hc1_2 := HC1_4.out) (w := _) (h := A9.out)) ?_; intro w14 _) | (go_at_call 59; refine aC (impl_NameOk.calls (w := _) (h := A11.out)) ?_; intro w15 _))
    go_ret
    exact ⟨y0_11, UpW.out⟩
   replace c10 := Bool.eq_false_iff.mpr c10; subst c10
   rw [if_neg (show ¬ (false = true) by decide)] at H
   obtain rfl := Option.some.inj H
   go_wp2_with (first | ((with_reducible refine gate_callee (f := 54) rfl ?_); refine gD (some 7) Tryd.func54 (impl_within.calls (w := _) (h := A5.out)) ?_; intro w16 _) | (go_at_call 54; refine aD (impl_within.calls (w := _) (h := A7.out)) ?_; intro w17 _) | (go_at_call 34; refine aC (impl_QcOk.calls (hr1_2 := pC HR1_4) (hc1_2 := HC1_4.out) (w := _) (h := A9.out)) ?_; intro w18 _))
   go_ret
   exact ⟨y0_11, UpW.out⟩
  replace c8 := Bool.eq_false_iff.mpr c8; subst c8
  rw [if_neg (show ¬ (false = true) by decide)] at H
  obtain rfl := Option.some.inj H
  go_wp2_with (first | ((with_reducible refine gate_callee (f := 54) rfl ?_); refine gD (some 7) Tryd.func54 (impl_within.calls (w := _) (h := A5.out)) ?_; intro w19 _) | (go_at_call 54; refine aD (impl_within.calls (w := _) (h := A7.out)) ?_; intro w20 _))
  go_ret
  exact ⟨y0_11, UpW.out⟩
 replace c6 := Bool.eq_false_iff.mpr c6; subst c6
 rw [if_neg (show ¬ (false = true) by decide)] at H
 obtain rfl := Option.some.inj H
 go_wp2_with (first | ((with_reducible refine gate_callee (f := 54) rfl ?_); refine gD (some 7) Tryd.func54 (impl_within.calls (w := _) (h := A5.out)) ?_; intro w21 _))
 go_ret
 exact ⟨y0_11, UpW.out⟩

/-! ### impl_SafeOf: function 21 -/
def impl_SafeOf.f (k : Nat) (a0_0 : Int) (a0_1 : Int) (l1 : List Int) : Option (Int × Int × Int × ByteArray × List Int × ByteArray × Bool) := (impl_reader_num.f k l1 0 false).bind fun bt434 => ((impl_reader_num.f k l1 bt434.2.1 bt434.2.2).bind fun bt437 => ((impl_reader_qc.f k l1 bt437.2.1 bt437.2.2).bind fun bt441 => ((impl_reader_text.f k l1 bt441.2.2.2.1 bt441.2.2.2.2).bind fun bt448 => (if bt448.2.2 = true then (some (0, 0, 0, (⟨#[]⟩ : ByteArray), ([] : List Int), (⟨#[]⟩ : ByteArray), false)) else (if bt448.2.1 = (l1.length : Int) then ((impl_SafeOk.f k a0_0 a0_1 bt434.1 bt437.1 bt441.1 bt441.2.1 bt441.2.2.1 bt448.1).bind fun t451 => (if t451 = true then (some (bt434.1, bt437.1, bt441.1, bt441.2.1, bt441.2.2.1, bt448.1, true)) else (some (0, 0, 0, (⟨#[]⟩ : ByteArray), ([] : List Int), (⟨#[]⟩ : ByteArray), false)))) else (some (0, 0, 0, (⟨#[]⟩ : ByteArray), ([] : List Int), (⟨#[]⟩ : ByteArray), false)))))))
theorem impl_SafeOf.mono : ∀ a0 a1 a2 k, LeO (impl_SafeOf.f k a0 a1 a2) (impl_SafeOf.f (k + 1) a0 a1 a2) := by
 intro a0 a1 a2 k
 unfold impl_SafeOf.f
 repeat' first | (with_reducible exact impl_SafeOk.mono _ _ _ _ _ _ _ _ _) | (with_reducible exact impl_reader_num.mono _ _ _ _) | (with_reducible exact impl_reader_qc.mono _ _ _ _) | (with_reducible exact impl_reader_text.mono _ _ _ _) | (with_reducible exact LeO.refl _) | (with_reducible exact LeO.none _) | (with_reducible refine LeO.ite ?_ ?_) | (with_reducible refine LeO.bind ?_ (fun _ => ?_))
set_option maxHeartbeats 8000000 in
set_option maxRecDepth 100000 in
theorem impl_SafeOf.calls (k : Nat) (a0_0 : Int) (a0_1 : Int) (A1 : Option Addr) (c1 : Nat) (l1 : List Int) (r1 : Int) (r2 : Int) (r3 : Int) (r4 : ByteArray) (r5 : List Int) (r6 : ByteArray) (r7 : Bool) (w : World) (hr1 : Kd.C (Kd.int .u8) w A1 l1.length l1) (hc1 : l1.length ≤ c1) (h : impl_SafeOf.f k a0_0 a0_1 l1 = some (r1, r2, r3, r4, r5, r6, r7)) (hG : Glob w := by exact gG HG HB) :
  Calls Tryd.prog 21 #[.agg #[.int .i64 a0_0, .int .i64 a0_1], .slice A1 l1.length c1] w fun e w' => ∃ v4_ : Value, e = .returned (.tuple #[.agg #[.int .i64 r1, .int .i64 r2, .int .i64 r3, .string r4, v4_, .string r6], .bool r7]) ∧ Kd.R (Kd.int .i64) 3 w' w.heap.size (fun _ => True) v4_ r5 ∧ Below w.heap.size w w' := by
 have HG := Aside0.mk hG; clear hG; have hu25 := Tryd.underlying25; have hu46 := Tryd.underlying46; have hu67 := Tryd.underlying67; have hu32 := Tryd.underlying32; have HR1 := Aside0.mk hr1; have HC1 := Aside0.mk hc1; clear hr1 hc1; have HB := Aside0.mk (Below.refl w.heap.size w)
 have H := h; unfold impl_SafeOf.f at H
 clear h; obtain ⟨⟨t434, t435, t436⟩, A3, H⟩ := oB H; (try dsimp only at H); obtain ⟨⟨t437, t438, t439⟩, A4, H⟩ := oB H; (try dsimp only at H); obtain ⟨⟨t441, t442, t443, t446, t447⟩, A5, H⟩ := oB H; (try dsimp only at H); obtain ⟨⟨t448, t449, t450⟩, A6, H⟩ := oB H; (try dsimp only at H)
 go_enter Tryd.func21, Tryd.ntmps21
 have H' := Aside0.mk H; clear H
 go_upto_region 5 with (first | ((with_reducible refine gd 2 ?_); refine bL 2 #[.int .i64 a0_0, .int .i64 a0_1] 25 ?_; intro gb431 w7 _ _ _) | ((with_reducible refine gd 4 ?_); refine bL 4 #[.int .i64 0, .int .i64 0, .int .i64 0, .string (⟨#[]⟩ : ByteArray), .slice none 0 0, .string (⟨#[]⟩ : ByteArray)] 46 ?_; intro gb432 w8 _ _ _) | ((with_reducible refine gd 10 ?_); refine bL 10 #[.slice A1 l1.length c1, .int .i64 0, .bool false] 67 ?_; intro gb433 w9 _ _ _) | ((with_reducible refine gate_callee (f := 44) rfl ?_); refine gK (some 12) Tryd.func44 (impl_reader_num.calls (hI := (nS67 xB HR1 HC1)) (hB := UpW.out) (w := _) (h := A3.out)) ?_; intro w10 _ _ _ HI11; obtain ⟨AS12_0, cS12_0, bk12, HG12, HS12_0, HL12_0⟩ := oS67 HI11) | ((with_reducible refine gate_callee (f := 44) rfl ?_); refine gK (some 14) Tryd.func44 (impl_reader_num.calls (hI := (nS67 xB HS12_0 HL12_0)) (hB := UpW.out) (w := _) (h := A4.out)) ?_; intro w13 _ _ _ HI14; obtain ⟨AS15_0, cS15_0, bk15, HG15, HS15_0, HL15_0⟩ := oS67 HI14; clear bk12) | ((with_reducible refine gd 7 ?_); refine bL 7 #[.int .i64 0, .int .i64 0, .int .i64 0, .string (⟨#[]⟩ : ByteArray), .slice none 0 0, .string (⟨#[]⟩ : ByteArray)] 46 ?_; intro gb440 w16 _ _ _) | ((with_reducible refine gate_callee (f := 37) rfl ?_); refine gK1 (some 17) Tryd.func37 (impl_reader_qc.calls (hI := (nS67 xB HS15_0 HL15_0)) (hB := UpW.out) (w := _) (h := A5.out)) ?_; intro Ao444 co444 w17 _ _ _ HI18 HO445; obtain ⟨AS19_0, cS19_0, bk19, HG19, HS19_0, HL19_0⟩ := oS67 HI18; clear bk15) | ((with_reducible refine gate_callee (f := 45) rfl ?_); refine gK (some 20) Tryd.func45 (impl_reader_text.calls (hI := (nS67 xB HS19_0 HL19_0)) (hB := UpW.out) (w := _) (h := A6.out)) ?_; intro w20 _ _ _ HI21; obtain ⟨AS22_0, cS22_0, bk22, HG22, HS22_0, HL22_0⟩ := oS67 HI21; clear bk19))
 have H := H'.out; clear H'
 by_cases c23 : t450 = true
 ·
  subst c23
  rw [if_pos rfl] at H
  have H' := Aside0.mk H; clear H
  go_upto_if 40 with fail
  have H := H'.out; clear H'
  simp only [Option.some.injEq, Prod.mk.injEq] at H
  obtain ⟨rfl, rfl, rfl, rfl, rfl, rfl, rfl⟩ := H
  go_wp2
  refine bodyPost_ret (results_ct rfl _ _ gb432 46 #[.int .i64 0, .int .i64 0, .int .i64 0, .string (⟨#[]⟩ : ByteArray), .slice none 0 0, .string (⟨#[]⟩ : ByteArray)] (0, 0) _ rfl xB Tryd.underlying46 rfl (by kernel_rfl)) rfl ?_
  exact ⟨_, y0_11, Kd.R_nil _ _ _ _ _, UpW.out⟩
 replace c23 := Bool.eq_false_iff.mpr c23; subst c23
 rw [if_neg (show ¬ (false = true) by decide)] at H
 by_cases c24 : t449 = (l1.length : Int)
 ·
  rw [if_pos c24] at H
  have c24b0 : (t449 == (l1.length : Int)) = true := beq_iff_eq.mpr c24; have c24b1 : (t449 != (l1.length : Int)) = false := bne_eq_false_iff_eq.mpr c24; clear c24; obtain ⟨t451, A25, H⟩ := oB H; (try dsimp only at H); have H' := Aside0.mk H; clear H
  go_upto_if 40 with (first | (go_at_call 46; refine aC (impl_SafeOk.calls (hr1_4 := rC HO445) (hc1_4 := rL HO445) (w := _) (h := A25.out)) ?_; intro w26 _))
  have H := H'.out; clear H'
  by_cases c27 : t451 = true
  ·
   subst c27
   rw [if_pos rfl] at H
   simp only [Option.some.injEq, Prod.mk.injEq] at H
   obtain ⟨rfl, rfl, rfl, rfl, rfl, rfl, rfl⟩ := H
   go_wp2
   refine bodyPost_ret (results_ct rfl _ _ gb432 46 #[.int .i64 t434, .int .i64 t437, .int .i64 t441, .string t442, .slice Ao444 t443.length co444, .string t448] (0, 0) _ rfl xB Tryd.underlying46 rfl (by kernel_rfl)) rfl ?_
   exact ⟨_, y0_11, rR HO445, UpW.out⟩
  replace c27 := Bool.eq_false_iff.mpr c27; subst c27
  rw [if_neg (show ¬ (false = true) by decide)] at H
  simp only [Option.some.injEq, Prod.mk.injEq] at H
  obtain ⟨rfl, rfl, rfl, rfl, rfl, rfl, rfl⟩ := H
  go_wp2
  refine bodyPost_ret (results_ct rfl _ _ gb432 46 #[.int .i64 0, .int .i64 0, .int .i64 0, .string (⟨#[]⟩ : ByteArray), .slice none 0 0, .string (⟨#[]⟩ : ByteArray)] (0, 0) _ rfl xB Tryd.underlying46 rfl (by kernel_rfl)) rfl ?_
  exact ⟨_, y0_11, Kd.R_nil _ _ _ _ _, UpW.out⟩
 rw [if_neg c24] at H
 have c24b0 : (t449 == (l1.length : Int)) = false := beq_eq_false_iff_ne.mpr c24; have c24b1 : (t449 != (l1.length : Int)) = true := bne_iff_ne.mpr c24; have H' := Aside0.mk H; clear H
 go_upto_if 40 with fail
 have H := H'.out; clear H'
 simp only [Option.some.injEq, Prod.mk.injEq] at H
 obtain ⟨rfl, rfl, rfl, rfl, rfl, rfl, rfl⟩ := H
 go_wp2
 refine bodyPost_ret (results_ct rfl _ _ gb432 46 #[.int .i64 0, .int .i64 0, .int .i64 0, .string (⟨#[]⟩ : ByteArray), .slice none 0 0, .string (⟨#[]⟩ : ByteArray)] (0, 0) _ rfl xB Tryd.underlying46 rfl (by kernel_rfl)) rfl ?_
 exact ⟨_, y0_11, Kd.R_nil _ _ _ _ _, UpW.out⟩

end Go.Proofs.YtnpbopadajbopaaDoor.PFnExactSafeOf
