-- By a program of this session, out of the translation (the print of the kit, with turns of its own). Lean checks it.
import Derived.Test.YtnpbopadajbopaaDoorPFnExactSafeOfx0
import Derived.Test.YtnpbopadajbopaaDoorPFnExactSafeOfx1
import Derived.Test.YtnpbopadajbopaaDoorPFnExactSafeOfx2
import Derived.Test.YtnpbopadajbopaaDoorPFnExactSafeOfx4
namespace Go.Proofs.YtnpbopadajbopaaDoor.PFnExactSafeOf
open Go.RowKit Go.Proofs.YtnpbopadajbopaaDoorW.PrintWords Go.Proofs.YtnpbopadajbopaaDoorW.PrintLast Go.Proofs.YtnpbopadajbopaaDoorW.PrintMore
attribute [local go_sem] max2_int min2_int max_two min_two max_three min_three max_four min_four   -- for this text's walks alone
attribute [local go_sem] cell_in frozen_in
set_option synthInstance.maxSize 1000000
set_option synthInstance.maxHeartbeats 2000000
set_option linter.unusedVariables false
set_option linter.unusedSimpArgs false

/-! ### spec_SetOk: function 65 -/
def spec_SetOk.l0 : Nat → Int → List Int → Int → Option (Bool)
 | 0, _, _, _ => none
 | k + 1, x0, x1, x5 => if x5 < (x1.length : Int) then (if 0 ≤ x5 then (if (rd x1 x5) < 0 then (some false) else (if (rd x1 x5) ≥ x0 then (some false) else (if x5 > 0 then (if 0 ≤ (wrap64 (x5 - 1)) then (if (wrap64 (x5 - 1)) < (x1.length : Int) then (if (rd x1 (wrap64 (x5 - 1))) ≥ (rd x1 x5) then (some false) else (spec_SetOk.l0 k x0 x1 (wrap64 (x5 + 1)))) else (none)) else (none)) else (spec_SetOk.l0 k x0 x1 (wrap64 (x5 + 1)))))) else (none)) else (some true)
def spec_SetOk.f (k : Nat) (a0 : Int) (l1 : List Int) : Option (Bool) := spec_SetOk.l0 k a0 l1 0
theorem spec_SetOk.mono_l : ∀ k, (∀ y0 y1 y2, LeO (spec_SetOk.l0 k y0 y1 y2) (spec_SetOk.l0 (k + 1) y0 y1 y2))
 | 0 => fun _ _ _ r h => by simp [spec_SetOk.l0] at h
 | k + 1 => by
  have ih0 := spec_SetOk.mono_l k
  intro y0 y1 y2
  unfold spec_SetOk.l0
  repeat' first | (with_reducible exact ih0 _ _ _) | (with_reducible exact LeO.refl _) | (with_reducible exact LeO.none _) | (with_reducible refine LeO.ite ?_ ?_) | (with_reducible refine LeO.bind ?_ (fun _ => ?_))
theorem spec_SetOk.mono : ∀ a0 a1 k, LeO (spec_SetOk.f k a0 a1) (spec_SetOk.f (k + 1) a0 a1) := by
 intro a0 a1 k
 have ih0 := spec_SetOk.mono_l k
 unfold spec_SetOk.f
 repeat' first | (with_reducible exact ih0 _ _ _) | (with_reducible exact LeO.refl _) | (with_reducible exact LeO.none _) | (with_reducible refine LeO.ite ?_ ?_) | (with_reducible refine LeO.bind ?_ (fun _ => ?_))
set_option maxHeartbeats 8000000 in
set_option maxRecDepth 100000 in
theorem spec_SetOk.calls (k : Nat) (a0 : Int) (A1 : Option Addr) (c1 : Nat) (l1 : List Int) (r : Bool) (w : World) (hr1 : Kd.C (Kd.int .i64) w A1 l1.length l1) (hc1 : l1.length ≤ c1) (h : spec_SetOk.f k a0 l1 = some r) :
  Calls Tryd.prog 65 #[.int .i64 a0, .slice A1 l1.length c1] w fun e w' => e = .returned (.bool r) ∧ Drawn0 w w' := by
 have HR1 := Aside0.mk hr1; have HC1 := Aside0.mk hc1; clear hr1 hc1; have H := h; unfold spec_SetOk.f at H; clear h; have H' := Aside0.mk H; clear H
 go_enter Tryd.func65, Tryd.ntmps65
 go_wp2
 repeat (go_quiet (fail); try go_wp2)
 go_loopg [5] k (fun kq v5 w' => ∃ (x5_1 : Int), v5 = .int .i64 x5_1 ∧ Aside0 (spec_SetOk.l0 kq a0 l1 x5_1 = some r) ∧ Aside0 (kq ≤ k) ∧ Drawn0 w w')
 case atStart => exact ⟨(0), y0_11, H', ⟨Nat.le_refl _⟩, y0_8⟩
 case round =>
  clear H'
  try clear c1
  try clear p2
  obtain ⟨x5_1, rfl, HA, HK1, ⟨m1, rfl⟩⟩ := hrel; cases gk with
  | zero => exact absurd HA.out (by simp [spec_SetOk.l0])
  | succ k1 =>
   have H := HA.out; clear HA
   simp only [spec_SetOk.l0] at H
   by_cases c3 : x5_1 < (l1.length : Int)
   ·
    rw [if_pos c3] at H
    have c3b0 : decide (x5_1 < (l1.length : Int)) = true := decide_eq_true c3; clear c3
    by_cases c4 : 0 ≤ x5_1
    rotate_left
    ·
     rw [if_neg c4] at H
     exact absurd H (by simp)
    rw [if_pos c4] at H
    have c4b0 : decide (0 ≤ x5_1) = true := decide_eq_true c4; clear c4
    by_cases c5 : (rd l1 x5_1) < 0
    ·
     rw [if_pos c5] at H
     have c5b0 : decide ((rd l1 x5_1) < 0) = true := decide_eq_true c5; clear c5; obtain rfl := Option.some.inj H; have p251 : 0 ≤ (x5_1 : Int) := of_decide_eq_true y0_10; have q251 : x5_1 < (l1.length : Int) := of_decide_eq_true y0_10; obtain ⟨ad251, e251, hx251_0⟩ := Kd.at_int HR1.out x5_1 p251 q251; cases e251; replace p251 := eq_true p251; replace q251 := eq_true q251
     go_wp2
     repeat (go_quiet (fail); try go_wp2)
     go_ret
     exact ⟨y0_11, y0_8⟩
    rw [if_neg c5] at H
    have c5b0 : decide ((rd l1 x5_1) < 0) = false := decide_eq_false c5; clear c5
    by_cases c6 : (rd l1 x5_1) ≥ a0
    ·
     rw [if_pos c6] at H
     have c6b0 : decide (a0 ≤ (rd l1 x5_1)) = true := decide_eq_true c6; clear c6; obtain rfl := Option.some.inj H; have p251 : 0 ≤ (x5_1 : Int) := of_decide_eq_true y0_10; have q251 : x5_1 < (l1.length : Int) := of_decide_eq_true y0_10; obtain ⟨ad251, e251, hx251_0⟩ := Kd.at_int HR1.out x5_1 p251 q251; cases e251; replace p251 := eq_true p251; replace q251 := eq_true q251; have p252 : 0 ≤ (x5_1 : Int) := of_decide_eq_true y0_10; have q252 : x5_1 < (l1.length : Int) := of_decide_eq_true y0_10; obtain ⟨ad252, e252, hx252_0⟩ := Kd.at_int HR1.out x5_1 p252 q252
     obtain rfl : ad251 = ad252 := (by injection e252)
     replace p252 := eq_true p252; replace q252 := eq_true q252
     go_wp2
     repeat (go_quiet (fail); try go_wp2)
     go_ret
     exact ⟨y0_11, y0_8⟩
    rw [if_neg c6] at H
    have c6b0 : decide (a0 ≤ (rd l1 x5_1)) = false := decide_eq_false c6; clear c6
    by_cases c7 : x5_1 > 0
    ·
     rw [if_pos c7] at H
     have c7b0 : decide (0 < x5_1) = true := decide_eq_true c7; clear c7; obtain ⟨ji8, hji8⟩ : ∃ j_ : Int, (wrap64 (x5_1 - 1)) = j_ := ⟨_, rfl⟩
     replace H : (if 0 ≤ (ji8) then (if (ji8) < (l1.length : Int) then (if (rd l1 (ji8)) ≥ (rd l1 x5_1) then (some false) else (spec_SetOk.l0 k1 a0 l1 (wrap64 (x5_1 + 1)))) else (none)) else (none)) = some r := by first | (rw [hji8] at H; exact H) | (simp only [hji8] at H ⊢; exact H)
     have hji8w : (IntKind.i64.wrap (x5_1 - 1)) = ji8 := (i64_w _).trans hji8
     by_cases c9 : 0 ≤ (ji8)
     rotate_left
     ·
      rw [if_neg c9] at H
      exact absurd H (by simp)
     rw [if_pos c9] at H
     have c9b0 : decide (0 ≤ (ji8)) = true := decide_eq_true c9; clear c9
     by_cases c10 : (ji8) < (l1.length : Int)
     rotate_left
     ·
      rw [if_neg c10] at H
      exact absurd H (by simp)
     rw [if_pos c10] at H
     have c10b0 : decide ((ji8) < (l1.length : Int)) = true := decide_eq_true c10; clear c10
     by_cases c11 : (rd l1 (ji8)) ≥ (rd l1 x5_1)
     ·
      rw [if_pos c11] at H
      have c11b0 : decide ((rd l1 x5_1) ≤ (rd l1 (ji8))) = true := decide_eq_true c11; clear c11; obtain rfl := Option.some.inj H; have p251 : 0 ≤ (x5_1 : Int) := of_decide_eq_true y0_10; have q251 : x5_1 < (l1.length : Int) := of_decide_eq_true y0_10; obtain ⟨ad251, e251, hx251_0⟩ := Kd.at_int HR1.out x5_1 p251 q251; cases e251; replace p251 := eq_true p251; replace q251 := eq_true q251; have p252 : 0 ≤ (x5_1 : Int) := of_decide_eq_true y0_10; have q252 : x5_1 < (l1.length : Int) := of_decide_eq_true y0_10; obtain ⟨ad252, e252, hx252_0⟩ := Kd.at_int HR1.out x5_1 p252 q252
      obtain rfl : ad251 = ad252 := (by injection e252)
      replace p252 := eq_true p252; replace q252 := eq_true q252; have p253 : 0 ≤ ((ji8) : Int) := of_decide_eq_true y0_10; have q253 : (ji8) < (l1.length : Int) := of_decide_eq_true y0_10; obtain ⟨ad253, e253, hx253_0⟩ := Kd.at_int HR1.out (ji8) p253 q253
      obtain rfl : ad251 = ad253 := (by injection e253)
      replace p253 := eq_true p253; replace q253 := eq_true q253; have p254 : 0 ≤ (x5_1 : Int) := of_decide_eq_true y0_10; have q254 : x5_1 < (l1.length : Int) := of_decide_eq_true y0_10; obtain ⟨ad254, e254, hx254_0⟩ := Kd.at_int HR1.out x5_1 p254 q254
      obtain rfl : ad251 = ad254 := (by injection e254)
      replace p254 := eq_true p254; replace q254 := eq_true q254
      go_wp2
      repeat (go_quiet (fail); try go_wp2)
      go_ret
      exact ⟨by first | rfl | (simp; done) | (simp only [← hji8] <;> (first | rfl | simp)) | (simp [*]; done), y0_8⟩
     rw [if_neg c11] at H
     have c11b0 : decide ((rd l1 x5_1) ≤ (rd l1 (ji8))) = false := decide_eq_false c11; clear c11; have H' := Aside0.mk H; clear H; have p251 : 0 ≤ (x5_1 : Int) := of_decide_eq_true y0_10; have q251 : x5_1 < (l1.length : Int) := of_decide_eq_true y0_10; obtain ⟨ad251, e251, hx251_0⟩ := Kd.at_int HR1.out x5_1 p251 q251; cases e251; replace p251 := eq_true p251; replace q251 := eq_true q251; have p252 : 0 ≤ (x5_1 : Int) := of_decide_eq_true y0_10; have q252 : x5_1 < (l1.length : Int) := of_decide_eq_true y0_10; obtain ⟨ad252, e252, hx252_0⟩ := Kd.at_int HR1.out x5_1 p252 q252
     obtain rfl : ad251 = ad252 := (by injection e252)
     replace p252 := eq_true p252; replace q252 := eq_true q252; have p253 : 0 ≤ ((ji8) : Int) := of_decide_eq_true y0_10; have q253 : (ji8) < (l1.length : Int) := of_decide_eq_true y0_10; obtain ⟨ad253, e253, hx253_0⟩ := Kd.at_int HR1.out (ji8) p253 q253
     obtain rfl : ad251 = ad253 := (by injection e253)
     replace p253 := eq_true p253; replace q253 := eq_true q253; have p254 : 0 ≤ (x5_1 : Int) := of_decide_eq_true y0_10; have q254 : x5_1 < (l1.length : Int) := of_decide_eq_true y0_10; obtain ⟨ad254, e254, hx254_0⟩ := Kd.at_int HR1.out x5_1 p254 q254
     obtain rfl : ad251 = ad254 := (by injection e254)
     replace p254 := eq_true p254; replace q254 := eq_true q254
     go_wp2
     repeat (go_quiet (fail); try go_wp2)
     go_roundg k1
     case measure => have := HK1.out; omega
     case rel => exact ⟨(wrap64 (x5_1 + 1)), y0_11, H', ⟨y0_13⟩, y0_8⟩
    rw [if_neg c7] at H
    have c7b0 : decide (0 < x5_1) = false := decide_eq_false c7; clear c7; have H' := Aside0.mk H; clear H; have p251 : 0 ≤ (x5_1 : Int) := of_decide_eq_true y0_10; have q251 : x5_1 < (l1.length : Int) := of_decide_eq_true y0_10; obtain ⟨ad251, e251, hx251_0⟩ := Kd.at_int HR1.out x5_1 p251 q251; cases e251; replace p251 := eq_true p251; replace q251 := eq_true q251; have p252 : 0 ≤ (x5_1 : Int) := of_decide_eq_true y0_10; have q252 : x5_1 < (l1.length : Int) := of_decide_eq_true y0_10; obtain ⟨ad252, e252, hx252_0⟩ := Kd.at_int HR1.out x5_1 p252 q252
    obtain rfl : ad251 = ad252 := (by injection e252)
    replace p252 := eq_true p252; replace q252 := eq_true q252
    go_wp2
    repeat (go_quiet (fail); try go_wp2)
    go_roundg k1
    case measure => have := HK1.out; omega
    case rel => exact ⟨(wrap64 (x5_1 + 1)), y0_11, H', ⟨y0_13⟩, y0_8⟩
   rw [if_neg c3] at H
   have c3b0 : decide (x5_1 < (l1.length : Int)) = false := decide_eq_false c3; clear c3; obtain rfl := Option.some.inj H
   go_wp2
   repeat (go_quiet (fail); try go_wp2)
   go_ret
   exact ⟨y0_11, y0_8⟩

/-! ### spec_QcOk: function 36 -/
def spec_QcOk.f (k : Nat) (a0_0 : Int) (a0_1 : Int) (a1_0 : Int) (a1_1 : ByteArray) (l1_2 : List Int) : Option (Bool) := (spec_ConfOk.f a0_0 a0_1).bind fun t257 => (if t257 = true then ((spec_NameOk.f k a1_1).bind fun t258 => (if t258 = true then ((spec_ViewOf.f k a1_1).bind fun t259 => (if t259 = a1_0 then (if a1_1.toList = ([] : List UInt8) then (some ((l1_2.length : Int) == 0)) else ((spec_SetOk.f k a0_0 l1_2).bind fun t260 => (if t260 = true then ((spec_Quorum.f a0_0 a0_1).bind fun t261 => (some (decide ((l1_2.length : Int) ≥ t261)))) else (some false)))) else (some false))) else (some false))) else (some false))
theorem spec_QcOk.mono : ∀ a0 a1 a2 a3 a4 k, LeO (spec_QcOk.f k a0 a1 a2 a3 a4) (spec_QcOk.f (k + 1) a0 a1 a2 a3 a4) := by
 intro a0 a1 a2 a3 a4 k
 unfold spec_QcOk.f
 repeat' first | (with_reducible exact spec_NameOk.mono _ _) | (with_reducible exact spec_SetOk.mono _ _ _) | (with_reducible exact spec_ViewOf.mono _ _) | (with_reducible exact LeO.refl _) | (with_reducible exact LeO.none _) | (with_reducible refine LeO.ite ?_ ?_) | (with_reducible refine LeO.bind ?_ (fun _ => ?_))
def spec_QcOk.T1 : Bool × List (List Nat × List Nat) := (true, [([], []), ([0], [0]), ([1], [1]), ([2, 1], [2]), ([3], [3]), ([4, 3], [3, 4]), ([5, 3, 3], [3, 5]), ([6, 3], [3, 6]), ([3, 7], [3, 7]), ([8, 6], [8]), ([9], [9]), ([10, 9], [9, 10]), ([11, 9, 9], [9, 11]), ([9], [9]), ([13, 9], [9, 13]), ([12, 14, 9], [9, 12, 14]), ([9, 15], [9, 15])])
def spec_QcOk.B1 : List Nat := [0, 1, 3, 7, 15, 31, 63, 127, 255, 511, 1023, 2047, 4095, 1023, 9215, 32767, 65535]
theorem spec_QcOk.tab1 : rtab .any (opsOf Tryd.f36 1) = spec_QcOk.T1 := by kernel_rfl
theorem spec_QcOk.bits1 : waitsOk spec_QcOk.T1.2 spec_QcOk.B1 = true := by kernel_rfl
def spec_QcOk.T5 : Bool × List (List Nat × List Nat) := (true, [([], []), ([0], [0]), ([], []), ([2], [2]), ([1, 3], [1, 3]), ([4, 4], [4]), ([5], [5]), ([6, 5], [5, 6]), ([7, 5], [5, 7]), ([5], [5]), ([9, 5, 5], [5, 9]), ([8, 10, 5], [5, 8, 10]), ([5, 11], [5, 11]), ([12, 10, 0, 1, 2, 3, 4, 5, 6, 7, 8, 9, 10, 11, 12], [12])])
def spec_QcOk.B5 : List Nat := [0, 1, 0, 4, 15, 31, 63, 127, 255, 63, 575, 2047, 4095, 8191]
theorem spec_QcOk.tab5 : rtab .any (opsOf Tryd.f36 5) = spec_QcOk.T5 := by kernel_rfl
theorem spec_QcOk.bits5 : waitsOk spec_QcOk.T5.2 spec_QcOk.B5 = true := by kernel_rfl
set_option maxHeartbeats 8000000 in
set_option maxRecDepth 100000 in
theorem spec_QcOk.calls (k : Nat) (a0_0 : Int) (a0_1 : Int) (a1_0 : Int) (a1_1 : ByteArray) (A1_2 : Option Addr) (c1_2 : Nat) (l1_2 : List Int) (r : Bool) (w : World) (hr1_2 : Kd.C (Kd.int .i64) w A1_2 l1_2.length l1_2) (hc1_2 : l1_2.length ≤ c1_2) (h : spec_QcOk.f k a0_0 a0_1 a1_0 a1_1 l1_2 = some r) :
  Calls Tryd.prog 36 #[.agg #[.int .i64 a0_0, .int .i64 a0_1], .agg #[.int .i64 a1_0, .string a1_1, .slice A1_2 l1_2.length c1_2]] w fun e w' => e = .returned (.bool r) ∧ Below w.heap.size w w' := by
 have hu25 := Tryd.underlying25; have hu32 := Tryd.underlying32; have HR1_2 := Aside0.mk hr1_2; have HC1_2 := Aside0.mk hc1_2; clear hr1_2 hc1_2; have HB := Aside0.mk (Below.refl w.heap.size w)
 have H := h; unfold spec_QcOk.f at H
 clear h
 go_enter Tryd.func36, Tryd.ntmps36
 have H' := Aside0.mk H; clear H
 go_upto_region 1 with (first | ((with_reducible refine gd 2 ?_); refine bL 2 #[.int .i64 a0_0, .int .i64 a0_1] 25 ?_; intro gb255 w3 _ _ _) | ((with_reducible refine gd 3 ?_); refine bL 3 #[.int .i64 a1_0, .string a1_1, .slice A1_2 l1_2.length c1_2] 32 ?_; intro gb256 w4 _ _ _))
 have H := H'.out; clear H'; obtain ⟨t257, A5, H⟩ := oB H; (try dsimp only at H)
 by_cases c6 : t257 = true
 ·
  subst c6
  rw [if_pos rfl] at H
  obtain ⟨t258, A7, H⟩ := oB H; (try dsimp only at H)
  by_cases c8 : t258 = true
  ·
   subst c8
   rw [if_pos rfl] at H
   obtain ⟨t259, A9, H⟩ := oB H; (try dsimp only at H); have H' := Aside0.mk H; clear H
   try go_wp2
   refine sB [] spec_QcOk.tab1 spec_QcOk.bits1 ?_; intro w10 _ HT_ HW_
   refine tB 0 (some 5) (bz 17 1) HT_ HW_ ?_
   refine o1 1 (some 6) (bz 17 3) HT_ rfl (kC Tryd.func32 (spec_ConfOk.calls (w := _) (h := A5.out)) ?_); intro w11 _
   refine nA (some 6) ?_
   refine pA 2 (some 7) (bz 17 7) HT_ ?_
   refine pA 3 (some 8) (bz 17 15) HT_ ?_
   refine pA 4 (some 9) (bz 17 31) HT_ ?_
   refine tB 5 (some 10) (bz 17 63) HT_ HW_ ?_
   refine o1 6 (some 11) (bz 17 127) HT_ rfl (kC Tryd.func63 (spec_NameOk.calls (w := _) (h := A7.out)) ?_); intro w12 _
   refine nA (some 11) ?_
   refine pA 7 (some 12) (bz 17 255) HT_ ?_
   refine pA 8 (some 13) (bz 17 511) HT_ ?_
   refine pA 9 (some 14) (bz 17 1023) HT_ ?_
   refine pA 10 (some 15) (bz 17 2047) HT_ ?_
   refine tB 11 (some 16) (bz 17 4095) HT_ HW_ ?_
   refine pA 13 (some 18) (bz 17 0x2fff) HT_ ?_
   refine tB 14 (some 19) (bz 17 0x6fff) HT_ HW_ ?_
   refine o1 12 (some 17) (bz 17 0x7fff) HT_ rfl (kC Tryd.func64 (spec_ViewOf.calls (w := _) (h := A9.out)) ?_); intro w13 _
   refine nA (some 17) ?_
   refine pA 15 (some 20) (bz 17 0xffff) HT_ ?_
   refine pA 16 (some 21) (bz 17 0x1ffff) HT_ ?_
   refine done_ (done_of HT_.out (by kernel_rfl)) ?_
   go_upto_if 21 with fail
   have H := H'.out; clear H'
   by_cases c14 : t259 = a1_0
   ·
    rw [if_pos c14] at H
    have c14b0 : (t259 == a1_0) = true := beq_iff_eq.mpr c14; have c14b1 : (t259 != a1_0) = false := bne_eq_false_iff_eq.mpr c14; clear c14
    (first | rw [c14b0] | (simp only [i64_w, i32_w]; rw [c14b0]) | skip)
    have H' := Aside0.mk H; clear H
    go_upto_if 24 with fail
    have H := H'.out; clear H'
    by_cases c15 : a1_1.toList = ([] : List UInt8)
    ·
     rw [if_pos c15] at H
     have c15b0 : (a1_1.toList == ([] : List UInt8)) = true := beq_iff_eq.mpr c15; have c15b1 : (a1_1.toList != ([] : List UInt8)) = false := bne_eq_false_iff_eq.mpr c15; clear c15
     (first | rw [c15b0] | (simp only [i64_w, i32_w]; rw [c15b0]) | rw [show List.isEmpty (a1_1.toList) = true from by simpa using c15b0] | skip)
     obtain rfl := Option.some.inj H
     go_wp2
     go_ret
     exact ⟨y0_11, UpW.out⟩
    rw [if_neg c15] at H
    have c15b0 : (a1_1.toList == ([] : List UInt8)) = false := beq_eq_false_iff_ne.mpr c15; have c15b1 : (a1_1.toList != ([] : List UInt8)) = true := bne_iff_ne.mpr c15
    (first | rw [c15b0] | (simp only [i64_w, i32_w]; rw [c15b0]) | rw [show List.isEmpty (a1_1.toList) = false from by simpa using c15b0] | skip)
    obtain ⟨t260, A16, H⟩ := oB H; (try dsimp only at H)
    by_cases c17 : t260 = true
    ·
     subst c17
     rw [if_pos rfl] at H
     obtain ⟨t261, A18, H⟩ := oB H; (try dsimp only at H); obtain rfl := Option.some.inj H
     try go_wp2
     refine sB [] spec_QcOk.tab5 spec_QcOk.bits5 ?_; intro w19 _ HT_ HW_
     refine pA 0 (some 29) (bz 14 1) HT_ ?_
     refine tB 1 (some 30) (bz 14 3) HT_ HW_ ?_
     refine pA 2 (some 31) (bz 14 7) HT_ ?_
     refine tB 3 (some 32) (bz 14 15) HT_ HW_ ?_
     refine o1 4 (some 33) (bz 14 31) HT_ rfl (kD Tryd.func65 (spec_SetOk.calls (hr1 := pC HR1_2) (hc1 := HC1_2.out) (w := _) (h := A16.out)) ?_); intro w20 _
     refine nA (some 33) ?_
     refine pA 5 (some 34) (bz 14 63) HT_ ?_
     refine pA 6 (some 35) (bz 14 127) HT_ ?_
     refine tB 7 (some 36) (bz 14 255) HT_ HW_ ?_
     refine pA 8 (some 37) (bz 14 511) HT_ ?_
     refine tB 9 (some 38) (bz 14 1023) HT_ HW_ ?_
     refine o1 10 (some 39) (bz 14 2047) HT_ rfl (kC Tryd.func9 (spec_Quorum.calls (w := _) (h := A18.out)) ?_); intro w21 _
     refine nA (some 39) ?_
     refine pA 11 (some 40) (bz 14 4095) HT_ ?_
     refine pA 12 (some 41) (bz 14 0x1fff) HT_ ?_
     refine pA 13 (some 4) (bz 14 0x3fff) HT_ ?_
     refine done_ (done_of HT_.out (by kernel_rfl)) ?_
     try go_wp2
     go_ret
     exact ⟨y0_11, UpW.out⟩
    replace c17 := Bool.eq_false_iff.mpr c17; subst c17
    rw [if_neg (show ¬ (false = true) by decide)] at H
    obtain rfl := Option.some.inj H
    try go_wp2
    refine sB [] spec_QcOk.tab5 spec_QcOk.bits5 ?_; intro w22 _ HT_ HW_
    refine pA 0 (some 29) (bz 14 1) HT_ ?_
    refine tB 1 (some 30) (bz 14 3) HT_ HW_ ?_
    refine pA 2 (some 31) (bz 14 7) HT_ ?_
    refine tB 3 (some 32) (bz 14 15) HT_ HW_ ?_
    refine o1 4 (some 33) (bz 14 31) HT_ rfl (kD Tryd.func65 (spec_SetOk.calls (hr1 := pC HR1_2) (hc1 := HC1_2.out) (w := _) (h := A16.out)) ?_); intro w23 _
    refine nA (some 33) ?_
    refine pA 5 (some 34) (bz 14 63) HT_ ?_
    refine pU 6 (some 35) (bz 14 127) HT_ ?_
    refine pU 7 (some 36) (bz 14 255) HT_ ?_
    refine pU 8 (some 37) (bz 14 511) HT_ ?_
    refine pU 9 (some 38) (bz 14 1023) HT_ ?_
    refine pU 10 (some 39) (bz 14 2047) HT_ ?_
    refine pU 11 (some 40) (bz 14 4095) HT_ ?_
    refine pA 12 (some 41) (bz 14 0x1fff) HT_ ?_
    refine pA 13 (some 4) (bz 14 0x3fff) HT_ ?_
    refine done_ (done_of HT_.out (by kernel_rfl)) ?_
    try go_wp2
    go_ret
    exact ⟨y0_11, UpW.out⟩
   rw [if_neg c14] at H
   have c14b0 : (t259 == a1_0) = false := beq_eq_false_iff_ne.mpr c14; have c14b1 : (t259 != a1_0) = true := bne_iff_ne.mpr c14
   (first | rw [c14b0] | (simp only [i64_w, i32_w]; rw [c14b0]) | skip)
   obtain rfl := Option.some.inj H
   go_wp2
   go_ret
   exact ⟨y0_11, UpW.out⟩
  replace c8 := Bool.eq_false_iff.mpr c8; subst c8
  rw [if_neg (show ¬ (false = true) by decide)] at H
  have H' := Aside0.mk H; clear H
  try go_wp2
  refine sB [] spec_QcOk.tab1 spec_QcOk.bits1 ?_; intro w24 _ HT_ HW_
  refine tB 0 (some 5) (bz 17 1) HT_ HW_ ?_
  refine o1 1 (some 6) (bz 17 3) HT_ rfl (kC Tryd.func32 (spec_ConfOk.calls (w := _) (h := A5.out)) ?_); intro w25 _
  refine nA (some 6) ?_
  refine pA 2 (some 7) (bz 17 7) HT_ ?_
  refine pA 3 (some 8) (bz 17 15) HT_ ?_
  refine pA 4 (some 9) (bz 17 31) HT_ ?_
  refine tB 5 (some 10) (bz 17 63) HT_ HW_ ?_
  refine o1 6 (some 11) (bz 17 127) HT_ rfl (kC Tryd.func63 (spec_NameOk.calls (w := _) (h := A7.out)) ?_); intro w26 _
  refine nA (some 11) ?_
  refine pA 7 (some 12) (bz 17 255) HT_ ?_
  refine pA 8 (some 13) (bz 17 511) HT_ ?_
  refine pA 9 (some 14) (bz 17 1023) HT_ ?_
  refine pU 10 (some 15) (bz 17 2047) HT_ ?_
  refine pU 11 (some 16) (bz 17 4095) HT_ ?_
  refine pU 12 (some 17) (bz 17 0x1fff) HT_ ?_
  refine pU 13 (some 18) (bz 17 0x3fff) HT_ ?_
  refine pU 14 (some 19) (bz 17 0x7fff) HT_ ?_
  refine pU 15 (some 20) (bz 17 0xffff) HT_ ?_
  refine pA 16 (some 21) (bz 17 0x1ffff) HT_ ?_
  refine done_ (done_of HT_.out (by kernel_rfl)) ?_
  go_upto_if 21 with fail
  have H := H'.out; clear H'; obtain rfl := Option.some.inj H
  go_wp2
  go_ret
  exact ⟨y0_11, UpW.out⟩
 replace c6 := Bool.eq_false_iff.mpr c6; subst c6
 rw [if_neg (show ¬ (false = true) by decide)] at H
 have H' := Aside0.mk H; clear H
 try go_wp2
 refine sB [] spec_QcOk.tab1 spec_QcOk.bits1 ?_; intro w27 _ HT_ HW_
 refine tB 0 (some 5) (bz 17 1) HT_ HW_ ?_
 refine o1 1 (some 6) (bz 17 3) HT_ rfl (kC Tryd.func32 (spec_ConfOk.calls (w := _) (h := A5.out)) ?_); intro w28 _
 refine nA (some 6) ?_
 refine pA 2 (some 7) (bz 17 7) HT_ ?_
 refine pA 3 (some 8) (bz 17 15) HT_ ?_
 refine pU 4 (some 9) (bz 17 31) HT_ ?_
 refine pU 5 (some 10) (bz 17 63) HT_ ?_
 refine pU 6 (some 11) (bz 17 127) HT_ ?_
 refine pU 7 (some 12) (bz 17 255) HT_ ?_
 refine pA 8 (some 13) (bz 17 511) HT_ ?_
 refine pA 9 (some 14) (bz 17 1023) HT_ ?_
 refine pU 10 (some 15) (bz 17 2047) HT_ ?_
 refine pU 11 (some 16) (bz 17 4095) HT_ ?_
 refine pU 12 (some 17) (bz 17 0x1fff) HT_ ?_
 refine pU 13 (some 18) (bz 17 0x3fff) HT_ ?_
 refine pU 14 (some 19) (bz 17 0x7fff) HT_ ?_
 refine pU 15 (some 20) (bz 17 0xffff) HT_ ?_
 refine pA 16 (some 21) (bz 17 0x1ffff) HT_ ?_
 refine done_ (done_of HT_.out (by kernel_rfl)) ?_
 go_upto_if 21 with fail
 have H := H'.out; clear H'; obtain rfl := Option.some.inj H
 go_wp2
 go_ret
 exact ⟨y0_11, UpW.out⟩

/-! ### spec_SafeOk: function 43 -/
def spec_SafeOk.f (k : Nat) (a0_0 : Int) (a0_1 : Int) (a1_0 : Int) (a1_1 : Int) (a1_2 : Int) (a1_3 : ByteArray) (l1_4 : List Int) (a1_5 : ByteArray) : Option (Bool) := (spec_l1In.f a1_0 0 60).bind fun t264 => (if t264 = true then ((spec_l1In.f a1_1 0 60).bind fun t265 => (if t265 = true then ((spec_QcOk.f k a0_0 a0_1 a1_2 a1_3 l1_4).bind fun t266 => (if t266 = true then ((spec_NameOk.f k a1_5).bind fun t267 => (some t267)) else (some false))) else (some false))) else (some false))
theorem spec_SafeOk.mono : ∀ a0 a1 a2 a3 a4 a5 a6 a7 k, LeO (spec_SafeOk.f k a0 a1 a2 a3 a4 a5 a6 a7) (spec_SafeOk.f (k + 1) a0 a1 a2 a3 a4 a5 a6 a7) := by
 intro a0 a1 a2 a3 a4 a5 a6 a7 k
 unfold spec_SafeOk.f
 repeat' first | (with_reducible exact spec_NameOk.mono _ _) | (with_reducible exact spec_QcOk.mono _ _ _ _ _ _) | (with_reducible exact LeO.refl _) | (with_reducible exact LeO.none _) | (with_reducible refine LeO.ite ?_ ?_) | (with_reducible refine LeO.bind ?_ (fun _ => ?_))
set_option maxHeartbeats 8000000 in
set_option maxRecDepth 100000 in
theorem spec_SafeOk.calls (k : Nat) (a0_0 : Int) (a0_1 : Int) (a1_0 : Int) (a1_1 : Int) (a1_2 : Int) (a1_3 : ByteArray) (A1_4 : Option Addr) (c1_4 : Nat) (l1_4 : List Int) (a1_5 : ByteArray) (r : Bool) (w : World) (hr1_4 : Kd.C (Kd.int .i64) w A1_4 l1_4.length l1_4) (hc1_4 : l1_4.length ≤ c1_4) (h : spec_SafeOk.f k a0_0 a0_1 a1_0 a1_1 a1_2 a1_3 l1_4 a1_5 = some r) :
  Calls Tryd.prog 43 #[.agg #[.int .i64 a0_0, .int .i64 a0_1], .agg #[.int .i64 a1_0, .int .i64 a1_1, .int .i64 a1_2, .string a1_3, .slice A1_4 l1_4.length c1_4, .string a1_5]] w fun e w' => e = .returned (.bool r) ∧ Below w.heap.size w w' := by
 have hu25 := Tryd.underlying25; have hu46 := Tryd.underlying46; have hu32 := Tryd.underlying32; have HR1_4 := Aside0.mk hr1_4; have HC1_4 := Aside0.mk hc1_4; clear hr1_4 hc1_4; have HB := Aside0.mk (Below.refl w.heap.size w)
 have H := h; unfold spec_SafeOk.f at H
 clear h
 go_enter Tryd.func43, Tryd.ntmps43
 have H' := Aside0.mk H; clear H
 go_upto_region 1 with (first | ((with_reducible refine gd 2 ?_); refine bL 2 #[.int .i64 a0_0, .int .i64 a0_1] 25 ?_; intro gb262 w3 _ _ _) | ((with_reducible refine gd 3 ?_); refine bL 3 #[.int .i64 a1_0, .int .i64 a1_1, .int .i64 a1_2, .string a1_3, .slice A1_4 l1_4.length c1_4, .string a1_5] 46 ?_; intro gb263 w4 _ _ _))
 have H := H'.out; clear H'; obtain ⟨t264, A5, H⟩ := oB H; (try dsimp only at H)
 by_cases c6 : t264 = true
 ·
  subst c6
  rw [if_pos rfl] at H
  obtain ⟨t265, A7, H⟩ := oB H; (try dsimp only at H)
  by_cases c8 : t265 = true
  ·
   subst c8
   rw [if_pos rfl] at H
   obtain ⟨t266, A9, H⟩ := oB H; (try dsimp only at H)
   by_cases c10 : t266 = true
   ·
    subst c10
    rw [if_pos rfl] at H
    obtain ⟨t267, A11, H⟩ := oB H; (try dsimp only at H); obtain rfl := Option.some.inj H
    go_wp2_with (first | ((with_reducible refine gate_callee (f := 55) rfl ?_); refine gD (some 7) Tryd.func55 (spec_l1In.calls (w := _) (h := A5.out)) ?_; intro w12 _) | (go_at_call 55; refine aD (spec_l1In.calls (w := _) (h := A7.out)) ?_; intro w13 _) | (go_at_call 36; refine aC (spec_QcOk.calls (hr1_2 := pC HR1_4) (hc1_2 := HC1_4.out) (w := _) (h := A9.out)) ?_; intro w14 _) | (go_at_call 63; refine aC (spec_NameOk.calls (w := _) (h := A11.out)) ?_; intro w15 _))
    go_ret
    exact ⟨y0_11, UpW.out⟩
   replace c10 := Bool.eq_false_iff.mpr c10; subst c10
   rw [if_neg (show ¬ (false = true) by decide)] at H
   obtain rfl := Option.some.inj H
   go_wp2_with (first | ((with_reducible refine gate_callee (f := 55) rfl ?_); refine gD (some 7) Tryd.func55 (spec_l1In.calls (w := _) (h := A5.out)) ?_; intro w16 _) | (go_at_call 55; refine aD (spec_l1In.calls (w := _) (h := A7.out)) ?_; intro w17 _) | (go_at_call 36; refine aC (spec_QcOk.calls (hr1_2 := pC HR1_4) (hc1_2 := HC1_4.out) (w := _) (h := A9.out)) ?_; intro w18 _))
   go_ret
   exact ⟨y0_11, UpW.out⟩
  replace c8 := Bool.eq_false_iff.mpr c8; subst c8
  rw [if_neg (show ¬ (false = true) by decide)] at H
  obtain rfl := Option.some.inj H
  go_wp2_with (first | ((with_reducible refine gate_callee (f := 55) rfl ?_); refine gD (some 7) Tryd.func55 (spec_l1In.calls (w := _) (h := A5.out)) ?_; intro w19 _) | (go_at_call 55; refine aD (spec_l1In.calls (w := _) (h := A7.out)) ?_; intro w20 _))
  go_ret
  exact ⟨y0_11, UpW.out⟩
 replace c6 := Bool.eq_false_iff.mpr c6; subst c6
 rw [if_neg (show ¬ (false = true) by decide)] at H
 obtain rfl := Option.some.inj H
 go_wp2_with (first | ((with_reducible refine gate_callee (f := 55) rfl ?_); refine gD (some 7) Tryd.func55 (spec_l1In.calls (w := _) (h := A5.out)) ?_; intro w21 _))
 go_ret
 exact ⟨y0_11, UpW.out⟩

/-! ### spec_SafeOf: function 20 -/
def spec_SafeOf.f (k : Nat) (a0_0 : Int) (a0_1 : Int) (l1 : List Int) : Option (Int × Int × Int × ByteArray × List Int × ByteArray × Bool) := (spec_l12Num.f k l1 0 true).bind fun bt272 => ((spec_l12Num.f k l1 bt272.2.1 bt272.2.2).bind fun bt275 => ((spec_l12Qc.f k l1 bt275.2.1 bt275.2.2).bind fun bt278 => ((spec_l12Text.f k l1 bt278.2.2.2.1 bt278.2.2.2.2).bind fun bt285 => (if bt285.2.2 = true then (if bt285.2.1 = (l1.length : Int) then ((spec_SafeOk.f k a0_0 a0_1 bt272.1 bt275.1 bt278.1 bt278.2.1 bt278.2.2.1 bt285.1).bind fun t288 => (if t288 = true then (some (bt272.1, bt275.1, bt278.1, bt278.2.1, bt278.2.2.1, bt285.1, true)) else (some (0, 0, 0, (⟨#[]⟩ : ByteArray), ([] : List Int), (⟨#[]⟩ : ByteArray), false)))) else (some (0, 0, 0, (⟨#[]⟩ : ByteArray), ([] : List Int), (⟨#[]⟩ : ByteArray), false))) else (some (0, 0, 0, (⟨#[]⟩ : ByteArray), ([] : List Int), (⟨#[]⟩ : ByteArray), false))))))
theorem spec_SafeOf.mono : ∀ a0 a1 a2 k, LeO (spec_SafeOf.f k a0 a1 a2) (spec_SafeOf.f (k + 1) a0 a1 a2) := by
 intro a0 a1 a2 k
 unfold spec_SafeOf.f
 repeat' first | (with_reducible exact spec_SafeOk.mono _ _ _ _ _ _ _ _ _) | (with_reducible exact spec_l12Num.mono _ _ _ _) | (with_reducible exact spec_l12Qc.mono _ _ _ _) | (with_reducible exact spec_l12Text.mono _ _ _ _) | (with_reducible exact LeO.refl _) | (with_reducible exact LeO.none _) | (with_reducible refine LeO.ite ?_ ?_) | (with_reducible refine LeO.bind ?_ (fun _ => ?_))
set_option maxHeartbeats 8000000 in
set_option maxRecDepth 100000 in
theorem spec_SafeOf.calls (k : Nat) (a0_0 : Int) (a0_1 : Int) (A1 : Option Addr) (c1 : Nat) (l1 : List Int) (r1 : Int) (r2 : Int) (r3 : Int) (r4 : ByteArray) (r5 : List Int) (r6 : ByteArray) (r7 : Bool) (w : World) (hr1 : Kd.C (Kd.int .u8) w A1 l1.length l1) (hc1 : l1.length ≤ c1) (h : spec_SafeOf.f k a0_0 a0_1 l1 = some (r1, r2, r3, r4, r5, r6, r7)) :
  Calls Tryd.prog 20 #[.agg #[.int .i64 a0_0, .int .i64 a0_1], .slice A1 l1.length c1] w fun e w' => ∃ v4_ : Value, e = .returned (.tuple #[.agg #[.int .i64 r1, .int .i64 r2, .int .i64 r3, .string r4, v4_, .string r6], .bool r7]) ∧ Kd.R (Kd.int .i64) 3 w' w.heap.size (fun _ => True) v4_ r5 ∧ Below w.heap.size w w' := by
 have hu25 := Tryd.underlying25; have hu46 := Tryd.underlying46; have hu63 := Tryd.underlying63; have hu32 := Tryd.underlying32; have HR1 := Aside0.mk hr1; have HC1 := Aside0.mk hc1; clear hr1 hc1; have HB := Aside0.mk (Below.refl w.heap.size w)
 have H := h; unfold spec_SafeOf.f at H
 clear h; obtain ⟨⟨t272, t273, t274⟩, A3, H⟩ := oB H; (try dsimp only at H); obtain ⟨⟨t275, t276, t277⟩, A4, H⟩ := oB H; (try dsimp only at H); obtain ⟨⟨t278, t279, t280, t283, t284⟩, A5, H⟩ := oB H; (try dsimp only at H); obtain ⟨⟨t285, t286, t287⟩, A6, H⟩ := oB H; (try dsimp only at H)
 go_enter Tryd.func20, Tryd.ntmps20
 have H' := Aside0.mk H; clear H
 go_upto_region 7 with (first | ((with_reducible refine gd 2 ?_); refine bL 2 #[.int .i64 a0_0, .int .i64 a0_1] 25 ?_; intro gb268 w7 _ _ _) | ((with_reducible refine gd 4 ?_); refine bL 4 #[.int .i64 0, .int .i64 0, .int .i64 0, .string (⟨#[]⟩ : ByteArray), .slice none 0 0, .string (⟨#[]⟩ : ByteArray)] 46 ?_; intro gb269 w8 _ _ _) | ((with_reducible refine gd 10 ?_); refine bL 10 #[.slice A1 l1.length c1, .int .i64 0, .bool true] 63 ?_; intro gb270 w9 _ _ _) | ((with_reducible refine gd 7 ?_); refine bL 7 #[.int .i64 0, .int .i64 0, .int .i64 0, .string (⟨#[]⟩ : ByteArray), .slice none 0 0, .string (⟨#[]⟩ : ByteArray)] 46 ?_; intro gb271 w10 _ _ _) | ((with_reducible refine gate_callee (f := 41) rfl ?_); refine gK (some 13) Tryd.func41 (spec_l12Num.calls (hI := (nS63 xB HR1 HC1)) (hB := UpW.out) (w := _) (h := A3.out)) ?_; intro w11 _ _ _ HI12; obtain ⟨AS13_0, cS13_0, bk13, HG13, HS13_0, HL13_0⟩ := oS63 HI12) | ((with_reducible refine gate_callee (f := 41) rfl ?_); refine gK (some 16) Tryd.func41 (spec_l12Num.calls (hI := (nS63 xB HS13_0 HL13_0)) (hB := UpW.out) (w := _) (h := A4.out)) ?_; intro w14 _ _ _ HI15; obtain ⟨AS16_0, cS16_0, bk16, HG16, HS16_0, HL16_0⟩ := oS63 HI15; clear bk13) | ((with_reducible refine gate_callee (f := 35) rfl ?_); refine gK1 (some 19) Tryd.func35 (spec_l12Qc.calls (hI := (nS63 xB HS16_0 HL16_0)) (hB := UpW.out) (w := _) (h := A5.out)) ?_; intro Ao281 co281 w17 _ _ _ HI18 HO282; obtain ⟨AS19_0, cS19_0, bk19, HG19, HS19_0, HL19_0⟩ := oS63 HI18; clear bk16) | ((with_reducible refine gate_callee (f := 42) rfl ?_); refine gK (some 22) Tryd.func42 (spec_l12Text.calls (hI := (nS63 xB HS19_0 HL19_0)) (hB := UpW.out) (w := _) (h := A6.out)) ?_; intro w20 _ _ _ HI21; obtain ⟨AS22_0, cS22_0, bk22, HG22, HS22_0, HL22_0⟩ := oS63 HI21; clear bk19))
 have H := H'.out; clear H'
 by_cases c23 : t287 = true
 ·
  subst c23
  rw [if_pos rfl] at H
  by_cases c24 : t286 = (l1.length : Int)
  ·
   rw [if_pos c24] at H
   have c24b0 : (t286 == (l1.length : Int)) = true := beq_iff_eq.mpr c24; have c24b1 : (t286 != (l1.length : Int)) = false := bne_eq_false_iff_eq.mpr c24; clear c24
   (first | rw [c24b0] | (simp only [i64_w, i32_w]; rw [c24b0]) | skip)
   obtain ⟨t288, A25, H⟩ := oB H; (try dsimp only at H); have H' := Aside0.mk H; clear H
   go_upto_if 43 with (first | (go_at_call 43; refine aC (spec_SafeOk.calls (hr1_4 := rC HO282) (hc1_4 := rL HO282) (w := _) (h := A25.out)) ?_; intro w26 _))
   have H := H'.out; clear H'
   by_cases c27 : t288 = true
   ·
    subst c27
    rw [if_pos rfl] at H
    simp only [Option.some.injEq, Prod.mk.injEq] at H
    obtain ⟨rfl, rfl, rfl, rfl, rfl, rfl, rfl⟩ := H
    go_wp2
    refine bodyPost_ret (results_ct rfl _ _ gb269 46 #[.int .i64 t272, .int .i64 t275, .int .i64 t278, .string t279, .slice Ao281 t280.length co281, .string t285] (0, 0) _ rfl xB Tryd.underlying46 rfl (by kernel_rfl)) rfl ?_
    exact ⟨_, y0_11, rR HO282, UpW.out⟩
   replace c27 := Bool.eq_false_iff.mpr c27; subst c27
   rw [if_neg (show ¬ (false = true) by decide)] at H
   simp only [Option.some.injEq, Prod.mk.injEq] at H
   obtain ⟨rfl, rfl, rfl, rfl, rfl, rfl, rfl⟩ := H
   go_wp2
   refine bodyPost_ret (results_ct rfl _ _ gb269 46 #[.int .i64 0, .int .i64 0, .int .i64 0, .string (⟨#[]⟩ : ByteArray), .slice none 0 0, .string (⟨#[]⟩ : ByteArray)] (0, 0) _ rfl xB Tryd.underlying46 rfl (by kernel_rfl)) rfl ?_
   exact ⟨_, y0_11, Kd.R_nil _ _ _ _ _, UpW.out⟩
  rw [if_neg c24] at H
  have c24b0 : (t286 == (l1.length : Int)) = false := beq_eq_false_iff_ne.mpr c24; have c24b1 : (t286 != (l1.length : Int)) = true := bne_iff_ne.mpr c24
  (first | rw [c24b0] | (simp only [i64_w, i32_w]; rw [c24b0]) | skip)
  have H' := Aside0.mk H; clear H
  go_upto_if 43 with fail
  have H := H'.out; clear H'
  simp only [Option.some.injEq, Prod.mk.injEq] at H
  obtain ⟨rfl, rfl, rfl, rfl, rfl, rfl, rfl⟩ := H
  go_wp2
  refine bodyPost_ret (results_ct rfl _ _ gb269 46 #[.int .i64 0, .int .i64 0, .int .i64 0, .string (⟨#[]⟩ : ByteArray), .slice none 0 0, .string (⟨#[]⟩ : ByteArray)] (0, 0) _ rfl xB Tryd.underlying46 rfl (by kernel_rfl)) rfl ?_
  exact ⟨_, y0_11, Kd.R_nil _ _ _ _ _, UpW.out⟩
 replace c23 := Bool.eq_false_iff.mpr c23; subst c23
 rw [if_neg (show ¬ (false = true) by decide)] at H
 have H' := Aside0.mk H; clear H
 go_upto_if 43 with fail
 have H := H'.out; clear H'
 simp only [Option.some.injEq, Prod.mk.injEq] at H
 obtain ⟨rfl, rfl, rfl, rfl, rfl, rfl, rfl⟩ := H
 go_wp2
 refine bodyPost_ret (results_ct rfl _ _ gb269 46 #[.int .i64 0, .int .i64 0, .int .i64 0, .string (⟨#[]⟩ : ByteArray), .slice none 0 0, .string (⟨#[]⟩ : ByteArray)] (0, 0) _ rfl xB Tryd.underlying46 rfl (by kernel_rfl)) rfl ?_
 exact ⟨_, y0_11, Kd.R_nil _ _ _ _ _, UpW.out⟩

/-! ### impl_within: function 54 -/
def impl_within.f (a0 : Int) (a1 : Int) (a2 : Int) : Option (Bool) := if a0 ≥ a1 then (some (decide (a0 ≤ a2))) else (some false)
set_option maxHeartbeats 8000000 in
set_option maxRecDepth 100000 in
theorem impl_within.calls (a0 : Int) (a1 : Int) (a2 : Int) (r : Bool) (w : World) (h : impl_within.f a0 a1 a2 = some r) :
  Calls Tryd.prog 54 #[.int .i64 a0, .int .i64 a1, .int .i64 a2] w fun e w' => e = .returned (.bool r) ∧ Drawn0 w w' := by
 have H := h; unfold impl_within.f at H; clear h
 by_cases c4 : a0 ≥ a1
 ·
  rw [if_pos c4] at H
  have c4b0 : decide (a1 ≤ a0) = true := decide_eq_true c4; clear c4; obtain rfl := Option.some.inj H
  go_enter Tryd.func54, Tryd.ntmps54
  go_wp2
  go_ret
  exact ⟨y0_11, y0_8⟩
 rw [if_neg c4] at H
 have c4b0 : decide (a1 ≤ a0) = false := decide_eq_false c4; clear c4; obtain rfl := Option.some.inj H
 go_enter Tryd.func54, Tryd.ntmps54
 go_wp2
 go_ret
 exact ⟨y0_11, y0_8⟩

/-! ### impl_PutNum: function 81 -/
def impl_PutNum.l0 : Nat → Int → List Int → Option (List Int)
 | 0, _, _ => none
 | k + 1, x0, x3 => if x0 ≥ 128 then (if x3.length < 140737488355328 then (impl_PutNum.l0 k (wrap64 (Int.tdiv x0 128)) (x3 ++ [(wrap64 ((Int.tmod x0 128) + 128)) % 256])) else (none)) else (if x3.length < 140737488355328 then (some (x3 ++ [(x0) % 256])) else (none))
def impl_PutNum.f (k : Nat) (a0 : Int) : Option (List Int) := (impl_within.f a0 0 2147483647).bind fun t289 => (if t289 = true then (impl_PutNum.l0 k a0 ([] : List Int)) else (some ([] : List Int)))
theorem impl_PutNum.mono_l : ∀ k, (∀ y0 y1, LeO (impl_PutNum.l0 k y0 y1) (impl_PutNum.l0 (k + 1) y0 y1))
 | 0 => fun _ _ r h => by simp [impl_PutNum.l0] at h
 | k + 1 => by
  have ih0 := impl_PutNum.mono_l k
  intro y0 y1
  unfold impl_PutNum.l0
  repeat' first | (with_reducible exact ih0 _ _) | (with_reducible exact LeO.refl _) | (with_reducible exact LeO.none _) | (with_reducible refine LeO.ite ?_ ?_) | (with_reducible refine LeO.bind ?_ (fun _ => ?_))
theorem impl_PutNum.mono : ∀ a0 k, LeO (impl_PutNum.f k a0) (impl_PutNum.f (k + 1) a0) := by
 intro a0 k
 have ih0 := impl_PutNum.mono_l k
 unfold impl_PutNum.f
 repeat' first | (with_reducible exact ih0 _ _) | (with_reducible exact LeO.refl _) | (with_reducible exact LeO.none _) | (with_reducible refine LeO.ite ?_ ?_) | (with_reducible refine LeO.bind ?_ (fun _ => ?_))
set_option maxHeartbeats 8000000 in
set_option maxRecDepth 100000 in
theorem impl_PutNum.calls (k : Nat) (a0 : Int) (r : List Int) (w : World) (h : impl_PutNum.f k a0 = some r) :
  Calls Tryd.prog 81 #[.int .i64 a0] w fun e w' => ∃ v0_ : Value, e = .returned (v0_) ∧ Kd.R (Kd.int .u8) 5 w' w.heap.size (fun _ => True) v0_ r ∧ Below w.heap.size w w' := by
 have HB := Aside0.mk (Below.refl w.heap.size w)
 have H := h; unfold impl_PutNum.f at H
 clear h; obtain ⟨t289, A2, H⟩ := oB H; (try dsimp only at H)
 go_enter Tryd.func81, Tryd.ntmps81
 have H' := Aside0.mk H; clear H
 go_upto_if 6 with (first | ((with_reducible refine gate_callee (f := 54) rfl ?_); refine gD (some 5) Tryd.func54 (impl_within.calls (w := _) (h := A2.out)) ?_; intro w3 _))
 have H := H'.out; clear H'
 by_cases c4 : t289 = true
 ·
  subst c4
  rw [if_pos rfl] at H
  have H' := Aside0.mk H; clear H
  go_wp2
  refine wC ?_; intro w5 _
  go_loopg [0, 3] k (fun kq v0 v3 w' => ∃ (x0_1 : Int) (x3_1 : List Int) (Ao3_1 : Option Addr) (co3_1 : Nat), v0 = .int .i64 x0_1 ∧ v3 = .slice Ao3_1 x3_1.length co3_1 ∧ Aside0 (impl_PutNum.l0 kq x0_1 x3_1 = some r) ∧ Aside0 (kq ≤ k) ∧ Aside0 (Kd.R (Kd.int .u8) 5 w' w5.heap.size (iv w5 w') (.slice Ao3_1 x3_1.length co3_1) x3_1) ∧ KT w5 [] w5 _ (Kd.int .u8) 5 w' ∧ LB w w')
  case atStart => exact ⟨(a0), (([] : List Int)), (none), (0), y0_11, y0_11, H', ⟨Nat.le_refl _⟩, ⟨Kd.R_nil _ _ _ _ _⟩, ⟨UpT.out⟩, ⟨UpW.out⟩⟩
  case round =>
   clear H'; obtain ⟨x0_1, x3_1, Ao3_1, co3_1, rfl, rfl, HA, HK1, HO_3, _, _⟩ := hrel; cases gk with
   | zero => exact absurd HA.out (by simp [impl_PutNum.l0])
   | succ k1 =>
    have H := HA.out; clear HA
    simp only [impl_PutNum.l0] at H
    by_cases c6 : x0_1 ≥ 128
    ·
     rw [if_pos c6] at H
     have c6b0 : decide (128 ≤ x0_1) = true := decide_eq_true c6; clear c6
     (first | rw [c6b0] | (simp only [i64_w, i32_w]; rw [c6b0]) | skip)
     by_cases c7 : x3_1.length < 140737488355328
     rotate_left
     ·
      rw [if_neg c7] at H
      exact absurd H (by simp)
     rw [if_pos c7] at H
     have LMc7 := Aside0.mk c7; clear c7; obtain ⟨y290, hy290⟩ : ∃ y_ : List Int, y_ = (x3_1 ++ [(wrap64 ((Int.tmod x0_1 128) + 128)) % 256]) := ⟨_, rfl⟩
     replace H : (impl_PutNum.l0 k1 (wrap64 (Int.tdiv x0_1 128)) y290) = some r := by first | (rw [hy290]; with_reducible exact H) | (have H2_ := (Option.bind_some _ _).symm.trans H; rw [hy290]; with_reducible exact H2_) | (have H2_ := (Option.bind_some _ _).symm.trans H; with_reducible exact H2_) | with_reducible exact H | (rw [hy290]; exact H) | exact H
     have Ny290 := Aside0.mk hy290; clear hy290; have H' := Aside0.mk H; clear H
     go_wp2_with (first | ((with_reducible refine gate_builtin (b := .append) (xs := #[.tmp 9, .tmp 14]) rfl ?_); at_builtin; refine gA (Kd.int .u8) (.tmp 9) (.tmp 14) 22 5 (.int .u8 0) 1 ((wrap64 ((Int.tmod x0_1 128) + 128)) % 256) [.int .u8 ((wrap64 ((Int.tmod x0_1 128) + 128)) % 256)] w5 Ny290 HO_3 rfl (by have := LMc7.out; omega) ?_ (ht := Tryd.underlying22) (hinfo := info5); intro Ao291 co291 w8 _ _ HO292))
     go_roundg k1
     case measure => have := HK1.out; omega
     case rel => exact ⟨(wrap64 (Int.tdiv x0_1 128)), (y290), (Ao291), (co291), y0_11, y0_11, H', ⟨y0_13⟩, ⟨rJ HO292⟩, ⟨UpT.out⟩, ⟨UpW.out⟩⟩
    rw [if_neg c6] at H
    have c6b0 : decide (128 ≤ x0_1) = false := decide_eq_false c6; clear c6
    (first | rw [c6b0] | (simp only [i64_w, i32_w]; rw [c6b0]) | skip)
    by_cases c9 : x3_1.length < 140737488355328
    rotate_left
    ·
     rw [if_neg c9] at H
     exact absurd H (by simp)
    rw [if_pos c9] at H
    have LMc9 := Aside0.mk c9; clear c9; obtain ⟨y293, hy293⟩ : ∃ y_ : List Int, y_ = (x3_1 ++ [(x0_1) % 256]) := ⟨_, rfl⟩
    replace H : (some y293) = some r := by first | (rw [hy293]; with_reducible exact H) | (have H2_ := (Option.bind_some _ _).symm.trans H; rw [hy293]; with_reducible exact H2_) | (have H2_ := (Option.bind_some _ _).symm.trans H; with_reducible exact H2_) | with_reducible exact H | (rw [hy293]; exact H) | exact H
    have Ny293 := Aside0.mk hy293; clear hy293; obtain rfl := Option.some.inj H
    go_wp2_with (first | ((with_reducible refine gate_builtin (b := .append) (xs := #[.tmp 18, .tmp 21]) rfl ?_); at_builtin; refine gA (Kd.int .u8) (.tmp 18) (.tmp 21) 22 5 (.int .u8 0) 1 ((x0_1) % 256) [.int .u8 ((x0_1) % 256)] w5 Ny293 HO_3 rfl (by have := LMc9.out; omega) ?_ (ht := Tryd.underlying22) (hinfo := info5); intro Ao294 co294 w10 _ _ HO295))
    go_ret
    exact ⟨_, y0_11, rR HO295, UpW.out⟩
 replace c4 := Bool.eq_false_iff.mpr c4; subst c4
 rw [if_neg (show ¬ (false = true) by decide)] at H
 obtain rfl := Option.some.inj H
 go_wp2
 go_ret
 exact ⟨_, y0_11, Kd.R_nil _ _ _ _ _, UpW.out⟩

end Go.Proofs.YtnpbopadajbopaaDoor.PFnExactSafeOf
