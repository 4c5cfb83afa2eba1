-- By a program of this session, out of the translation (the print of the kit, with turns of its own). Lean checks it.
import Derived.Test.YtemjmefacifdeaaGreatDoorPFnEitherOrderx0
import Derived.Test.YtemjmefacifdeaaGreatDoorPFnEitherOrderx5
import Derived.Test.YtemjmefacifdeaaGreatDoorPFnEitherOrderx6
import Derived.Test.YtemjmefacifdeaaGreatDoorPFnEitherOrderx7
namespace Go.Proofs.YtemjmefacifdeaaGreatDoor.PFnEitherOrder
open Go.RowKit Go.Proofs.YtemjmefacifdeaaGreatDoorW.PrintWords Go.Proofs.YtemjmefacifdeaaGreatDoorW.PrintLast Go.Proofs.YtemjmefacifdeaaGreatDoorW.PrintMore
attribute [local go_sem] max2_int min2_int max_two min_two max_three min_three max_four min_four   -- for this text's walks alone
attribute [local go_sem] cell_in frozen_in
set_option synthInstance.maxSize 1000000
set_option synthInstance.maxHeartbeats 2000000
set_option linter.unusedVariables false
set_option linter.unusedSimpArgs false

/-! ### impl_SafeOk: function 72 -/
def impl_SafeOk.f (k : Nat) (a0_0 : Int) (a0_1 : Int) (a1_0 : Int) (a1_1 : Int) (a1_2 : Int) (a1_3 : ByteArray) (l1_4 : List Int) (a1_5 : ByteArray) : Option (Bool) := (impl_within.f a1_0 0 60).bind fun t412 => (if t412 = true then ((impl_within.f a1_1 0 60).bind fun t413 => (if t413 = true then ((impl_QcOk.f k a0_0 a0_1 a1_2 a1_3 l1_4).bind fun t414 => (if t414 = true then ((impl_NameOk.f k a1_5).bind fun t415 => (some t415)) else (some false))) else (some false))) else (some false))
theorem impl_SafeOk.mono : ∀ a0 a1 a2 a3 a4 a5 a6 a7 k, LeO (impl_SafeOk.f k a0 a1 a2 a3 a4 a5 a6 a7) (impl_SafeOk.f (k + 1) a0 a1 a2 a3 a4 a5 a6 a7) := by
 intro a0 a1 a2 a3 a4 a5 a6 a7 k
 unfold impl_SafeOk.f
 repeat' first | (with_reducible exact impl_NameOk.mono _ _) | (with_reducible exact impl_QcOk.mono _ _ _ _ _ _) | (with_reducible exact LeO.refl _) | (with_reducible exact LeO.none _) | (with_reducible refine LeO.ite ?_ ?_) | (with_reducible refine LeO.bind ?_ (fun _ => ?_))
set_option maxHeartbeats 8000000 in
set_option maxRecDepth 100000 in
theorem impl_SafeOk.calls (k : Nat) (a0_0 : Int) (a0_1 : Int) (a1_0 : Int) (a1_1 : Int) (a1_2 : Int) (a1_3 : ByteArray) (A1_4 : Option Addr) (c1_4 : Nat) (l1_4 : List Int) (a1_5 : ByteArray) (r : Bool) (w : World) (hr1_4 : Kd.C (Kd.int .i64) w A1_4 l1_4.length l1_4) (hc1_4 : l1_4.length ≤ c1_4) (h : impl_SafeOk.f k a0_0 a0_1 a1_0 a1_1 a1_2 a1_3 l1_4 a1_5 = some r) (hG : Glob w := by exact gG HG HB) :
  Calls Tryz.prog 72 #[.agg #[.int .i64 a0_0, .int .i64 a0_1], .agg #[.int .i64 a1_0, .int .i64 a1_1, .int .i64 a1_2, .string a1_3, .slice A1_4 l1_4.length c1_4, .string a1_5]] w fun e w' => e = .returned (.bool r) ∧ Below w.heap.size w w' := by
 have HG := Aside0.mk hG; clear hG; have hu38 := Tryz.underlying38; have hu35 := Tryz.underlying35; have hu33 := Tryz.underlying33; have HR1_4 := Aside0.mk hr1_4; have HC1_4 := Aside0.mk hc1_4; clear hr1_4 hc1_4; have HB := Aside0.mk (Below.refl w.heap.size w)
 have H : ((impl_within.f a1_0 0 60).bind fun t412 => (if t412 = true then ((impl_within.f a1_1 0 60).bind fun t413 => (if t413 = true then ((impl_QcOk.f k a0_0 a0_1 a1_2 a1_3 l1_4).bind fun t414 => (if t414 = true then ((impl_NameOk.f k a1_5).bind fun t415 => (some t415)) else (some false))) else (some false))) else (some false))) = some r := h
 clear h; obtain ⟨t412, A30, H⟩ := Option.bind_eq_some_iff.mp H
 try dsimp only at H
 have A3 := Aside0.mk A30; clear A30
 by_cases c4 : t412 = true
 ·
  subst c4
  rw [if_pos rfl] at H
  obtain ⟨t413, A50, H⟩ := Option.bind_eq_some_iff.mp H
  try dsimp only at H
  have A5 := Aside0.mk A50; clear A50
  by_cases c6 : t413 = true
  ·
   subst c6
   rw [if_pos rfl] at H
   obtain ⟨t414, A70, H⟩ := Option.bind_eq_some_iff.mp H
   try dsimp only at H
   have A7 := Aside0.mk A70; clear A70
   by_cases c8 : t414 = true
   ·
    subst c8
    rw [if_pos rfl] at H
    obtain ⟨t415, A90, H⟩ := Option.bind_eq_some_iff.mp H
    try dsimp only at H
    have A9 := Aside0.mk A90; clear A90; obtain rfl := Option.some.inj H
    go_enter Tryz.func72, Tryz.ntmps72
    go_wp2_with (first | ((with_reducible refine gd 2 ?_); refine bL 2 #[.int .i64 a0_0, .int .i64 a0_1] 38 ?_; intro gb410 w10 _ _ _) | ((with_reducible refine gd 3 ?_); refine bL 3 #[.int .i64 a1_0, .int .i64 a1_1, .int .i64 a1_2, .string a1_3, .slice A1_4 l1_4.length c1_4, .string a1_5] 35 ?_; intro gb411 w11 _ _ _) | ((with_reducible refine gate_callee (f := 99) rfl ?_); refine gD (some 7) Tryz.func99 (impl_within.calls (w := _) (h := A3.out)) ?_; intro w12 _) | (go_at_call 99; refine aD (impl_within.calls (w := _) (h := A5.out)) ?_; intro w13 _) | (go_at_call 48; refine aC (impl_QcOk.calls (hr1_2 := pC HR1_4) (hc1_2 := HC1_4.out) (w := _) (h := A7.out)) ?_; intro w14 _) | (go_at_call 95; refine aC (impl_NameOk.calls (w := _) (h := A9.out)) ?_; intro w15 _))
    go_ret
    exact ⟨y0_19, UpW.out⟩
   replace c8 := Bool.eq_false_iff.mpr c8; subst c8
   rw [if_neg (show ¬ (false = true) by decide)] at H
   obtain rfl := Option.some.inj H
   go_enter Tryz.func72, Tryz.ntmps72
   go_wp2_with (first | ((with_reducible refine gd 2 ?_); refine bL 2 #[.int .i64 a0_0, .int .i64 a0_1] 38 ?_; intro gb410 w16 _ _ _) | ((with_reducible refine gd 3 ?_); refine bL 3 #[.int .i64 a1_0, .int .i64 a1_1, .int .i64 a1_2, .string a1_3, .slice A1_4 l1_4.length c1_4, .string a1_5] 35 ?_; intro gb411 w17 _ _ _) | ((with_reducible refine gate_callee (f := 99) rfl ?_); refine gD (some 7) Tryz.func99 (impl_within.calls (w := _) (h := A3.out)) ?_; intro w18 _) | (go_at_call 99; refine aD (impl_within.calls (w := _) (h := A5.out)) ?_; intro w19 _) | (go_at_call 48; refine aC (impl_QcOk.calls (hr1_2 := pC HR1_4) (hc1_2 := HC1_4.out) (w := _) (h := A7.out)) ?_; intro w20 _))
   go_ret
   exact ⟨y0_19, UpW.out⟩
  replace c6 := Bool.eq_false_iff.mpr c6; subst c6
  rw [if_neg (show ¬ (false = true) by decide)] at H
  obtain rfl := Option.some.inj H
  go_enter Tryz.func72, Tryz.ntmps72
  go_wp2_with (first | ((with_reducible refine gd 2 ?_); refine bL 2 #[.int .i64 a0_0, .int .i64 a0_1] 38 ?_; intro gb410 w21 _ _ _) | ((with_reducible refine gd 3 ?_); refine bL 3 #[.int .i64 a1_0, .int .i64 a1_1, .int .i64 a1_2, .string a1_3, .slice A1_4 l1_4.length c1_4, .string a1_5] 35 ?_; intro gb411 w22 _ _ _) | ((with_reducible refine gate_callee (f := 99) rfl ?_); refine gD (some 7) Tryz.func99 (impl_within.calls (w := _) (h := A3.out)) ?_; intro w23 _) | (go_at_call 99; refine aD (impl_within.calls (w := _) (h := A5.out)) ?_; intro w24 _))
  go_ret
  exact ⟨y0_19, UpW.out⟩
 replace c4 := Bool.eq_false_iff.mpr c4; subst c4
 rw [if_neg (show ¬ (false = true) by decide)] at H
 obtain rfl := Option.some.inj H
 go_enter Tryz.func72, Tryz.ntmps72
 go_wp2_with (first | ((with_reducible refine gd 2 ?_); refine bL 2 #[.int .i64 a0_0, .int .i64 a0_1] 38 ?_; intro gb410 w25 _ _ _) | ((with_reducible refine gd 3 ?_); refine bL 3 #[.int .i64 a1_0, .int .i64 a1_1, .int .i64 a1_2, .string a1_3, .slice A1_4 l1_4.length c1_4, .string a1_5] 35 ?_; intro gb411 w26 _ _ _) | ((with_reducible refine gate_callee (f := 99) rfl ?_); refine gD (some 7) Tryz.func99 (impl_within.calls (w := _) (h := A3.out)) ?_; intro w27 _))
 go_ret
 exact ⟨y0_19, UpW.out⟩

/-! ### bytealg_LastIndexByteString: function 131 -/
def bytealg_LastIndexByteString.l0 : Nat → ByteArray → Int → Int → Option (Int)
 | 0, _, _, _ => none
 | k + 1, x0, x1, x5 => if x5 ≥ 0 then (if 0 ≤ x5 then (if x5 < (x0.size : Int) then (if (bt x0 x5) = x1 then (some x5) else (bytealg_LastIndexByteString.l0 k x0 x1 (wrap64 (x5 - 1)))) else (none)) else (none)) else (some (-1))
def bytealg_LastIndexByteString.f (k : Nat) (a0 : ByteArray) (a1 : Int) : Option (Int) := bytealg_LastIndexByteString.l0 k a0 a1 (wrap64 ((a0.size : Int) - 1))
theorem bytealg_LastIndexByteString.mono_l : ∀ k, (∀ y0 y1 y2, LeO (bytealg_LastIndexByteString.l0 k y0 y1 y2) (bytealg_LastIndexByteString.l0 (k + 1) y0 y1 y2))
 | 0 => fun _ _ _ r h => by simp [bytealg_LastIndexByteString.l0] at h
 | k + 1 => by
  have ih0 := bytealg_LastIndexByteString.mono_l k
  intro y0 y1 y2
  unfold bytealg_LastIndexByteString.l0
  repeat' first | (with_reducible exact ih0 _ _ _) | (with_reducible exact LeO.refl _) | (with_reducible exact LeO.none _) | (with_reducible refine LeO.ite ?_ ?_) | (with_reducible refine LeO.bind ?_ (fun _ => ?_))
theorem bytealg_LastIndexByteString.mono : ∀ a0 a1 k, LeO (bytealg_LastIndexByteString.f k a0 a1) (bytealg_LastIndexByteString.f (k + 1) a0 a1) := by
 intro a0 a1 k
 have ih0 := bytealg_LastIndexByteString.mono_l k
 unfold bytealg_LastIndexByteString.f
 repeat' first | (with_reducible exact ih0 _ _ _) | (with_reducible exact LeO.refl _) | (with_reducible exact LeO.none _) | (with_reducible refine LeO.ite ?_ ?_) | (with_reducible refine LeO.bind ?_ (fun _ => ?_))
set_option maxHeartbeats 8000000 in
set_option maxRecDepth 100000 in
theorem bytealg_LastIndexByteString.calls (k : Nat) (a0 : ByteArray) (a1 : Int) (r : Int) (w : World) (h : bytealg_LastIndexByteString.f k a0 a1 = some r) :
  Calls Tryz.prog 131 #[.string a0, .int .u8 a1] w fun e w' => e = .returned (.int .i64 r) ∧ Drawn0 w w' := by
 have H : (bytealg_LastIndexByteString.l0 k a0 a1 (wrap64 ((a0.size : Int) - 1))) = some r := h; clear h; have H' := Aside0.mk H; clear H
 go_enter Tryz.func131, Tryz.ntmps131
 go_wp2
 go_loopg [5] k (fun kq v5 w' => ∃ (x5_1 : Int), v5 = .int .i64 x5_1 ∧ Aside0 (bytealg_LastIndexByteString.l0 kq a0 a1 x5_1 = some r) ∧ Aside0 (kq ≤ k) ∧ Drawn0 w w')
 case atStart => exact ⟨(wrap64 ((a0.size : Int) - 1)), y0_19, H', ⟨Nat.le_refl _⟩, y0_17⟩
 case round =>
  clear H'
  try clear c1
  try clear p2
  obtain ⟨x5_1, rfl, HA, HK1, ⟨m1, rfl⟩⟩ := hrel; cases gk with
  | zero => exact absurd HA.out (by simp [bytealg_LastIndexByteString.l0])
  | succ k1 =>
   have H := HA.out; clear HA
   simp only [bytealg_LastIndexByteString.l0] at H
   by_cases c3 : x5_1 ≥ 0
   ·
    rw [if_pos c3] at H
    have c3b0 : decide (0 ≤ x5_1) = true := decide_eq_true c3; clear c3
    by_cases c4 : 0 ≤ x5_1
    rotate_left
    ·
     rw [if_neg c4] at H
     exact absurd H (by simp)
    rw [if_pos c4] at H
    have c4b0 : decide (0 ≤ x5_1) = true := decide_eq_true c4; clear c4
    by_cases c5 : x5_1 < (a0.size : Int)
    rotate_left
    ·
     rw [if_neg c5] at H
     exact absurd H (by simp)
    rw [if_pos c5] at H
    have c5b0 : decide (x5_1 < (a0.size : Int)) = true := decide_eq_true c5; clear c5
    by_cases c7 : (bt a0 x5_1) = a1
    ·
     rw [if_pos c7] at H
     have c7b0 : ((bt a0 x5_1) == a1) = true := beq_iff_eq.mpr c7; have c7b1 : ((bt a0 x5_1) != a1) = false := bne_eq_false_iff_eq.mpr c7; clear c7; obtain rfl := Option.some.inj H; have p6 : 0 ≤ (x5_1 : Int) := of_decide_eq_true y0_18; have q6 : x5_1 < (a0.size : Int) := of_decide_eq_true y0_18; have hx6 := bt_at a0 x5_1; replace p6 := eq_true p6; replace q6 := eq_true q6
     go_wp2
     go_ret
     exact ⟨y0_19, y0_17⟩
    rw [if_neg c7] at H
    have c7b0 : ((bt a0 x5_1) == a1) = false := beq_eq_false_iff_ne.mpr c7; have c7b1 : ((bt a0 x5_1) != a1) = true := bne_iff_ne.mpr c7; have H' := Aside0.mk H; clear H; have p6 : 0 ≤ (x5_1 : Int) := of_decide_eq_true y0_18; have q6 : x5_1 < (a0.size : Int) := of_decide_eq_true y0_18; have hx6 := bt_at a0 x5_1; replace p6 := eq_true p6; replace q6 := eq_true q6
    go_wp2
    go_roundg k1
    case measure => have := HK1.out; omega
    case rel => exact ⟨(wrap64 (x5_1 - 1)), y0_19, H', ⟨y0_21⟩, y0_17⟩
   rw [if_neg c3] at H
   have c3b0 : decide (0 ≤ x5_1) = false := decide_eq_false c3; clear c3; obtain rfl := Option.some.inj H
   go_wp2
   go_ret
   exact ⟨y0_19, y0_17⟩

/-! ### strings_LastIndexByte: function 105 -/
def strings_LastIndexByte.f (k : Nat) (a0 : ByteArray) (a1 : Int) : Option (Int) := (bytealg_LastIndexByteString.f k a0 a1).bind fun t416 => (some t416)
theorem strings_LastIndexByte.mono : ∀ a0 a1 k, LeO (strings_LastIndexByte.f k a0 a1) (strings_LastIndexByte.f (k + 1) a0 a1) := by
 intro a0 a1 k
 unfold strings_LastIndexByte.f
 repeat' first | (with_reducible exact bytealg_LastIndexByteString.mono _ _ _) | (with_reducible exact LeO.refl _) | (with_reducible exact LeO.none _) | (with_reducible refine LeO.ite ?_ ?_) | (with_reducible refine LeO.bind ?_ (fun _ => ?_))
set_option maxHeartbeats 8000000 in
set_option maxRecDepth 100000 in
theorem strings_LastIndexByte.calls (k : Nat) (a0 : ByteArray) (a1 : Int) (r : Int) (w : World) (h : strings_LastIndexByte.f k a0 a1 = some r) :
  Calls Tryz.prog 105 #[.string a0, .int .u8 a1] w fun e w' => e = .returned (.int .i64 r) ∧ Drawn0 w w' := by
 have H : ((bytealg_LastIndexByteString.f k a0 a1).bind fun t416 => (some t416)) = some r := h
 clear h; obtain ⟨t416, A30, H⟩ := Option.bind_eq_some_iff.mp H
 try dsimp only at H
 have A3 := Aside0.mk A30; clear A30; obtain rfl := Option.some.inj H
 go_enter Tryz.func105, Tryz.ntmps105
 go_wp2_with (first | ((with_reducible refine gate_callee (f := 131) rfl ?_); refine gB (some 7) Tryz.func131 #[.string a0, .int .u8 a1] ?_; (with_reducible refine (bytealg_LastIndexByteString.calls k a0 a1 t416 _ A3.out).mono ?_); rintro e w' ⟨rfl, ⟨nd, rfl⟩⟩; refine ⟨_, rfl, ?_⟩))
 go_ret
 exact ⟨y0_19, y0_17⟩

/-! ### impl_UpOf: function 73 -/
def impl_UpOf.f (k : Nat) (a0 : ByteArray) : Option (ByteArray) := (impl_NameOk.f k a0).bind fun t417 => (if t417 = true then (if a0.toList = ([] : List UInt8) then (some (⟨#[]⟩ : ByteArray)) else ((strings_LastIndexByte.f k a0 47).bind fun t418 => (if 0 ≤ t418 then (if t418 ≤ (a0.size : Int) then (some (a0.extract 0 (t418 : Int).toNat)) else (none)) else (none)))) else (some (⟨#[]⟩ : ByteArray)))
theorem impl_UpOf.mono : ∀ a0 k, LeO (impl_UpOf.f k a0) (impl_UpOf.f (k + 1) a0) := by
 intro a0 k
 unfold impl_UpOf.f
 repeat' first | (with_reducible exact impl_NameOk.mono _ _) | (with_reducible exact strings_LastIndexByte.mono _ _ _) | (with_reducible exact LeO.refl _) | (with_reducible exact LeO.none _) | (with_reducible refine LeO.ite ?_ ?_) | (with_reducible refine LeO.bind ?_ (fun _ => ?_))
set_option maxHeartbeats 8000000 in
set_option maxRecDepth 100000 in
theorem impl_UpOf.calls (k : Nat) (a0 : ByteArray) (r : ByteArray) (w : World) (h : impl_UpOf.f k a0 = some r) (hG : Glob w := by exact gG HG HB) :
  Calls Tryz.prog 73 #[.string a0] w fun e w' => e = .returned (.string r) ∧ Below w.heap.size w w' := by
 have HG := Aside0.mk hG; clear hG; have HB := Aside0.mk (Below.refl w.heap.size w)
 have H : ((impl_NameOk.f k a0).bind fun t417 => (if t417 = true then (if a0.toList = ([] : List UInt8) then (some (⟨#[]⟩ : ByteArray)) else ((strings_LastIndexByte.f k a0 47).bind fun t418 => (if 0 ≤ t418 then (if t418 ≤ (a0.size : Int) then (some (a0.extract 0 (t418 : Int).toNat)) else (none)) else (none)))) else (some (⟨#[]⟩ : ByteArray)))) = some r := h
 clear h; obtain ⟨t417, A20, H⟩ := Option.bind_eq_some_iff.mp H
 try dsimp only at H
 have A2 := Aside0.mk A20; clear A20
 by_cases c3 : t417 = true
 ·
  subst c3
  rw [if_pos rfl] at H
  by_cases c4 : a0.toList = ([] : List UInt8)
  ·
   rw [if_pos c4] at H
   have c4b0 : (a0.toList == ([] : List UInt8)) = true := beq_iff_eq.mpr c4; have c4b1 : (a0.toList != ([] : List UInt8)) = false := bne_eq_false_iff_eq.mpr c4; clear c4; obtain rfl := Option.some.inj H
   go_enter Tryz.func73, Tryz.ntmps73
   go_wp2_with (first | ((with_reducible refine gate_callee (f := 95) rfl ?_); refine gC (some 4) Tryz.func95 (impl_NameOk.calls (w := _) (h := A2.out)) ?_; intro w5 _))
   go_ret
   exact ⟨y0_19, UpW.out⟩
  rw [if_neg c4] at H
  have c4b0 : (a0.toList == ([] : List UInt8)) = false := beq_eq_false_iff_ne.mpr c4; have c4b1 : (a0.toList != ([] : List UInt8)) = true := bne_iff_ne.mpr c4; obtain ⟨t418, A60, H⟩ := Option.bind_eq_some_iff.mp H
  try dsimp only at H
  have A6 := Aside0.mk A60; clear A60
  by_cases c7 : 0 ≤ t418
  rotate_left
  ·
   rw [if_neg c7] at H
   exact absurd H (by simp)
  rw [if_pos c7] at H
  have c7b0 := eq_true c7; have c7b1 : decide (0 ≤ t418) = true := decide_eq_true c7; clear c7
  by_cases c8 : t418 ≤ (a0.size : Int)
  rotate_left
  ·
   rw [if_neg c8] at H
   exact absurd H (by simp)
  rw [if_pos c8] at H
  have c8b0 := eq_true c8; have c8b1 : decide (t418 ≤ (a0.size : Int)) = true := decide_eq_true c8; clear c8; obtain rfl := Option.some.inj H
  go_enter Tryz.func73, Tryz.ntmps73
  go_wp2_with (first | ((with_reducible refine gate_callee (f := 95) rfl ?_); refine gC (some 4) Tryz.func95 (impl_NameOk.calls (w := _) (h := A2.out)) ?_; intro w9 _) | ((with_reducible refine gate_callee (f := 105) rfl ?_); refine gD (some 12) Tryz.func105 (strings_LastIndexByte.calls (w := _) (h := A6.out)) ?_; intro w10 _))
  go_ret
  exact ⟨y0_19, UpW.out⟩
 replace c3 := Bool.eq_false_iff.mpr c3; subst c3
 rw [if_neg (show ¬ (false = true) by decide)] at H
 obtain rfl := Option.some.inj H
 go_enter Tryz.func73, Tryz.ntmps73
 go_wp2_with (first | ((with_reducible refine gate_callee (f := 95) rfl ?_); refine gC (some 4) Tryz.func95 (impl_NameOk.calls (w := _) (h := A2.out)) ?_; intro w11 _))
 go_ret
 exact ⟨y0_19, UpW.out⟩

/-! ### impl_Settles: function 74 -/
def impl_Settles.j0 : Nat → ByteArray → Bool → Option (ByteArray × Bool)
 | 0, _, _ => none
 | k + 1, x0, x47 => if x47 = true then (some ((⟨#[]⟩ : ByteArray), false)) else ((impl_UpOf.f k x0).bind fun t427 => ((impl_UpOf.f k t427).bind fun t428 => (some (t428, true))))
def impl_Settles.f (k : Nat) (a0 : ByteArray) : Option (ByteArray × Bool) := (impl_Steps.f k a0).bind fun bt419 => (if (bt419.1.length : Int) < 3 then (impl_Settles.j0 k a0 true) else (if 0 ≤ (wrap64 ((bt419.1.length : Int) - 1)) then (if (wrap64 ((bt419.1.length : Int) - 1)) < (bt419.1.length : Int) then (if 0 ≤ (wrap64 ((bt419.1.length : Int) - 2)) then (if (wrap64 ((bt419.1.length : Int) - 2)) < (bt419.1.length : Int) then (if ((rd_T112 bt419.1 (wrap64 ((bt419.1.length : Int) - 1))).f0) = (wrap64 (((rd_T112 bt419.1 (wrap64 ((bt419.1.length : Int) - 2))).f0) + 1)) then (if 0 ≤ (wrap64 ((bt419.1.length : Int) - 3)) then (if (wrap64 ((bt419.1.length : Int) - 3)) < (bt419.1.length : Int) then (impl_Settles.j0 k a0 (((rd_T112 bt419.1 (wrap64 ((bt419.1.length : Int) - 2))).f0) != (wrap64 (((rd_T112 bt419.1 (wrap64 ((bt419.1.length : Int) - 3))).f0) + 1)))) else (none)) else (none)) else (impl_Settles.j0 k a0 true)) else (none)) else (none)) else (none)) else (none)))
theorem impl_Settles.mono_l : ∀ k, (∀ y0 y1, LeO (impl_Settles.j0 k y0 y1) (impl_Settles.j0 (k + 1) y0 y1))
 | 0 => fun _ _ r h => by simp [impl_Settles.j0] at h
 | k + 1 => by
  have ih0 := impl_Settles.mono_l k
  intro y0 y1
  unfold impl_Settles.j0
  repeat' first | (with_reducible exact ih0 _ _) | (with_reducible exact impl_Steps.mono _ _) | (with_reducible exact impl_UpOf.mono _ _) | (with_reducible exact LeO.refl _) | (with_reducible exact LeO.none _) | (with_reducible refine LeO.ite ?_ ?_) | (with_reducible refine LeO.bind ?_ (fun _ => ?_))
theorem impl_Settles.mono : ∀ a0 k, LeO (impl_Settles.f k a0) (impl_Settles.f (k + 1) a0) := by
 intro a0 k
 have ih0 := impl_Settles.mono_l k
 unfold impl_Settles.f
 repeat' first | (with_reducible exact ih0 _ _) | (with_reducible exact impl_Steps.mono _ _) | (with_reducible exact impl_UpOf.mono _ _) | (with_reducible exact LeO.refl _) | (with_reducible exact LeO.none _) | (with_reducible refine LeO.ite ?_ ?_) | (with_reducible refine LeO.bind ?_ (fun _ => ?_))
set_option maxHeartbeats 8000000 in
set_option maxRecDepth 100000 in
theorem impl_Settles.calls (k : Nat) (a0 : ByteArray) (r1 : ByteArray) (r2 : Bool) (w : World) (h : impl_Settles.f k a0 = some (r1, r2)) (hG : Glob w := by exact gG HG HB) :
  Calls Tryz.prog 74 #[.string a0] w fun e w' => e = .returned (.tuple #[.string r1, .bool r2]) ∧ Below w.heap.size w w' := by
 have HG := Aside0.mk hG; clear hG; have HB := Aside0.mk (Below.refl w.heap.size w)
 have H : ((impl_Steps.f k a0).bind fun bt419 => (if (bt419.1.length : Int) < 3 then (impl_Settles.j0 k a0 true) else (if 0 ≤ (wrap64 ((bt419.1.length : Int) - 1)) then (if (wrap64 ((bt419.1.length : Int) - 1)) < (bt419.1.length : Int) then (if 0 ≤ (wrap64 ((bt419.1.length : Int) - 2)) then (if (wrap64 ((bt419.1.length : Int) - 2)) < (bt419.1.length : Int) then (if ((rd_T112 bt419.1 (wrap64 ((bt419.1.length : Int) - 1))).f0) = (wrap64 (((rd_T112 bt419.1 (wrap64 ((bt419.1.length : Int) - 2))).f0) + 1)) then (if 0 ≤ (wrap64 ((bt419.1.length : Int) - 3)) then (if (wrap64 ((bt419.1.length : Int) - 3)) < (bt419.1.length : Int) then (impl_Settles.j0 k a0 (((rd_T112 bt419.1 (wrap64 ((bt419.1.length : Int) - 2))).f0) != (wrap64 (((rd_T112 bt419.1 (wrap64 ((bt419.1.length : Int) - 3))).f0) + 1)))) else (none)) else (none)) else (impl_Settles.j0 k a0 true)) else (none)) else (none)) else (none)) else (none)))) = some (r1, r2) := h
 clear h; obtain ⟨⟨t419, t420⟩, A20, H⟩ := Option.bind_eq_some_iff.mp H
 try dsimp only at H
 have A2 := Aside0.mk A20; clear A20; have HC3 := Aside0.mk H; clear H
 go_enter Tryz.func74, Tryz.ntmps74
 go_upto_region 3 with (first | (go_at_call 90; (with_reducible refine (impl_Steps.calls k a0 t419 t420 _ A2.out).mono ?_); rintro e w4 ⟨v421, rfl, ho0, hb⟩; have HO422 := Aside0.mk (Kd.S_lower ho0 (below_size (bI HB.out))); replace HB := bs HB hb; (try clear hb); (try clear ho0); obtain ⟨Ao5, co5, eo5⟩ := Kd.S_slice HO422.out; subst eo5))
 repeat (go_quiet (first | (go_at_call 90; (with_reducible refine (impl_Steps.calls k a0 t419 t420 _ A2.out).mono ?_); rintro e w4 ⟨v421, rfl, ho0, hb⟩; have HO422 := Aside0.mk (Kd.S_lower ho0 (below_size (bI HB.out))); replace HB := bs HB hb; (try clear hb); (try clear ho0); obtain ⟨Ao5, co5, eo5⟩ := Kd.S_slice HO422.out; subst eo5)); go_upto_region 3 with (first | (go_at_call 90; (with_reducible refine (impl_Steps.calls k a0 t419 t420 _ A2.out).mono ?_); rintro e w4 ⟨v421, rfl, ho0, hb⟩; have HO422 := Aside0.mk (Kd.S_lower ho0 (below_size (bI HB.out))); replace HB := bs HB hb; (try clear hb); (try clear ho0); obtain ⟨Ao5, co5, eo5⟩ := Kd.S_slice HO422.out; subst eo5)))
 (try simp only [Act.put, List.setIfInBounds_toArray, List.set_cons_zero, List.set_cons_succ])
 go_cut [47] (fun v47 wc => ∃ (kq : Nat) (x47_2 : Bool), v47 = .bool x47_2 ∧ Aside0 (impl_Settles.j0 kq a0 x47_2 = some (r1, r2)) ∧ Aside0 (kq ≤ k) ∧ Aside0 (Below w.heap.size w wc))
 case first =>
  have H := HC3.out; clear HC3
  by_cases c6 : (t419.length : Int) < 3
  ·
   rw [if_pos c6] at H
   have c6b0 : decide ((t419.length : Int) < 3) = true := decide_eq_true c6
   have c6b1 : decide (t419.length < 3) = true := decide_eq_true (by omega)
   clear c6
   (first | rw [c6b0] | (simp only [i64_w, i32_w]; rw [c6b0]) | skip)
   have H' := Aside0.mk H; clear H
   go_wp2
   repeat (go_quiet (fail); try go_wp2)
   go_meet
   case rel => exact ⟨_, (true), y0_19, H', ⟨y0_20⟩, ⟨bI HB.out⟩⟩
  rw [if_neg c6] at H
  have c6b0 : decide ((t419.length : Int) < 3) = false := decide_eq_false c6
  have c6b1 : decide (t419.length < 3) = false := decide_eq_false (by omega)
  clear c6
  (first | rw [c6b0] | (simp only [i64_w, i32_w]; rw [c6b0]) | skip)
  obtain ⟨ji7, hji7⟩ : ∃ j_ : Int, (wrap64 ((t419.length : Int) - 1)) = j_ := ⟨_, rfl⟩
  replace H : (if 0 ≤ (ji7) then (if (ji7) < (t419.length : Int) then (if 0 ≤ (wrap64 ((t419.length : Int) - 2)) then (if (wrap64 ((t419.length : Int) - 2)) < (t419.length : Int) then (if ((rd_T112 t419 (ji7)).f0) = (wrap64 (((rd_T112 t419 (wrap64 ((t419.length : Int) - 2))).f0) + 1)) then (if 0 ≤ (wrap64 ((t419.length : Int) - 3)) then (if (wrap64 ((t419.length : Int) - 3)) < (t419.length : Int) then (impl_Settles.j0 k a0 (((rd_T112 t419 (wrap64 ((t419.length : Int) - 2))).f0) != (wrap64 (((rd_T112 t419 (wrap64 ((t419.length : Int) - 3))).f0) + 1)))) else (none)) else (none)) else (impl_Settles.j0 k a0 true)) else (none)) else (none)) else (none)) else (none)) = some (r1, r2) := by first | (rw [hji7] at H; exact H) | (simp only [hji7] at H ⊢; exact H)
  have hji7w : (IntKind.i64.wrap ((t419.length : Int) - 1)) = ji7 := (i64_w _).trans hji7
  by_cases c8 : 0 ≤ (ji7)
  rotate_left
  ·
   rw [if_neg c8] at H
   exact absurd H (by simp)
  rw [if_pos c8] at H
  have c8b0 : decide (0 ≤ (ji7)) = true := decide_eq_true c8; clear c8
  by_cases c9 : (ji7) < (t419.length : Int)
  rotate_left
  ·
   rw [if_neg c9] at H
   exact absurd H (by simp)
  rw [if_pos c9] at H
  have c9b0 : decide ((ji7) < (t419.length : Int)) = true := decide_eq_true c9; clear c9; obtain ⟨ji10, hji10⟩ : ∃ j_ : Int, (wrap64 ((t419.length : Int) - 2)) = j_ := ⟨_, rfl⟩
  replace H : (if 0 ≤ (ji10) then (if (ji10) < (t419.length : Int) then (if ((rd_T112 t419 (ji7)).f0) = (wrap64 (((rd_T112 t419 (ji10)).f0) + 1)) then (if 0 ≤ (wrap64 ((t419.length : Int) - 3)) then (if (wrap64 ((t419.length : Int) - 3)) < (t419.length : Int) then (impl_Settles.j0 k a0 (((rd_T112 t419 (ji10)).f0) != (wrap64 (((rd_T112 t419 (wrap64 ((t419.length : Int) - 3))).f0) + 1)))) else (none)) else (none)) else (impl_Settles.j0 k a0 true)) else (none)) else (none)) = some (r1, r2) := by first | (rw [hji10] at H; exact H) | (simp only [hji10] at H ⊢; exact H)
  have hji10w : (IntKind.i64.wrap ((t419.length : Int) - 2)) = ji10 := (i64_w _).trans hji10
  by_cases c11 : 0 ≤ (ji10)
  rotate_left
  ·
   rw [if_neg c11] at H
   exact absurd H (by simp)
  rw [if_pos c11] at H
  have c11b0 : decide (0 ≤ (ji10)) = true := decide_eq_true c11; clear c11
  by_cases c12 : (ji10) < (t419.length : Int)
  rotate_left
  ·
   rw [if_neg c12] at H
   exact absurd H (by simp)
  rw [if_pos c12] at H
  have c12b0 : decide ((ji10) < (t419.length : Int)) = true := decide_eq_true c12; clear c12
  by_cases c13 : ((rd_T112 t419 (ji7)).f0) = (wrap64 (((rd_T112 t419 (ji10)).f0) + 1))
  ·
   rw [if_pos c13] at H
   have c13b0 : (((rd_T112 t419 (ji7)).f0) == (wrap64 (((rd_T112 t419 (ji10)).f0) + 1))) = true := beq_iff_eq.mpr c13; have c13b1 : (((rd_T112 t419 (ji7)).f0) != (wrap64 (((rd_T112 t419 (ji10)).f0) + 1))) = false := bne_eq_false_iff_eq.mpr c13; clear c13; obtain ⟨ji14, hji14⟩ : ∃ j_ : Int, (wrap64 ((t419.length : Int) - 3)) = j_ := ⟨_, rfl⟩
   replace H : (if 0 ≤ (ji14) then (if (ji14) < (t419.length : Int) then (impl_Settles.j0 k a0 (((rd_T112 t419 (ji10)).f0) != (wrap64 (((rd_T112 t419 (ji14)).f0) + 1)))) else (none)) else (none)) = some (r1, r2) := by first | (rw [hji14] at H; exact H) | (simp only [hji14] at H ⊢; exact H)
   have hji14w : (IntKind.i64.wrap ((t419.length : Int) - 3)) = ji14 := (i64_w _).trans hji14
   by_cases c15 : 0 ≤ (ji14)
   rotate_left
   ·
    rw [if_neg c15] at H
    exact absurd H (by simp)
   rw [if_pos c15] at H
   have c15b0 : decide (0 ≤ (ji14)) = true := decide_eq_true c15; clear c15
   by_cases c16 : (ji14) < (t419.length : Int)
   rotate_left
   ·
    rw [if_neg c16] at H
    exact absurd H (by simp)
   rw [if_pos c16] at H
   have c16b0 : decide ((ji14) < (t419.length : Int)) = true := decide_eq_true c16; clear c16; have H' := Aside0.mk H; clear H; have p423 : 0 ≤ ((ji7) : Int) := of_decide_eq_true y0_18; have q423 : (ji7) < (t419.length : Int) := of_decide_eq_true y0_18; obtain ⟨ad423, A423_1, c423_1, e423, hx423_0, hx423_1, hl423_1, hi423_1⟩ := at_T112 (Kd.S_reads' HO422.out).2.2 (ji7) p423 q423; cases e423
   obtain ⟨ce423, hce423, hMe423, hcc423⟩ := Kd.S_get HO422.out z112 (ji7) p423 (by first | exact q423 | exact of_decide_eq_true y0_18 | (have e_ := (Kd.S_reads' HO422.out).1; omega))
   obtain ⟨ve423_1, rfl, ge423_1⟩ := k112_openM hMe423; have hv423_1 := hcc423 1 _ rfl
   rw [add_field _ _ 1 (by omega)] at hv423_1
   replace hv423_1 := Option.some.inj (hv423_1.symm.trans hx423_1)
   rw [hv423_1] at ge423_1
   have HL423_1 := Aside0.mk (show Kd.R k99 99 _ _ _ _ ((rd_T112 t419 (ji7)).f1) from ge423_1)
   clear hv423_1 ge423_1; clear hcc423 hce423; have HR423_1 := Aside0.mk hi423_1; have HC423_1 := Aside0.mk hl423_1; clear hi423_1 hl423_1; replace p423 := eq_true p423; replace q423 := eq_true q423; have p424 : 0 ≤ ((ji10) : Int) := of_decide_eq_true y0_18; have q424 : (ji10) < (t419.length : Int) := of_decide_eq_true y0_18; obtain ⟨ad424, A424_1, c424_1, e424, hx424_0, hx424_1, hl424_1, hi424_1⟩ := at_T112 (Kd.S_reads' HO422.out).2.2 (ji10) p424 q424
   obtain rfl : ad423 = ad424 := (by injection e424)
   obtain ⟨ce424, hce424, hMe424, hcc424⟩ := Kd.S_get HO422.out z112 (ji10) p424 (by first | exact q424 | exact of_decide_eq_true y0_18 | (have e_ := (Kd.S_reads' HO422.out).1; omega))
   obtain ⟨ve424_1, rfl, ge424_1⟩ := k112_openM hMe424; have hv424_1 := hcc424 1 _ rfl
   rw [add_field _ _ 1 (by omega)] at hv424_1
   replace hv424_1 := Option.some.inj (hv424_1.symm.trans hx424_1)
   rw [hv424_1] at ge424_1
   have HL424_1 := Aside0.mk (show Kd.R k99 99 _ _ _ _ ((rd_T112 t419 (ji10)).f1) from ge424_1)
   clear hv424_1 ge424_1; clear hcc424 hce424; have HR424_1 := Aside0.mk hi424_1; have HC424_1 := Aside0.mk hl424_1; clear hi424_1 hl424_1; replace p424 := eq_true p424; replace q424 := eq_true q424; have p425 : 0 ≤ ((ji10) : Int) := of_decide_eq_true y0_18; have q425 : (ji10) < (t419.length : Int) := of_decide_eq_true y0_18; obtain ⟨ad425, A425_1, c425_1, e425, hx425_0, hx425_1, hl425_1, hi425_1⟩ := at_T112 (Kd.S_reads' HO422.out).2.2 (ji10) p425 q425
   obtain rfl : ad423 = ad425 := (by injection e425)
   obtain ⟨ce425, hce425, hMe425, hcc425⟩ := Kd.S_get HO422.out z112 (ji10) p425 (by first | exact q425 | exact of_decide_eq_true y0_18 | (have e_ := (Kd.S_reads' HO422.out).1; omega))
   obtain ⟨ve425_1, rfl, ge425_1⟩ := k112_openM hMe425; have hv425_1 := hcc425 1 _ rfl
   rw [add_field _ _ 1 (by omega)] at hv425_1
   replace hv425_1 := Option.some.inj (hv425_1.symm.trans hx425_1)
   rw [hv425_1] at ge425_1
   have HL425_1 := Aside0.mk (show Kd.R k99 99 _ _ _ _ ((rd_T112 t419 (ji10)).f1) from ge425_1)
   clear hv425_1 ge425_1; clear hcc425 hce425; have HR425_1 := Aside0.mk hi425_1; have HC425_1 := Aside0.mk hl425_1; clear hi425_1 hl425_1; replace p425 := eq_true p425; replace q425 := eq_true q425; have ea_ := Option.some.inj (hx424_1.symm.trans hx425_1)
   injection ea_ with ea_ en_ ec_
   subst ea_; subst ec_; clear en_; have p426 : 0 ≤ ((ji14) : Int) := of_decide_eq_true y0_18; have q426 : (ji14) < (t419.length : Int) := of_decide_eq_true y0_18; obtain ⟨ad426, A426_1, c426_1, e426, hx426_0, hx426_1, hl426_1, hi426_1⟩ := at_T112 (Kd.S_reads' HO422.out).2.2 (ji14) p426 q426
   obtain rfl : ad423 = ad426 := (by injection e426)
   obtain ⟨ce426, hce426, hMe426, hcc426⟩ := Kd.S_get HO422.out z112 (ji14) p426 (by first | exact q426 | exact of_decide_eq_true y0_18 | (have e_ := (Kd.S_reads' HO422.out).1; omega))
   obtain ⟨ve426_1, rfl, ge426_1⟩ := k112_openM hMe426; have hv426_1 := hcc426 1 _ rfl
   rw [add_field _ _ 1 (by omega)] at hv426_1
   replace hv426_1 := Option.some.inj (hv426_1.symm.trans hx426_1)
   rw [hv426_1] at ge426_1
   have HL426_1 := Aside0.mk (show Kd.R k99 99 _ _ _ _ ((rd_T112 t419 (ji14)).f1) from ge426_1)
   clear hv426_1 ge426_1; clear hcc426 hce426; have HR426_1 := Aside0.mk hi426_1; have HC426_1 := Aside0.mk hl426_1; clear hi426_1 hl426_1; replace p426 := eq_true p426; replace q426 := eq_true q426
   go_wp2
   repeat (go_quiet (fail); try go_wp2)
   go_meet
   case rel => exact ⟨_, ((((rd_T112 t419 (ji10)).f0) != (wrap64 (((rd_T112 t419 (ji14)).f0) + 1)))), (by first | rfl | (simp; done) | (simp only [← hji10, ← hji14] <;> (first | rfl | simp)) | (simp [*]; done)), H', ⟨y0_20⟩, ⟨bI HB.out⟩⟩
  rw [if_neg c13] at H
  have c13b0 : (((rd_T112 t419 (ji7)).f0) == (wrap64 (((rd_T112 t419 (ji10)).f0) + 1))) = false := beq_eq_false_iff_ne.mpr c13; have c13b1 : (((rd_T112 t419 (ji7)).f0) != (wrap64 (((rd_T112 t419 (ji10)).f0) + 1))) = true := bne_iff_ne.mpr c13; have H' := Aside0.mk H; clear H; have p423 : 0 ≤ ((ji7) : Int) := of_decide_eq_true y0_18; have q423 : (ji7) < (t419.length : Int) := of_decide_eq_true y0_18; obtain ⟨ad423, A423_1, c423_1, e423, hx423_0, hx423_1, hl423_1, hi423_1⟩ := at_T112 (Kd.S_reads' HO422.out).2.2 (ji7) p423 q423; cases e423
  obtain ⟨ce423, hce423, hMe423, hcc423⟩ := Kd.S_get HO422.out z112 (ji7) p423 (by first | exact q423 | exact of_decide_eq_true y0_18 | (have e_ := (Kd.S_reads' HO422.out).1; omega))
  obtain ⟨ve423_1, rfl, ge423_1⟩ := k112_openM hMe423; have hv423_1 := hcc423 1 _ rfl
  rw [add_field _ _ 1 (by omega)] at hv423_1
  replace hv423_1 := Option.some.inj (hv423_1.symm.trans hx423_1)
  rw [hv423_1] at ge423_1
  have HL423_1 := Aside0.mk (show Kd.R k99 99 _ _ _ _ ((rd_T112 t419 (ji7)).f1) from ge423_1)
  clear hv423_1 ge423_1; clear hcc423 hce423; have HR423_1 := Aside0.mk hi423_1; have HC423_1 := Aside0.mk hl423_1; clear hi423_1 hl423_1; replace p423 := eq_true p423; replace q423 := eq_true q423; have p424 : 0 ≤ ((ji10) : Int) := of_decide_eq_true y0_18; have q424 : (ji10) < (t419.length : Int) := of_decide_eq_true y0_18; obtain ⟨ad424, A424_1, c424_1, e424, hx424_0, hx424_1, hl424_1, hi424_1⟩ := at_T112 (Kd.S_reads' HO422.out).2.2 (ji10) p424 q424
  obtain rfl : ad423 = ad424 := (by injection e424)
  obtain ⟨ce424, hce424, hMe424, hcc424⟩ := Kd.S_get HO422.out z112 (ji10) p424 (by first | exact q424 | exact of_decide_eq_true y0_18 | (have e_ := (Kd.S_reads' HO422.out).1; omega))
  obtain ⟨ve424_1, rfl, ge424_1⟩ := k112_openM hMe424; have hv424_1 := hcc424 1 _ rfl
  rw [add_field _ _ 1 (by omega)] at hv424_1
  replace hv424_1 := Option.some.inj (hv424_1.symm.trans hx424_1)
  rw [hv424_1] at ge424_1
  have HL424_1 := Aside0.mk (show Kd.R k99 99 _ _ _ _ ((rd_T112 t419 (ji10)).f1) from ge424_1)
  clear hv424_1 ge424_1; clear hcc424 hce424; have HR424_1 := Aside0.mk hi424_1; have HC424_1 := Aside0.mk hl424_1; clear hi424_1 hl424_1; replace p424 := eq_true p424; replace q424 := eq_true q424
  go_wp2
  repeat (go_quiet (fail); try go_wp2)
  go_meet
  case rel => exact ⟨_, (true), y0_19, H', ⟨y0_20⟩, ⟨bI HB.out⟩⟩
 case rest =>
  clear HC3
  try clear c1
  try clear p2
  try clear c4
  try clear p4
  try clear q4
  try clear hx4
  try clear c6
  try clear c6b0
  try clear c6b1
  try clear p6
  try clear c7
  try clear c8
  try clear c8b0
  try clear c9
  try clear c9b0
  try clear c11
  try clear c11b0
  try clear c12
  try clear c12b0
  try clear c13
  try clear c13b0
  try clear c13b1
  try clear c15
  try clear c15b0
  try clear c16
  try clear c16b0
  try clear hx423_0
  try clear hx423_1
  try clear hx424_0
  try clear hx424_1
  try clear hx425_0
  try clear hx425_1
  try clear hx426_0
  try clear hx426_1
  try clear p423
  try clear p424
  try clear p425
  try clear p426
  try clear q423
  try clear q424
  try clear q425
  try clear q426
  obtain ⟨kq, x47_2, rfl, HA, HJ2, HB⟩ := hcut; cases kq with
  | zero => exact absurd HA.out (by simp [impl_Settles.j0])
  | succ kj2 =>
   have H := HA.out; clear HA
   simp only [impl_Settles.j0] at H
   by_cases c17 : x47_2 = true
   ·
    subst c17
    rw [if_pos rfl] at H
    simp only [Option.some.injEq, Prod.mk.injEq] at H
    obtain ⟨rfl, rfl⟩ := H
    go_wp2
    repeat (go_quiet (fail); try go_wp2)
    go_ret2
    exact ⟨y0_14, bI HB.out⟩
   replace c17 := Bool.eq_false_iff.mpr c17; subst c17
   rw [if_neg (show ¬ (false = true) by decide)] at H
   obtain ⟨t427, A180, H⟩ := Option.bind_eq_some_iff.mp H
   try dsimp only at H
   have A18 := Aside0.mk A180; clear A180; obtain ⟨t428, A190, H⟩ := Option.bind_eq_some_iff.mp H
   try dsimp only at H
   have A19 := Aside0.mk A190; clear A190
   simp only [Option.some.injEq, Prod.mk.injEq] at H
   obtain ⟨rfl, rfl⟩ := H
   go_wp2_with (first | (go_at_call 73; (with_reducible refine (impl_UpOf.calls kj2 a0 t427 _ A18.out).mono ?_); rintro e w20 ⟨rfl, hb⟩; replace HB := bs HB hb; (try clear hb); (try clear hb2); (try clear hk); (try clear hi)) | (go_at_call 73; (with_reducible refine (impl_UpOf.calls kj2 t427 t428 _ A19.out).mono ?_); rintro e w21 ⟨rfl, hb⟩; replace HB := bs HB hb; (try clear hb); (try clear hb2); (try clear hk); (try clear hi)))
   repeat (go_quiet (first | (go_at_call 73; (with_reducible refine (impl_UpOf.calls kj2 a0 t427 _ A18.out).mono ?_); rintro e w20 ⟨rfl, hb⟩; replace HB := bs HB hb; (try clear hb); (try clear hb2); (try clear hk); (try clear hi)) | (go_at_call 73; (with_reducible refine (impl_UpOf.calls kj2 t427 t428 _ A19.out).mono ?_); rintro e w21 ⟨rfl, hb⟩; replace HB := bs HB hb; (try clear hb); (try clear hb2); (try clear hk); (try clear hi))); try go_wp2_with (first | (go_at_call 73; (with_reducible refine (impl_UpOf.calls kj2 a0 t427 _ A18.out).mono ?_); rintro e w20 ⟨rfl, hb⟩; replace HB := bs HB hb; (try clear hb); (try clear hb2); (try clear hk); (try clear hi)) | (go_at_call 73; (with_reducible refine (impl_UpOf.calls kj2 t427 t428 _ A19.out).mono ?_); rintro e w21 ⟨rfl, hb⟩; replace HB := bs HB hb; (try clear hb); (try clear hb2); (try clear hk); (try clear hi))))
   go_ret2
   exact ⟨y0_14, bI HB.out⟩

/-! ### stringslite_HasPrefix: function 132 -/
def stringslite_HasPrefix.f (a0 : ByteArray) (a1 : ByteArray) : Option (Bool) := if (a0.size : Int) ≥ (a1.size : Int) then (if 0 ≤ (a1.size : Int) then (if (a1.size : Int) ≤ (a0.size : Int) then (some ((a0.extract 0 ((a1.size : Int) : Int).toNat).toList == a1.toList)) else (none)) else (none)) else (some false)
set_option maxHeartbeats 8000000 in
set_option maxRecDepth 100000 in
theorem stringslite_HasPrefix.calls (a0 : ByteArray) (a1 : ByteArray) (r : Bool) (w : World) (h : stringslite_HasPrefix.f a0 a1 = some r) :
  Calls Tryz.prog 132 #[.string a0, .string a1] w fun e w' => e = .returned (.bool r) ∧ Drawn0 w w' := by
 have H : (if (a0.size : Int) ≥ (a1.size : Int) then (if 0 ≤ (a1.size : Int) then (if (a1.size : Int) ≤ (a0.size : Int) then (some ((a0.extract 0 ((a1.size : Int) : Int).toNat).toList == a1.toList)) else (none)) else (none)) else (some false)) = some r := h; clear h
 by_cases c3 : (a0.size : Int) ≥ (a1.size : Int)
 ·
  rw [if_pos c3] at H
  have c3b0 : decide ((a1.size : Int) ≤ (a0.size : Int)) = true := decide_eq_true c3; have c3b1 : decide (a1.size ≤ a0.size) = true := decide_eq_true (Int.ofNat_le.mp c3); clear c3
  by_cases c4 : 0 ≤ (a1.size : Int)
  rotate_left
  ·
   rw [if_neg c4] at H
   exact absurd H (by simp)
  rw [if_pos c4] at H
  have c4b0 := eq_true c4; have c4b1 : decide (0 ≤ (a1.size : Int)) = true := decide_eq_true c4; clear c4
  by_cases c5 : (a1.size : Int) ≤ (a0.size : Int)
  rotate_left
  ·
   rw [if_neg c5] at H
   exact absurd H (by simp)
  rw [if_pos c5] at H
  have c5b0 := eq_true c5; have c5b1 : decide ((a1.size : Int) ≤ (a0.size : Int)) = true := decide_eq_true c5; clear c5; obtain rfl := Option.some.inj H
  go_enter Tryz.func132, Tryz.ntmps132
  go_wp2
  go_ret
  exact ⟨y0_19, y0_17⟩
 rw [if_neg c3] at H
 have c3b0 : decide ((a1.size : Int) ≤ (a0.size : Int)) = false := decide_eq_false c3
 have c3b1 : decide (a1.size ≤ a0.size) = false := decide_eq_false (fun h => c3 (Int.ofNat_le.mpr h))
 clear c3; obtain rfl := Option.some.inj H
 go_enter Tryz.func132, Tryz.ntmps132
 go_wp2
 go_ret
 exact ⟨y0_19, y0_17⟩

/-! ### strings_HasPrefix: function 106 -/
def strings_HasPrefix.f (a0 : ByteArray) (a1 : ByteArray) : Option (Bool) := (stringslite_HasPrefix.f a0 a1).bind fun t429 => (some t429)
set_option maxHeartbeats 8000000 in
set_option maxRecDepth 100000 in
theorem strings_HasPrefix.calls (a0 : ByteArray) (a1 : ByteArray) (r : Bool) (w : World) (h : strings_HasPrefix.f a0 a1 = some r) :
  Calls Tryz.prog 106 #[.string a0, .string a1] w fun e w' => e = .returned (.bool r) ∧ Drawn0 w w' := by
 have H : ((stringslite_HasPrefix.f a0 a1).bind fun t429 => (some t429)) = some r := h
 clear h; obtain ⟨t429, A30, H⟩ := Option.bind_eq_some_iff.mp H
 try dsimp only at H
 have A3 := Aside0.mk A30; clear A30; obtain rfl := Option.some.inj H
 go_enter Tryz.func106, Tryz.ntmps106
 go_wp2_with (first | ((with_reducible refine gate_callee (f := 132) rfl ?_); refine gB (some 7) Tryz.func132 #[.string a0, .string a1] ?_; (with_reducible refine (stringslite_HasPrefix.calls a0 a1 t429 _ A3.out).mono ?_); rintro e w' ⟨rfl, ⟨nd, rfl⟩⟩; refine ⟨_, rfl, ?_⟩))
 go_ret
 exact ⟨y0_19, y0_17⟩

/-! ### impl_Extends: function 75 -/
theorem bt_size_impl_Extends (s t : ByteArray) : ∀ h : t.size < s.size, (((s[t.size]'h).toNat : Nat) : Int) = bt s (t.size : Int) := fun h => by
 unfold bt
 rw [dif_pos (show ((t.size : Int)).toNat < s.size by simpa using h)]
 rfl
def impl_Extends.f (k : Nat) (a0 : ByteArray) (a1 : ByteArray) : Option (Bool) := (impl_NameOk.f k a0).bind fun t430 => (if t430 = true then ((impl_NameOk.f k a1).bind fun t431 => (if t431 = true then ((strings_HasPrefix.f a0 a1).bind fun t432 => (if t432 = true then (if (a0.size : Int) = (a1.size : Int) then (some true) else (if 0 ≤ (a1.size : Int) then (if (a1.size : Int) < (a0.size : Int) then (some ((bt a0 (a1.size : Int)) == 47)) else (none)) else (none))) else (some false))) else (some false))) else (some false))
theorem impl_Extends.mono : ∀ a0 a1 k, LeO (impl_Extends.f k a0 a1) (impl_Extends.f (k + 1) a0 a1) := by
 intro a0 a1 k
 unfold impl_Extends.f
 repeat' first | (with_reducible exact impl_NameOk.mono _ _) | (with_reducible exact LeO.refl _) | (with_reducible exact LeO.none _) | (with_reducible refine LeO.ite ?_ ?_) | (with_reducible refine LeO.bind ?_ (fun _ => ?_))
set_option maxHeartbeats 8000000 in
set_option maxRecDepth 100000 in
theorem impl_Extends.calls (k : Nat) (a0 : ByteArray) (a1 : ByteArray) (r : Bool) (w : World) (h : impl_Extends.f k a0 a1 = some r) (hG : Glob w := by exact gG HG HB) :
  Calls Tryz.prog 75 #[.string a0, .string a1] w fun e w' => e = .returned (.bool r) ∧ Below w.heap.size w w' := by
 have HG := Aside0.mk hG; clear hG; have HB := Aside0.mk (Below.refl w.heap.size w); have hxs := bt_size_impl_Extends a0 a1
 have H : ((impl_NameOk.f k a0).bind fun t430 => (if t430 = true then ((impl_NameOk.f k a1).bind fun t431 => (if t431 = true then ((strings_HasPrefix.f a0 a1).bind fun t432 => (if t432 = true then (if (a0.size : Int) = (a1.size : Int) then (some true) else (if 0 ≤ (a1.size : Int) then (if (a1.size : Int) < (a0.size : Int) then (some ((bt a0 (a1.size : Int)) == 47)) else (none)) else (none))) else (some false))) else (some false))) else (some false))) = some r := h
 clear h; obtain ⟨t430, A30, H⟩ := Option.bind_eq_some_iff.mp H
 try dsimp only at H
 have A3 := Aside0.mk A30; clear A30
 by_cases c4 : t430 = true
 ·
  subst c4
  rw [if_pos rfl] at H
  obtain ⟨t431, A50, H⟩ := Option.bind_eq_some_iff.mp H
  try dsimp only at H
  have A5 := Aside0.mk A50; clear A50
  by_cases c6 : t431 = true
  ·
   subst c6
   rw [if_pos rfl] at H
   obtain ⟨t432, A70, H⟩ := Option.bind_eq_some_iff.mp H
   try dsimp only at H
   have A7 := Aside0.mk A70; clear A70
   by_cases c8 : t432 = true
   ·
    subst c8
    rw [if_pos rfl] at H
    by_cases c9 : (a0.size : Int) = (a1.size : Int)
    ·
     rw [if_pos c9] at H
     have c9b0 : ((a0.size : Int) == (a1.size : Int)) = true := beq_iff_eq.mpr c9; have c9b1 : ((a0.size : Int) != (a1.size : Int)) = false := bne_eq_false_iff_eq.mpr c9
     have c9b2 : (a0.size == a1.size) = true := by first | simpa using c9 | (simp at c9 ⊢; omega)
     clear c9; obtain rfl := Option.some.inj H
     go_enter Tryz.func75, Tryz.ntmps75
     go_wp2_with (first | ((with_reducible refine gate_callee (f := 95) rfl ?_); refine gB (some 6) Tryz.func95 #[.string a0] ?_; (with_reducible refine (impl_NameOk.calls k a0 true _ A3.out).mono ?_); rintro e w10 ⟨rfl, hb⟩; refine ⟨_, rfl, ?_⟩; replace HB := bs HB hb; (try clear hb); (try clear hb2); (try clear hk); (try clear hi)) | (go_at_call 95; (with_reducible refine (impl_NameOk.calls k a1 true _ A5.out).mono ?_); rintro e w11 ⟨rfl, hb⟩; replace HB := bs HB hb; (try clear hb); (try clear hb2); (try clear hk); (try clear hi)) | (go_at_call 106; (with_reducible refine (strings_HasPrefix.calls a0 a1 true _ A7.out).mono ?_); rintro e w' ⟨rfl, ⟨nd, rfl⟩⟩))
     go_ret
     exact ⟨y0_14, bI HB.out⟩
    rw [if_neg c9] at H
    have c9b0 : ((a0.size : Int) == (a1.size : Int)) = false := beq_eq_false_iff_ne.mpr c9; have c9b1 : ((a0.size : Int) != (a1.size : Int)) = true := bne_iff_ne.mpr c9
    have c9b2 : (a0.size == a1.size) = false := by first | simpa using c9 | (simp at c9 ⊢; omega)
    by_cases c12 : 0 ≤ (a1.size : Int)
    rotate_left
    ·
     rw [if_neg c12] at H
     exact absurd H (by simp)
    rw [if_pos c12] at H
    have c12b0 : decide (0 ≤ (a1.size : Int)) = true := decide_eq_true c12
    have c12b1 : decide (0 ≤ a1.size) = true := decide_eq_true (by omega)
    clear c12
    by_cases c13 : (a1.size : Int) < (a0.size : Int)
    rotate_left
    ·
     rw [if_neg c13] at H
     exact absurd H (by simp)
    rw [if_pos c13] at H
    have c13b0 : decide ((a1.size : Int) < (a0.size : Int)) = true := decide_eq_true c13; have c13b1 : decide (a1.size < a0.size) = true := decide_eq_true (Int.ofNat_lt.mp c13); clear c13; obtain rfl := Option.some.inj H
    go_enter Tryz.func75, Tryz.ntmps75
    go_wp2_with (first | ((with_reducible refine gate_callee (f := 95) rfl ?_); refine gB (some 6) Tryz.func95 #[.string a0] ?_; (with_reducible refine (impl_NameOk.calls k a0 true _ A3.out).mono ?_); rintro e w15 ⟨rfl, hb⟩; refine ⟨_, rfl, ?_⟩; replace HB := bs HB hb; (try clear hb); (try clear hb2); (try clear hk); (try clear hi)) | (go_at_call 95; (with_reducible refine (impl_NameOk.calls k a1 true _ A5.out).mono ?_); rintro e w16 ⟨rfl, hb⟩; replace HB := bs HB hb; (try clear hb); (try clear hb2); (try clear hk); (try clear hi)) | (go_at_call 106; (with_reducible refine (strings_HasPrefix.calls a0 a1 true _ A7.out).mono ?_); rintro e w' ⟨rfl, ⟨nd, rfl⟩⟩; have p14 : 0 ≤ ((a1.size : Int) : Int) := of_decide_eq_true y0_18; have q14 : (a1.size : Int) < (a0.size : Int) := of_decide_eq_true y0_18; have hx14 := bt_at a0 (a1.size : Int); replace p14 := eq_true p14; replace q14 := eq_true q14))
    go_ret
    exact ⟨y0_14, bI HB.out⟩
   replace c8 := Bool.eq_false_iff.mpr c8; subst c8
   rw [if_neg (show ¬ (false = true) by decide)] at H
   obtain rfl := Option.some.inj H
   go_enter Tryz.func75, Tryz.ntmps75
   go_wp2_with (first | ((with_reducible refine gate_callee (f := 95) rfl ?_); refine gB (some 6) Tryz.func95 #[.string a0] ?_; (with_reducible refine (impl_NameOk.calls k a0 true _ A3.out).mono ?_); rintro e w17 ⟨rfl, hb⟩; refine ⟨_, rfl, ?_⟩; replace HB := bs HB hb; (try clear hb); (try clear hb2); (try clear hk); (try clear hi)) | (go_at_call 95; (with_reducible refine (impl_NameOk.calls k a1 true _ A5.out).mono ?_); rintro e w18 ⟨rfl, hb⟩; replace HB := bs HB hb; (try clear hb); (try clear hb2); (try clear hk); (try clear hi)) | (go_at_call 106; (with_reducible refine (strings_HasPrefix.calls a0 a1 false _ A7.out).mono ?_); rintro e w' ⟨rfl, ⟨nd, rfl⟩⟩))
   go_ret
   exact ⟨y0_14, bI HB.out⟩
  replace c6 := Bool.eq_false_iff.mpr c6; subst c6
  rw [if_neg (show ¬ (false = true) by decide)] at H
  obtain rfl := Option.some.inj H
  go_enter Tryz.func75, Tryz.ntmps75
  go_wp2_with (first | ((with_reducible refine gate_callee (f := 95) rfl ?_); refine gB (some 6) Tryz.func95 #[.string a0] ?_; (with_reducible refine (impl_NameOk.calls k a0 true _ A3.out).mono ?_); rintro e w19 ⟨rfl, hb⟩; refine ⟨_, rfl, ?_⟩; replace HB := bs HB hb; (try clear hb); (try clear hb2); (try clear hk); (try clear hi)) | (go_at_call 95; (with_reducible refine (impl_NameOk.calls k a1 false _ A5.out).mono ?_); rintro e w20 ⟨rfl, hb⟩; replace HB := bs HB hb; (try clear hb); (try clear hb2); (try clear hk); (try clear hi)))
  go_ret
  exact ⟨y0_14, bI HB.out⟩
 replace c4 := Bool.eq_false_iff.mpr c4; subst c4
 rw [if_neg (show ¬ (false = true) by decide)] at H
 obtain rfl := Option.some.inj H
 go_enter Tryz.func75, Tryz.ntmps75
 go_wp2_with (first | ((with_reducible refine gate_callee (f := 95) rfl ?_); refine gB (some 6) Tryz.func95 #[.string a0] ?_; (with_reducible refine (impl_NameOk.calls k a0 false _ A3.out).mono ?_); rintro e w21 ⟨rfl, hb⟩; refine ⟨_, rfl, ?_⟩; replace HB := bs HB hb; (try clear hb); (try clear hb2); (try clear hk); (try clear hi)))
 go_ret
 exact ⟨y0_14, bI HB.out⟩

end Go.Proofs.YtemjmefacifdeaaGreatDoor.PFnEitherOrder
