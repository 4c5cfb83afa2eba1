-- By a program of this session, out of the translation (the print of the kit, with turns of its own). Lean checks it.
import Derived.Test.YtnpbopadajbopaaGreatDoorPFnBlocksx0
import Derived.Test.YtnpbopadajbopaaGreatDoorPFnBlocksx1
import Derived.Test.YtnpbopadajbopaaGreatDoorPFnBlocksx2
import Derived.Test.YtnpbopadajbopaaGreatDoorPFnBlocksx13
namespace Go.Proofs.YtnpbopadajbopaaGreatDoor.PFnBlocks
open Go.RowKit Go.Proofs.YtnpbopadajbopaaGreatDoorW.PrintWords Go.Proofs.YtnpbopadajbopaaGreatDoorW.PrintLast Go.Proofs.YtnpbopadajbopaaGreatDoorW.PrintMore
attribute [local go_sem] max2_int min2_int max_two min_two max_three min_three max_four min_four   -- for this text's walks alone
attribute [local go_sem] cell_in frozen_in
set_option synthInstance.maxSize 1000000
set_option synthInstance.maxHeartbeats 2000000
set_option linter.unusedVariables false
set_option linter.unusedSimpArgs false

/-! ### bytealg_LastIndexByteString: function 218 -/
def bytealg_LastIndexByteString.l0 : Nat → ByteArray → Int → Int → Option (Int)
 | 0, _, _, _ => none
 | k + 1, x0, x1, x5 => if x5 ≥ 0 then (if 0 ≤ x5 then (if x5 < (x0.size : Int) then (if (bt x0 x5) = x1 then (some x5) else (bytealg_LastIndexByteString.l0 k x0 x1 (wrap64 (x5 - 1)))) else (none)) else (none)) else (some (-1))
def bytealg_LastIndexByteString.f (k : Nat) (a0 : ByteArray) (a1 : Int) : Option (Int) := bytealg_LastIndexByteString.l0 k a0 a1 (wrap64 ((a0.size : Int) - 1))
theorem bytealg_LastIndexByteString.mono_l : ∀ k, (∀ y0 y1 y2, LeO (bytealg_LastIndexByteString.l0 k y0 y1 y2) (bytealg_LastIndexByteString.l0 (k + 1) y0 y1 y2))
 | 0 => fun _ _ _ r h => by simp [bytealg_LastIndexByteString.l0] at h
 | k + 1 => by
  have ih0 := bytealg_LastIndexByteString.mono_l k
  intro y0 y1 y2
  unfold bytealg_LastIndexByteString.l0
  repeat' first | (with_reducible exact ih0 _ _ _) | (with_reducible exact LeO.refl _) | (with_reducible exact LeO.none _) | (with_reducible refine LeO.ite ?_ ?_) | (with_reducible refine LeO.bind ?_ (fun _ => ?_))
theorem bytealg_LastIndexByteString.mono : ∀ a0 a1 k, LeO (bytealg_LastIndexByteString.f k a0 a1) (bytealg_LastIndexByteString.f (k + 1) a0 a1) := by
 intro a0 a1 k
 have ih0 := bytealg_LastIndexByteString.mono_l k
 unfold bytealg_LastIndexByteString.f
 repeat' first | (with_reducible exact ih0 _ _ _) | (with_reducible exact LeO.refl _) | (with_reducible exact LeO.none _) | (with_reducible refine LeO.ite ?_ ?_) | (with_reducible refine LeO.bind ?_ (fun _ => ?_))
set_option maxHeartbeats 8000000 in
set_option maxRecDepth 100000 in
theorem bytealg_LastIndexByteString.calls (k : Nat) (a0 : ByteArray) (a1 : Int) (r : Int) (w : World) (h : bytealg_LastIndexByteString.f k a0 a1 = some r) :
  Calls Tryz.prog 218 #[.string a0, .int .u8 a1] w fun e w' => e = .returned (.int .i64 r) ∧ Drawn0 w w' := by
 have H : (bytealg_LastIndexByteString.l0 k a0 a1 (wrap64 ((a0.size : Int) - 1))) = some r := h; clear h; have H' := Aside0.mk H; clear H
 go_enter Tryz.func218, Tryz.ntmps218
 go_wp2
 go_loopg [5] k (fun kq v5 w' => ∃ (x5_1 : Int), v5 = .int .i64 x5_1 ∧ Aside0 (bytealg_LastIndexByteString.l0 kq a0 a1 x5_1 = some r) ∧ Aside0 (kq ≤ k) ∧ Drawn0 w w')
 case atStart => exact ⟨(wrap64 ((a0.size : Int) - 1)), y0_18, H', ⟨Nat.le_refl _⟩, y0_16⟩
 case round =>
  clear H'
  try clear c2
  try clear p2
  obtain ⟨x5_1, rfl, HA, HK1, ⟨m1, rfl⟩⟩ := hrel; cases gk with
  | zero => exact absurd HA.out (by simp [bytealg_LastIndexByteString.l0])
  | succ k1 =>
   have H := HA.out; clear HA
   simp only [bytealg_LastIndexByteString.l0] at H
   by_cases c3 : x5_1 ≥ 0
   ·
    rw [if_pos c3] at H
    have c3b0 : decide (0 ≤ x5_1) = true := decide_eq_true c3; clear c3
    by_cases c4 : 0 ≤ x5_1
    rotate_left
    ·
     rw [if_neg c4] at H
     exact absurd H (by simp)
    rw [if_pos c4] at H
    have c4b0 : decide (0 ≤ x5_1) = true := decide_eq_true c4; clear c4
    by_cases c5 : x5_1 < (a0.size : Int)
    rotate_left
    ·
     rw [if_neg c5] at H
     exact absurd H (by simp)
    rw [if_pos c5] at H
    have c5b0 : decide (x5_1 < (a0.size : Int)) = true := decide_eq_true c5; clear c5
    by_cases c7 : (bt a0 x5_1) = a1
    ·
     rw [if_pos c7] at H
     have c7b0 : ((bt a0 x5_1) == a1) = true := beq_iff_eq.mpr c7; have c7b1 : ((bt a0 x5_1) != a1) = false := bne_eq_false_iff_eq.mpr c7; clear c7; obtain rfl := Option.some.inj H; have p6 : 0 ≤ (x5_1 : Int) := of_decide_eq_true y0_17; have q6 : x5_1 < (a0.size : Int) := of_decide_eq_true y0_17; have hx6 := bt_at a0 x5_1; replace p6 := eq_true p6; replace q6 := eq_true q6
     go_wp2
     go_ret
     exact ⟨y0_18, y0_16⟩
    rw [if_neg c7] at H
    have c7b0 : ((bt a0 x5_1) == a1) = false := beq_eq_false_iff_ne.mpr c7; have c7b1 : ((bt a0 x5_1) != a1) = true := bne_iff_ne.mpr c7; have H' := Aside0.mk H; clear H; have p6 : 0 ≤ (x5_1 : Int) := of_decide_eq_true y0_17; have q6 : x5_1 < (a0.size : Int) := of_decide_eq_true y0_17; have hx6 := bt_at a0 x5_1; replace p6 := eq_true p6; replace q6 := eq_true q6
    go_wp2
    go_roundg k1
    case measure => have := HK1.out; omega
    case rel => exact ⟨(wrap64 (x5_1 - 1)), y0_18, H', ⟨y0_21⟩, y0_16⟩
   rw [if_neg c3] at H
   have c3b0 : decide (0 ≤ x5_1) = false := decide_eq_false c3; clear c3; obtain rfl := Option.some.inj H
   go_wp2
   go_ret
   exact ⟨y0_18, y0_16⟩

/-! ### strings_LastIndexByte: function 166 -/
def strings_LastIndexByte.f (k : Nat) (a0 : ByteArray) (a1 : Int) : Option (Int) := (bytealg_LastIndexByteString.f k a0 a1).bind fun t763 => (some t763)
theorem strings_LastIndexByte.mono : ∀ a0 a1 k, LeO (strings_LastIndexByte.f k a0 a1) (strings_LastIndexByte.f (k + 1) a0 a1) := by
 intro a0 a1 k
 unfold strings_LastIndexByte.f
 repeat' first | (with_reducible exact bytealg_LastIndexByteString.mono _ _ _) | (with_reducible exact LeO.refl _) | (with_reducible exact LeO.none _) | (with_reducible refine LeO.ite ?_ ?_) | (with_reducible refine LeO.bind ?_ (fun _ => ?_))
set_option maxHeartbeats 8000000 in
set_option maxRecDepth 100000 in
theorem strings_LastIndexByte.calls (k : Nat) (a0 : ByteArray) (a1 : Int) (r : Int) (w : World) (h : strings_LastIndexByte.f k a0 a1 = some r) :
  Calls Tryz.prog 166 #[.string a0, .int .u8 a1] w fun e w' => e = .returned (.int .i64 r) ∧ Drawn0 w w' := by
 have H : ((bytealg_LastIndexByteString.f k a0 a1).bind fun t763 => (some t763)) = some r := h
 clear h; obtain ⟨t763, A30, H⟩ := Option.bind_eq_some_iff.mp H
 try dsimp only at H
 have A3 := Aside0.mk A30; clear A30; obtain rfl := Option.some.inj H
 go_enter Tryz.func166, Tryz.ntmps166
 go_wp2_with (first | ((with_reducible refine gate_callee (f := 218) rfl ?_); refine gB (some 7) Tryz.func218 #[.string a0, .int .u8 a1] ?_; (with_reducible refine (bytealg_LastIndexByteString.calls k a0 a1 t763 _ A3.out).mono ?_); rintro e w' ⟨rfl, ⟨nd, rfl⟩⟩; refine ⟨_, rfl, ?_⟩))
 go_ret
 exact ⟨y0_18, y0_16⟩

/-! ### impl_UpOf: function 84 -/
def impl_UpOf.f (k : Nat) (a0 : ByteArray) : Option (ByteArray) := (impl_NameOk.f k a0).bind fun t764 => (if t764 = true then (if a0.toList = ([] : List UInt8) then (some (⟨#[]⟩ : ByteArray)) else ((strings_LastIndexByte.f k a0 47).bind fun t765 => (if 0 ≤ t765 then (if t765 ≤ (a0.size : Int) then (some (a0.extract 0 (t765 : Int).toNat)) else (none)) else (none)))) else (some (⟨#[]⟩ : ByteArray)))
theorem impl_UpOf.mono : ∀ a0 k, LeO (impl_UpOf.f k a0) (impl_UpOf.f (k + 1) a0) := by
 intro a0 k
 unfold impl_UpOf.f
 repeat' first | (with_reducible exact impl_NameOk.mono _ _) | (with_reducible exact strings_LastIndexByte.mono _ _ _) | (with_reducible exact LeO.refl _) | (with_reducible exact LeO.none _) | (with_reducible refine LeO.ite ?_ ?_) | (with_reducible refine LeO.bind ?_ (fun _ => ?_))
set_option maxHeartbeats 8000000 in
set_option maxRecDepth 100000 in
theorem impl_UpOf.calls (k : Nat) (a0 : ByteArray) (r : ByteArray) (w : World) (h : impl_UpOf.f k a0 = some r) (hG : Glob w := by exact gG HG HB) :
  Calls Tryz.prog 84 #[.string a0] w fun e w' => e = .returned (.string r) ∧ Below w.heap.size w w' := by
 have HG := Aside0.mk hG; clear hG; have HB := Aside0.mk (Below.refl w.heap.size w)
 have H : ((impl_NameOk.f k a0).bind fun t764 => (if t764 = true then (if a0.toList = ([] : List UInt8) then (some (⟨#[]⟩ : ByteArray)) else ((strings_LastIndexByte.f k a0 47).bind fun t765 => (if 0 ≤ t765 then (if t765 ≤ (a0.size : Int) then (some (a0.extract 0 (t765 : Int).toNat)) else (none)) else (none)))) else (some (⟨#[]⟩ : ByteArray)))) = some r := h
 clear h; obtain ⟨t764, A20, H⟩ := Option.bind_eq_some_iff.mp H
 try dsimp only at H
 have A2 := Aside0.mk A20; clear A20
 by_cases c3 : t764 = true
 ·
  subst c3
  rw [if_pos rfl] at H
  by_cases c4 : a0.toList = ([] : List UInt8)
  ·
   rw [if_pos c4] at H
   have c4b0 : (a0.toList == ([] : List UInt8)) = true := beq_iff_eq.mpr c4; have c4b1 : (a0.toList != ([] : List UInt8)) = false := bne_eq_false_iff_eq.mpr c4; clear c4; obtain rfl := Option.some.inj H
   go_enter Tryz.func84, Tryz.ntmps84
   go_wp2_with (first | ((with_reducible refine gate_callee (f := 139) rfl ?_); refine gC (some 4) Tryz.func139 (impl_NameOk.calls (w := _) (h := A2.out)) ?_; intro w5 _))
   go_ret
   exact ⟨y0_18, UpW.out⟩
  rw [if_neg c4] at H
  have c4b0 : (a0.toList == ([] : List UInt8)) = false := beq_eq_false_iff_ne.mpr c4; have c4b1 : (a0.toList != ([] : List UInt8)) = true := bne_iff_ne.mpr c4; obtain ⟨t765, A60, H⟩ := Option.bind_eq_some_iff.mp H
  try dsimp only at H
  have A6 := Aside0.mk A60; clear A60
  by_cases c7 : 0 ≤ t765
  rotate_left
  ·
   rw [if_neg c7] at H
   exact absurd H (by simp)
  rw [if_pos c7] at H
  have c7b0 := eq_true c7; have c7b1 : decide (0 ≤ t765) = true := decide_eq_true c7; clear c7
  by_cases c8 : t765 ≤ (a0.size : Int)
  rotate_left
  ·
   rw [if_neg c8] at H
   exact absurd H (by simp)
  rw [if_pos c8] at H
  have c8b0 := eq_true c8; have c8b1 : decide (t765 ≤ (a0.size : Int)) = true := decide_eq_true c8; clear c8; obtain rfl := Option.some.inj H
  go_enter Tryz.func84, Tryz.ntmps84
  go_wp2_with (first | ((with_reducible refine gate_callee (f := 139) rfl ?_); refine gC (some 4) Tryz.func139 (impl_NameOk.calls (w := _) (h := A2.out)) ?_; intro w9 _) | ((with_reducible refine gate_callee (f := 166) rfl ?_); refine gD (some 12) Tryz.func166 (strings_LastIndexByte.calls (w := _) (h := A6.out)) ?_; intro w10 _))
  go_ret
  exact ⟨y0_18, UpW.out⟩
 replace c3 := Bool.eq_false_iff.mpr c3; subst c3
 rw [if_neg (show ¬ (false = true) by decide)] at H
 obtain rfl := Option.some.inj H
 go_enter Tryz.func84, Tryz.ntmps84
 go_wp2_with (first | ((with_reducible refine gate_callee (f := 139) rfl ?_); refine gC (some 4) Tryz.func139 (impl_NameOk.calls (w := _) (h := A2.out)) ?_; intro w11 _))
 go_ret
 exact ⟨y0_18, UpW.out⟩

/-! ### impl_BlockOk: function 79 -/
def impl_BlockOk.f (k : Nat) (a0_0 : Int) (a0_1 : Int) (a1_0 : ByteArray) (a1_1 : Int) (a1_2 : ByteArray) (l1_3 : List Int) : Option (Bool) := (impl_QcOk.f k a0_0 a0_1 a1_1 a1_2 l1_3).bind fun t768 => (if t768 = true then (if a1_0.toList = ([] : List UInt8) then (some false) else ((impl_NameOk.f k a1_0).bind fun t769 => (if t769 = true then ((impl_UpOf.f k a1_0).bind fun t770 => (some (t770.toList == a1_2.toList))) else (some false)))) else (some false))
theorem impl_BlockOk.mono : ∀ a0 a1 a2 a3 a4 a5 k, LeO (impl_BlockOk.f k a0 a1 a2 a3 a4 a5) (impl_BlockOk.f (k + 1) a0 a1 a2 a3 a4 a5) := by
 intro a0 a1 a2 a3 a4 a5 k
 unfold impl_BlockOk.f
 repeat' first | (with_reducible exact impl_NameOk.mono _ _) | (with_reducible exact impl_QcOk.mono _ _ _ _ _ _) | (with_reducible exact impl_UpOf.mono _ _) | (with_reducible exact LeO.refl _) | (with_reducible exact LeO.none _) | (with_reducible refine LeO.ite ?_ ?_) | (with_reducible refine LeO.bind ?_ (fun _ => ?_))
def impl_BlockOk.T1 : Bool × List (List Nat × List Nat) := (true, [([], []), ([], []), ([1], [1]), ([0, 2], [0, 2]), ([3, 3], [3]), ([4], [4]), ([5, 4], [4, 5]), ([6, 4], [4, 6]), ([4, 7], [4, 7]), ([8, 4], [8]), ([9], [9]), ([10, 9], [9, 10]), ([11, 9, 9], [9, 11]), ([9, 12], [9, 12]), ([13, 12], [13]), ([14], [14]), ([15, 14], [14, 15]), ([16, 14, 14], [14, 16]), ([14], [14]), ([18, 14], [14, 18]), ([19, 14], [14, 19]), ([17, 20, 14], [14, 17, 20]), ([14, 21], [14, 21]), ([22, 17, 0, 1, 2, 3, 4, 5, 6, 7, 8, 9, 10, 11, 12, 13, 14, 15, 16, 17, 18, 19, 20, 21, 22], [22])])
def impl_BlockOk.B1 : List Nat := [0, 0, 2, 7, 15, 31, 63, 127, 255, 511, 1023, 2047, 4095, 8191, 16383, 32767, 65535, 131071, 32767, 294911, 819199, 2097151, 4194303, 8388607]
theorem impl_BlockOk.tab1 : rtab .any (opsOf Tryz.f79 1) = impl_BlockOk.T1 := by kernel_rfl
theorem impl_BlockOk.bits1 : waitsOk impl_BlockOk.T1.2 impl_BlockOk.B1 = true := by kernel_rfl
set_option maxHeartbeats 8000000 in
set_option maxRecDepth 100000 in
theorem impl_BlockOk.calls (k : Nat) (a0_0 : Int) (a0_1 : Int) (a1_0 : ByteArray) (a1_1 : Int) (a1_2 : ByteArray) (A1_3 : Option Addr) (c1_3 : Nat) (l1_3 : List Int) (r : Bool) (w : World) (hr1_3 : Kd.C (Kd.int .i64) w A1_3 l1_3.length l1_3) (hc1_3 : l1_3.length ≤ c1_3) (h : impl_BlockOk.f k a0_0 a0_1 a1_0 a1_1 a1_2 l1_3 = some r) (hG : Glob w := by exact gG HG HB) :
  Calls Tryz.prog 79 #[.agg #[.int .i64 a0_0, .int .i64 a0_1], .agg #[.string a1_0, .int .i64 a1_1, .string a1_2, .slice A1_3 l1_3.length c1_3]] w fun e w' => e = .returned (.bool r) ∧ Below w.heap.size w w' := by
 have HG := Aside0.mk hG; clear hG; have hu32 := Tryz.underlying32; have hu60 := Tryz.underlying60; have hu27 := Tryz.underlying27; have HR1_3 := Aside0.mk hr1_3; have HC1_3 := Aside0.mk hc1_3; clear hr1_3 hc1_3; have HB := Aside0.mk (Below.refl w.heap.size w)
 have H : ((impl_QcOk.f k a0_0 a0_1 a1_1 a1_2 l1_3).bind fun t768 => (if t768 = true then (if a1_0.toList = ([] : List UInt8) then (some false) else ((impl_NameOk.f k a1_0).bind fun t769 => (if t769 = true then ((impl_UpOf.f k a1_0).bind fun t770 => (some (t770.toList == a1_2.toList))) else (some false)))) else (some false))) = some r := h
 clear h; obtain ⟨t768, A30, H⟩ := Option.bind_eq_some_iff.mp H
 try dsimp only at H
 have A3 := Aside0.mk A30; clear A30
 by_cases c4 : t768 = true
 ·
  subst c4
  rw [if_pos rfl] at H
  by_cases c5 : a1_0.toList = ([] : List UInt8)
  ·
   rw [if_pos c5] at H
   have c5b0 : (a1_0.toList == ([] : List UInt8)) = true := beq_iff_eq.mpr c5; have c5b1 : (a1_0.toList != ([] : List UInt8)) = false := bne_eq_false_iff_eq.mpr c5; clear c5; obtain rfl := Option.some.inj H
   go_enter Tryz.func79, Tryz.ntmps79
   try go_wp2_with (first | ((with_reducible refine gd 2 ?_); refine bL 2 #[.int .i64 a0_0, .int .i64 a0_1] 32 ?_; intro gb766 w6 _ _ _) | ((with_reducible refine gd 3 ?_); refine bL 3 #[.string a1_0, .int .i64 a1_1, .string a1_2, .slice A1_3 l1_3.length c1_3] 60 ?_; intro gb767 w7 _ _ _))
   refine sB [] impl_BlockOk.tab1 impl_BlockOk.bits1 ?_; intro w8 _ HT_ HW_
   refine tB 0 (some 5) (bz 24 1) HT_ HW_ ?_
   refine pA 1 (some 6) (bz 24 3) HT_ ?_
   refine tB 2 (some 7) (bz 24 7) HT_ HW_ ?_
   refine o1 3 (some 8) (bz 24 15) HT_ rfl (kC Tryz.func49 (impl_QcOk.calls (hr1_2 := pC HR1_3) (hc1_2 := HC1_3.out) (w := _) (h := A3.out)) ?_); intro w9 _
   refine nA (some 8) ?_
   refine pA 4 (some 9) (bz 24 31) HT_ ?_
   refine pA 5 (some 10) (bz 24 63) HT_ ?_
   refine tB 6 (some 11) (bz 24 127) HT_ HW_ ?_
   refine pA 7 (some 12) (bz 24 255) HT_ ?_
   refine pA 8 (some 13) (bz 24 511) HT_ ?_
   refine pA 9 (some 14) (bz 24 1023) HT_ ?_
   refine pU 10 (some 15) (bz 24 2047) HT_ ?_
   refine pU 11 (some 16) (bz 24 4095) HT_ ?_
   refine pU 12 (some 17) (bz 24 0x1fff) HT_ ?_
   refine pA 13 (some 18) (bz 24 0x3fff) HT_ ?_
   refine pA 14 (some 19) (bz 24 0x7fff) HT_ ?_
   refine pU 15 (some 20) (bz 24 0xffff) HT_ ?_
   refine pU 16 (some 21) (bz 24 0x1ffff) HT_ ?_
   refine pU 17 (some 22) (bz 24 0x3ffff) HT_ ?_
   refine pU 18 (some 23) (bz 24 0x7ffff) HT_ ?_
   refine pU 19 (some 24) (bz 24 0xfffff) HT_ ?_
   refine pU 20 (some 25) (bz 24 0x1fffff) HT_ ?_
   refine pU 21 (some 26) (bz 24 0x3fffff) HT_ ?_
   refine pA 22 (some 27) (bz 24 0x7fffff) HT_ ?_
   refine pA 23 (some 4) (bz 24 0xffffff) HT_ ?_
   refine done_ (done_of HT_.out (by kernel_rfl)) ?_
   try go_wp2
   go_ret
   exact ⟨y0_18, UpW.out⟩
  rw [if_neg c5] at H
  have c5b0 : (a1_0.toList == ([] : List UInt8)) = false := beq_eq_false_iff_ne.mpr c5; have c5b1 : (a1_0.toList != ([] : List UInt8)) = true := bne_iff_ne.mpr c5; obtain ⟨t769, A100, H⟩ := Option.bind_eq_some_iff.mp H
  try dsimp only at H
  have A10 := Aside0.mk A100; clear A100
  by_cases c11 : t769 = true
  ·
   subst c11
   rw [if_pos rfl] at H
   obtain ⟨t770, A120, H⟩ := Option.bind_eq_some_iff.mp H
   try dsimp only at H
   have A12 := Aside0.mk A120; clear A120; obtain rfl := Option.some.inj H
   go_enter Tryz.func79, Tryz.ntmps79
   try go_wp2_with (first | ((with_reducible refine gd 2 ?_); refine bL 2 #[.int .i64 a0_0, .int .i64 a0_1] 32 ?_; intro gb766 w13 _ _ _) | ((with_reducible refine gd 3 ?_); refine bL 3 #[.string a1_0, .int .i64 a1_1, .string a1_2, .slice A1_3 l1_3.length c1_3] 60 ?_; intro gb767 w14 _ _ _))
   refine sB [] impl_BlockOk.tab1 impl_BlockOk.bits1 ?_; intro w15 _ HT_ HW_
   refine tB 0 (some 5) (bz 24 1) HT_ HW_ ?_
   refine pA 1 (some 6) (bz 24 3) HT_ ?_
   refine tB 2 (some 7) (bz 24 7) HT_ HW_ ?_
   refine o1 3 (some 8) (bz 24 15) HT_ rfl (kC Tryz.func49 (impl_QcOk.calls (hr1_2 := pC HR1_3) (hc1_2 := HC1_3.out) (w := _) (h := A3.out)) ?_); intro w16 _
   refine nA (some 8) ?_
   refine pA 4 (some 9) (bz 24 31) HT_ ?_
   refine pA 5 (some 10) (bz 24 63) HT_ ?_
   refine tB 6 (some 11) (bz 24 127) HT_ HW_ ?_
   refine pA 7 (some 12) (bz 24 255) HT_ ?_
   refine pA 8 (some 13) (bz 24 511) HT_ ?_
   refine pA 9 (some 14) (bz 24 1023) HT_ ?_
   refine pA 10 (some 15) (bz 24 2047) HT_ ?_
   refine tB 11 (some 16) (bz 24 4095) HT_ HW_ ?_
   refine o1 12 (some 17) (bz 24 0x1fff) HT_ rfl (kC Tryz.func139 (impl_NameOk.calls (w := _) (h := A10.out)) ?_); intro w17 _
   refine nA (some 17) ?_
   refine pA 13 (some 18) (bz 24 0x3fff) HT_ ?_
   refine pA 14 (some 19) (bz 24 0x7fff) HT_ ?_
   refine pA 15 (some 20) (bz 24 0xffff) HT_ ?_
   refine tB 16 (some 21) (bz 24 0x1ffff) HT_ HW_ ?_
   refine pA 18 (some 23) (bz 24 0x5ffff) HT_ ?_
   refine pA 19 (some 24) (bz 24 0xdffff) HT_ ?_
   refine tB 20 (some 25) (bz 24 0x1dffff) HT_ HW_ ?_
   refine o1 17 (some 22) (bz 24 0x1fffff) HT_ rfl (kC Tryz.func84 (impl_UpOf.calls (w := _) (h := A12.out)) ?_); intro w18 _
   refine nA (some 22) ?_
   refine pA 21 (some 26) (bz 24 0x3fffff) HT_ ?_
   refine pA 22 (some 27) (bz 24 0x7fffff) HT_ ?_
   refine pA 23 (some 4) (bz 24 0xffffff) HT_ ?_
   refine done_ (done_of HT_.out (by kernel_rfl)) ?_
   try go_wp2
   go_ret
   exact ⟨y0_18, UpW.out⟩
  replace c11 := Bool.eq_false_iff.mpr c11; subst c11
  rw [if_neg (show ¬ (false = true) by decide)] at H
  obtain rfl := Option.some.inj H
  go_enter Tryz.func79, Tryz.ntmps79
  try go_wp2_with (first | ((with_reducible refine gd 2 ?_); refine bL 2 #[.int .i64 a0_0, .int .i64 a0_1] 32 ?_; intro gb766 w19 _ _ _) | ((with_reducible refine gd 3 ?_); refine bL 3 #[.string a1_0, .int .i64 a1_1, .string a1_2, .slice A1_3 l1_3.length c1_3] 60 ?_; intro gb767 w20 _ _ _))
  refine sB [] impl_BlockOk.tab1 impl_BlockOk.bits1 ?_; intro w21 _ HT_ HW_
  refine tB 0 (some 5) (bz 24 1) HT_ HW_ ?_
  refine pA 1 (some 6) (bz 24 3) HT_ ?_
  refine tB 2 (some 7) (bz 24 7) HT_ HW_ ?_
  refine o1 3 (some 8) (bz 24 15) HT_ rfl (kC Tryz.func49 (impl_QcOk.calls (hr1_2 := pC HR1_3) (hc1_2 := HC1_3.out) (w := _) (h := A3.out)) ?_); intro w22 _
  refine nA (some 8) ?_
  refine pA 4 (some 9) (bz 24 31) HT_ ?_
  refine pA 5 (some 10) (bz 24 63) HT_ ?_
  refine tB 6 (some 11) (bz 24 127) HT_ HW_ ?_
  refine pA 7 (some 12) (bz 24 255) HT_ ?_
  refine pA 8 (some 13) (bz 24 511) HT_ ?_
  refine pA 9 (some 14) (bz 24 1023) HT_ ?_
  refine pA 10 (some 15) (bz 24 2047) HT_ ?_
  refine tB 11 (some 16) (bz 24 4095) HT_ HW_ ?_
  refine o1 12 (some 17) (bz 24 0x1fff) HT_ rfl (kC Tryz.func139 (impl_NameOk.calls (w := _) (h := A10.out)) ?_); intro w23 _
  refine nA (some 17) ?_
  refine pA 13 (some 18) (bz 24 0x3fff) HT_ ?_
  refine pA 14 (some 19) (bz 24 0x7fff) HT_ ?_
  refine pU 15 (some 20) (bz 24 0xffff) HT_ ?_
  refine pU 16 (some 21) (bz 24 0x1ffff) HT_ ?_
  refine pU 17 (some 22) (bz 24 0x3ffff) HT_ ?_
  refine pU 18 (some 23) (bz 24 0x7ffff) HT_ ?_
  refine pU 19 (some 24) (bz 24 0xfffff) HT_ ?_
  refine pU 20 (some 25) (bz 24 0x1fffff) HT_ ?_
  refine pU 21 (some 26) (bz 24 0x3fffff) HT_ ?_
  refine pA 22 (some 27) (bz 24 0x7fffff) HT_ ?_
  refine pA 23 (some 4) (bz 24 0xffffff) HT_ ?_
  refine done_ (done_of HT_.out (by kernel_rfl)) ?_
  try go_wp2
  go_ret
  exact ⟨y0_18, UpW.out⟩
 replace c4 := Bool.eq_false_iff.mpr c4; subst c4
 rw [if_neg (show ¬ (false = true) by decide)] at H
 obtain rfl := Option.some.inj H
 go_enter Tryz.func79, Tryz.ntmps79
 try go_wp2_with (first | ((with_reducible refine gd 2 ?_); refine bL 2 #[.int .i64 a0_0, .int .i64 a0_1] 32 ?_; intro gb766 w24 _ _ _) | ((with_reducible refine gd 3 ?_); refine bL 3 #[.string a1_0, .int .i64 a1_1, .string a1_2, .slice A1_3 l1_3.length c1_3] 60 ?_; intro gb767 w25 _ _ _))
 refine sB [] impl_BlockOk.tab1 impl_BlockOk.bits1 ?_; intro w26 _ HT_ HW_
 refine tB 0 (some 5) (bz 24 1) HT_ HW_ ?_
 refine pA 1 (some 6) (bz 24 3) HT_ ?_
 refine tB 2 (some 7) (bz 24 7) HT_ HW_ ?_
 refine o1 3 (some 8) (bz 24 15) HT_ rfl (kC Tryz.func49 (impl_QcOk.calls (hr1_2 := pC HR1_3) (hc1_2 := HC1_3.out) (w := _) (h := A3.out)) ?_); intro w27 _
 refine nA (some 8) ?_
 refine pA 4 (some 9) (bz 24 31) HT_ ?_
 refine pU 5 (some 10) (bz 24 63) HT_ ?_
 refine pU 6 (some 11) (bz 24 127) HT_ ?_
 refine pU 7 (some 12) (bz 24 255) HT_ ?_
 refine pA 8 (some 13) (bz 24 511) HT_ ?_
 refine pA 9 (some 14) (bz 24 1023) HT_ ?_
 refine pU 10 (some 15) (bz 24 2047) HT_ ?_
 refine pU 11 (some 16) (bz 24 4095) HT_ ?_
 refine pU 12 (some 17) (bz 24 0x1fff) HT_ ?_
 refine pA 13 (some 18) (bz 24 0x3fff) HT_ ?_
 refine pA 14 (some 19) (bz 24 0x7fff) HT_ ?_
 refine pU 15 (some 20) (bz 24 0xffff) HT_ ?_
 refine pU 16 (some 21) (bz 24 0x1ffff) HT_ ?_
 refine pU 17 (some 22) (bz 24 0x3ffff) HT_ ?_
 refine pU 18 (some 23) (bz 24 0x7ffff) HT_ ?_
 refine pU 19 (some 24) (bz 24 0xfffff) HT_ ?_
 refine pU 20 (some 25) (bz 24 0x1fffff) HT_ ?_
 refine pU 21 (some 26) (bz 24 0x3fffff) HT_ ?_
 refine pA 22 (some 27) (bz 24 0x7fffff) HT_ ?_
 refine pA 23 (some 4) (bz 24 0xffffff) HT_ ?_
 refine done_ (done_of HT_.out (by kernel_rfl)) ?_
 try go_wp2
 go_ret
 exact ⟨y0_18, UpW.out⟩

/-! ### impl_copyInts: function 188 -/
def impl_copyInts.f (l0 : List Int) : Option (List Int) := if ([] : List Int).length + l0.length < 17592186044416 then (some (([] : List Int) ++ l0)) else (none)
set_option maxHeartbeats 8000000 in
set_option maxRecDepth 100000 in
theorem impl_copyInts.calls (A0 : Option Addr) (c0 : Nat) (l0 : List Int) (r : List Int) (w : World) (hr0 : Kd.C (Kd.int .i64) w A0 l0.length l0) (hc0 : l0.length ≤ c0) (h : impl_copyInts.f l0 = some r) :
  Calls Tryz.prog 188 #[.slice A0 l0.length c0] w fun e w' => ∃ v0_ : Value, e = .returned (v0_) ∧ Kd.R (Kd.int .i64) 3 w' w.heap.size (fun _ => True) v0_ r ∧ Below w.heap.size w w' := by
 have HR0 := Aside0.mk hr0; have HC0 := Aside0.mk hc0; clear hr0 hc0; have HB := Aside0.mk (Below.refl w.heap.size w); have H : (if ([] : List Int).length + l0.length < 17592186044416 then (some (([] : List Int) ++ l0)) else (none)) = some r := h; clear h
 by_cases c2 : ([] : List Int).length + l0.length < 17592186044416
 ·
  rw [if_pos c2] at H
  have LMc2 := Aside0.mk c2; clear c2; obtain ⟨y771, hy771⟩ : ∃ y_ : List Int, y_ = (([] : List Int) ++ l0) := ⟨_, rfl⟩
  replace H : (some y771) = some r := by first | (rw [hy771]; with_reducible exact H) | (have H2_ := (Option.bind_some _ _).symm.trans H; rw [hy771]; with_reducible exact H2_) | (have H2_ := (Option.bind_some _ _).symm.trans H; with_reducible exact H2_) | with_reducible exact H | (rw [hy771]; exact H) | exact H
  have Ny771 := Aside0.mk hy771; clear hy771; obtain rfl := Option.some.inj H
  go_enter Tryz.func188, Tryz.ntmps188
  go_wp2_with (first | ((with_reducible refine gate_builtin (b := .append) (xs := #[.const (.slice none 0 0), .tmp 3]) rfl ?_); at_builtin; refine Kd.R_append_rows (Kd.int .i64) (w0 := w) w.heap.size rfl (.const (.slice none 0 0)) (.tmp 3) 25 3 (.int .i64 0) 8 rfl Tryz.underlying25 info3 rfl (by decide) (by omega) (.slice none 0 0) ([] : List Int) l0 _ _ _ (fun _ => True) (fun _ => False) rfl rfl ?aO ?aR (fun _ _ h => h) (fun _ h => h.elim) ?aF ?aB ?aS ?aL ?_; (case aR => exact cI HR0.out); (case aB => exact (bI HB.out)); (case aF => exact (fun _ _ => trivial)); (case aO => exact ((Kd.R_nil _ _ _ _ (fun _ => True)))); (case aS => exact (below_size (bI HB.out))); (case aL => have := LMc2.out; omega); intro v772 w3 ho hb hg hat; rw [← Ny771.out] at ho; replace HB := Aside0.mk (hb); have HO773 := Aside0.mk (ho); clear ho hb hg hat))
  go_ret
  exact ⟨_, y0_14, by (with_reducible repeat (first | apply Kd.R_alloc | apply Kd.R_drewN | apply Kd.R_drew)); exact HO773.out, bI HB.out⟩
 rw [if_neg c2] at H
 exact absurd H (by simp)

/-! ### impl_copyQc: function 151 -/
def impl_copyQc.f (a0_0 : Int) (a0_1 : ByteArray) (l0_2 : List Int) : Option (Int × ByteArray × List Int) := (impl_copyInts.f l0_2).bind fun t776 => (some (a0_0, a0_1, t776))
set_option maxHeartbeats 8000000 in
set_option maxRecDepth 100000 in
theorem impl_copyQc.calls (a0_0 : Int) (a0_1 : ByteArray) (A0_2 : Option Addr) (c0_2 : Nat) (l0_2 : List Int) (r1 : Int) (r2 : ByteArray) (r3 : List Int) (w : World) (hr0_2 : Kd.C (Kd.int .i64) w A0_2 l0_2.length l0_2) (hc0_2 : l0_2.length ≤ c0_2) (h : impl_copyQc.f a0_0 a0_1 l0_2 = some (r1, r2, r3)) :
  Calls Tryz.prog 151 #[.agg #[.int .i64 a0_0, .string a0_1, .slice A0_2 l0_2.length c0_2]] w fun e w' => ∃ v2_ : Value, e = .returned (.agg #[.int .i64 r1, .string r2, v2_]) ∧ Kd.R (Kd.int .i64) 3 w' w.heap.size (fun _ => True) v2_ r3 ∧ Below w.heap.size w w' := by
 have hu27 := Tryz.underlying27; have HR0_2 := Aside0.mk hr0_2; have HC0_2 := Aside0.mk hc0_2; clear hr0_2 hc0_2; have HB := Aside0.mk (Below.refl w.heap.size w)
 have H : ((impl_copyInts.f l0_2).bind fun t776 => (some (a0_0, a0_1, t776))) = some (r1, r2, r3) := h
 clear h; obtain ⟨t776, A20, H⟩ := Option.bind_eq_some_iff.mp H
 try dsimp only at H
 have A2 := Aside0.mk A20; clear A20
 simp only [Option.some.injEq, Prod.mk.injEq] at H
 obtain ⟨rfl, rfl, rfl⟩ := H
 go_enter Tryz.func151, Tryz.ntmps151
 go_wp2_with (first | ((with_reducible refine gd 1 ?_); refine bL 1 #[.int .i64 a0_0, .string a0_1, .slice A0_2 l0_2.length c0_2] 27 ?_; intro gb774 w3 _ _ _) | ((with_reducible refine gd 2 ?_); refine bL 2 #[.int .i64 0, .string (⟨#[]⟩ : ByteArray), .slice none 0 0] 27 ?_; intro gb775 w4 _ _ _) | ((with_reducible refine gate_callee (f := 188) rfl ?_); refine gC1 (some 5) Tryz.func188 (impl_copyInts.calls (hr0 := pC HR0_2) (hc0 := HC0_2.out) (w := _) (h := A2.out)) ?_; intro Ao777 co777 w5 _ HO778))
 refine bodyPost_ret (results_cell_row rfl _ _ gb775 27 #[.int .i64 a0_0, .string a0_1, .slice Ao777 t776.length co777] (0, 0) _ rfl xB Tryz.underlying27 rfl (by kernel_rfl)) rfl ?_
 exact ⟨_, y0_18, rR HO778, UpW.out⟩

/-! ### strings_Join: function 237 -/

/-! ### impl_TxsText: function 215 -/
def impl_TxsText.l0 : Nat → List ByteArray → List (S204) → Int → Int → Option (ByteArray)
 | 0, _, _, _, _ => none
 | k + 1, x3, x6, x7, x8 => if x8 < x7 then (if 0 ≤ x8 then (if x8 < (x6.length : Int) then ((impl_TxOk.f ((rd_T204 x6 x8).f0) ((rd_T204 x6 x8).f1) ((rd_T204 x6 x8).f2) ((rd_T204 x6 x8).f3)).bind fun t782 => (if t782 = true then ((impl_TxText.f ((rd_T204 x6 x8).f0) ((rd_T204 x6 x8).f1) ((rd_T204 x6 x8).f2) ((rd_T204 x6 x8).f3)).bind fun t783 => (if x3.length < 8796093022208 then (impl_TxsText.l0 k (x3 ++ [t783]) x6 x7 (wrap64 (x8 + 1))) else (none))) else (some (⟨#[]⟩ : ByteArray)))) else (none)) else (none)) else ((strings_Join.f x3 (⟨#[44]⟩ : ByteArray)).bind fun t779 => (some t779))
def impl_TxsText.f (k : Nat) (l0 : List (S204)) : Option (ByteArray) := impl_TxsText.l0 k ([] : List ByteArray) l0 (l0.length : Int) 0
theorem impl_TxsText.mono_l : ∀ k, (∀ y0 y1 y2 y3, LeO (impl_TxsText.l0 k y0 y1 y2 y3) (impl_TxsText.l0 (k + 1) y0 y1 y2 y3))
 | 0 => fun _ _ _ _ r h => by simp [impl_TxsText.l0] at h
 | k + 1 => by
  have ih0 := impl_TxsText.mono_l k
  intro y0 y1 y2 y3
  unfold impl_TxsText.l0
  repeat' first | (with_reducible exact ih0 _ _ _ _) | (with_reducible exact LeO.refl _) | (with_reducible exact LeO.none _) | (with_reducible refine LeO.ite ?_ ?_) | (with_reducible refine LeO.bind ?_ (fun _ => ?_))
theorem impl_TxsText.mono : ∀ a0 k, LeO (impl_TxsText.f k a0) (impl_TxsText.f (k + 1) a0) := by
 intro a0 k
 have ih0 := impl_TxsText.mono_l k
 unfold impl_TxsText.f
 repeat' first | (with_reducible exact ih0 _ _ _ _) | (with_reducible exact LeO.refl _) | (with_reducible exact LeO.none _) | (with_reducible refine LeO.ite ?_ ?_) | (with_reducible refine LeO.bind ?_ (fun _ => ?_))
set_option maxHeartbeats 8000000 in
set_option maxRecDepth 100000 in
theorem impl_TxsText.calls (k : Nat) (A0 : Option Addr) (c0 : Nat) (l0 : List (S204)) (r : ByteArray) (w : World) (hr0 : Kd.C k204 w A0 l0.length l0) (hc0 : l0.length ≤ c0) (h : impl_TxsText.f k l0 = some r) (hG : Glob w := by exact gG HG HB) :
  Calls Tryz.prog 215 #[.slice A0 l0.length c0] w fun e w' => e = .returned (.string r) ∧ Below w.heap.size w w' := by
 have HG := Aside0.mk hG; clear hG; have hu204 := Tryz.underlying204; have HR0 := Aside0.mk hr0; have HC0 := Aside0.mk hc0; clear hr0 hc0; have HB := Aside0.mk (Below.refl w.heap.size w); have H : (impl_TxsText.l0 k ([] : List ByteArray) l0 (l0.length : Int) 0) = some r := h; clear h; have H' := Aside0.mk H; clear H
 go_enter Tryz.func215, Tryz.ntmps215
 go_wp2
 go_loopg [3, 8] k (fun kq v3 v8 w' => ∃ (x3_1 : List ByteArray) (x8_1 : Int), v8 = .int .i64 x8_1 ∧ Aside0 (impl_TxsText.l0 kq x3_1 l0 (l0.length : Int) x8_1 = some r) ∧ Aside0 (kq ≤ k) ∧ Aside0 (Kd.R Kd.string 9 w' w.heap.size (fun _ => True) v3 x3_1) ∧ Aside0 (Below w.heap.size w w'))
 case atStart => exact ⟨(([] : List ByteArray)), (0), y0_18, H', ⟨Nat.le_refl _⟩, ⟨y0_9⟩, ⟨bI HB.out⟩⟩
 case round =>
  clear H'; obtain ⟨x3_1, x8_1, rfl, HA, HK1, HO_3, HB⟩ := hrel; cases gk with
  | zero => exact absurd HA.out (by simp [impl_TxsText.l0])
  | succ k1 =>
   have H := HA.out; clear HA
   simp only [impl_TxsText.l0] at H
   by_cases c2 : x8_1 < (l0.length : Int)
   ·
    rw [if_pos c2] at H
    have c2b0 : decide (x8_1 < (l0.length : Int)) = true := decide_eq_true c2; clear c2
    by_cases c3 : 0 ≤ x8_1
    rotate_left
    ·
     rw [if_neg c3] at H
     exact absurd H (by simp)
    rw [if_pos c3] at H
    have c3b0 : decide (0 ≤ x8_1) = true := decide_eq_true c3; clear c3
    by_cases c4 : x8_1 < (l0.length : Int)
    rotate_left
    ·
     rw [if_neg c4] at H
     exact absurd H (by simp)
    rw [if_pos c4] at H
    have c4b0 : decide (x8_1 < (l0.length : Int)) = true := decide_eq_true c4; clear c4; obtain ⟨t782, A50, H⟩ := Option.bind_eq_some_iff.mp H
    try dsimp only at H
    have A5 := Aside0.mk A50; clear A50
    by_cases c6 : t782 = true
    ·
     subst c6
     rw [if_pos rfl] at H
     obtain ⟨t783, A70, H⟩ := Option.bind_eq_some_iff.mp H
     try dsimp only at H
     have A7 := Aside0.mk A70; clear A70
     by_cases c8 : x3_1.length < 8796093022208
     rotate_left
     ·
      rw [if_neg c8] at H
      exact absurd H (by simp)
     rw [if_pos c8] at H
     have LMc8 := Aside0.mk c8; clear c8; obtain ⟨y784, hy784⟩ : ∃ y_ : List ByteArray, y_ = (x3_1 ++ [t783]) := ⟨_, rfl⟩
     replace H : (impl_TxsText.l0 k1 y784 l0 (l0.length : Int) (wrap64 (x8_1 + 1))) = some r := by first | (rw [hy784]; with_reducible exact H) | (have H2_ := (Option.bind_some _ _).symm.trans H; rw [hy784]; with_reducible exact H2_) | (have H2_ := (Option.bind_some _ _).symm.trans H; with_reducible exact H2_) | with_reducible exact H | (rw [hy784]; exact H) | exact H
     have Ny784 := Aside0.mk hy784; clear hy784; have H' := Aside0.mk H; clear H; have p780 : 0 ≤ (x8_1 : Int) := of_decide_eq_true y0_17; have q780 : x8_1 < (l0.length : Int) := of_decide_eq_true y0_17; obtain ⟨ad780, e780, hx780_0, hx780_1, hx780_2, hx780_3⟩ := at_T204 HR0.out x8_1 p780 q780; cases e780; replace hx780_0 := bx HB hx780_0; replace hx780_1 := bx HB hx780_1; replace hx780_2 := bx HB hx780_2; replace hx780_3 := bx HB hx780_3; replace p780 := eq_true p780; replace q780 := eq_true q780
     go_wp2_with (first | ((with_reducible refine gd 5 ?_); refine bA 5 #[.int .i64 0, .int .i64 0, .int .i64 0, .int .i64 0] 204 ?_; intro gb781 hg w9 hbox hb; replace HO_3 := rb HO_3 hb; have BK781 := Aside0.mk (hbox); have GW781 := bg hg HB; have GJ781 := gi GW781; have GE781 := GW781; replace HB := bs HB hb; clear hb hbox hg; obtain ⟨hcz10_0, hcz10_1, hcz10_2, hcz10_3, hfz10_0, hfz10_1, hfz10_2, hfz10_3⟩ := cs4 BK781) | ((with_reducible refine gate_callee (f := 213) rfl ?_); refine gB (some 13) Tryz.func213 #[.agg #[.int .i64 ((rd_T204 l0 x8_1).f0), .int .i64 ((rd_T204 l0 x8_1).f1), .int .i64 ((rd_T204 l0 x8_1).f2), .int .i64 ((rd_T204 l0 x8_1).f3)]] ?_; (with_reducible refine (impl_TxOk.calls ((rd_T204 l0 x8_1).f0) ((rd_T204 l0 x8_1).f1) ((rd_T204 l0 x8_1).f2) ((rd_T204 l0 x8_1).f3) true _ A5.out).mono ?_); rintro e w11 ⟨rfl, hb⟩; refine ⟨_, rfl, ?_⟩; replace HO_3 := Aside0.mk (Kd.R_below (rI (Kd.R_mono (Kd.R_far (p := ⟨gb781, 3, none⟩) (Kd.R_far (p := ⟨gb781, 2, none⟩) (Kd.R_far (p := ⟨gb781, 1, none⟩) (Kd.R_far (p := ⟨gb781, 0, none⟩) (Kd.R_types HO_3.out BK781.out (by decide)) (fun _ hk => hk.2) (.int .i64 ((rd_T204 l0 x8_1).f0))) (fun _ hk => hk.2) (.int .i64 ((rd_T204 l0 x8_1).f1))) (fun _ hk => hk.2) (.int .i64 ((rd_T204 l0 x8_1).f2))) (fun _ hk => hk.2) (.int .i64 ((rd_T204 l0 x8_1).f3))) (fun _ h_ => h_.1))) hb); replace BK781 := bp BK781 hb #[.int .i64 ((rd_T204 l0 x8_1).f0), .int .i64 ((rd_T204 l0 x8_1).f1), .int .i64 ((rd_T204 l0 x8_1).f2), .int .i64 ((rd_T204 l0 x8_1).f3)]; replace HB := bs HB hb; (try clear hb); (try clear hb2); (try clear hk); (try clear hi); obtain ⟨hcz12_0, hcz12_1, hcz12_2, hcz12_3, hfz12_0, hfz12_1, hfz12_2, hfz12_3⟩ := cs4 BK781) | ((with_reducible refine gate_callee (f := 236) rfl ?_); refine gB (some 17) Tryz.func236 #[.agg #[.int .i64 ((rd_T204 l0 x8_1).f0), .int .i64 ((rd_T204 l0 x8_1).f1), .int .i64 ((rd_T204 l0 x8_1).f2), .int .i64 ((rd_T204 l0 x8_1).f3)]] ?_; (with_reducible refine (impl_TxText.calls ((rd_T204 l0 x8_1).f0) ((rd_T204 l0 x8_1).f1) ((rd_T204 l0 x8_1).f2) ((rd_T204 l0 x8_1).f3) t783 _ A7.out).mono ?_); rintro e w13 ⟨rfl, hb⟩; refine ⟨_, rfl, ?_⟩; replace HO_3 := rb HO_3 hb; replace BK781 := bk BK781 hb; replace HB := bs HB hb; (try clear hb); (try clear hb2); (try clear hk); (try clear hi)) | ((with_reducible refine gate_builtin (b := .append) (xs := #[.tmp 15, .tmp 18]) rfl ?_); at_builtin; refine Kd.R_append Kd.string (w0 := w) w.heap.size rfl (.tmp 15) (.tmp 18) 192 9 (.string ⟨#[]⟩) 16 rfl Tryz.underlying192 info9 rfl (by decide) (by omega) u3 x3_1 t783 [.string t783] (fun _ => True) (fun _ => False) rfl rfl ?aP (fun _ hk => hk.elim) ?aF ?aO ?aB ?aS ?aL ?_; (case aP => exact rfl); (case aB => exact (bI HB.out)); (case aF => exact (fun _ _ => trivial)); (case aO => exact (rI HO_3.out)); (case aS => exact (below_size (bI HB.out))); (case aL => have := LMc8.out; omega); intro v785 w14 ho hb hg hat; rw [← Ny784.out] at ho; have n0_ := bn BK781 hg (Kd.R_ne HO_3.out BK781.out (by decide)); have n1_ := Aside0.mk (hb); have n2_ := Aside0.mk (ho); clear BK781; clear HB; clear HO_3; have BK781 := n0_; have HB := n1_; have HO786 := n2_; clear n0_ n1_ n2_; clear ho hb hg hat))
     go_roundg k1
     case measure => have := HK1.out; omega
     case rel => exact ⟨(y784), (wrap64 (x8_1 + 1)), y0_18, H', ⟨y0_21⟩, ⟨by (with_reducible repeat (first | apply Kd.R_alloc | apply Kd.R_drewN | apply Kd.R_drew)); exact HO786.out⟩, ⟨bI HB.out⟩⟩
    replace c6 := Bool.eq_false_iff.mpr c6; subst c6
    rw [if_neg (show ¬ (false = true) by decide)] at H
    obtain rfl := Option.some.inj H; have p780 : 0 ≤ (x8_1 : Int) := of_decide_eq_true y0_17; have q780 : x8_1 < (l0.length : Int) := of_decide_eq_true y0_17; obtain ⟨ad780, e780, hx780_0, hx780_1, hx780_2, hx780_3⟩ := at_T204 HR0.out x8_1 p780 q780; cases e780; replace hx780_0 := bx HB hx780_0; replace hx780_1 := bx HB hx780_1; replace hx780_2 := bx HB hx780_2; replace hx780_3 := bx HB hx780_3; replace p780 := eq_true p780; replace q780 := eq_true q780
    go_wp2_with (first | ((with_reducible refine gd 5 ?_); refine bA 5 #[.int .i64 0, .int .i64 0, .int .i64 0, .int .i64 0] 204 ?_; intro gb781 hg w15 hbox hb; replace HO_3 := rb HO_3 hb; have BK781 := Aside0.mk (hbox); have GW781 := bg hg HB; have GJ781 := gi GW781; have GE781 := GW781; replace HB := bs HB hb; clear hb hbox hg; obtain ⟨hcz16_0, hcz16_1, hcz16_2, hcz16_3, hfz16_0, hfz16_1, hfz16_2, hfz16_3⟩ := cs4 BK781) | ((with_reducible refine gate_callee (f := 213) rfl ?_); refine gB (some 13) Tryz.func213 #[.agg #[.int .i64 ((rd_T204 l0 x8_1).f0), .int .i64 ((rd_T204 l0 x8_1).f1), .int .i64 ((rd_T204 l0 x8_1).f2), .int .i64 ((rd_T204 l0 x8_1).f3)]] ?_; (with_reducible refine (impl_TxOk.calls ((rd_T204 l0 x8_1).f0) ((rd_T204 l0 x8_1).f1) ((rd_T204 l0 x8_1).f2) ((rd_T204 l0 x8_1).f3) false _ A5.out).mono ?_); rintro e w17 ⟨rfl, hb⟩; refine ⟨_, rfl, ?_⟩; replace HO_3 := Aside0.mk (Kd.R_below (rI (Kd.R_mono (Kd.R_far (p := ⟨gb781, 3, none⟩) (Kd.R_far (p := ⟨gb781, 2, none⟩) (Kd.R_far (p := ⟨gb781, 1, none⟩) (Kd.R_far (p := ⟨gb781, 0, none⟩) (Kd.R_types HO_3.out BK781.out (by decide)) (fun _ hk => hk.2) (.int .i64 ((rd_T204 l0 x8_1).f0))) (fun _ hk => hk.2) (.int .i64 ((rd_T204 l0 x8_1).f1))) (fun _ hk => hk.2) (.int .i64 ((rd_T204 l0 x8_1).f2))) (fun _ hk => hk.2) (.int .i64 ((rd_T204 l0 x8_1).f3))) (fun _ h_ => h_.1))) hb); replace BK781 := bp BK781 hb #[.int .i64 ((rd_T204 l0 x8_1).f0), .int .i64 ((rd_T204 l0 x8_1).f1), .int .i64 ((rd_T204 l0 x8_1).f2), .int .i64 ((rd_T204 l0 x8_1).f3)]; replace HB := bs HB hb; (try clear hb); (try clear hb2); (try clear hk); (try clear hi)))
    go_ret
    exact ⟨y0_14, bI HB.out⟩
   rw [if_neg c2] at H
   have c2b0 : decide (x8_1 < (l0.length : Int)) = false := decide_eq_false c2; clear c2; obtain ⟨t779, A180, H⟩ := Option.bind_eq_some_iff.mp H
   try dsimp only at H
   have A18 := Aside0.mk A180; clear A180; obtain rfl := Option.some.inj H; obtain ⟨Ao19, co19, eo19⟩ := Kd.R_slice HO_3.out; subst eo19
   go_wp2_with (first | ((with_reducible refine gate_callee (f := 237) rfl ?_); refine gB (some 22) Tryz.func237 #[.slice Ao19 x3_1.length co19, .string (⟨#[44]⟩ : ByteArray)] ?_; (with_reducible refine (strings_Join.calls _ _ x3_1 (⟨#[44]⟩ : ByteArray) t779 _ ?side1 ?side2 A18.out).mono ?_); (case side1 => repeat (first | exact (Kd.R_reads' HO_3.out).2.2 | (with_reducible refine Kd.C_alloc ?_ _) | (with_reducible refine Kd.C_drewN ?_ _) | (with_reducible refine Kd.C_drew ?_))); (case side2 => exact (Kd.R_reads' HO_3.out).2.1); rintro e w20 ⟨rfl, hb⟩; refine ⟨_, rfl, ?_⟩; replace HO_3 := rb HO_3 hb; replace HB := bs HB hb; (try clear hb); (try clear hb2); (try clear hk); (try clear hi)))
   go_ret
   exact ⟨y0_14, bI HB.out⟩

/-! ### impl_NameOf: function 162 -/
def impl_NameOf.l0 : Nat → ByteArray → Int → List (S204) → List (S204) → Int → Int → Option (ByteArray)
 | 0, _, _, _, _, _, _ => none
 | k + 1, x0, x1, x2, x10, x11, x12 => if x12 < x11 then (if 0 ≤ x12 then (if x12 < (x10.length : Int) then ((impl_TxOk.f ((rd_T204 x10 x12).f0) ((rd_T204 x10 x12).f1) ((rd_T204 x10 x12).f2) ((rd_T204 x10 x12).f3)).bind fun t789 => (if t789 = true then (impl_NameOf.l0 k x0 x1 x2 x10 x11 (wrap64 (x12 + 1))) else (some (⟨#[]⟩ : ByteArray)))) else (none)) else (none)) else (if x0.size + 1 ≤ 9223372036854775807 then ((impl_Digits.f x1).bind fun t790 => (if (x0 ++ (⟨#[47]⟩ : ByteArray)).size + t790.size ≤ 9223372036854775807 then (if ((x0 ++ (⟨#[47]⟩ : ByteArray)) ++ t790).size + 1 ≤ 9223372036854775807 then ((impl_TxsText.f k x2).bind fun t791 => (if (((x0 ++ (⟨#[47]⟩ : ByteArray)) ++ t790) ++ (⟨#[124]⟩ : ByteArray)).size + t791.size ≤ 9223372036854775807 then (if (x2.length : Int) > 2 then (some (⟨#[]⟩ : ByteArray)) else ((impl_NameOk.f k ((((x0 ++ (⟨#[47]⟩ : ByteArray)) ++ t790) ++ (⟨#[124]⟩ : ByteArray)) ++ t791)).bind fun t792 => (if t792 = true then (some ((((x0 ++ (⟨#[47]⟩ : ByteArray)) ++ t790) ++ (⟨#[124]⟩ : ByteArray)) ++ t791)) else (some (⟨#[]⟩ : ByteArray))))) else (none))) else (none)) else (none))) else (none))
def impl_NameOf.f (k : Nat) (a0 : ByteArray) (a1 : Int) (l2 : List (S204)) : Option (ByteArray) := impl_NameOf.l0 k a0 a1 l2 l2 (l2.length : Int) 0
theorem impl_NameOf.mono_l : ∀ k, (∀ y0 y1 y2 y3 y4 y5, LeO (impl_NameOf.l0 k y0 y1 y2 y3 y4 y5) (impl_NameOf.l0 (k + 1) y0 y1 y2 y3 y4 y5))
 | 0 => fun _ _ _ _ _ _ r h => by simp [impl_NameOf.l0] at h
 | k + 1 => by
  have ih0 := impl_NameOf.mono_l k
  intro y0 y1 y2 y3 y4 y5
  unfold impl_NameOf.l0
  repeat' first | (with_reducible exact ih0 _ _ _ _ _ _) | (with_reducible exact impl_NameOk.mono _ _) | (with_reducible exact impl_TxsText.mono _ _) | (with_reducible exact LeO.refl _) | (with_reducible exact LeO.none _) | (with_reducible refine LeO.ite ?_ ?_) | (with_reducible refine LeO.bind ?_ (fun _ => ?_))
theorem impl_NameOf.mono : ∀ a0 a1 a2 k, LeO (impl_NameOf.f k a0 a1 a2) (impl_NameOf.f (k + 1) a0 a1 a2) := by
 intro a0 a1 a2 k
 have ih0 := impl_NameOf.mono_l k
 unfold impl_NameOf.f
 repeat' first | (with_reducible exact ih0 _ _ _ _ _ _) | (with_reducible exact impl_NameOk.mono _ _) | (with_reducible exact impl_TxsText.mono _ _) | (with_reducible exact LeO.refl _) | (with_reducible exact LeO.none _) | (with_reducible refine LeO.ite ?_ ?_) | (with_reducible refine LeO.bind ?_ (fun _ => ?_))
set_option maxHeartbeats 8000000 in
set_option maxRecDepth 100000 in
theorem impl_NameOf.calls (k : Nat) (a0 : ByteArray) (a1 : Int) (A2 : Option Addr) (c2 : Nat) (l2 : List (S204)) (r : ByteArray) (w : World) (hr2 : Kd.C k204 w A2 l2.length l2) (hc2 : l2.length ≤ c2) (h : impl_NameOf.f k a0 a1 l2 = some r) (hG : Glob w := by exact gG HG HB) :
  Calls Tryz.prog 162 #[.string a0, .int .i64 a1, .slice A2 l2.length c2] w fun e w' => e = .returned (.string r) ∧ Below w.heap.size w w' := by
 have HG := Aside0.mk hG; clear hG; have hu204 := Tryz.underlying204; have HR2 := Aside0.mk hr2; have HC2 := Aside0.mk hc2; clear hr2 hc2; have HB := Aside0.mk (Below.refl w.heap.size w); have H : (impl_NameOf.l0 k a0 a1 l2 l2 (l2.length : Int) 0) = some r := h; clear h; have H' := Aside0.mk H; clear H
 go_enter Tryz.func162, Tryz.ntmps162
 go_wp2
 go_loopg [12] k (fun kq v12 w' => ∃ (x12_1 : Int), v12 = .int .i64 x12_1 ∧ Aside0 (impl_NameOf.l0 kq a0 a1 l2 l2 (l2.length : Int) x12_1 = some r) ∧ Aside0 (kq ≤ k) ∧ Aside0 (Below w.heap.size w w'))
 case atStart => exact ⟨(0), y0_18, H', ⟨Nat.le_refl _⟩, ⟨bI HB.out⟩⟩
 case round =>
  clear H'
  try clear c1
  try clear c2
  try clear p2
  obtain ⟨x12_1, rfl, HA, HK1, HB⟩ := hrel; cases gk with
  | zero => exact absurd HA.out (by simp [impl_NameOf.l0])
  | succ k1 =>
   have H := HA.out; clear HA
   simp only [impl_NameOf.l0] at H
   by_cases c4 : x12_1 < (l2.length : Int)
   ·
    rw [if_pos c4] at H
    have c4b0 : decide (x12_1 < (l2.length : Int)) = true := decide_eq_true c4; clear c4
    by_cases c5 : 0 ≤ x12_1
    rotate_left
    ·
     rw [if_neg c5] at H
     exact absurd H (by simp)
    rw [if_pos c5] at H
    have c5b0 : decide (0 ≤ x12_1) = true := decide_eq_true c5; clear c5
    by_cases c6 : x12_1 < (l2.length : Int)
    rotate_left
    ·
     rw [if_neg c6] at H
     exact absurd H (by simp)
    rw [if_pos c6] at H
    have c6b0 : decide (x12_1 < (l2.length : Int)) = true := decide_eq_true c6; clear c6; obtain ⟨t789, A70, H⟩ := Option.bind_eq_some_iff.mp H
    try dsimp only at H
    have A7 := Aside0.mk A70; clear A70
    by_cases c8 : t789 = true
    ·
     subst c8
     rw [if_pos rfl] at H
     have H' := Aside0.mk H; clear H; have p787 : 0 ≤ (x12_1 : Int) := of_decide_eq_true y0_17; have q787 : x12_1 < (l2.length : Int) := of_decide_eq_true y0_17; obtain ⟨ad787, e787, hx787_0, hx787_1, hx787_2, hx787_3⟩ := at_T204 HR2.out x12_1 p787 q787; cases e787; replace hx787_0 := bx HB hx787_0; replace hx787_1 := bx HB hx787_1; replace hx787_2 := bx HB hx787_2; replace hx787_3 := bx HB hx787_3; replace p787 := eq_true p787; replace q787 := eq_true q787
     go_wp2_with (first | ((with_reducible refine gd 8 ?_); refine bA 8 #[.int .i64 0, .int .i64 0, .int .i64 0, .int .i64 0] 204 ?_; intro gb788 hg w9 hbox hb; have BK788 := Aside0.mk (hbox); have GW788 := bg hg HB; have GJ788 := gi GW788; have GE788 := GW788; replace HB := bs HB hb; clear hb hbox hg; obtain ⟨hcz10_0, hcz10_1, hcz10_2, hcz10_3, hfz10_0, hfz10_1, hfz10_2, hfz10_3⟩ := cs4 BK788) | ((with_reducible refine gate_callee (f := 213) rfl ?_); refine gB (some 17) Tryz.func213 #[.agg #[.int .i64 ((rd_T204 l2 x12_1).f0), .int .i64 ((rd_T204 l2 x12_1).f1), .int .i64 ((rd_T204 l2 x12_1).f2), .int .i64 ((rd_T204 l2 x12_1).f3)]] ?_; (with_reducible refine (impl_TxOk.calls ((rd_T204 l2 x12_1).f0) ((rd_T204 l2 x12_1).f1) ((rd_T204 l2 x12_1).f2) ((rd_T204 l2 x12_1).f3) true _ A7.out).mono ?_); rintro e w11 ⟨rfl, hb⟩; refine ⟨_, rfl, ?_⟩; replace BK788 := bp BK788 hb #[.int .i64 ((rd_T204 l2 x12_1).f0), .int .i64 ((rd_T204 l2 x12_1).f1), .int .i64 ((rd_T204 l2 x12_1).f2), .int .i64 ((rd_T204 l2 x12_1).f3)]; replace HB := bs HB hb; (try clear hb); (try clear hb2); (try clear hk); (try clear hi)))
     go_roundg k1
     case measure => have := HK1.out; omega
     case rel => exact ⟨(wrap64 (x12_1 + 1)), y0_18, H', ⟨y0_21⟩, ⟨bI HB.out⟩⟩
    replace c8 := Bool.eq_false_iff.mpr c8; subst c8
    rw [if_neg (show ¬ (false = true) by decide)] at H
    obtain rfl := Option.some.inj H; have p787 : 0 ≤ (x12_1 : Int) := of_decide_eq_true y0_17; have q787 : x12_1 < (l2.length : Int) := of_decide_eq_true y0_17; obtain ⟨ad787, e787, hx787_0, hx787_1, hx787_2, hx787_3⟩ := at_T204 HR2.out x12_1 p787 q787; cases e787; replace hx787_0 := bx HB hx787_0; replace hx787_1 := bx HB hx787_1; replace hx787_2 := bx HB hx787_2; replace hx787_3 := bx HB hx787_3; replace p787 := eq_true p787; replace q787 := eq_true q787
    go_wp2_with (first | ((with_reducible refine gd 8 ?_); refine bA 8 #[.int .i64 0, .int .i64 0, .int .i64 0, .int .i64 0] 204 ?_; intro gb788 hg w12 hbox hb; have BK788 := Aside0.mk (hbox); have GW788 := bg hg HB; have GJ788 := gi GW788; have GE788 := GW788; replace HB := bs HB hb; clear hb hbox hg; obtain ⟨hcz13_0, hcz13_1, hcz13_2, hcz13_3, hfz13_0, hfz13_1, hfz13_2, hfz13_3⟩ := cs4 BK788) | ((with_reducible refine gate_callee (f := 213) rfl ?_); refine gB (some 17) Tryz.func213 #[.agg #[.int .i64 ((rd_T204 l2 x12_1).f0), .int .i64 ((rd_T204 l2 x12_1).f1), .int .i64 ((rd_T204 l2 x12_1).f2), .int .i64 ((rd_T204 l2 x12_1).f3)]] ?_; (with_reducible refine (impl_TxOk.calls ((rd_T204 l2 x12_1).f0) ((rd_T204 l2 x12_1).f1) ((rd_T204 l2 x12_1).f2) ((rd_T204 l2 x12_1).f3) false _ A7.out).mono ?_); rintro e w14 ⟨rfl, hb⟩; refine ⟨_, rfl, ?_⟩; replace BK788 := bp BK788 hb #[.int .i64 ((rd_T204 l2 x12_1).f0), .int .i64 ((rd_T204 l2 x12_1).f1), .int .i64 ((rd_T204 l2 x12_1).f2), .int .i64 ((rd_T204 l2 x12_1).f3)]; replace HB := bs HB hb; (try clear hb); (try clear hb2); (try clear hk); (try clear hi)))
    go_ret
    exact ⟨y0_14, bI HB.out⟩
   rw [if_neg c4] at H
   have c4b0 : decide (x12_1 < (l2.length : Int)) = false := decide_eq_false c4; clear c4
   by_cases c15 : a0.size + 1 ≤ 9223372036854775807
   ·
    rw [if_pos c15] at H
    have c15b0 := eq_true c15; have c15b1 : decide (a0.size + 1 ≤ 9223372036854775807) = true := decide_eq_true c15
    try have c15b2 : (9223372036854775807 < a0.size + 1) = False := eq_false (Nat.not_lt.2 c15)
    obtain ⟨t790, A160, H⟩ := Option.bind_eq_some_iff.mp H
    try dsimp only at H
    have A16 := Aside0.mk A160; clear A160
    by_cases c17 : (a0 ++ (⟨#[47]⟩ : ByteArray)).size + t790.size ≤ 9223372036854775807
    rotate_left
    ·
     rw [if_neg c17] at H
     exact absurd H (by simp)
    rw [if_pos c17] at H
    have c17b0 := eq_true c17; have c17b1 : decide ((a0 ++ (⟨#[47]⟩ : ByteArray)).size + t790.size ≤ 9223372036854775807) = true := decide_eq_true c17
    try have c17b2 : (9223372036854775807 < (a0 ++ (⟨#[47]⟩ : ByteArray)).size + t790.size) = False := eq_false (Nat.not_lt.2 c17)
    (try have c17b3 : (9223372036854775807 < a0.size + 1 + t790.size) = False := eq_false (by have h_ := c17; simp only [ByteArray.size_append, ByteArray.size_extract, show (⟨#[47]⟩ : ByteArray).size = 1 from rfl] at h_; omega))
    by_cases c18 : ((a0 ++ (⟨#[47]⟩ : ByteArray)) ++ t790).size + 1 ≤ 9223372036854775807
    rotate_left
    ·
     rw [if_neg c18] at H
     exact absurd H (by simp)
    rw [if_pos c18] at H
    have c18b0 := eq_true c18; have c18b1 : decide (((a0 ++ (⟨#[47]⟩ : ByteArray)) ++ t790).size + 1 ≤ 9223372036854775807) = true := decide_eq_true c18
    try have c18b2 : (9223372036854775807 < ((a0 ++ (⟨#[47]⟩ : ByteArray)) ++ t790).size + 1) = False := eq_false (Nat.not_lt.2 c18)
    (try have c18b3 : (9223372036854775807 < a0.size + 1 + t790.size + 1) = False := eq_false (by have h_ := c18; simp only [ByteArray.size_append, ByteArray.size_extract, show (⟨#[47]⟩ : ByteArray).size = 1 from rfl] at h_; omega))
    obtain ⟨t791, A190, H⟩ := Option.bind_eq_some_iff.mp H
    try dsimp only at H
    have A19 := Aside0.mk A190; clear A190
    by_cases c20 : (((a0 ++ (⟨#[47]⟩ : ByteArray)) ++ t790) ++ (⟨#[124]⟩ : ByteArray)).size + t791.size ≤ 9223372036854775807
    rotate_left
    ·
     rw [if_neg c20] at H
     exact absurd H (by simp)
    rw [if_pos c20] at H
    have c20b0 := eq_true c20; have c20b1 : decide ((((a0 ++ (⟨#[47]⟩ : ByteArray)) ++ t790) ++ (⟨#[124]⟩ : ByteArray)).size + t791.size ≤ 9223372036854775807) = true := decide_eq_true c20
    try have c20b2 : (9223372036854775807 < (((a0 ++ (⟨#[47]⟩ : ByteArray)) ++ t790) ++ (⟨#[124]⟩ : ByteArray)).size + t791.size) = False := eq_false (Nat.not_lt.2 c20)
    (try have c20b3 : (9223372036854775807 < a0.size + 1 + t790.size + 1 + t791.size) = False := eq_false (by have h_ := c20; simp only [ByteArray.size_append, ByteArray.size_extract, show (⟨#[124]⟩ : ByteArray).size = 1 from rfl, show (⟨#[47]⟩ : ByteArray).size = 1 from rfl] at h_; omega))
    by_cases c21 : (l2.length : Int) > 2
    ·
     rw [if_pos c21] at H
     have c21b0 : decide (2 < (l2.length : Int)) = true := decide_eq_true c21
     have c21b1 : decide (2 < l2.length) = true := decide_eq_true (by omega)
     clear c21; obtain rfl := Option.some.inj H
     go_wp2_with (first | ((with_reducible refine gate_callee (f := 214) rfl ?_); refine gB (some 23) Tryz.func214 #[.int .i64 a1] ?_; (with_reducible refine (impl_Digits.calls a1 t790 _ A16.out).mono ?_); rintro e w22 ⟨rfl, hb⟩; refine ⟨_, rfl, ?_⟩; replace HB := bs HB hb; (try clear hb); (try clear hb2); (try clear hk); (try clear hi)) | ((with_reducible refine gate_callee (f := 215) rfl ?_); refine gB (some 27) Tryz.func215 #[.slice A2 l2.length c2] ?_; (with_reducible refine (impl_TxsText.calls k1 _ _ l2 t791 _ ?side1 ?side2 A19.out).mono ?_); (case side1 => exact ch HR2 HB); (case side2 => exact HC2.out); rintro e w23 ⟨rfl, hb⟩; refine ⟨_, rfl, ?_⟩; replace HB := bs HB hb; (try clear hb); (try clear hb2); (try clear hk); (try clear hi)))
     go_ret
     exact ⟨y0_14, bI HB.out⟩
    rw [if_neg c21] at H
    have c21b0 : decide (2 < (l2.length : Int)) = false := decide_eq_false c21
    have c21b1 : decide (2 < l2.length) = false := decide_eq_false (by omega)
    clear c21; obtain ⟨t792, A240, H⟩ := Option.bind_eq_some_iff.mp H
    try dsimp only at H
    have A24 := Aside0.mk A240; clear A240
    by_cases c25 : t792 = true
    ·
     subst c25
     rw [if_pos rfl] at H
     obtain rfl := Option.some.inj H
     go_wp2_with (first | ((with_reducible refine gate_callee (f := 214) rfl ?_); refine gB (some 23) Tryz.func214 #[.int .i64 a1] ?_; (with_reducible refine (impl_Digits.calls a1 t790 _ A16.out).mono ?_); rintro e w26 ⟨rfl, hb⟩; refine ⟨_, rfl, ?_⟩; replace HB := bs HB hb; (try clear hb); (try clear hb2); (try clear hk); (try clear hi)) | ((with_reducible refine gate_callee (f := 215) rfl ?_); refine gB (some 27) Tryz.func215 #[.slice A2 l2.length c2] ?_; (with_reducible refine (impl_TxsText.calls k1 _ _ l2 t791 _ ?side1 ?side2 A19.out).mono ?_); (case side1 => exact ch HR2 HB); (case side2 => exact HC2.out); rintro e w27 ⟨rfl, hb⟩; refine ⟨_, rfl, ?_⟩; replace HB := bs HB hb; (try clear hb); (try clear hb2); (try clear hk); (try clear hi)) | (go_at_call 139; (with_reducible refine (impl_NameOk.calls k1 ((((a0 ++ (⟨#[47]⟩ : ByteArray)) ++ t790) ++ (⟨#[124]⟩ : ByteArray)) ++ t791) true _ A24.out).mono ?_); rintro e w28 ⟨rfl, hb⟩; replace HB := bs HB hb; (try clear hb); (try clear hb2); (try clear hk); (try clear hi)))
     go_ret
     exact ⟨y0_14, bI HB.out⟩
    replace c25 := Bool.eq_false_iff.mpr c25; subst c25
    rw [if_neg (show ¬ (false = true) by decide)] at H
    obtain rfl := Option.some.inj H
    go_wp2_with (first | ((with_reducible refine gate_callee (f := 214) rfl ?_); refine gB (some 23) Tryz.func214 #[.int .i64 a1] ?_; (with_reducible refine (impl_Digits.calls a1 t790 _ A16.out).mono ?_); rintro e w29 ⟨rfl, hb⟩; refine ⟨_, rfl, ?_⟩; replace HB := bs HB hb; (try clear hb); (try clear hb2); (try clear hk); (try clear hi)) | ((with_reducible refine gate_callee (f := 215) rfl ?_); refine gB (some 27) Tryz.func215 #[.slice A2 l2.length c2] ?_; (with_reducible refine (impl_TxsText.calls k1 _ _ l2 t791 _ ?side1 ?side2 A19.out).mono ?_); (case side1 => exact ch HR2 HB); (case side2 => exact HC2.out); rintro e w30 ⟨rfl, hb⟩; refine ⟨_, rfl, ?_⟩; replace HB := bs HB hb; (try clear hb); (try clear hb2); (try clear hk); (try clear hi)) | (go_at_call 139; (with_reducible refine (impl_NameOk.calls k1 ((((a0 ++ (⟨#[47]⟩ : ByteArray)) ++ t790) ++ (⟨#[124]⟩ : ByteArray)) ++ t791) false _ A24.out).mono ?_); rintro e w31 ⟨rfl, hb⟩; replace HB := bs HB hb; (try clear hb); (try clear hb2); (try clear hk); (try clear hi)))
    go_ret
    exact ⟨y0_14, bI HB.out⟩
   rw [if_neg c15] at H
   exact absurd H (by simp)

end Go.Proofs.YtnpbopadajbopaaGreatDoor.PFnBlocks
