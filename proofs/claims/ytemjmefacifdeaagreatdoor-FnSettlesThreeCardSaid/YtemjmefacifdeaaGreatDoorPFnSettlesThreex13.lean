-- By a program of this session, out of the translation (the print of the kit, with turns of its own). Lean checks it.
import Derived.Test.YtemjmefacifdeaaGreatDoorPFnSettlesThreex0
import Derived.Test.YtemjmefacifdeaaGreatDoorPFnSettlesThreex10
import Derived.Test.YtemjmefacifdeaaGreatDoorPFnSettlesThreex12
namespace Go.Proofs.YtemjmefacifdeaaGreatDoor.PFnSettlesThree
open Go.RowKit Go.Proofs.YtemjmefacifdeaaGreatDoorW.PrintWords Go.Proofs.YtemjmefacifdeaaGreatDoorW.PrintLast Go.Proofs.YtemjmefacifdeaaGreatDoorW.PrintMore
attribute [local go_sem] max2_int min2_int max_two min_two max_three min_three max_four min_four   -- for this text's walks alone
set_option linter.unusedVariables false
set_option linter.unusedSimpArgs false

/-! ### impl_Extends: function 75 -/
theorem bt_size_impl_Extends (s t : ByteArray) : ∀ h : t.size < s.size, (((s[t.size]'h).toNat : Nat) : Int) = bt s (t.size : Int) := fun h => by
 unfold bt
 rw [dif_pos (show ((t.size : Int)).toNat < s.size by simpa using h)]
 rfl
def impl_Extends.f (k : Nat) (a0 : ByteArray) (a1 : ByteArray) : Option (Bool) := (impl_NameOk.f k a0).bind fun t430 => (if t430 = true then ((impl_NameOk.f k a1).bind fun t431 => (if t431 = true then ((strings_HasPrefix.f a0 a1).bind fun t432 => (if t432 = true then (if (a0.size : Int) = (a1.size : Int) then (some true) else (if 0 ≤ (a1.size : Int) then (if (a1.size : Int) < (a0.size : Int) then (some ((bt a0 (a1.size : Int)) == 47)) else (none)) else (none))) else (some false))) else (some false))) else (some false))
theorem impl_Extends.mono : ∀ a0 a1 k, LeO (impl_Extends.f k a0 a1) (impl_Extends.f (k + 1) a0 a1) := by
 intro a0 a1 k
 unfold impl_Extends.f
 repeat' first | (with_reducible exact impl_NameOk.mono _ _) | (with_reducible exact LeO.refl _) | (with_reducible exact LeO.none _) | (with_reducible refine LeO.ite ?_ ?_) | (with_reducible refine LeO.bind ?_ (fun _ => ?_))
set_option maxHeartbeats 8000000 in
set_option maxRecDepth 100000 in
theorem impl_Extends.calls (k : Nat) (a0 : ByteArray) (a1 : ByteArray) (r : Bool) (w : World) (h : impl_Extends.f k a0 a1 = some r) (hG : Glob w := by exact gG HG HB) :
  Calls Tryz.prog 75 #[.string a0, .string a1] w fun e w' => e = .returned (.bool r) ∧ Below w.heap.size w w' := by
 have HG := Aside0.mk hG; clear hG; have HB := Aside0.mk (Below.refl w.heap.size w); have hxs := bt_size_impl_Extends a0 a1
 have H : ((impl_NameOk.f k a0).bind fun t430 => (if t430 = true then ((impl_NameOk.f k a1).bind fun t431 => (if t431 = true then ((strings_HasPrefix.f a0 a1).bind fun t432 => (if t432 = true then (if (a0.size : Int) = (a1.size : Int) then (some true) else (if 0 ≤ (a1.size : Int) then (if (a1.size : Int) < (a0.size : Int) then (some ((bt a0 (a1.size : Int)) == 47)) else (none)) else (none))) else (some false))) else (some false))) else (some false))) = some r := h
 clear h; obtain ⟨t430, A30, H⟩ := Option.bind_eq_some_iff.mp H
 try dsimp only at H
 have A3 := Aside0.mk A30; clear A30
 by_cases c4 : t430 = true
 ·
  subst c4
  rw [if_pos rfl] at H
  obtain ⟨t431, A50, H⟩ := Option.bind_eq_some_iff.mp H
  try dsimp only at H
  have A5 := Aside0.mk A50; clear A50
  by_cases c6 : t431 = true
  ·
   subst c6
   rw [if_pos rfl] at H
   obtain ⟨t432, A70, H⟩ := Option.bind_eq_some_iff.mp H
   try dsimp only at H
   have A7 := Aside0.mk A70; clear A70
   by_cases c8 : t432 = true
   ·
    subst c8
    rw [if_pos rfl] at H
    by_cases c9 : (a0.size : Int) = (a1.size : Int)
    ·
     rw [if_pos c9] at H
     have c9b0 : ((a0.size : Int) == (a1.size : Int)) = true := beq_iff_eq.mpr c9; have c9b1 : ((a0.size : Int) != (a1.size : Int)) = false := bne_eq_false_iff_eq.mpr c9
     have c9b2 : (a0.size == a1.size) = true := by first | simpa using c9 | (simp at c9 ⊢; omega)
     clear c9; obtain rfl := Option.some.inj H
     go_enter Tryz.func75, Tryz.ntmps75
     go_wp2_with (first | ((with_reducible refine gate_callee (f := 95) rfl ?_); refine gB (some 6) Tryz.func95 #[.string a0] ?_; (with_reducible refine (impl_NameOk.calls k a0 true _ A3.out).mono ?_); rintro e w10 ⟨rfl, hb⟩; refine ⟨_, rfl, ?_⟩; replace HB := bs HB hb; (try clear hb); (try clear hb2); (try clear hk); (try clear hi)) | (go_at_call 95; (with_reducible refine (impl_NameOk.calls k a1 true _ A5.out).mono ?_); rintro e w11 ⟨rfl, hb⟩; replace HB := bs HB hb; (try clear hb); (try clear hb2); (try clear hk); (try clear hi)) | (go_at_call 106; (with_reducible refine (strings_HasPrefix.calls a0 a1 true _ A7.out).mono ?_); rintro e w' ⟨rfl, ⟨nd, rfl⟩⟩))
     go_ret
     exact ⟨y0_6, bI HB.out⟩
    rw [if_neg c9] at H
    have c9b0 : ((a0.size : Int) == (a1.size : Int)) = false := beq_eq_false_iff_ne.mpr c9; have c9b1 : ((a0.size : Int) != (a1.size : Int)) = true := bne_iff_ne.mpr c9
    have c9b2 : (a0.size == a1.size) = false := by first | simpa using c9 | (simp at c9 ⊢; omega)
    by_cases c12 : 0 ≤ (a1.size : Int)
    rotate_left
    ·
     rw [if_neg c12] at H
     exact absurd H (by simp)
    rw [if_pos c12] at H
    have c12b0 : decide (0 ≤ (a1.size : Int)) = true := decide_eq_true c12
    have c12b1 : decide (0 ≤ a1.size) = true := decide_eq_true (by omega)
    clear c12
    by_cases c13 : (a1.size : Int) < (a0.size : Int)
    rotate_left
    ·
     rw [if_neg c13] at H
     exact absurd H (by simp)
    rw [if_pos c13] at H
    have c13b0 : decide ((a1.size : Int) < (a0.size : Int)) = true := decide_eq_true c13; have c13b1 : decide (a1.size < a0.size) = true := decide_eq_true (Int.ofNat_lt.mp c13); clear c13; obtain rfl := Option.some.inj H
    go_enter Tryz.func75, Tryz.ntmps75
    go_wp2_with (first | ((with_reducible refine gate_callee (f := 95) rfl ?_); refine gB (some 6) Tryz.func95 #[.string a0] ?_; (with_reducible refine (impl_NameOk.calls k a0 true _ A3.out).mono ?_); rintro e w15 ⟨rfl, hb⟩; refine ⟨_, rfl, ?_⟩; replace HB := bs HB hb; (try clear hb); (try clear hb2); (try clear hk); (try clear hi)) | (go_at_call 95; (with_reducible refine (impl_NameOk.calls k a1 true _ A5.out).mono ?_); rintro e w16 ⟨rfl, hb⟩; replace HB := bs HB hb; (try clear hb); (try clear hb2); (try clear hk); (try clear hi)) | (go_at_call 106; (with_reducible refine (strings_HasPrefix.calls a0 a1 true _ A7.out).mono ?_); rintro e w' ⟨rfl, ⟨nd, rfl⟩⟩; have p14 : 0 ≤ ((a1.size : Int) : Int) := of_decide_eq_true y0_8; have q14 : (a1.size : Int) < (a0.size : Int) := of_decide_eq_true y0_8; have hx14 := bt_at a0 (a1.size : Int); replace p14 := eq_true p14; replace q14 := eq_true q14))
    go_ret
    exact ⟨y0_6, bI HB.out⟩
   replace c8 := Bool.eq_false_iff.mpr c8; subst c8
   rw [if_neg (show ¬ (false = true) by decide)] at H
   obtain rfl := Option.some.inj H
   go_enter Tryz.func75, Tryz.ntmps75
   go_wp2_with (first | ((with_reducible refine gate_callee (f := 95) rfl ?_); refine gB (some 6) Tryz.func95 #[.string a0] ?_; (with_reducible refine (impl_NameOk.calls k a0 true _ A3.out).mono ?_); rintro e w17 ⟨rfl, hb⟩; refine ⟨_, rfl, ?_⟩; replace HB := bs HB hb; (try clear hb); (try clear hb2); (try clear hk); (try clear hi)) | (go_at_call 95; (with_reducible refine (impl_NameOk.calls k a1 true _ A5.out).mono ?_); rintro e w18 ⟨rfl, hb⟩; replace HB := bs HB hb; (try clear hb); (try clear hb2); (try clear hk); (try clear hi)) | (go_at_call 106; (with_reducible refine (strings_HasPrefix.calls a0 a1 false _ A7.out).mono ?_); rintro e w' ⟨rfl, ⟨nd, rfl⟩⟩))
   go_ret
   exact ⟨y0_6, bI HB.out⟩
  replace c6 := Bool.eq_false_iff.mpr c6; subst c6
  rw [if_neg (show ¬ (false = true) by decide)] at H
  obtain rfl := Option.some.inj H
  go_enter Tryz.func75, Tryz.ntmps75
  go_wp2_with (first | ((with_reducible refine gate_callee (f := 95) rfl ?_); refine gB (some 6) Tryz.func95 #[.string a0] ?_; (with_reducible refine (impl_NameOk.calls k a0 true _ A3.out).mono ?_); rintro e w19 ⟨rfl, hb⟩; refine ⟨_, rfl, ?_⟩; replace HB := bs HB hb; (try clear hb); (try clear hb2); (try clear hk); (try clear hi)) | (go_at_call 95; (with_reducible refine (impl_NameOk.calls k a1 false _ A5.out).mono ?_); rintro e w20 ⟨rfl, hb⟩; replace HB := bs HB hb; (try clear hb); (try clear hb2); (try clear hk); (try clear hi)))
  go_ret
  exact ⟨y0_6, bI HB.out⟩
 replace c4 := Bool.eq_false_iff.mpr c4; subst c4
 rw [if_neg (show ¬ (false = true) by decide)] at H
 obtain rfl := Option.some.inj H
 go_enter Tryz.func75, Tryz.ntmps75
 go_wp2_with (first | ((with_reducible refine gate_callee (f := 95) rfl ?_); refine gB (some 6) Tryz.func95 #[.string a0] ?_; (with_reducible refine (impl_NameOk.calls k a0 false _ A3.out).mono ?_); rintro e w21 ⟨rfl, hb⟩; refine ⟨_, rfl, ?_⟩; replace HB := bs HB hb; (try clear hb); (try clear hb2); (try clear hk); (try clear hi)))
 go_ret
 exact ⟨y0_6, bI HB.out⟩

end Go.Proofs.YtemjmefacifdeaaGreatDoor.PFnSettlesThree
