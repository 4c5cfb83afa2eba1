-- By a program of this session, out of the translation (the print of the kit, with turns of its own). Lean checks it.
import Derived.Test.YtemjmefacifdeaaGreatDoorPFnSettlesThreex0
import Derived.Test.YtemjmefacifdeaaGreatDoorPFnSettlesThreex3
namespace Go.Proofs.YtemjmefacifdeaaGreatDoor.PFnSettlesThree
open Go.RowKit Go.Proofs.YtemjmefacifdeaaGreatDoorW.PrintWords Go.Proofs.YtemjmefacifdeaaGreatDoorW.PrintLast Go.Proofs.YtemjmefacifdeaaGreatDoorW.PrintMore
attribute [local go_sem] max2_int min2_int max_two min_two max_three min_three max_four min_four   -- for this text's walks alone
set_option linter.unusedVariables false
set_option linter.unusedSimpArgs false

/-! ### spec_Extends: function 70 -/
theorem bt_size_spec_Extends (s t : ByteArray) : ∀ h : t.size < s.size, (((s[t.size]'h).toNat : Nat) : Int) = bt s (t.size : Int) := fun h => by
 unfold bt
 rw [dif_pos (show ((t.size : Int)).toNat < s.size by simpa using h)]
 rfl
def spec_Extends.f (k : Nat) (a0 : ByteArray) (a1 : ByteArray) : Option (Bool) := (spec_NameOk.f k a0).bind fun t262 => (if t262 = true then ((spec_NameOk.f k a1).bind fun t263 => (if t263 = true then (if (a1.size : Int) > (a0.size : Int) then (some false) else (if 0 ≤ (a1.size : Int) then (if (a1.size : Int) ≤ (a0.size : Int) then (if (a0.extract 0 ((a1.size : Int) : Int).toNat).toList = a1.toList then (if (a0.size : Int) = (a1.size : Int) then (some true) else (if (a1.size : Int) < (a0.size : Int) then (some ((bt a0 (a1.size : Int)) == 47)) else (none))) else (some false)) else (none)) else (none))) else (some false))) else (some false))
theorem spec_Extends.mono : ∀ a0 a1 k, LeO (spec_Extends.f k a0 a1) (spec_Extends.f (k + 1) a0 a1) := by
 intro a0 a1 k
 unfold spec_Extends.f
 repeat' first | (with_reducible exact spec_NameOk.mono _ _) | (with_reducible exact LeO.refl _) | (with_reducible exact LeO.none _) | (with_reducible refine LeO.ite ?_ ?_) | (with_reducible refine LeO.bind ?_ (fun _ => ?_))
set_option maxHeartbeats 8000000 in
set_option maxRecDepth 100000 in
theorem spec_Extends.calls (k : Nat) (a0 : ByteArray) (a1 : ByteArray) (r : Bool) (w : World) (h : spec_Extends.f k a0 a1 = some r) :
  Calls Tryz.prog 70 #[.string a0, .string a1] w fun e w' => e = .returned (.bool r) ∧ Below w.heap.size w w' := by
 have HB := Aside0.mk (Below.refl w.heap.size w); have hxs := bt_size_spec_Extends a0 a1
 have H : ((spec_NameOk.f k a0).bind fun t262 => (if t262 = true then ((spec_NameOk.f k a1).bind fun t263 => (if t263 = true then (if (a1.size : Int) > (a0.size : Int) then (some false) else (if 0 ≤ (a1.size : Int) then (if (a1.size : Int) ≤ (a0.size : Int) then (if (a0.extract 0 ((a1.size : Int) : Int).toNat).toList = a1.toList then (if (a0.size : Int) = (a1.size : Int) then (some true) else (if (a1.size : Int) < (a0.size : Int) then (some ((bt a0 (a1.size : Int)) == 47)) else (none))) else (some false)) else (none)) else (none))) else (some false))) else (some false))) = some r := h
 clear h; obtain ⟨t262, A30, H⟩ := Option.bind_eq_some_iff.mp H
 try dsimp only at H
 have A3 := Aside0.mk A30; clear A30
 by_cases c4 : t262 = true
 ·
  subst c4
  rw [if_pos rfl] at H
  obtain ⟨t263, A50, H⟩ := Option.bind_eq_some_iff.mp H
  try dsimp only at H
  have A5 := Aside0.mk A50; clear A50
  by_cases c6 : t263 = true
  ·
   subst c6
   rw [if_pos rfl] at H
   by_cases c7 : (a1.size : Int) > (a0.size : Int)
   ·
    rw [if_pos c7] at H
    have c7b0 : decide ((a0.size : Int) < (a1.size : Int)) = true := decide_eq_true c7; have c7b1 : decide (a0.size < a1.size) = true := decide_eq_true (Int.ofNat_lt.mp c7); clear c7; obtain rfl := Option.some.inj H
    go_enter Tryz.func70, Tryz.ntmps70
    go_wp2_with (first | ((with_reducible refine gate_callee (f := 97) rfl ?_); refine gB (some 6) Tryz.func97 #[.string a0] ?_; (with_reducible refine (spec_NameOk.calls k a0 true _ A3.out).mono ?_); rintro e w8 ⟨rfl, hb⟩; refine ⟨_, rfl, ?_⟩; replace HB := bs HB hb; (try clear hb); (try clear hb2); (try clear hk); (try clear hi)) | (go_at_call 97; (with_reducible refine (spec_NameOk.calls k a1 true _ A5.out).mono ?_); rintro e w9 ⟨rfl, hb⟩; replace HB := bs HB hb; (try clear hb); (try clear hb2); (try clear hk); (try clear hi)))
    go_ret
    exact ⟨y0_6, bI HB.out⟩
   rw [if_neg c7] at H
   have c7b0 : decide ((a0.size : Int) < (a1.size : Int)) = false := decide_eq_false c7
   have c7b1 : decide (a0.size < a1.size) = false := decide_eq_false (fun h => c7 (Int.ofNat_lt.mpr h))
   clear c7
   by_cases c10 : 0 ≤ (a1.size : Int)
   rotate_left
   ·
    rw [if_neg c10] at H
    exact absurd H (by simp)
   rw [if_pos c10] at H
   have c10b0 := eq_true c10; have c10b1 : decide (0 ≤ (a1.size : Int)) = true := decide_eq_true c10; clear c10
   by_cases c11 : (a1.size : Int) ≤ (a0.size : Int)
   rotate_left
   ·
    rw [if_neg c11] at H
    exact absurd H (by simp)
   rw [if_pos c11] at H
   have c11b0 := eq_true c11; have c11b1 : decide ((a1.size : Int) ≤ (a0.size : Int)) = true := decide_eq_true c11; clear c11
   by_cases c12 : (a0.extract 0 ((a1.size : Int) : Int).toNat).toList = a1.toList
   ·
    rw [if_pos c12] at H
    have c12b0 : ((a0.extract 0 ((a1.size : Int) : Int).toNat).toList == a1.toList) = true := beq_iff_eq.mpr c12; have c12b0' : ((a0.extract 0 a1.size).toList == a1.toList) = true := c12b0; have c12b1 : ((a0.extract 0 ((a1.size : Int) : Int).toNat).toList != a1.toList) = false := bne_eq_false_iff_eq.mpr c12; have c12b1' : ((a0.extract 0 a1.size).toList != a1.toList) = false := c12b1; clear c12
    by_cases c13 : (a0.size : Int) = (a1.size : Int)
    ·
     rw [if_pos c13] at H
     have c13b0 : ((a0.size : Int) == (a1.size : Int)) = true := beq_iff_eq.mpr c13; have c13b1 : ((a0.size : Int) != (a1.size : Int)) = false := bne_eq_false_iff_eq.mpr c13
     have c13b2 : (a0.size == a1.size) = true := by first | simpa using c13 | (simp at c13 ⊢; omega)
     clear c13; obtain rfl := Option.some.inj H
     go_enter Tryz.func70, Tryz.ntmps70
     go_wp2_with (first | ((with_reducible refine gate_callee (f := 97) rfl ?_); refine gB (some 6) Tryz.func97 #[.string a0] ?_; (with_reducible refine (spec_NameOk.calls k a0 true _ A3.out).mono ?_); rintro e w14 ⟨rfl, hb⟩; refine ⟨_, rfl, ?_⟩; replace HB := bs HB hb; (try clear hb); (try clear hb2); (try clear hk); (try clear hi)) | (go_at_call 97; (with_reducible refine (spec_NameOk.calls k a1 true _ A5.out).mono ?_); rintro e w15 ⟨rfl, hb⟩; replace HB := bs HB hb; (try clear hb); (try clear hb2); (try clear hk); (try clear hi)))
     go_ret
     exact ⟨y0_6, bI HB.out⟩
    rw [if_neg c13] at H
    have c13b0 : ((a0.size : Int) == (a1.size : Int)) = false := beq_eq_false_iff_ne.mpr c13; have c13b1 : ((a0.size : Int) != (a1.size : Int)) = true := bne_iff_ne.mpr c13
    have c13b2 : (a0.size == a1.size) = false := by first | simpa using c13 | (simp at c13 ⊢; omega)
    by_cases c16 : (a1.size : Int) < (a0.size : Int)
    rotate_left
    ·
     rw [if_neg c16] at H
     exact absurd H (by simp)
    rw [if_pos c16] at H
    have c16b0 : decide ((a1.size : Int) < (a0.size : Int)) = true := decide_eq_true c16; have c16b1 : decide (a1.size < a0.size) = true := decide_eq_true (Int.ofNat_lt.mp c16); clear c16; obtain rfl := Option.some.inj H
    go_enter Tryz.func70, Tryz.ntmps70
    go_wp2_with (first | ((with_reducible refine gate_callee (f := 97) rfl ?_); refine gB (some 6) Tryz.func97 #[.string a0] ?_; (with_reducible refine (spec_NameOk.calls k a0 true _ A3.out).mono ?_); rintro e w18 ⟨rfl, hb⟩; refine ⟨_, rfl, ?_⟩; replace HB := bs HB hb; (try clear hb); (try clear hb2); (try clear hk); (try clear hi)) | (go_at_call 97; (with_reducible refine (spec_NameOk.calls k a1 true _ A5.out).mono ?_); rintro e w19 ⟨rfl, hb⟩; replace HB := bs HB hb; (try clear hb); (try clear hb2); (try clear hk); (try clear hi); have p17 : 0 ≤ ((a1.size : Int) : Int) := of_decide_eq_true y0_8; have q17 : (a1.size : Int) < (a0.size : Int) := of_decide_eq_true y0_8; have hx17 := bt_at a0 (a1.size : Int); replace p17 := eq_true p17; replace q17 := eq_true q17))
    go_ret
    exact ⟨y0_6, bI HB.out⟩
   rw [if_neg c12] at H
   have c12b0 : ((a0.extract 0 ((a1.size : Int) : Int).toNat).toList == a1.toList) = false := beq_eq_false_iff_ne.mpr c12; have c12b0' : ((a0.extract 0 a1.size).toList == a1.toList) = false := c12b0; have c12b1 : ((a0.extract 0 ((a1.size : Int) : Int).toNat).toList != a1.toList) = true := bne_iff_ne.mpr c12; have c12b1' : ((a0.extract 0 a1.size).toList != a1.toList) = true := c12b1; obtain rfl := Option.some.inj H
   go_enter Tryz.func70, Tryz.ntmps70
   go_wp2_with (first | ((with_reducible refine gate_callee (f := 97) rfl ?_); refine gB (some 6) Tryz.func97 #[.string a0] ?_; (with_reducible refine (spec_NameOk.calls k a0 true _ A3.out).mono ?_); rintro e w20 ⟨rfl, hb⟩; refine ⟨_, rfl, ?_⟩; replace HB := bs HB hb; (try clear hb); (try clear hb2); (try clear hk); (try clear hi)) | (go_at_call 97; (with_reducible refine (spec_NameOk.calls k a1 true _ A5.out).mono ?_); rintro e w21 ⟨rfl, hb⟩; replace HB := bs HB hb; (try clear hb); (try clear hb2); (try clear hk); (try clear hi)))
   go_ret
   exact ⟨y0_6, bI HB.out⟩
  replace c6 := Bool.eq_false_iff.mpr c6; subst c6
  rw [if_neg (show ¬ (false = true) by decide)] at H
  obtain rfl := Option.some.inj H
  go_enter Tryz.func70, Tryz.ntmps70
  go_wp2_with (first | ((with_reducible refine gate_callee (f := 97) rfl ?_); refine gB (some 6) Tryz.func97 #[.string a0] ?_; (with_reducible refine (spec_NameOk.calls k a0 true _ A3.out).mono ?_); rintro e w22 ⟨rfl, hb⟩; refine ⟨_, rfl, ?_⟩; replace HB := bs HB hb; (try clear hb); (try clear hb2); (try clear hk); (try clear hi)) | (go_at_call 97; (with_reducible refine (spec_NameOk.calls k a1 false _ A5.out).mono ?_); rintro e w23 ⟨rfl, hb⟩; replace HB := bs HB hb; (try clear hb); (try clear hb2); (try clear hk); (try clear hi)))
  go_ret
  exact ⟨y0_6, bI HB.out⟩
 replace c4 := Bool.eq_false_iff.mpr c4; subst c4
 rw [if_neg (show ¬ (false = true) by decide)] at H
 obtain rfl := Option.some.inj H
 go_enter Tryz.func70, Tryz.ntmps70
 go_wp2_with (first | ((with_reducible refine gate_callee (f := 97) rfl ?_); refine gB (some 6) Tryz.func97 #[.string a0] ?_; (with_reducible refine (spec_NameOk.calls k a0 false _ A3.out).mono ?_); rintro e w24 ⟨rfl, hb⟩; refine ⟨_, rfl, ?_⟩; replace HB := bs HB hb; (try clear hb); (try clear hb2); (try clear hk); (try clear hi)))
 go_ret
 exact ⟨y0_6, bI HB.out⟩

end Go.Proofs.YtemjmefacifdeaaGreatDoor.PFnSettlesThree
