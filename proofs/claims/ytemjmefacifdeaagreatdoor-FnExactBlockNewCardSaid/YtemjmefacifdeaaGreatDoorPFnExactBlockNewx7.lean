-- By a program of this session, out of the translation (the print of the kit, with turns of its own). Lean checks it.
import Derived.Test.YtemjmefacifdeaaGreatDoorPFnExactBlockNewx0
import Derived.Test.YtemjmefacifdeaaGreatDoorPFnExactBlockNewx4
namespace Go.Proofs.YtemjmefacifdeaaGreatDoor.PFnExactBlockNew
open Go.RowKit Go.Proofs.YtemjmefacifdeaaGreatDoorW.PrintWords Go.Proofs.YtemjmefacifdeaaGreatDoorW.PrintLast Go.Proofs.YtemjmefacifdeaaGreatDoorW.PrintMore
attribute [local go_sem] max2_int min2_int max_two min_two max_three min_three max_four min_four   -- for this text's walks alone
set_option linter.unusedVariables false
set_option linter.unusedSimpArgs false

/-! ### spec_l1Max: function 67 -/
def spec_l1Max.f (a0 : Int) (a1 : Int) : Option (Int) := if a0 > a1 then (some a0) else (some a1)
set_option maxHeartbeats 8000000 in
set_option maxRecDepth 100000 in
theorem spec_l1Max.calls (a0 : Int) (a1 : Int) (r : Int) (w : World) (h : spec_l1Max.f a0 a1 = some r) :
  Calls Tryz.prog 67 #[.int .i64 a0, .int .i64 a1] w fun e w' => e = .returned (.int .i64 r) ∧ Drawn0 w w' := by
 have H : (if a0 > a1 then (some a0) else (some a1)) = some r := h; clear h
 by_cases c3 : a0 > a1
 ·
  rw [if_pos c3] at H
  have c3b0 : decide (a1 < a0) = true := decide_eq_true c3; clear c3; obtain rfl := Option.some.inj H
  go_enter Tryz.func67, Tryz.ntmps67
  go_wp2
  go_ret
  exact ⟨y0_13, y0_11⟩
 rw [if_neg c3] at H
 have c3b0 : decide (a1 < a0) = false := decide_eq_false c3; clear c3; obtain rfl := Option.some.inj H
 go_enter Tryz.func67, Tryz.ntmps67
 go_wp2
 go_ret
 exact ⟨y0_13, y0_11⟩

/-! ### spec_UpOf: function 68 -/
def spec_UpOf.l0 : Nat → ByteArray → Int → Option (ByteArray)
 | 0, _, _ => none
 | k + 1, x0, x3 => if x3 > 0 then (if 0 ≤ (wrap64 (x3 - 1)) then (if (wrap64 (x3 - 1)) < (x0.size : Int) then (if (bt x0 (wrap64 (x3 - 1))) = 47 then ((spec_l1Max.f (wrap64 (x3 - 1)) 0).bind fun t266 => (if 0 ≤ t266 then (if t266 ≤ (x0.size : Int) then (some (x0.extract 0 (t266 : Int).toNat)) else (none)) else (none))) else (spec_UpOf.l0 k x0 (wrap64 (x3 - 1)))) else (none)) else (none)) else ((spec_l1Max.f (wrap64 (x3 - 1)) 0).bind fun t267 => (if 0 ≤ t267 then (if t267 ≤ (x0.size : Int) then (some (x0.extract 0 (t267 : Int).toNat)) else (none)) else (none)))
def spec_UpOf.f (k : Nat) (a0 : ByteArray) : Option (ByteArray) := (spec_NameOk.f k a0).bind fun t265 => (if t265 = true then (spec_UpOf.l0 k a0 (a0.size : Int)) else (some (⟨#[]⟩ : ByteArray)))
theorem spec_UpOf.mono_l : ∀ k, (∀ y0 y1, LeO (spec_UpOf.l0 k y0 y1) (spec_UpOf.l0 (k + 1) y0 y1))
 | 0 => fun _ _ r h => by simp [spec_UpOf.l0] at h
 | k + 1 => by
  have ih0 := spec_UpOf.mono_l k
  intro y0 y1
  unfold spec_UpOf.l0
  repeat' first | (with_reducible exact ih0 _ _) | (with_reducible exact spec_NameOk.mono _ _) | (with_reducible exact LeO.refl _) | (with_reducible exact LeO.none _) | (with_reducible refine LeO.ite ?_ ?_) | (with_reducible refine LeO.bind ?_ (fun _ => ?_))
theorem spec_UpOf.mono : ∀ a0 k, LeO (spec_UpOf.f k a0) (spec_UpOf.f (k + 1) a0) := by
 intro a0 k
 have ih0 := spec_UpOf.mono_l k
 unfold spec_UpOf.f
 repeat' first | (with_reducible exact ih0 _ _) | (with_reducible exact spec_NameOk.mono _ _) | (with_reducible exact LeO.refl _) | (with_reducible exact LeO.none _) | (with_reducible refine LeO.ite ?_ ?_) | (with_reducible refine LeO.bind ?_ (fun _ => ?_))
set_option maxHeartbeats 8000000 in
set_option maxRecDepth 100000 in
theorem spec_UpOf.calls (k : Nat) (a0 : ByteArray) (r : ByteArray) (w : World) (h : spec_UpOf.f k a0 = some r) :
  Calls Tryz.prog 68 #[.string a0] w fun e w' => e = .returned (.string r) ∧ Below w.heap.size w w' := by
 have HB := Aside0.mk (Below.refl w.heap.size w)
 have H : ((spec_NameOk.f k a0).bind fun t265 => (if t265 = true then (spec_UpOf.l0 k a0 (a0.size : Int)) else (some (⟨#[]⟩ : ByteArray)))) = some r := h
 clear h; obtain ⟨t265, A20, H⟩ := Option.bind_eq_some_iff.mp H
 try dsimp only at H
 have A2 := Aside0.mk A20; clear A20
 by_cases c3 : t265 = true
 ·
  subst c3
  rw [if_pos rfl] at H
  have H' := Aside0.mk H; clear H
  go_enter Tryz.func68, Tryz.ntmps68
  go_wp2_with (first | ((with_reducible refine gate_callee (f := 97) rfl ?_); refine gB (some 5) Tryz.func97 #[.string a0] ?_; (with_reducible refine (spec_NameOk.calls k a0 true _ A2.out).mono ?_); rintro e w4 ⟨rfl, hb⟩; refine ⟨_, rfl, ?_⟩; replace HB := bs HB hb; (try clear hb); (try clear hb2); (try clear hk); (try clear hi)))
  go_loopg [3] k (fun kq v3 w' => ∃ (x3_1 : Int), v3 = .int .i64 x3_1 ∧ Aside0 (spec_UpOf.l0 kq a0 x3_1 = some r) ∧ Aside0 (kq ≤ k) ∧ Aside0 (Below w.heap.size w w'))
  case atStart => exact ⟨((a0.size : Int)), y0_13, H', ⟨Nat.le_refl _⟩, ⟨bI HB.out⟩⟩
  case round =>
   clear H'
   try clear p2
   try clear c3
   obtain ⟨x3_1, rfl, HA, HK1, HB⟩ := hrel; cases gk with
   | zero => exact absurd HA.out (by simp [spec_UpOf.l0])
   | succ k1 =>
    have H := HA.out; clear HA
    simp only [spec_UpOf.l0] at H
    by_cases c5 : x3_1 > 0
    ·
     rw [if_pos c5] at H
     have c5b0 : decide (0 < x3_1) = true := decide_eq_true c5; clear c5; obtain ⟨ji6, hji6⟩ : ∃ j_ : Int, (wrap64 (x3_1 - 1)) = j_ := ⟨_, rfl⟩
     replace H : (if 0 ≤ (ji6) then (if (ji6) < (a0.size : Int) then (if (bt a0 (ji6)) = 47 then ((spec_l1Max.f (ji6) 0).bind fun t266 => (if 0 ≤ t266 then (if t266 ≤ (a0.size : Int) then (some (a0.extract 0 (t266 : Int).toNat)) else (none)) else (none))) else (spec_UpOf.l0 k1 a0 ji6)) else (none)) else (none)) = some r := by first | (rw [hji6] at H; exact H) | (simp only [hji6] at H ⊢; exact H)
     have hji6w : (IntKind.i64.wrap (x3_1 - 1)) = ji6 := (i64_w _).trans hji6
     by_cases c7 : 0 ≤ (ji6)
     rotate_left
     ·
      rw [if_neg c7] at H
      exact absurd H (by simp)
     rw [if_pos c7] at H
     have c7b0 : decide (0 ≤ (ji6)) = true := decide_eq_true c7; clear c7
     by_cases c8 : (ji6) < (a0.size : Int)
     rotate_left
     ·
      rw [if_neg c8] at H
      exact absurd H (by simp)
     rw [if_pos c8] at H
     have c8b0 : decide ((ji6) < (a0.size : Int)) = true := decide_eq_true c8; clear c8
     by_cases c10 : (bt a0 (ji6)) = 47
     ·
      rw [if_pos c10] at H
      have c10b0 : ((bt a0 (ji6)) == 47) = true := beq_iff_eq.mpr c10; have c10b1 : ((bt a0 (ji6)) != 47) = false := bne_eq_false_iff_eq.mpr c10; clear c10; obtain ⟨t266, A110, H⟩ := Option.bind_eq_some_iff.mp H
      try dsimp only at H
      have A11 := Aside0.mk A110; clear A110
      by_cases c12 : 0 ≤ t266
      rotate_left
      ·
       rw [if_neg c12] at H
       exact absurd H (by simp)
      rw [if_pos c12] at H
      have c12b0 := eq_true c12; have c12b1 : decide (0 ≤ t266) = true := decide_eq_true c12; clear c12
      by_cases c13 : t266 ≤ (a0.size : Int)
      rotate_left
      ·
       rw [if_neg c13] at H
       exact absurd H (by simp)
      rw [if_pos c13] at H
      have c13b0 := eq_true c13; have c13b1 : decide (t266 ≤ (a0.size : Int)) = true := decide_eq_true c13; clear c13; obtain rfl := Option.some.inj H; have p9 : 0 ≤ ((ji6) : Int) := of_decide_eq_true y0_12; have q9 : (ji6) < (a0.size : Int) := of_decide_eq_true y0_12; have hx9 := bt_at a0 (ji6); replace p9 := eq_true p9; replace q9 := eq_true q9
      go_wp2_with (first | ((with_reducible refine gate_callee (f := 67) rfl ?_); refine goesL_ (some 23) rfl rfl Tryz.func67 (by kernel_rfl) rfl #[.int .i64 ji6, .int .i64 0] rfl (by (try simp only [List.map_toArray, List.map_cons, List.map_nil]); first | done | (simp only [hji6]; rfl) | rfl | (simp only [List.length_drop, List.length_take]; rfl)) ?_; (with_reducible refine (spec_l1Max.calls ji6 0 t266 _ A11.out).mono ?_); rintro e w' ⟨rfl, ⟨nd, rfl⟩⟩; refine ⟨_, rfl, ?_⟩))
      go_ret
      exact ⟨by first | rfl | (simp [errW_none, errW_some] <;> rfl) | (simp only [← hji6]; first | rfl | (simp [errW_none, errW_some] <;> rfl)) | (simp [*, errW_none, errW_some] <;> rfl), bI HB.out⟩
     rw [if_neg c10] at H
     have c10b0 : ((bt a0 (ji6)) == 47) = false := beq_eq_false_iff_ne.mpr c10; have c10b1 : ((bt a0 (ji6)) != 47) = true := bne_iff_ne.mpr c10; have H' := Aside0.mk H; clear H; have p9 : 0 ≤ ((ji6) : Int) := of_decide_eq_true y0_12; have q9 : (ji6) < (a0.size : Int) := of_decide_eq_true y0_12; have hx9 := bt_at a0 (ji6); replace p9 := eq_true p9; replace q9 := eq_true q9
     go_wp2
     go_roundg k1
     case measure => have := HK1.out; omega
     case rel => exact ⟨(ji6), (by first | rfl | (simp; done) | (simp only [← hji6] <;> (first | rfl | simp)) | (simp [*]; done)), H', ⟨y0_18⟩, ⟨bI HB.out⟩⟩
    rw [if_neg c5] at H
    have c5b0 : decide (0 < x3_1) = false := decide_eq_false c5; clear c5; obtain ⟨t267, A140, H⟩ := Option.bind_eq_some_iff.mp H
    try dsimp only at H
    have A14 := Aside0.mk A140; clear A140
    by_cases c15 : 0 ≤ t267
    rotate_left
    ·
     rw [if_neg c15] at H
     exact absurd H (by simp)
    rw [if_pos c15] at H
    have c15b0 := eq_true c15; have c15b1 : decide (0 ≤ t267) = true := decide_eq_true c15; clear c15
    by_cases c16 : t267 ≤ (a0.size : Int)
    rotate_left
    ·
     rw [if_neg c16] at H
     exact absurd H (by simp)
    rw [if_pos c16] at H
    have c16b0 := eq_true c16; have c16b1 : decide (t267 ≤ (a0.size : Int)) = true := decide_eq_true c16; clear c16; obtain rfl := Option.some.inj H
    go_wp2_with (first | ((with_reducible refine gate_callee (f := 67) rfl ?_); refine gB (some 23) Tryz.func67 #[.int .i64 (wrap64 (x3_1 - 1)), .int .i64 0] ?_; (with_reducible refine (spec_l1Max.calls (wrap64 (x3_1 - 1)) 0 t267 _ A14.out).mono ?_); rintro e w' ⟨rfl, ⟨nd, rfl⟩⟩; refine ⟨_, rfl, ?_⟩))
    go_ret
    exact ⟨y0_10, bI HB.out⟩
 replace c3 := Bool.eq_false_iff.mpr c3; subst c3
 rw [if_neg (show ¬ (false = true) by decide)] at H
 obtain rfl := Option.some.inj H
 go_enter Tryz.func68, Tryz.ntmps68
 go_wp2_with (first | ((with_reducible refine gate_callee (f := 97) rfl ?_); refine gB (some 5) Tryz.func97 #[.string a0] ?_; (with_reducible refine (spec_NameOk.calls k a0 false _ A2.out).mono ?_); rintro e w17 ⟨rfl, hb⟩; refine ⟨_, rfl, ?_⟩; replace HB := bs HB hb; (try clear hb); (try clear hb2); (try clear hk); (try clear hi)))
 go_ret
 exact ⟨y0_10, bI HB.out⟩

end Go.Proofs.YtemjmefacifdeaaGreatDoor.PFnExactBlockNew
