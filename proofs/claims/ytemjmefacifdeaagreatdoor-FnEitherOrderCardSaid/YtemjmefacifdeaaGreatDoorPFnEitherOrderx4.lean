-- By a program of this session, out of the translation (the print of the kit, with turns of its own). Lean checks it.
import Derived.Test.YtemjmefacifdeaaGreatDoorPFnEitherOrderx0
import Derived.Test.YtemjmefacifdeaaGreatDoorPFnEitherOrderx2
import Derived.Test.YtemjmefacifdeaaGreatDoorPFnEitherOrderx3
namespace Go.Proofs.YtemjmefacifdeaaGreatDoor.PFnEitherOrder
open Go.RowKit Go.Proofs.YtemjmefacifdeaaGreatDoorW.PrintWords Go.Proofs.YtemjmefacifdeaaGreatDoorW.PrintLast Go.Proofs.YtemjmefacifdeaaGreatDoorW.PrintMore
attribute [local go_sem] max2_int min2_int max_two min_two max_three min_three max_four min_four   -- for this text's walks alone
attribute [local go_sem] cell_in frozen_in
set_option synthInstance.maxSize 1000000
set_option synthInstance.maxHeartbeats 2000000
set_option linter.unusedVariables false
set_option linter.unusedSimpArgs false

/-! ### spec_UpOf: function 68 -/
def spec_UpOf.l0 : Nat → ByteArray → Int → Option (ByteArray)
 | 0, _, _ => none
 | k + 1, x0, x3 => if x3 > 0 then (if 0 ≤ (wrap64 (x3 - 1)) then (if (wrap64 (x3 - 1)) < (x0.size : Int) then (if (bt x0 (wrap64 (x3 - 1))) = 47 then ((spec_l1Max.f (wrap64 (x3 - 1)) 0).bind fun t250 => (if 0 ≤ t250 then (if t250 ≤ (x0.size : Int) then (some (x0.extract 0 (t250 : Int).toNat)) else (none)) else (none))) else (spec_UpOf.l0 k x0 (wrap64 (x3 - 1)))) else (none)) else (none)) else ((spec_l1Max.f (wrap64 (x3 - 1)) 0).bind fun t251 => (if 0 ≤ t251 then (if t251 ≤ (x0.size : Int) then (some (x0.extract 0 (t251 : Int).toNat)) else (none)) else (none)))
def spec_UpOf.f (k : Nat) (a0 : ByteArray) : Option (ByteArray) := (spec_NameOk.f k a0).bind fun t249 => (if t249 = true then (spec_UpOf.l0 k a0 (a0.size : Int)) else (some (⟨#[]⟩ : ByteArray)))
theorem spec_UpOf.mono_l : ∀ k, (∀ y0 y1, LeO (spec_UpOf.l0 k y0 y1) (spec_UpOf.l0 (k + 1) y0 y1))
 | 0 => fun _ _ r h => by simp [spec_UpOf.l0] at h
 | k + 1 => by
  have ih0 := spec_UpOf.mono_l k
  intro y0 y1
  unfold spec_UpOf.l0
  repeat' first | (with_reducible exact ih0 _ _) | (with_reducible exact spec_NameOk.mono _ _) | (with_reducible exact LeO.refl _) | (with_reducible exact LeO.none _) | (with_reducible refine LeO.ite ?_ ?_) | (with_reducible refine LeO.bind ?_ (fun _ => ?_))
theorem spec_UpOf.mono : ∀ a0 k, LeO (spec_UpOf.f k a0) (spec_UpOf.f (k + 1) a0) := by
 intro a0 k
 have ih0 := spec_UpOf.mono_l k
 unfold spec_UpOf.f
 repeat' first | (with_reducible exact ih0 _ _) | (with_reducible exact spec_NameOk.mono _ _) | (with_reducible exact LeO.refl _) | (with_reducible exact LeO.none _) | (with_reducible refine LeO.ite ?_ ?_) | (with_reducible refine LeO.bind ?_ (fun _ => ?_))
set_option maxHeartbeats 8000000 in
set_option maxRecDepth 100000 in
theorem spec_UpOf.calls (k : Nat) (a0 : ByteArray) (r : ByteArray) (w : World) (h : spec_UpOf.f k a0 = some r) :
  Calls Tryz.prog 68 #[.string a0] w fun e w' => e = .returned (.string r) ∧ Below w.heap.size w w' := by
 have HB := Aside0.mk (Below.refl w.heap.size w)
 have H : ((spec_NameOk.f k a0).bind fun t249 => (if t249 = true then (spec_UpOf.l0 k a0 (a0.size : Int)) else (some (⟨#[]⟩ : ByteArray)))) = some r := h
 clear h; obtain ⟨t249, A20, H⟩ := Option.bind_eq_some_iff.mp H
 try dsimp only at H
 have A2 := Aside0.mk A20; clear A20
 by_cases c3 : t249 = true
 ·
  subst c3
  rw [if_pos rfl] at H
  have H' := Aside0.mk H; clear H
  go_enter Tryz.func68, Tryz.ntmps68
  go_wp2_with (first | ((with_reducible refine gate_callee (f := 97) rfl ?_); refine gB (some 5) Tryz.func97 #[.string a0] ?_; (with_reducible refine (spec_NameOk.calls k a0 true _ A2.out).mono ?_); rintro e w4 ⟨rfl, hb⟩; refine ⟨_, rfl, ?_⟩; replace HB := bs HB hb; (try clear hb); (try clear hb2); (try clear hk); (try clear hi)))
  go_loopg [3] k (fun kq v3 w' => ∃ (x3_1 : Int), v3 = .int .i64 x3_1 ∧ Aside0 (spec_UpOf.l0 kq a0 x3_1 = some r) ∧ Aside0 (kq ≤ k) ∧ Aside0 (Below w.heap.size w w'))
  case atStart => exact ⟨((a0.size : Int)), y0_19, H', ⟨Nat.le_refl _⟩, ⟨bI HB.out⟩⟩
  case round =>
   clear H'
   try clear p2
   try clear c3
   obtain ⟨x3_1, rfl, HA, HK1, HB⟩ := hrel; cases gk with
   | zero => exact absurd HA.out (by simp [spec_UpOf.l0])
   | succ k1 =>
    have H := HA.out; clear HA
    simp only [spec_UpOf.l0] at H
    by_cases c5 : x3_1 > 0
    ·
     rw [if_pos c5] at H
     have c5b0 : decide (0 < x3_1) = true := decide_eq_true c5; clear c5; obtain ⟨ji6, hji6⟩ : ∃ j_ : Int, (wrap64 (x3_1 - 1)) = j_ := ⟨_, rfl⟩
     replace H : (if 0 ≤ (ji6) then (if (ji6) < (a0.size : Int) then (if (bt a0 (ji6)) = 47 then ((spec_l1Max.f (ji6) 0).bind fun t250 => (if 0 ≤ t250 then (if t250 ≤ (a0.size : Int) then (some (a0.extract 0 (t250 : Int).toNat)) else (none)) else (none))) else (spec_UpOf.l0 k1 a0 ji6)) else (none)) else (none)) = some r := by first | (rw [hji6] at H; exact H) | (simp only [hji6] at H ⊢; exact H)
     have hji6w : (IntKind.i64.wrap (x3_1 - 1)) = ji6 := (i64_w _).trans hji6
     by_cases c7 : 0 ≤ (ji6)
     rotate_left
     ·
      rw [if_neg c7] at H
      exact absurd H (by simp)
     rw [if_pos c7] at H
     have c7b0 : decide (0 ≤ (ji6)) = true := decide_eq_true c7; clear c7
     by_cases c8 : (ji6) < (a0.size : Int)
     rotate_left
     ·
      rw [if_neg c8] at H
      exact absurd H (by simp)
     rw [if_pos c8] at H
     have c8b0 : decide ((ji6) < (a0.size : Int)) = true := decide_eq_true c8; clear c8
     by_cases c10 : (bt a0 (ji6)) = 47
     ·
      rw [if_pos c10] at H
      have c10b0 : ((bt a0 (ji6)) == 47) = true := beq_iff_eq.mpr c10; have c10b1 : ((bt a0 (ji6)) != 47) = false := bne_eq_false_iff_eq.mpr c10; clear c10; obtain ⟨t250, A110, H⟩ := Option.bind_eq_some_iff.mp H
      try dsimp only at H
      have A11 := Aside0.mk A110; clear A110
      by_cases c12 : 0 ≤ t250
      rotate_left
      ·
       rw [if_neg c12] at H
       exact absurd H (by simp)
      rw [if_pos c12] at H
      have c12b0 := eq_true c12; have c12b1 : decide (0 ≤ t250) = true := decide_eq_true c12; clear c12
      by_cases c13 : t250 ≤ (a0.size : Int)
      rotate_left
      ·
       rw [if_neg c13] at H
       exact absurd H (by simp)
      rw [if_pos c13] at H
      have c13b0 := eq_true c13; have c13b1 : decide (t250 ≤ (a0.size : Int)) = true := decide_eq_true c13; clear c13; obtain rfl := Option.some.inj H; have p9 : 0 ≤ ((ji6) : Int) := of_decide_eq_true y0_18; have q9 : (ji6) < (a0.size : Int) := of_decide_eq_true y0_18; have hx9 := bt_at a0 (ji6); replace p9 := eq_true p9; replace q9 := eq_true q9
      go_wp2_with (first | ((with_reducible refine gate_callee (f := 67) rfl ?_); refine goesL_ (some 23) rfl rfl Tryz.func67 (by kernel_rfl) rfl #[.int .i64 ji6, .int .i64 0] rfl (by (try simp only [List.map_toArray, List.map_cons, List.map_nil]); first | done | (simp only [hji6]; rfl) | rfl | (simp only [List.length_drop, List.length_take]; rfl)) ?_; (with_reducible refine (spec_l1Max.calls ji6 0 t250 _ A11.out).mono ?_); rintro e w' ⟨rfl, ⟨nd, rfl⟩⟩; refine ⟨_, rfl, ?_⟩))
      go_ret
      exact ⟨by first | rfl | (simp [errW_none, errW_some] <;> rfl) | (simp only [← hji6]; first | rfl | (simp [errW_none, errW_some] <;> rfl)) | (simp [*, errW_none, errW_some] <;> rfl), bI HB.out⟩
     rw [if_neg c10] at H
     have c10b0 : ((bt a0 (ji6)) == 47) = false := beq_eq_false_iff_ne.mpr c10; have c10b1 : ((bt a0 (ji6)) != 47) = true := bne_iff_ne.mpr c10; have H' := Aside0.mk H; clear H; have p9 : 0 ≤ ((ji6) : Int) := of_decide_eq_true y0_18; have q9 : (ji6) < (a0.size : Int) := of_decide_eq_true y0_18; have hx9 := bt_at a0 (ji6); replace p9 := eq_true p9; replace q9 := eq_true q9
     go_wp2
     go_roundg k1
     case measure => have := HK1.out; omega
     case rel => exact ⟨(ji6), (by first | rfl | (simp; done) | (simp only [← hji6] <;> (first | rfl | simp)) | (simp [*]; done)), H', ⟨y0_21⟩, ⟨bI HB.out⟩⟩
    rw [if_neg c5] at H
    have c5b0 : decide (0 < x3_1) = false := decide_eq_false c5; clear c5; obtain ⟨t251, A140, H⟩ := Option.bind_eq_some_iff.mp H
    try dsimp only at H
    have A14 := Aside0.mk A140; clear A140
    by_cases c15 : 0 ≤ t251
    rotate_left
    ·
     rw [if_neg c15] at H
     exact absurd H (by simp)
    rw [if_pos c15] at H
    have c15b0 := eq_true c15; have c15b1 : decide (0 ≤ t251) = true := decide_eq_true c15; clear c15
    by_cases c16 : t251 ≤ (a0.size : Int)
    rotate_left
    ·
     rw [if_neg c16] at H
     exact absurd H (by simp)
    rw [if_pos c16] at H
    have c16b0 := eq_true c16; have c16b1 : decide (t251 ≤ (a0.size : Int)) = true := decide_eq_true c16; clear c16; obtain rfl := Option.some.inj H
    go_wp2_with (first | ((with_reducible refine gate_callee (f := 67) rfl ?_); refine gB (some 23) Tryz.func67 #[.int .i64 (wrap64 (x3_1 - 1)), .int .i64 0] ?_; (with_reducible refine (spec_l1Max.calls (wrap64 (x3_1 - 1)) 0 t251 _ A14.out).mono ?_); rintro e w' ⟨rfl, ⟨nd, rfl⟩⟩; refine ⟨_, rfl, ?_⟩))
    go_ret
    exact ⟨y0_14, bI HB.out⟩
 replace c3 := Bool.eq_false_iff.mpr c3; subst c3
 rw [if_neg (show ¬ (false = true) by decide)] at H
 obtain rfl := Option.some.inj H
 go_enter Tryz.func68, Tryz.ntmps68
 go_wp2_with (first | ((with_reducible refine gate_callee (f := 97) rfl ?_); refine gB (some 5) Tryz.func97 #[.string a0] ?_; (with_reducible refine (spec_NameOk.calls k a0 false _ A2.out).mono ?_); rintro e w17 ⟨rfl, hb⟩; refine ⟨_, rfl, ?_⟩; replace HB := bs HB hb; (try clear hb); (try clear hb2); (try clear hk); (try clear hi)))
 go_ret
 exact ⟨y0_14, bI HB.out⟩

/-! ### spec_Settles: function 69 -/
def spec_Settles.j0 : Nat → ByteArray → Bool → Option (ByteArray × Bool)
 | 0, _, _ => none
 | k + 1, x0, x51 => if x51 = true then (some ((⟨#[]⟩ : ByteArray), false)) else ((spec_UpOf.f k x0).bind fun t260 => ((spec_UpOf.f k t260).bind fun t261 => (some (t261, true))))
def spec_Settles.f (k : Nat) (a0 : ByteArray) : Option (ByteArray × Bool) := (spec_Steps.f k a0).bind fun bt252 => (if bt252.2 = true then (if (bt252.1.length : Int) < 3 then (spec_Settles.j0 k a0 true) else (if 0 ≤ (wrap64 ((bt252.1.length : Int) - 1)) then (if (wrap64 ((bt252.1.length : Int) - 1)) < (bt252.1.length : Int) then (if 0 ≤ (wrap64 ((bt252.1.length : Int) - 2)) then (if (wrap64 ((bt252.1.length : Int) - 2)) < (bt252.1.length : Int) then (if ((rd_T112 bt252.1 (wrap64 ((bt252.1.length : Int) - 1))).f0) = (wrap64 (((rd_T112 bt252.1 (wrap64 ((bt252.1.length : Int) - 2))).f0) + 1)) then (if 0 ≤ (wrap64 ((bt252.1.length : Int) - 3)) then (if (wrap64 ((bt252.1.length : Int) - 3)) < (bt252.1.length : Int) then (spec_Settles.j0 k a0 (((rd_T112 bt252.1 (wrap64 ((bt252.1.length : Int) - 2))).f0) != (wrap64 (((rd_T112 bt252.1 (wrap64 ((bt252.1.length : Int) - 3))).f0) + 1)))) else (none)) else (none)) else (spec_Settles.j0 k a0 true)) else (none)) else (none)) else (none)) else (none))) else (spec_Settles.j0 k a0 true))
theorem spec_Settles.mono_l : ∀ k, (∀ y0 y1, LeO (spec_Settles.j0 k y0 y1) (spec_Settles.j0 (k + 1) y0 y1))
 | 0 => fun _ _ r h => by simp [spec_Settles.j0] at h
 | k + 1 => by
  have ih0 := spec_Settles.mono_l k
  intro y0 y1
  unfold spec_Settles.j0
  repeat' first | (with_reducible exact ih0 _ _) | (with_reducible exact spec_Steps.mono _ _) | (with_reducible exact spec_UpOf.mono _ _) | (with_reducible exact LeO.refl _) | (with_reducible exact LeO.none _) | (with_reducible refine LeO.ite ?_ ?_) | (with_reducible refine LeO.bind ?_ (fun _ => ?_))
theorem spec_Settles.mono : ∀ a0 k, LeO (spec_Settles.f k a0) (spec_Settles.f (k + 1) a0) := by
 intro a0 k
 have ih0 := spec_Settles.mono_l k
 unfold spec_Settles.f
 repeat' first | (with_reducible exact ih0 _ _) | (with_reducible exact spec_Steps.mono _ _) | (with_reducible exact spec_UpOf.mono _ _) | (with_reducible exact LeO.refl _) | (with_reducible exact LeO.none _) | (with_reducible refine LeO.ite ?_ ?_) | (with_reducible refine LeO.bind ?_ (fun _ => ?_))
set_option maxHeartbeats 8000000 in
set_option maxRecDepth 100000 in
theorem spec_Settles.calls (k : Nat) (a0 : ByteArray) (r1 : ByteArray) (r2 : Bool) (w : World) (h : spec_Settles.f k a0 = some (r1, r2)) :
  Calls Tryz.prog 69 #[.string a0] w fun e w' => e = .returned (.tuple #[.string r1, .bool r2]) ∧ Below w.heap.size w w' := by
 have HB := Aside0.mk (Below.refl w.heap.size w)
 have H : ((spec_Steps.f k a0).bind fun bt252 => (if bt252.2 = true then (if (bt252.1.length : Int) < 3 then (spec_Settles.j0 k a0 true) else (if 0 ≤ (wrap64 ((bt252.1.length : Int) - 1)) then (if (wrap64 ((bt252.1.length : Int) - 1)) < (bt252.1.length : Int) then (if 0 ≤ (wrap64 ((bt252.1.length : Int) - 2)) then (if (wrap64 ((bt252.1.length : Int) - 2)) < (bt252.1.length : Int) then (if ((rd_T112 bt252.1 (wrap64 ((bt252.1.length : Int) - 1))).f0) = (wrap64 (((rd_T112 bt252.1 (wrap64 ((bt252.1.length : Int) - 2))).f0) + 1)) then (if 0 ≤ (wrap64 ((bt252.1.length : Int) - 3)) then (if (wrap64 ((bt252.1.length : Int) - 3)) < (bt252.1.length : Int) then (spec_Settles.j0 k a0 (((rd_T112 bt252.1 (wrap64 ((bt252.1.length : Int) - 2))).f0) != (wrap64 (((rd_T112 bt252.1 (wrap64 ((bt252.1.length : Int) - 3))).f0) + 1)))) else (none)) else (none)) else (spec_Settles.j0 k a0 true)) else (none)) else (none)) else (none)) else (none))) else (spec_Settles.j0 k a0 true))) = some (r1, r2) := h
 clear h; obtain ⟨⟨t252, t253⟩, A20, H⟩ := Option.bind_eq_some_iff.mp H
 try dsimp only at H
 have A2 := Aside0.mk A20; clear A20; have HC3 := Aside0.mk H; clear H
 go_enter Tryz.func69, Tryz.ntmps69
 go_upto_region 3 with (first | (go_at_call 103; (with_reducible refine (spec_Steps.calls k a0 t252 t253 _ A2.out).mono ?_); rintro e w4 ⟨v254, rfl, ho0, hb⟩; have HO255 := Aside0.mk (Kd.S_lower ho0 (below_size (bI HB.out))); replace HB := bs HB hb; (try clear hb); (try clear ho0); obtain ⟨Ao5, co5, eo5⟩ := Kd.S_slice HO255.out; subst eo5))
 repeat (go_quiet (first | (go_at_call 103; (with_reducible refine (spec_Steps.calls k a0 t252 t253 _ A2.out).mono ?_); rintro e w4 ⟨v254, rfl, ho0, hb⟩; have HO255 := Aside0.mk (Kd.S_lower ho0 (below_size (bI HB.out))); replace HB := bs HB hb; (try clear hb); (try clear ho0); obtain ⟨Ao5, co5, eo5⟩ := Kd.S_slice HO255.out; subst eo5)); go_upto_region 3 with (first | (go_at_call 103; (with_reducible refine (spec_Steps.calls k a0 t252 t253 _ A2.out).mono ?_); rintro e w4 ⟨v254, rfl, ho0, hb⟩; have HO255 := Aside0.mk (Kd.S_lower ho0 (below_size (bI HB.out))); replace HB := bs HB hb; (try clear hb); (try clear ho0); obtain ⟨Ao5, co5, eo5⟩ := Kd.S_slice HO255.out; subst eo5)))
 (try simp only [Act.put, List.setIfInBounds_toArray, List.set_cons_zero, List.set_cons_succ])
 go_cut [51] (fun v51 wc => ∃ (kq : Nat) (x51_2 : Bool), v51 = .bool x51_2 ∧ Aside0 (spec_Settles.j0 kq a0 x51_2 = some (r1, r2)) ∧ Aside0 (kq ≤ k) ∧ Aside0 (Below w.heap.size w wc))
 case first =>
  have H := HC3.out; clear HC3
  by_cases c6 : t253 = true
  ·
   subst c6
   rw [if_pos rfl] at H
   by_cases c7 : (t252.length : Int) < 3
   ·
    rw [if_pos c7] at H
    have c7b0 : decide ((t252.length : Int) < 3) = true := decide_eq_true c7
    have c7b1 : decide (t252.length < 3) = true := decide_eq_true (by omega)
    clear c7
    (first | rw [c7b0] | (simp only [i64_w, i32_w]; rw [c7b0]) | skip)
    have H' := Aside0.mk H; clear H
    go_wp2
    repeat (go_quiet (fail); try go_wp2)
    go_meet
    case rel => exact ⟨_, (true), y0_19, H', ⟨y0_20⟩, ⟨bI HB.out⟩⟩
   rw [if_neg c7] at H
   have c7b0 : decide ((t252.length : Int) < 3) = false := decide_eq_false c7
   have c7b1 : decide (t252.length < 3) = false := decide_eq_false (by omega)
   clear c7
   (first | rw [c7b0] | (simp only [i64_w, i32_w]; rw [c7b0]) | skip)
   obtain ⟨ji8, hji8⟩ : ∃ j_ : Int, (wrap64 ((t252.length : Int) - 1)) = j_ := ⟨_, rfl⟩
   replace H : (if 0 ≤ (ji8) then (if (ji8) < (t252.length : Int) then (if 0 ≤ (wrap64 ((t252.length : Int) - 2)) then (if (wrap64 ((t252.length : Int) - 2)) < (t252.length : Int) then (if ((rd_T112 t252 (ji8)).f0) = (wrap64 (((rd_T112 t252 (wrap64 ((t252.length : Int) - 2))).f0) + 1)) then (if 0 ≤ (wrap64 ((t252.length : Int) - 3)) then (if (wrap64 ((t252.length : Int) - 3)) < (t252.length : Int) then (spec_Settles.j0 k a0 (((rd_T112 t252 (wrap64 ((t252.length : Int) - 2))).f0) != (wrap64 (((rd_T112 t252 (wrap64 ((t252.length : Int) - 3))).f0) + 1)))) else (none)) else (none)) else (spec_Settles.j0 k a0 true)) else (none)) else (none)) else (none)) else (none)) = some (r1, r2) := by first | (rw [hji8] at H; exact H) | (simp only [hji8] at H ⊢; exact H)
   have hji8w : (IntKind.i64.wrap ((t252.length : Int) - 1)) = ji8 := (i64_w _).trans hji8
   by_cases c9 : 0 ≤ (ji8)
   rotate_left
   ·
    rw [if_neg c9] at H
    exact absurd H (by simp)
   rw [if_pos c9] at H
   have c9b0 : decide (0 ≤ (ji8)) = true := decide_eq_true c9; clear c9
   by_cases c10 : (ji8) < (t252.length : Int)
   rotate_left
   ·
    rw [if_neg c10] at H
    exact absurd H (by simp)
   rw [if_pos c10] at H
   have c10b0 : decide ((ji8) < (t252.length : Int)) = true := decide_eq_true c10; clear c10; obtain ⟨ji11, hji11⟩ : ∃ j_ : Int, (wrap64 ((t252.length : Int) - 2)) = j_ := ⟨_, rfl⟩
   replace H : (if 0 ≤ (ji11) then (if (ji11) < (t252.length : Int) then (if ((rd_T112 t252 (ji8)).f0) = (wrap64 (((rd_T112 t252 (ji11)).f0) + 1)) then (if 0 ≤ (wrap64 ((t252.length : Int) - 3)) then (if (wrap64 ((t252.length : Int) - 3)) < (t252.length : Int) then (spec_Settles.j0 k a0 (((rd_T112 t252 (ji11)).f0) != (wrap64 (((rd_T112 t252 (wrap64 ((t252.length : Int) - 3))).f0) + 1)))) else (none)) else (none)) else (spec_Settles.j0 k a0 true)) else (none)) else (none)) = some (r1, r2) := by first | (rw [hji11] at H; exact H) | (simp only [hji11] at H ⊢; exact H)
   have hji11w : (IntKind.i64.wrap ((t252.length : Int) - 2)) = ji11 := (i64_w _).trans hji11
   by_cases c12 : 0 ≤ (ji11)
   rotate_left
   ·
    rw [if_neg c12] at H
    exact absurd H (by simp)
   rw [if_pos c12] at H
   have c12b0 : decide (0 ≤ (ji11)) = true := decide_eq_true c12; clear c12
   by_cases c13 : (ji11) < (t252.length : Int)
   rotate_left
   ·
    rw [if_neg c13] at H
    exact absurd H (by simp)
   rw [if_pos c13] at H
   have c13b0 : decide ((ji11) < (t252.length : Int)) = true := decide_eq_true c13; clear c13
   by_cases c14 : ((rd_T112 t252 (ji8)).f0) = (wrap64 (((rd_T112 t252 (ji11)).f0) + 1))
   ·
    rw [if_pos c14] at H
    have c14b0 : (((rd_T112 t252 (ji8)).f0) == (wrap64 (((rd_T112 t252 (ji11)).f0) + 1))) = true := beq_iff_eq.mpr c14; have c14b1 : (((rd_T112 t252 (ji8)).f0) != (wrap64 (((rd_T112 t252 (ji11)).f0) + 1))) = false := bne_eq_false_iff_eq.mpr c14; clear c14; obtain ⟨ji15, hji15⟩ : ∃ j_ : Int, (wrap64 ((t252.length : Int) - 3)) = j_ := ⟨_, rfl⟩
    replace H : (if 0 ≤ (ji15) then (if (ji15) < (t252.length : Int) then (spec_Settles.j0 k a0 (((rd_T112 t252 (ji11)).f0) != (wrap64 (((rd_T112 t252 (ji15)).f0) + 1)))) else (none)) else (none)) = some (r1, r2) := by first | (rw [hji15] at H; exact H) | (simp only [hji15] at H ⊢; exact H)
    have hji15w : (IntKind.i64.wrap ((t252.length : Int) - 3)) = ji15 := (i64_w _).trans hji15
    by_cases c16 : 0 ≤ (ji15)
    rotate_left
    ·
     rw [if_neg c16] at H
     exact absurd H (by simp)
    rw [if_pos c16] at H
    have c16b0 : decide (0 ≤ (ji15)) = true := decide_eq_true c16; clear c16
    by_cases c17 : (ji15) < (t252.length : Int)
    rotate_left
    ·
     rw [if_neg c17] at H
     exact absurd H (by simp)
    rw [if_pos c17] at H
    have c17b0 : decide ((ji15) < (t252.length : Int)) = true := decide_eq_true c17; clear c17; have H' := Aside0.mk H; clear H; have p256 : 0 ≤ ((ji8) : Int) := of_decide_eq_true y0_18; have q256 : (ji8) < (t252.length : Int) := of_decide_eq_true y0_18; obtain ⟨ad256, A256_1, c256_1, e256, hx256_0, hx256_1, hl256_1, hi256_1⟩ := at_T112 (Kd.S_reads' HO255.out).2.2 (ji8) p256 q256; cases e256
    obtain ⟨ce256, hce256, hMe256, hcc256⟩ := Kd.S_get HO255.out z112 (ji8) p256 (by first | exact q256 | exact of_decide_eq_true y0_18 | (have e_ := (Kd.S_reads' HO255.out).1; omega))
    obtain ⟨ve256_1, rfl, ge256_1⟩ := k112_openM hMe256; have hv256_1 := hcc256 1 _ rfl
    rw [add_field _ _ 1 (by omega)] at hv256_1
    replace hv256_1 := Option.some.inj (hv256_1.symm.trans hx256_1)
    rw [hv256_1] at ge256_1
    have HL256_1 := Aside0.mk (show Kd.R k99 99 _ _ _ _ ((rd_T112 t252 (ji8)).f1) from ge256_1)
    clear hv256_1 ge256_1; clear hcc256 hce256; have HR256_1 := Aside0.mk hi256_1; have HC256_1 := Aside0.mk hl256_1; clear hi256_1 hl256_1; replace p256 := eq_true p256; replace q256 := eq_true q256; have p257 : 0 ≤ ((ji11) : Int) := of_decide_eq_true y0_18; have q257 : (ji11) < (t252.length : Int) := of_decide_eq_true y0_18; obtain ⟨ad257, A257_1, c257_1, e257, hx257_0, hx257_1, hl257_1, hi257_1⟩ := at_T112 (Kd.S_reads' HO255.out).2.2 (ji11) p257 q257
    obtain rfl : ad256 = ad257 := (by injection e257)
    obtain ⟨ce257, hce257, hMe257, hcc257⟩ := Kd.S_get HO255.out z112 (ji11) p257 (by first | exact q257 | exact of_decide_eq_true y0_18 | (have e_ := (Kd.S_reads' HO255.out).1; omega))
    obtain ⟨ve257_1, rfl, ge257_1⟩ := k112_openM hMe257; have hv257_1 := hcc257 1 _ rfl
    rw [add_field _ _ 1 (by omega)] at hv257_1
    replace hv257_1 := Option.some.inj (hv257_1.symm.trans hx257_1)
    rw [hv257_1] at ge257_1
    have HL257_1 := Aside0.mk (show Kd.R k99 99 _ _ _ _ ((rd_T112 t252 (ji11)).f1) from ge257_1)
    clear hv257_1 ge257_1; clear hcc257 hce257; have HR257_1 := Aside0.mk hi257_1; have HC257_1 := Aside0.mk hl257_1; clear hi257_1 hl257_1; replace p257 := eq_true p257; replace q257 := eq_true q257; have p258 : 0 ≤ ((ji11) : Int) := of_decide_eq_true y0_18; have q258 : (ji11) < (t252.length : Int) := of_decide_eq_true y0_18; obtain ⟨ad258, A258_1, c258_1, e258, hx258_0, hx258_1, hl258_1, hi258_1⟩ := at_T112 (Kd.S_reads' HO255.out).2.2 (ji11) p258 q258
    obtain rfl : ad256 = ad258 := (by injection e258)
    obtain ⟨ce258, hce258, hMe258, hcc258⟩ := Kd.S_get HO255.out z112 (ji11) p258 (by first | exact q258 | exact of_decide_eq_true y0_18 | (have e_ := (Kd.S_reads' HO255.out).1; omega))
    obtain ⟨ve258_1, rfl, ge258_1⟩ := k112_openM hMe258; have hv258_1 := hcc258 1 _ rfl
    rw [add_field _ _ 1 (by omega)] at hv258_1
    replace hv258_1 := Option.some.inj (hv258_1.symm.trans hx258_1)
    rw [hv258_1] at ge258_1
    have HL258_1 := Aside0.mk (show Kd.R k99 99 _ _ _ _ ((rd_T112 t252 (ji11)).f1) from ge258_1)
    clear hv258_1 ge258_1; clear hcc258 hce258; have HR258_1 := Aside0.mk hi258_1; have HC258_1 := Aside0.mk hl258_1; clear hi258_1 hl258_1; replace p258 := eq_true p258; replace q258 := eq_true q258; have ea_ := Option.some.inj (hx257_1.symm.trans hx258_1)
    injection ea_ with ea_ en_ ec_
    subst ea_; subst ec_; clear en_; have p259 : 0 ≤ ((ji15) : Int) := of_decide_eq_true y0_18; have q259 : (ji15) < (t252.length : Int) := of_decide_eq_true y0_18; obtain ⟨ad259, A259_1, c259_1, e259, hx259_0, hx259_1, hl259_1, hi259_1⟩ := at_T112 (Kd.S_reads' HO255.out).2.2 (ji15) p259 q259
    obtain rfl : ad256 = ad259 := (by injection e259)
    obtain ⟨ce259, hce259, hMe259, hcc259⟩ := Kd.S_get HO255.out z112 (ji15) p259 (by first | exact q259 | exact of_decide_eq_true y0_18 | (have e_ := (Kd.S_reads' HO255.out).1; omega))
    obtain ⟨ve259_1, rfl, ge259_1⟩ := k112_openM hMe259; have hv259_1 := hcc259 1 _ rfl
    rw [add_field _ _ 1 (by omega)] at hv259_1
    replace hv259_1 := Option.some.inj (hv259_1.symm.trans hx259_1)
    rw [hv259_1] at ge259_1
    have HL259_1 := Aside0.mk (show Kd.R k99 99 _ _ _ _ ((rd_T112 t252 (ji15)).f1) from ge259_1)
    clear hv259_1 ge259_1; clear hcc259 hce259; have HR259_1 := Aside0.mk hi259_1; have HC259_1 := Aside0.mk hl259_1; clear hi259_1 hl259_1; replace p259 := eq_true p259; replace q259 := eq_true q259
    go_wp2
    repeat (go_quiet (fail); try go_wp2)
    go_meet
    case rel => exact ⟨_, ((((rd_T112 t252 (ji11)).f0) != (wrap64 (((rd_T112 t252 (ji15)).f0) + 1)))), (by first | rfl | (simp; done) | (simp only [← hji11, ← hji15] <;> (first | rfl | simp)) | (simp [*]; done)), H', ⟨y0_20⟩, ⟨bI HB.out⟩⟩
   rw [if_neg c14] at H
   have c14b0 : (((rd_T112 t252 (ji8)).f0) == (wrap64 (((rd_T112 t252 (ji11)).f0) + 1))) = false := beq_eq_false_iff_ne.mpr c14; have c14b1 : (((rd_T112 t252 (ji8)).f0) != (wrap64 (((rd_T112 t252 (ji11)).f0) + 1))) = true := bne_iff_ne.mpr c14; have H' := Aside0.mk H; clear H; have p256 : 0 ≤ ((ji8) : Int) := of_decide_eq_true y0_18; have q256 : (ji8) < (t252.length : Int) := of_decide_eq_true y0_18; obtain ⟨ad256, A256_1, c256_1, e256, hx256_0, hx256_1, hl256_1, hi256_1⟩ := at_T112 (Kd.S_reads' HO255.out).2.2 (ji8) p256 q256; cases e256
   obtain ⟨ce256, hce256, hMe256, hcc256⟩ := Kd.S_get HO255.out z112 (ji8) p256 (by first | exact q256 | exact of_decide_eq_true y0_18 | (have e_ := (Kd.S_reads' HO255.out).1; omega))
   obtain ⟨ve256_1, rfl, ge256_1⟩ := k112_openM hMe256; have hv256_1 := hcc256 1 _ rfl
   rw [add_field _ _ 1 (by omega)] at hv256_1
   replace hv256_1 := Option.some.inj (hv256_1.symm.trans hx256_1)
   rw [hv256_1] at ge256_1
   have HL256_1 := Aside0.mk (show Kd.R k99 99 _ _ _ _ ((rd_T112 t252 (ji8)).f1) from ge256_1)
   clear hv256_1 ge256_1; clear hcc256 hce256; have HR256_1 := Aside0.mk hi256_1; have HC256_1 := Aside0.mk hl256_1; clear hi256_1 hl256_1; replace p256 := eq_true p256; replace q256 := eq_true q256; have p257 : 0 ≤ ((ji11) : Int) := of_decide_eq_true y0_18; have q257 : (ji11) < (t252.length : Int) := of_decide_eq_true y0_18; obtain ⟨ad257, A257_1, c257_1, e257, hx257_0, hx257_1, hl257_1, hi257_1⟩ := at_T112 (Kd.S_reads' HO255.out).2.2 (ji11) p257 q257
   obtain rfl : ad256 = ad257 := (by injection e257)
   obtain ⟨ce257, hce257, hMe257, hcc257⟩ := Kd.S_get HO255.out z112 (ji11) p257 (by first | exact q257 | exact of_decide_eq_true y0_18 | (have e_ := (Kd.S_reads' HO255.out).1; omega))
   obtain ⟨ve257_1, rfl, ge257_1⟩ := k112_openM hMe257; have hv257_1 := hcc257 1 _ rfl
   rw [add_field _ _ 1 (by omega)] at hv257_1
   replace hv257_1 := Option.some.inj (hv257_1.symm.trans hx257_1)
   rw [hv257_1] at ge257_1
   have HL257_1 := Aside0.mk (show Kd.R k99 99 _ _ _ _ ((rd_T112 t252 (ji11)).f1) from ge257_1)
   clear hv257_1 ge257_1; clear hcc257 hce257; have HR257_1 := Aside0.mk hi257_1; have HC257_1 := Aside0.mk hl257_1; clear hi257_1 hl257_1; replace p257 := eq_true p257; replace q257 := eq_true q257
   go_wp2
   repeat (go_quiet (fail); try go_wp2)
   go_meet
   case rel => exact ⟨_, (true), y0_19, H', ⟨y0_20⟩, ⟨bI HB.out⟩⟩
  replace c6 := Bool.eq_false_iff.mpr c6; subst c6
  rw [if_neg (show ¬ (false = true) by decide)] at H
  have H' := Aside0.mk H; clear H
  go_wp2
  repeat (go_quiet (fail); try go_wp2)
  go_meet
  case rel => exact ⟨_, (true), y0_19, H', ⟨y0_20⟩, ⟨bI HB.out⟩⟩
 case rest =>
  clear HC3
  try clear c1
  try clear c2
  try clear p2
  try clear q2
  try clear hx2
  try clear c6
  try clear p6
  try clear c7
  try clear c7b0
  try clear c7b1
  try clear c9
  try clear c9b0
  try clear c10
  try clear c10b0
  try clear c12
  try clear c12b0
  try clear c13
  try clear c13b0
  try clear c14
  try clear c14b0
  try clear c14b1
  try clear c16
  try clear c16b0
  try clear c17
  try clear c17b0
  try clear hx256_0
  try clear hx256_1
  try clear hx257_0
  try clear hx257_1
  try clear hx258_0
  try clear hx258_1
  try clear hx259_0
  try clear hx259_1
  try clear p256
  try clear p257
  try clear p258
  try clear p259
  try clear q256
  try clear q257
  try clear q258
  try clear q259
  obtain ⟨kq, x51_2, rfl, HA, HJ2, HB⟩ := hcut; cases kq with
  | zero => exact absurd HA.out (by simp [spec_Settles.j0])
  | succ kj2 =>
   have H := HA.out; clear HA
   simp only [spec_Settles.j0] at H
   by_cases c18 : x51_2 = true
   ·
    subst c18
    rw [if_pos rfl] at H
    simp only [Option.some.injEq, Prod.mk.injEq] at H
    obtain ⟨rfl, rfl⟩ := H
    go_wp2
    repeat (go_quiet (fail); try go_wp2)
    go_ret2
    exact ⟨y0_14, bI HB.out⟩
   replace c18 := Bool.eq_false_iff.mpr c18; subst c18
   rw [if_neg (show ¬ (false = true) by decide)] at H
   obtain ⟨t260, A190, H⟩ := Option.bind_eq_some_iff.mp H
   try dsimp only at H
   have A19 := Aside0.mk A190; clear A190; obtain ⟨t261, A200, H⟩ := Option.bind_eq_some_iff.mp H
   try dsimp only at H
   have A20 := Aside0.mk A200; clear A200
   simp only [Option.some.injEq, Prod.mk.injEq] at H
   obtain ⟨rfl, rfl⟩ := H
   go_wp2_with (first | (go_at_call 68; (with_reducible refine (spec_UpOf.calls kj2 a0 t260 _ A19.out).mono ?_); rintro e w21 ⟨rfl, hb⟩; replace HB := bs HB hb; (try clear hb); (try clear hb2); (try clear hk); (try clear hi)) | (go_at_call 68; (with_reducible refine (spec_UpOf.calls kj2 t260 t261 _ A20.out).mono ?_); rintro e w22 ⟨rfl, hb⟩; replace HB := bs HB hb; (try clear hb); (try clear hb2); (try clear hk); (try clear hi)))
   repeat (go_quiet (first | (go_at_call 68; (with_reducible refine (spec_UpOf.calls kj2 a0 t260 _ A19.out).mono ?_); rintro e w21 ⟨rfl, hb⟩; replace HB := bs HB hb; (try clear hb); (try clear hb2); (try clear hk); (try clear hi)) | (go_at_call 68; (with_reducible refine (spec_UpOf.calls kj2 t260 t261 _ A20.out).mono ?_); rintro e w22 ⟨rfl, hb⟩; replace HB := bs HB hb; (try clear hb); (try clear hb2); (try clear hk); (try clear hi))); try go_wp2_with (first | (go_at_call 68; (with_reducible refine (spec_UpOf.calls kj2 a0 t260 _ A19.out).mono ?_); rintro e w21 ⟨rfl, hb⟩; replace HB := bs HB hb; (try clear hb); (try clear hb2); (try clear hk); (try clear hi)) | (go_at_call 68; (with_reducible refine (spec_UpOf.calls kj2 t260 t261 _ A20.out).mono ?_); rintro e w22 ⟨rfl, hb⟩; replace HB := bs HB hb; (try clear hb); (try clear hb2); (try clear hk); (try clear hi))))
   go_ret2
   exact ⟨y0_14, bI HB.out⟩

/-! ### spec_Extends: function 70 -/
theorem bt_size_spec_Extends (s t : ByteArray) : ∀ h : t.size < s.size, (((s[t.size]'h).toNat : Nat) : Int) = bt s (t.size : Int) := fun h => by
 unfold bt
 rw [dif_pos (show ((t.size : Int)).toNat < s.size by simpa using h)]
 rfl
def spec_Extends.f (k : Nat) (a0 : ByteArray) (a1 : ByteArray) : Option (Bool) := (spec_NameOk.f k a0).bind fun t262 => (if t262 = true then ((spec_NameOk.f k a1).bind fun t263 => (if t263 = true then (if (a1.size : Int) > (a0.size : Int) then (some false) else (if 0 ≤ (a1.size : Int) then (if (a1.size : Int) ≤ (a0.size : Int) then (if (a0.extract 0 ((a1.size : Int) : Int).toNat).toList = a1.toList then (if (a0.size : Int) = (a1.size : Int) then (some true) else (if (a1.size : Int) < (a0.size : Int) then (some ((bt a0 (a1.size : Int)) == 47)) else (none))) else (some false)) else (none)) else (none))) else (some false))) else (some false))
theorem spec_Extends.mono : ∀ a0 a1 k, LeO (spec_Extends.f k a0 a1) (spec_Extends.f (k + 1) a0 a1) := by
 intro a0 a1 k
 unfold spec_Extends.f
 repeat' first | (with_reducible exact spec_NameOk.mono _ _) | (with_reducible exact LeO.refl _) | (with_reducible exact LeO.none _) | (with_reducible refine LeO.ite ?_ ?_) | (with_reducible refine LeO.bind ?_ (fun _ => ?_))
set_option maxHeartbeats 8000000 in
set_option maxRecDepth 100000 in
theorem spec_Extends.calls (k : Nat) (a0 : ByteArray) (a1 : ByteArray) (r : Bool) (w : World) (h : spec_Extends.f k a0 a1 = some r) :
  Calls Tryz.prog 70 #[.string a0, .string a1] w fun e w' => e = .returned (.bool r) ∧ Below w.heap.size w w' := by
 have HB := Aside0.mk (Below.refl w.heap.size w); have hxs := bt_size_spec_Extends a0 a1
 have H : ((spec_NameOk.f k a0).bind fun t262 => (if t262 = true then ((spec_NameOk.f k a1).bind fun t263 => (if t263 = true then (if (a1.size : Int) > (a0.size : Int) then (some false) else (if 0 ≤ (a1.size : Int) then (if (a1.size : Int) ≤ (a0.size : Int) then (if (a0.extract 0 ((a1.size : Int) : Int).toNat).toList = a1.toList then (if (a0.size : Int) = (a1.size : Int) then (some true) else (if (a1.size : Int) < (a0.size : Int) then (some ((bt a0 (a1.size : Int)) == 47)) else (none))) else (some false)) else (none)) else (none))) else (some false))) else (some false))) = some r := h
 clear h; obtain ⟨t262, A30, H⟩ := Option.bind_eq_some_iff.mp H
 try dsimp only at H
 have A3 := Aside0.mk A30; clear A30
 by_cases c4 : t262 = true
 ·
  subst c4
  rw [if_pos rfl] at H
  obtain ⟨t263, A50, H⟩ := Option.bind_eq_some_iff.mp H
  try dsimp only at H
  have A5 := Aside0.mk A50; clear A50
  by_cases c6 : t263 = true
  ·
   subst c6
   rw [if_pos rfl] at H
   by_cases c7 : (a1.size : Int) > (a0.size : Int)
   ·
    rw [if_pos c7] at H
    have c7b0 : decide ((a0.size : Int) < (a1.size : Int)) = true := decide_eq_true c7; have c7b1 : decide (a0.size < a1.size) = true := decide_eq_true (Int.ofNat_lt.mp c7); clear c7; obtain rfl := Option.some.inj H
    go_enter Tryz.func70, Tryz.ntmps70
    go_wp2_with (first | ((with_reducible refine gate_callee (f := 97) rfl ?_); refine gB (some 6) Tryz.func97 #[.string a0] ?_; (with_reducible refine (spec_NameOk.calls k a0 true _ A3.out).mono ?_); rintro e w8 ⟨rfl, hb⟩; refine ⟨_, rfl, ?_⟩; replace HB := bs HB hb; (try clear hb); (try clear hb2); (try clear hk); (try clear hi)) | (go_at_call 97; (with_reducible refine (spec_NameOk.calls k a1 true _ A5.out).mono ?_); rintro e w9 ⟨rfl, hb⟩; replace HB := bs HB hb; (try clear hb); (try clear hb2); (try clear hk); (try clear hi)))
    go_ret
    exact ⟨y0_14, bI HB.out⟩
   rw [if_neg c7] at H
   have c7b0 : decide ((a0.size : Int) < (a1.size : Int)) = false := decide_eq_false c7
   have c7b1 : decide (a0.size < a1.size) = false := decide_eq_false (fun h => c7 (Int.ofNat_lt.mpr h))
   clear c7
   by_cases c10 : 0 ≤ (a1.size : Int)
   rotate_left
   ·
    rw [if_neg c10] at H
    exact absurd H (by simp)
   rw [if_pos c10] at H
   have c10b0 := eq_true c10; have c10b1 : decide (0 ≤ (a1.size : Int)) = true := decide_eq_true c10; clear c10
   by_cases c11 : (a1.size : Int) ≤ (a0.size : Int)
   rotate_left
   ·
    rw [if_neg c11] at H
    exact absurd H (by simp)
   rw [if_pos c11] at H
   have c11b0 := eq_true c11; have c11b1 : decide ((a1.size : Int) ≤ (a0.size : Int)) = true := decide_eq_true c11; clear c11
   by_cases c12 : (a0.extract 0 ((a1.size : Int) : Int).toNat).toList = a1.toList
   ·
    rw [if_pos c12] at H
    have c12b0 : ((a0.extract 0 ((a1.size : Int) : Int).toNat).toList == a1.toList) = true := beq_iff_eq.mpr c12; have c12b0' : ((a0.extract 0 a1.size).toList == a1.toList) = true := c12b0; have c12b1 : ((a0.extract 0 ((a1.size : Int) : Int).toNat).toList != a1.toList) = false := bne_eq_false_iff_eq.mpr c12; have c12b1' : ((a0.extract 0 a1.size).toList != a1.toList) = false := c12b1; clear c12
    by_cases c13 : (a0.size : Int) = (a1.size : Int)
    ·
     rw [if_pos c13] at H
     have c13b0 : ((a0.size : Int) == (a1.size : Int)) = true := beq_iff_eq.mpr c13; have c13b1 : ((a0.size : Int) != (a1.size : Int)) = false := bne_eq_false_iff_eq.mpr c13
     have c13b2 : (a0.size == a1.size) = true := by first | simpa using c13 | (simp at c13 ⊢; omega)
     clear c13; obtain rfl := Option.some.inj H
     go_enter Tryz.func70, Tryz.ntmps70
     go_wp2_with (first | ((with_reducible refine gate_callee (f := 97) rfl ?_); refine gB (some 6) Tryz.func97 #[.string a0] ?_; (with_reducible refine (spec_NameOk.calls k a0 true _ A3.out).mono ?_); rintro e w14 ⟨rfl, hb⟩; refine ⟨_, rfl, ?_⟩; replace HB := bs HB hb; (try clear hb); (try clear hb2); (try clear hk); (try clear hi)) | (go_at_call 97; (with_reducible refine (spec_NameOk.calls k a1 true _ A5.out).mono ?_); rintro e w15 ⟨rfl, hb⟩; replace HB := bs HB hb; (try clear hb); (try clear hb2); (try clear hk); (try clear hi)))
     go_ret
     exact ⟨y0_14, bI HB.out⟩
    rw [if_neg c13] at H
    have c13b0 : ((a0.size : Int) == (a1.size : Int)) = false := beq_eq_false_iff_ne.mpr c13; have c13b1 : ((a0.size : Int) != (a1.size : Int)) = true := bne_iff_ne.mpr c13
    have c13b2 : (a0.size == a1.size) = false := by first | simpa using c13 | (simp at c13 ⊢; omega)
    by_cases c16 : (a1.size : Int) < (a0.size : Int)
    rotate_left
    ·
     rw [if_neg c16] at H
     exact absurd H (by simp)
    rw [if_pos c16] at H
    have c16b0 : decide ((a1.size : Int) < (a0.size : Int)) = true := decide_eq_true c16; have c16b1 : decide (a1.size < a0.size) = true := decide_eq_true (Int.ofNat_lt.mp c16); clear c16; obtain rfl := Option.some.inj H
    go_enter Tryz.func70, Tryz.ntmps70
    go_wp2_with (first | ((with_reducible refine gate_callee (f := 97) rfl ?_); refine gB (some 6) Tryz.func97 #[.string a0] ?_; (with_reducible refine (spec_NameOk.calls k a0 true _ A3.out).mono ?_); rintro e w18 ⟨rfl, hb⟩; refine ⟨_, rfl, ?_⟩; replace HB := bs HB hb; (try clear hb); (try clear hb2); (try clear hk); (try clear hi)) | (go_at_call 97; (with_reducible refine (spec_NameOk.calls k a1 true _ A5.out).mono ?_); rintro e w19 ⟨rfl, hb⟩; replace HB := bs HB hb; (try clear hb); (try clear hb2); (try clear hk); (try clear hi); have p17 : 0 ≤ ((a1.size : Int) : Int) := of_decide_eq_true y0_18; have q17 : (a1.size : Int) < (a0.size : Int) := of_decide_eq_true y0_18; have hx17 := bt_at a0 (a1.size : Int); replace p17 := eq_true p17; replace q17 := eq_true q17))
    go_ret
    exact ⟨y0_14, bI HB.out⟩
   rw [if_neg c12] at H
   have c12b0 : ((a0.extract 0 ((a1.size : Int) : Int).toNat).toList == a1.toList) = false := beq_eq_false_iff_ne.mpr c12; have c12b0' : ((a0.extract 0 a1.size).toList == a1.toList) = false := c12b0; have c12b1 : ((a0.extract 0 ((a1.size : Int) : Int).toNat).toList != a1.toList) = true := bne_iff_ne.mpr c12; have c12b1' : ((a0.extract 0 a1.size).toList != a1.toList) = true := c12b1; obtain rfl := Option.some.inj H
   go_enter Tryz.func70, Tryz.ntmps70
   go_wp2_with (first | ((with_reducible refine gate_callee (f := 97) rfl ?_); refine gB (some 6) Tryz.func97 #[.string a0] ?_; (with_reducible refine (spec_NameOk.calls k a0 true _ A3.out).mono ?_); rintro e w20 ⟨rfl, hb⟩; refine ⟨_, rfl, ?_⟩; replace HB := bs HB hb; (try clear hb); (try clear hb2); (try clear hk); (try clear hi)) | (go_at_call 97; (with_reducible refine (spec_NameOk.calls k a1 true _ A5.out).mono ?_); rintro e w21 ⟨rfl, hb⟩; replace HB := bs HB hb; (try clear hb); (try clear hb2); (try clear hk); (try clear hi)))
   go_ret
   exact ⟨y0_14, bI HB.out⟩
  replace c6 := Bool.eq_false_iff.mpr c6; subst c6
  rw [if_neg (show ¬ (false = true) by decide)] at H
  obtain rfl := Option.some.inj H
  go_enter Tryz.func70, Tryz.ntmps70
  go_wp2_with (first | ((with_reducible refine gate_callee (f := 97) rfl ?_); refine gB (some 6) Tryz.func97 #[.string a0] ?_; (with_reducible refine (spec_NameOk.calls k a0 true _ A3.out).mono ?_); rintro e w22 ⟨rfl, hb⟩; refine ⟨_, rfl, ?_⟩; replace HB := bs HB hb; (try clear hb); (try clear hb2); (try clear hk); (try clear hi)) | (go_at_call 97; (with_reducible refine (spec_NameOk.calls k a1 false _ A5.out).mono ?_); rintro e w23 ⟨rfl, hb⟩; replace HB := bs HB hb; (try clear hb); (try clear hb2); (try clear hk); (try clear hi)))
  go_ret
  exact ⟨y0_14, bI HB.out⟩
 replace c4 := Bool.eq_false_iff.mpr c4; subst c4
 rw [if_neg (show ¬ (false = true) by decide)] at H
 obtain rfl := Option.some.inj H
 go_enter Tryz.func70, Tryz.ntmps70
 go_wp2_with (first | ((with_reducible refine gate_callee (f := 97) rfl ?_); refine gB (some 6) Tryz.func97 #[.string a0] ?_; (with_reducible refine (spec_NameOk.calls k a0 false _ A3.out).mono ?_); rintro e w24 ⟨rfl, hb⟩; refine ⟨_, rfl, ?_⟩; replace HB := bs HB hb; (try clear hb); (try clear hb2); (try clear hk); (try clear hi)))
 go_ret
 exact ⟨y0_14, bI HB.out⟩

/-! ### spec_See: function 24 -/
def spec_See.f (k : Nat) (a0_0 : Int) (a0_1 : Int) (a1_0 : Int) (a1_1 : Int) (a1_2 : Int) (a1_3 : ByteArray) (l1_4 : List Int) (a1_5 : ByteArray) (a2_0 : Int) (a2_1 : ByteArray) (l2_2 : List Int) : Option (Int × Int × Int × ByteArray × List Int × ByteArray) := (spec_l11Copy.f a1_0 a1_1 a1_2 a1_3 l1_4 a1_5).bind fun bt268 => ((spec_SafeOk.f k a0_0 a0_1 a1_0 a1_1 a1_2 a1_3 l1_4 a1_5).bind fun t277 => (if t277 = true then ((spec_QcOk.f k a0_0 a0_1 a2_0 a2_1 l2_2).bind fun t278 => (if t278 = true then ((spec_QcLater.f a2_0 a2_1 l2_2 a1_2 a1_3 l1_4).bind fun bt279 => ((spec_UpOf.f k a2_1).bind fun t284 => ((spec_ViewOf.f k t284).bind fun t285 => ((spec_l1Max.f a1_1 t285).bind fun t286 => ((spec_Settles.f k a2_1).bind fun bt287 => (if bt287.2 = true then ((spec_Extends.f k bt287.1 a1_5).bind fun t289 => (if t289 = true then (some (bt268.1, t286, bt279.1, bt279.2.1, bt279.2.2, bt287.1)) else (some (bt268.1, t286, bt279.1, bt279.2.1, bt279.2.2, bt268.2.2.2.2.2)))) else (some (bt268.1, t286, bt279.1, bt279.2.1, bt279.2.2, bt268.2.2.2.2.2)))))))) else (some (bt268.1, bt268.2.1, bt268.2.2.1, bt268.2.2.2.1, bt268.2.2.2.2.1, bt268.2.2.2.2.2)))) else (some (bt268.1, bt268.2.1, bt268.2.2.1, bt268.2.2.2.1, bt268.2.2.2.2.1, bt268.2.2.2.2.2))))
theorem spec_See.mono : ∀ a0 a1 a2 a3 a4 a5 a6 a7 a8 a9 a10 k, LeO (spec_See.f k a0 a1 a2 a3 a4 a5 a6 a7 a8 a9 a10) (spec_See.f (k + 1) a0 a1 a2 a3 a4 a5 a6 a7 a8 a9 a10) := by
 intro a0 a1 a2 a3 a4 a5 a6 a7 a8 a9 a10 k
 unfold spec_See.f
 repeat' first | (with_reducible exact spec_Extends.mono _ _ _) | (with_reducible exact spec_QcOk.mono _ _ _ _ _ _) | (with_reducible exact spec_SafeOk.mono _ _ _ _ _ _ _ _ _) | (with_reducible exact spec_Settles.mono _ _) | (with_reducible exact spec_UpOf.mono _ _) | (with_reducible exact spec_ViewOf.mono _ _) | (with_reducible exact LeO.refl _) | (with_reducible exact LeO.none _) | (with_reducible refine LeO.ite ?_ ?_) | (with_reducible refine LeO.bind ?_ (fun _ => ?_))
def spec_See.T5 : Bool × List (List Nat × List Nat) := (true, [([], []), ([0], [0]), ([], []), ([2], [2]), ([3], [3]), ([4, 4], [4]), ([1, 5, 5], [1, 5]), ([0, 1, 2, 3, 4, 5, 6], []), ([7, 6, 6, 0, 1, 2, 3, 4, 5, 6], [6, 7])])
def spec_See.B5 : List Nat := [0, 1, 0, 4, 12, 28, 63, 127, 255]
theorem spec_See.tab5 : rtab .any (opsOf Tryz.f24 5) = spec_See.T5 := by kernel_rfl
theorem spec_See.bits5 : waitsOk spec_See.T5.2 spec_See.B5 = true := by kernel_rfl
set_option maxHeartbeats 8000000 in
set_option maxRecDepth 100000 in
theorem spec_See.calls (k : Nat) (a0_0 : Int) (a0_1 : Int) (a1_0 : Int) (a1_1 : Int) (a1_2 : Int) (a1_3 : ByteArray) (A1_4 : Option Addr) (c1_4 : Nat) (l1_4 : List Int) (a1_5 : ByteArray) (a2_0 : Int) (a2_1 : ByteArray) (A2_2 : Option Addr) (c2_2 : Nat) (l2_2 : List Int) (r1 : Int) (r2 : Int) (r3 : Int) (r4 : ByteArray) (r5 : List Int) (r6 : ByteArray) (w : World) (hr1_4 : Kd.C (Kd.int .i64) w A1_4 l1_4.length l1_4) (hc1_4 : l1_4.length ≤ c1_4) (hr2_2 : Kd.C (Kd.int .i64) w A2_2 l2_2.length l2_2) (hc2_2 : l2_2.length ≤ c2_2) (h : spec_See.f k a0_0 a0_1 a1_0 a1_1 a1_2 a1_3 l1_4 a1_5 a2_0 a2_1 l2_2 = some (r1, r2, r3, r4, r5, r6)) :
  Calls Tryz.prog 24 #[.agg #[.int .i64 a0_0, .int .i64 a0_1], .agg #[.int .i64 a1_0, .int .i64 a1_1, .int .i64 a1_2, .string a1_3, .slice A1_4 l1_4.length c1_4, .string a1_5], .agg #[.int .i64 a2_0, .string a2_1, .slice A2_2 l2_2.length c2_2]] w fun e w' => ∃ v4_ : Value, e = .returned (.agg #[.int .i64 r1, .int .i64 r2, .int .i64 r3, .string r4, v4_, .string r6]) ∧ Kd.R (Kd.int .i64) 3 w' w.heap.size (fun _ => True) v4_ r5 ∧ Below w.heap.size w w' := by
 have hu38 := Tryz.underlying38; have hu35 := Tryz.underlying35; have hu33 := Tryz.underlying33; have HR1_4 := Aside0.mk hr1_4; have HC1_4 := Aside0.mk hc1_4; clear hr1_4 hc1_4; have HR2_2 := Aside0.mk hr2_2; have HC2_2 := Aside0.mk hc2_2; clear hr2_2 hc2_2; have HB := Aside0.mk (Below.refl w.heap.size w)
 have H : ((spec_l11Copy.f a1_0 a1_1 a1_2 a1_3 l1_4 a1_5).bind fun bt268 => ((spec_SafeOk.f k a0_0 a0_1 a1_0 a1_1 a1_2 a1_3 l1_4 a1_5).bind fun t277 => (if t277 = true then ((spec_QcOk.f k a0_0 a0_1 a2_0 a2_1 l2_2).bind fun t278 => (if t278 = true then ((spec_QcLater.f a2_0 a2_1 l2_2 a1_2 a1_3 l1_4).bind fun bt279 => ((spec_UpOf.f k a2_1).bind fun t284 => ((spec_ViewOf.f k t284).bind fun t285 => ((spec_l1Max.f a1_1 t285).bind fun t286 => ((spec_Settles.f k a2_1).bind fun bt287 => (if bt287.2 = true then ((spec_Extends.f k bt287.1 a1_5).bind fun t289 => (if t289 = true then (some (bt268.1, t286, bt279.1, bt279.2.1, bt279.2.2, bt287.1)) else (some (bt268.1, t286, bt279.1, bt279.2.1, bt279.2.2, bt268.2.2.2.2.2)))) else (some (bt268.1, t286, bt279.1, bt279.2.1, bt279.2.2, bt268.2.2.2.2.2)))))))) else (some (bt268.1, bt268.2.1, bt268.2.2.1, bt268.2.2.2.1, bt268.2.2.2.2.1, bt268.2.2.2.2.2)))) else (some (bt268.1, bt268.2.1, bt268.2.2.1, bt268.2.2.2.1, bt268.2.2.2.2.1, bt268.2.2.2.2.2))))) = some (r1, r2, r3, r4, r5, r6) := h
 clear h; obtain ⟨⟨t268, t269, t270, t271, t272, t275⟩, A40, H⟩ := Option.bind_eq_some_iff.mp H
 try dsimp only at H
 have A4 := Aside0.mk A40; clear A40; obtain ⟨t277, A50, H⟩ := Option.bind_eq_some_iff.mp H
 try dsimp only at H
 have A5 := Aside0.mk A50; clear A50
 by_cases c6 : t277 = true
 ·
  subst c6
  rw [if_pos rfl] at H
  obtain ⟨t278, A70, H⟩ := Option.bind_eq_some_iff.mp H
  try dsimp only at H
  have A7 := Aside0.mk A70; clear A70
  by_cases c8 : t278 = true
  ·
   subst c8
   rw [if_pos rfl] at H
   obtain ⟨⟨t279, t280, t281⟩, A90, H⟩ := Option.bind_eq_some_iff.mp H
   try dsimp only at H
   have A9 := Aside0.mk A90; clear A90; obtain ⟨t284, A100, H⟩ := Option.bind_eq_some_iff.mp H
   try dsimp only at H
   have A10 := Aside0.mk A100; clear A100; obtain ⟨t285, A110, H⟩ := Option.bind_eq_some_iff.mp H
   try dsimp only at H
   have A11 := Aside0.mk A110; clear A110; obtain ⟨t286, A120, H⟩ := Option.bind_eq_some_iff.mp H
   try dsimp only at H
   have A12 := Aside0.mk A120; clear A120; obtain ⟨⟨t287, t288⟩, A130, H⟩ := Option.bind_eq_some_iff.mp H
   try dsimp only at H
   have A13 := Aside0.mk A130; clear A130
   by_cases c14 : t288 = true
   ·
    subst c14
    rw [if_pos rfl] at H
    obtain ⟨t289, A150, H⟩ := Option.bind_eq_some_iff.mp H
    try dsimp only at H
    have A15 := Aside0.mk A150; clear A150
    by_cases c16 : t289 = true
    ·
     subst c16
     rw [if_pos rfl] at H
     simp only [Option.some.injEq, Prod.mk.injEq] at H
     obtain ⟨rfl, rfl, rfl, rfl, rfl, rfl⟩ := H
     go_enter Tryz.func24, Tryz.ntmps24
     try go_wp2_with (first | ((with_reducible refine gd 3 ?_); refine bL 3 #[.int .i64 a0_0, .int .i64 a0_1] 38 ?_; intro gb264 w17 _ _ _) | ((with_reducible refine gd 4 ?_); refine bL 4 #[.int .i64 a1_0, .int .i64 a1_1, .int .i64 a1_2, .string a1_3, .slice A1_4 l1_4.length c1_4, .string a1_5] 35 ?_; intro gb265 w18 _ _ _) | ((with_reducible refine gd 5 ?_); refine bL 5 #[.int .i64 a2_0, .string a2_1, .slice A2_2 l2_2.length c2_2] 33 ?_; intro gb266 w19 _ _ _) | ((with_reducible refine gd 6 ?_); refine bL 6 #[.int .i64 0, .int .i64 0, .int .i64 0, .string (⟨#[]⟩ : ByteArray), .slice none 0 0, .string (⟨#[]⟩ : ByteArray)] 35 ?_; intro gb267 w20 _ _ _) | ((with_reducible refine gate_callee (f := 61) rfl ?_); refine gC1 (some 11) Tryz.func61 (spec_l11Copy.calls (hr0_4 := pC HR1_4) (hc0_4 := HC1_4.out) (w := _) (h := A4.out)) ?_; intro Ao273 co273 w21 _ HO274) | ((with_reducible refine gd 7 ?_); refine bL 7 #[.int .i64 0, .int .i64 0, .int .i64 0, .string (⟨#[]⟩ : ByteArray), .slice none 0 0, .string (⟨#[]⟩ : ByteArray)] 35 ?_; intro gb276 w22 _ _ _) | ((with_reducible refine gate_callee (f := 66) rfl ?_); refine gC (some 14) Tryz.func66 (spec_SafeOk.calls (hr1_4 := pC HR1_4) (hc1_4 := HC1_4.out) (w := _) (h := A5.out)) ?_; intro w23 _) | (go_at_call 49; refine aC (spec_QcOk.calls (hr1_2 := pC HR2_2) (hc1_2 := HC2_2.out) (w := _) (h := A7.out)) ?_; intro w24 _) | ((with_reducible refine gate_callee (f := 58) rfl ?_); refine gC1 (some 26) Tryz.func58 (spec_QcLater.calls (hr0_2 := pC HR2_2) (hc0_2 := HC2_2.out) (hr1_2 := pC HR1_4) (hc1_2 := HC1_4.out) (w := _) (h := A9.out)) ?_; intro Ao282 co282 w25 _ HO283))
     refine sB [gb276] spec_See.tab5 spec_See.bits5 ?_; intro w26 _ HT_ HW_
     refine pA 0 (some 28) (bz 9 1) HT_ ?_
     refine tB 1 (some 29) (bz 9 3) HT_ HW_ ?_
     refine pA 2 (some 30) (bz 9 7) HT_ ?_
     refine tB 3 (some 31) (bz 9 15) HT_ HW_ ?_
     refine o1 4 (some 32) (bz 9 31) HT_ rfl (kC Tryz.func68 (spec_UpOf.calls (w := _) (h := A10.out)) ?_); intro w27 _
     refine nA (some 32) ?_
     refine o1 5 (some 33) (bz 9 63) HT_ rfl (kC Tryz.func62 (spec_ViewOf.calls (w := _) (h := A11.out)) ?_); intro w28 _
     refine nA (some 33) ?_
     refine o1 6 (some 34) (bz 9 127) HT_ rfl (kD Tryz.func67 (spec_l1Max.calls (w := _) (h := A12.out)) ?_); intro w29 _
     refine nA (some 34) ?_
     refine pA 7 (some 35) (bz 9 255) HT_ ?_
     refine o1 8 none (bz 9 511) HT_ rfl (kS ?_)
     refine done_ (done_of HT_.out (by kernel_rfl)) ?_
     try go_wp2_with (first | ((with_reducible refine gate_callee (f := 69) rfl ?_); refine gC (some 39) Tryz.func69 (spec_Settles.calls (w := _) (h := A13.out)) ?_; intro w30 _) | (go_at_call 70; refine aC (spec_Extends.calls (w := _) (h := A15.out)) ?_; intro w31 _))
     refine bodyPost_ret (results_cell_row rfl _ _ gb267 35 #[.int .i64 t268, .int .i64 t286, .int .i64 t279, .string t280, .slice Ao282 t281.length co282, .string t287] (0, 0) _ rfl xB Tryz.underlying35 rfl (by kernel_rfl)) rfl ?_
     exact ⟨_, y0_19, rR HO283, UpW.out⟩
    replace c16 := Bool.eq_false_iff.mpr c16; subst c16
    rw [if_neg (show ¬ (false = true) by decide)] at H
    simp only [Option.some.injEq, Prod.mk.injEq] at H
    obtain ⟨rfl, rfl, rfl, rfl, rfl, rfl⟩ := H
    go_enter Tryz.func24, Tryz.ntmps24
    try go_wp2_with (first | ((with_reducible refine gd 3 ?_); refine bL 3 #[.int .i64 a0_0, .int .i64 a0_1] 38 ?_; intro gb264 w32 _ _ _) | ((with_reducible refine gd 4 ?_); refine bL 4 #[.int .i64 a1_0, .int .i64 a1_1, .int .i64 a1_2, .string a1_3, .slice A1_4 l1_4.length c1_4, .string a1_5] 35 ?_; intro gb265 w33 _ _ _) | ((with_reducible refine gd 5 ?_); refine bL 5 #[.int .i64 a2_0, .string a2_1, .slice A2_2 l2_2.length c2_2] 33 ?_; intro gb266 w34 _ _ _) | ((with_reducible refine gd 6 ?_); refine bL 6 #[.int .i64 0, .int .i64 0, .int .i64 0, .string (⟨#[]⟩ : ByteArray), .slice none 0 0, .string (⟨#[]⟩ : ByteArray)] 35 ?_; intro gb267 w35 _ _ _) | ((with_reducible refine gate_callee (f := 61) rfl ?_); refine gC1 (some 11) Tryz.func61 (spec_l11Copy.calls (hr0_4 := pC HR1_4) (hc0_4 := HC1_4.out) (w := _) (h := A4.out)) ?_; intro Ao273 co273 w36 _ HO274) | ((with_reducible refine gd 7 ?_); refine bL 7 #[.int .i64 0, .int .i64 0, .int .i64 0, .string (⟨#[]⟩ : ByteArray), .slice none 0 0, .string (⟨#[]⟩ : ByteArray)] 35 ?_; intro gb276 w37 _ _ _) | ((with_reducible refine gate_callee (f := 66) rfl ?_); refine gC (some 14) Tryz.func66 (spec_SafeOk.calls (hr1_4 := pC HR1_4) (hc1_4 := HC1_4.out) (w := _) (h := A5.out)) ?_; intro w38 _) | (go_at_call 49; refine aC (spec_QcOk.calls (hr1_2 := pC HR2_2) (hc1_2 := HC2_2.out) (w := _) (h := A7.out)) ?_; intro w39 _) | ((with_reducible refine gate_callee (f := 58) rfl ?_); refine gC1 (some 26) Tryz.func58 (spec_QcLater.calls (hr0_2 := pC HR2_2) (hc0_2 := HC2_2.out) (hr1_2 := pC HR1_4) (hc1_2 := HC1_4.out) (w := _) (h := A9.out)) ?_; intro Ao282 co282 w40 _ HO283))
    refine sB [gb276] spec_See.tab5 spec_See.bits5 ?_; intro w41 _ HT_ HW_
    refine pA 0 (some 28) (bz 9 1) HT_ ?_
    refine tB 1 (some 29) (bz 9 3) HT_ HW_ ?_
    refine pA 2 (some 30) (bz 9 7) HT_ ?_
    refine tB 3 (some 31) (bz 9 15) HT_ HW_ ?_
    refine o1 4 (some 32) (bz 9 31) HT_ rfl (kC Tryz.func68 (spec_UpOf.calls (w := _) (h := A10.out)) ?_); intro w42 _
    refine nA (some 32) ?_
    refine o1 5 (some 33) (bz 9 63) HT_ rfl (kC Tryz.func62 (spec_ViewOf.calls (w := _) (h := A11.out)) ?_); intro w43 _
    refine nA (some 33) ?_
    refine o1 6 (some 34) (bz 9 127) HT_ rfl (kD Tryz.func67 (spec_l1Max.calls (w := _) (h := A12.out)) ?_); intro w44 _
    refine nA (some 34) ?_
    refine pA 7 (some 35) (bz 9 255) HT_ ?_
    refine o1 8 none (bz 9 511) HT_ rfl (kS ?_)
    refine done_ (done_of HT_.out (by kernel_rfl)) ?_
    try go_wp2_with (first | ((with_reducible refine gate_callee (f := 69) rfl ?_); refine gC (some 39) Tryz.func69 (spec_Settles.calls (w := _) (h := A13.out)) ?_; intro w45 _) | (go_at_call 70; refine aC (spec_Extends.calls (w := _) (h := A15.out)) ?_; intro w46 _))
    refine bodyPost_ret (results_cell_row rfl _ _ gb267 35 #[.int .i64 t268, .int .i64 t286, .int .i64 t279, .string t280, .slice Ao282 t281.length co282, .string t275] (0, 0) _ rfl xB Tryz.underlying35 rfl (by kernel_rfl)) rfl ?_
    exact ⟨_, y0_19, rR HO283, UpW.out⟩
   replace c14 := Bool.eq_false_iff.mpr c14; subst c14
   rw [if_neg (show ¬ (false = true) by decide)] at H
   simp only [Option.some.injEq, Prod.mk.injEq] at H
   obtain ⟨rfl, rfl, rfl, rfl, rfl, rfl⟩ := H
   go_enter Tryz.func24, Tryz.ntmps24
   try go_wp2_with (first | ((with_reducible refine gd 3 ?_); refine bL 3 #[.int .i64 a0_0, .int .i64 a0_1] 38 ?_; intro gb264 w47 _ _ _) | ((with_reducible refine gd 4 ?_); refine bL 4 #[.int .i64 a1_0, .int .i64 a1_1, .int .i64 a1_2, .string a1_3, .slice A1_4 l1_4.length c1_4, .string a1_5] 35 ?_; intro gb265 w48 _ _ _) | ((with_reducible refine gd 5 ?_); refine bL 5 #[.int .i64 a2_0, .string a2_1, .slice A2_2 l2_2.length c2_2] 33 ?_; intro gb266 w49 _ _ _) | ((with_reducible refine gd 6 ?_); refine bL 6 #[.int .i64 0, .int .i64 0, .int .i64 0, .string (⟨#[]⟩ : ByteArray), .slice none 0 0, .string (⟨#[]⟩ : ByteArray)] 35 ?_; intro gb267 w50 _ _ _) | ((with_reducible refine gate_callee (f := 61) rfl ?_); refine gC1 (some 11) Tryz.func61 (spec_l11Copy.calls (hr0_4 := pC HR1_4) (hc0_4 := HC1_4.out) (w := _) (h := A4.out)) ?_; intro Ao273 co273 w51 _ HO274) | ((with_reducible refine gd 7 ?_); refine bL 7 #[.int .i64 0, .int .i64 0, .int .i64 0, .string (⟨#[]⟩ : ByteArray), .slice none 0 0, .string (⟨#[]⟩ : ByteArray)] 35 ?_; intro gb276 w52 _ _ _) | ((with_reducible refine gate_callee (f := 66) rfl ?_); refine gC (some 14) Tryz.func66 (spec_SafeOk.calls (hr1_4 := pC HR1_4) (hc1_4 := HC1_4.out) (w := _) (h := A5.out)) ?_; intro w53 _) | (go_at_call 49; refine aC (spec_QcOk.calls (hr1_2 := pC HR2_2) (hc1_2 := HC2_2.out) (w := _) (h := A7.out)) ?_; intro w54 _) | ((with_reducible refine gate_callee (f := 58) rfl ?_); refine gC1 (some 26) Tryz.func58 (spec_QcLater.calls (hr0_2 := pC HR2_2) (hc0_2 := HC2_2.out) (hr1_2 := pC HR1_4) (hc1_2 := HC1_4.out) (w := _) (h := A9.out)) ?_; intro Ao282 co282 w55 _ HO283))
   refine sB [gb276] spec_See.tab5 spec_See.bits5 ?_; intro w56 _ HT_ HW_
   refine pA 0 (some 28) (bz 9 1) HT_ ?_
   refine tB 1 (some 29) (bz 9 3) HT_ HW_ ?_
   refine pA 2 (some 30) (bz 9 7) HT_ ?_
   refine tB 3 (some 31) (bz 9 15) HT_ HW_ ?_
   refine o1 4 (some 32) (bz 9 31) HT_ rfl (kC Tryz.func68 (spec_UpOf.calls (w := _) (h := A10.out)) ?_); intro w57 _
   refine nA (some 32) ?_
   refine o1 5 (some 33) (bz 9 63) HT_ rfl (kC Tryz.func62 (spec_ViewOf.calls (w := _) (h := A11.out)) ?_); intro w58 _
   refine nA (some 33) ?_
   refine o1 6 (some 34) (bz 9 127) HT_ rfl (kD Tryz.func67 (spec_l1Max.calls (w := _) (h := A12.out)) ?_); intro w59 _
   refine nA (some 34) ?_
   refine pA 7 (some 35) (bz 9 255) HT_ ?_
   refine o1 8 none (bz 9 511) HT_ rfl (kS ?_)
   refine done_ (done_of HT_.out (by kernel_rfl)) ?_
   try go_wp2_with (first | ((with_reducible refine gate_callee (f := 69) rfl ?_); refine gC (some 39) Tryz.func69 (spec_Settles.calls (w := _) (h := A13.out)) ?_; intro w60 _))
   refine bodyPost_ret (results_cell_row rfl _ _ gb267 35 #[.int .i64 t268, .int .i64 t286, .int .i64 t279, .string t280, .slice Ao282 t281.length co282, .string t275] (0, 0) _ rfl xB Tryz.underlying35 rfl (by kernel_rfl)) rfl ?_
   exact ⟨_, y0_19, rR HO283, UpW.out⟩
  replace c8 := Bool.eq_false_iff.mpr c8; subst c8
  rw [if_neg (show ¬ (false = true) by decide)] at H
  simp only [Option.some.injEq, Prod.mk.injEq] at H
  obtain ⟨rfl, rfl, rfl, rfl, rfl, rfl⟩ := H
  go_enter Tryz.func24, Tryz.ntmps24
  go_wp2_with (first | ((with_reducible refine gd 3 ?_); refine bL 3 #[.int .i64 a0_0, .int .i64 a0_1] 38 ?_; intro gb264 w61 _ _ _) | ((with_reducible refine gd 4 ?_); refine bL 4 #[.int .i64 a1_0, .int .i64 a1_1, .int .i64 a1_2, .string a1_3, .slice A1_4 l1_4.length c1_4, .string a1_5] 35 ?_; intro gb265 w62 _ _ _) | ((with_reducible refine gd 5 ?_); refine bL 5 #[.int .i64 a2_0, .string a2_1, .slice A2_2 l2_2.length c2_2] 33 ?_; intro gb266 w63 _ _ _) | ((with_reducible refine gd 6 ?_); refine bL 6 #[.int .i64 0, .int .i64 0, .int .i64 0, .string (⟨#[]⟩ : ByteArray), .slice none 0 0, .string (⟨#[]⟩ : ByteArray)] 35 ?_; intro gb267 w64 _ _ _) | ((with_reducible refine gate_callee (f := 61) rfl ?_); refine gC1 (some 11) Tryz.func61 (spec_l11Copy.calls (hr0_4 := pC HR1_4) (hc0_4 := HC1_4.out) (w := _) (h := A4.out)) ?_; intro Ao273 co273 w65 _ HO274) | ((with_reducible refine gd 7 ?_); refine bL 7 #[.int .i64 0, .int .i64 0, .int .i64 0, .string (⟨#[]⟩ : ByteArray), .slice none 0 0, .string (⟨#[]⟩ : ByteArray)] 35 ?_; intro gb276 w66 _ _ _) | ((with_reducible refine gate_callee (f := 66) rfl ?_); refine gC (some 14) Tryz.func66 (spec_SafeOk.calls (hr1_4 := pC HR1_4) (hc1_4 := HC1_4.out) (w := _) (h := A5.out)) ?_; intro w67 _) | (go_at_call 49; refine aC (spec_QcOk.calls (hr1_2 := pC HR2_2) (hc1_2 := HC2_2.out) (w := _) (h := A7.out)) ?_; intro w68 _))
  refine bodyPost_ret (results_cell_row rfl _ _ gb267 35 #[.int .i64 t268, .int .i64 t269, .int .i64 t270, .string t271, .slice Ao273 t272.length co273, .string t275] (0, 0) _ rfl xB Tryz.underlying35 rfl (by kernel_rfl)) rfl ?_
  exact ⟨_, y0_19, rR HO274, UpW.out⟩
 replace c6 := Bool.eq_false_iff.mpr c6; subst c6
 rw [if_neg (show ¬ (false = true) by decide)] at H
 simp only [Option.some.injEq, Prod.mk.injEq] at H
 obtain ⟨rfl, rfl, rfl, rfl, rfl, rfl⟩ := H
 go_enter Tryz.func24, Tryz.ntmps24
 go_wp2_with (first | ((with_reducible refine gd 3 ?_); refine bL 3 #[.int .i64 a0_0, .int .i64 a0_1] 38 ?_; intro gb264 w69 _ _ _) | ((with_reducible refine gd 4 ?_); refine bL 4 #[.int .i64 a1_0, .int .i64 a1_1, .int .i64 a1_2, .string a1_3, .slice A1_4 l1_4.length c1_4, .string a1_5] 35 ?_; intro gb265 w70 _ _ _) | ((with_reducible refine gd 5 ?_); refine bL 5 #[.int .i64 a2_0, .string a2_1, .slice A2_2 l2_2.length c2_2] 33 ?_; intro gb266 w71 _ _ _) | ((with_reducible refine gd 6 ?_); refine bL 6 #[.int .i64 0, .int .i64 0, .int .i64 0, .string (⟨#[]⟩ : ByteArray), .slice none 0 0, .string (⟨#[]⟩ : ByteArray)] 35 ?_; intro gb267 w72 _ _ _) | ((with_reducible refine gate_callee (f := 61) rfl ?_); refine gC1 (some 11) Tryz.func61 (spec_l11Copy.calls (hr0_4 := pC HR1_4) (hc0_4 := HC1_4.out) (w := _) (h := A4.out)) ?_; intro Ao273 co273 w73 _ HO274) | ((with_reducible refine gd 7 ?_); refine bL 7 #[.int .i64 0, .int .i64 0, .int .i64 0, .string (⟨#[]⟩ : ByteArray), .slice none 0 0, .string (⟨#[]⟩ : ByteArray)] 35 ?_; intro gb276 w74 _ _ _) | ((with_reducible refine gate_callee (f := 66) rfl ?_); refine gC (some 14) Tryz.func66 (spec_SafeOk.calls (hr1_4 := pC HR1_4) (hc1_4 := HC1_4.out) (w := _) (h := A5.out)) ?_; intro w75 _))
 refine bodyPost_ret (results_cell_row rfl _ _ gb267 35 #[.int .i64 t268, .int .i64 t269, .int .i64 t270, .string t271, .slice Ao273 t272.length co273, .string t275] (0, 0) _ rfl xB Tryz.underlying35 rfl (by kernel_rfl)) rfl ?_
 exact ⟨_, y0_19, rR HO274, UpW.out⟩

end Go.Proofs.YtemjmefacifdeaaGreatDoor.PFnEitherOrder
