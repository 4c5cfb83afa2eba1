-- By a program of this session, out of the translation (the print of the kit, with turns of its own). Lean checks it.
import Derived.Test.YtnpbopadajbopaaGreatDoorPFnBlocksx0
import Derived.Test.YtnpbopadajbopaaGreatDoorPFnBlocksx1
import Derived.Test.YtnpbopadajbopaaGreatDoorPFnBlocksx2
import Derived.Test.YtnpbopadajbopaaGreatDoorPFnBlocksx12
namespace Go.Proofs.YtnpbopadajbopaaGreatDoor.PFnBlocks
open Go.RowKit Go.Proofs.YtnpbopadajbopaaGreatDoorW.PrintWords Go.Proofs.YtnpbopadajbopaaGreatDoorW.PrintLast Go.Proofs.YtnpbopadajbopaaGreatDoorW.PrintMore
attribute [local go_sem] max2_int min2_int max_two min_two max_three min_three max_four min_four   -- for this text's walks alone
attribute [local go_sem] cell_in frozen_in
set_option synthInstance.maxSize 1000000
set_option synthInstance.maxHeartbeats 2000000
set_option linter.unusedVariables false
set_option linter.unusedSimpArgs false

/-! ### impl_SetOk: function 72 -/
def impl_SetOk.l0 : Nat → Int → List Int → List Int → Int → Int → Option (Bool)
 | 0, _, _, _, _, _ => none
 | k + 1, x0, x1, x7, x8, x9 => if x9 < x8 then (if 0 ≤ x9 then (if x9 < (x7.length : Int) then (if (rd x7 x9) < 0 then (some false) else (if (rd x7 x9) ≥ x0 then (some false) else (if x9 > 0 then (if 0 ≤ (wrap64 (x9 - 1)) then (if (wrap64 (x9 - 1)) < (x1.length : Int) then (if (rd x1 (wrap64 (x9 - 1))) ≥ (rd x7 x9) then (some false) else (impl_SetOk.l0 k x0 x1 x7 x8 (wrap64 (x9 + 1)))) else (none)) else (none)) else (impl_SetOk.l0 k x0 x1 x7 x8 (wrap64 (x9 + 1)))))) else (none)) else (none)) else (some true)
def impl_SetOk.f (k : Nat) (a0 : Int) (l1 : List Int) : Option (Bool) := impl_SetOk.l0 k a0 l1 l1 (l1.length : Int) 0
theorem impl_SetOk.mono_l : ∀ k, (∀ y0 y1 y2 y3 y4, LeO (impl_SetOk.l0 k y0 y1 y2 y3 y4) (impl_SetOk.l0 (k + 1) y0 y1 y2 y3 y4))
 | 0 => fun _ _ _ _ _ r h => by simp [impl_SetOk.l0] at h
 | k + 1 => by
  have ih0 := impl_SetOk.mono_l k
  intro y0 y1 y2 y3 y4
  unfold impl_SetOk.l0
  repeat' first | (with_reducible exact ih0 _ _ _ _ _) | (with_reducible exact LeO.refl _) | (with_reducible exact LeO.none _) | (with_reducible refine LeO.ite ?_ ?_) | (with_reducible refine LeO.bind ?_ (fun _ => ?_))
theorem impl_SetOk.mono : ∀ a0 a1 k, LeO (impl_SetOk.f k a0 a1) (impl_SetOk.f (k + 1) a0 a1) := by
 intro a0 a1 k
 have ih0 := impl_SetOk.mono_l k
 unfold impl_SetOk.f
 repeat' first | (with_reducible exact ih0 _ _ _ _ _) | (with_reducible exact LeO.refl _) | (with_reducible exact LeO.none _) | (with_reducible refine LeO.ite ?_ ?_) | (with_reducible refine LeO.bind ?_ (fun _ => ?_))
set_option maxHeartbeats 8000000 in
set_option maxRecDepth 100000 in
theorem impl_SetOk.calls (k : Nat) (a0 : Int) (A1 : Option Addr) (c1 : Nat) (l1 : List Int) (r : Bool) (w : World) (hr1 : Kd.C (Kd.int .i64) w A1 l1.length l1) (hc1 : l1.length ≤ c1) (h : impl_SetOk.f k a0 l1 = some r) :
  Calls Tryz.prog 72 #[.int .i64 a0, .slice A1 l1.length c1] w fun e w' => e = .returned (.bool r) ∧ Drawn0 w w' := by
 have HR1 := Aside0.mk hr1; have HC1 := Aside0.mk hc1; clear hr1 hc1; have H : (impl_SetOk.l0 k a0 l1 l1 (l1.length : Int) 0) = some r := h; clear h; have H' := Aside0.mk H; clear H
 go_enter Tryz.func72, Tryz.ntmps72
 go_wp2
 go_loopg [9] k (fun kq v9 w' => ∃ (x9_1 : Int), v9 = .int .i64 x9_1 ∧ Aside0 (impl_SetOk.l0 kq a0 l1 l1 (l1.length : Int) x9_1 = some r) ∧ Aside0 (kq ≤ k) ∧ Drawn0 w w')
 case atStart => exact ⟨(0), y0_18, H', ⟨Nat.le_refl _⟩, y0_16⟩
 case round =>
  clear H'
  try clear c1
  try clear p2
  obtain ⟨x9_1, rfl, HA, HK1, ⟨m1, rfl⟩⟩ := hrel; cases gk with
  | zero => exact absurd HA.out (by simp [impl_SetOk.l0])
  | succ k1 =>
   have H := HA.out; clear HA
   simp only [impl_SetOk.l0] at H
   by_cases c3 : x9_1 < (l1.length : Int)
   ·
    rw [if_pos c3] at H
    have c3b0 : decide (x9_1 < (l1.length : Int)) = true := decide_eq_true c3; clear c3
    by_cases c4 : 0 ≤ x9_1
    rotate_left
    ·
     rw [if_neg c4] at H
     exact absurd H (by simp)
    rw [if_pos c4] at H
    have c4b0 : decide (0 ≤ x9_1) = true := decide_eq_true c4; clear c4
    by_cases c5 : x9_1 < (l1.length : Int)
    rotate_left
    ·
     rw [if_neg c5] at H
     exact absurd H (by simp)
    rw [if_pos c5] at H
    have c5b0 : decide (x9_1 < (l1.length : Int)) = true := decide_eq_true c5; clear c5
    by_cases c6 : (rd l1 x9_1) < 0
    ·
     rw [if_pos c6] at H
     have c6b0 : decide ((rd l1 x9_1) < 0) = true := decide_eq_true c6; clear c6; obtain rfl := Option.some.inj H; have p734 : 0 ≤ (x9_1 : Int) := of_decide_eq_true y0_17; have q734 : x9_1 < (l1.length : Int) := of_decide_eq_true y0_17; obtain ⟨ad734, e734, hx734_0⟩ := Kd.at_int HR1.out x9_1 p734 q734; cases e734; replace p734 := eq_true p734; replace q734 := eq_true q734
     go_wp2
     go_ret
     exact ⟨y0_18, y0_16⟩
    rw [if_neg c6] at H
    have c6b0 : decide ((rd l1 x9_1) < 0) = false := decide_eq_false c6; clear c6
    by_cases c7 : (rd l1 x9_1) ≥ a0
    ·
     rw [if_pos c7] at H
     have c7b0 : decide (a0 ≤ (rd l1 x9_1)) = true := decide_eq_true c7; clear c7; obtain rfl := Option.some.inj H; have p734 : 0 ≤ (x9_1 : Int) := of_decide_eq_true y0_17; have q734 : x9_1 < (l1.length : Int) := of_decide_eq_true y0_17; obtain ⟨ad734, e734, hx734_0⟩ := Kd.at_int HR1.out x9_1 p734 q734; cases e734; replace p734 := eq_true p734; replace q734 := eq_true q734
     go_wp2
     go_ret
     exact ⟨y0_18, y0_16⟩
    rw [if_neg c7] at H
    have c7b0 : decide (a0 ≤ (rd l1 x9_1)) = false := decide_eq_false c7; clear c7
    by_cases c8 : x9_1 > 0
    ·
     rw [if_pos c8] at H
     have c8b0 : decide (0 < x9_1) = true := decide_eq_true c8; clear c8; obtain ⟨ji9, hji9⟩ : ∃ j_ : Int, (wrap64 (x9_1 - 1)) = j_ := ⟨_, rfl⟩
     replace H : (if 0 ≤ (ji9) then (if (ji9) < (l1.length : Int) then (if (rd l1 (ji9)) ≥ (rd l1 x9_1) then (some false) else (impl_SetOk.l0 k1 a0 l1 l1 (l1.length : Int) (wrap64 (x9_1 + 1)))) else (none)) else (none)) = some r := by first | (rw [hji9] at H; exact H) | (simp only [hji9] at H ⊢; exact H)
     have hji9w : (IntKind.i64.wrap (x9_1 - 1)) = ji9 := (i64_w _).trans hji9
     by_cases c10 : 0 ≤ (ji9)
     rotate_left
     ·
      rw [if_neg c10] at H
      exact absurd H (by simp)
     rw [if_pos c10] at H
     have c10b0 : decide (0 ≤ (ji9)) = true := decide_eq_true c10; clear c10
     by_cases c11 : (ji9) < (l1.length : Int)
     rotate_left
     ·
      rw [if_neg c11] at H
      exact absurd H (by simp)
     rw [if_pos c11] at H
     have c11b0 : decide ((ji9) < (l1.length : Int)) = true := decide_eq_true c11; clear c11
     by_cases c12 : (rd l1 (ji9)) ≥ (rd l1 x9_1)
     ·
      rw [if_pos c12] at H
      have c12b0 : decide ((rd l1 x9_1) ≤ (rd l1 (ji9))) = true := decide_eq_true c12; clear c12; obtain rfl := Option.some.inj H; have p734 : 0 ≤ (x9_1 : Int) := of_decide_eq_true y0_17; have q734 : x9_1 < (l1.length : Int) := of_decide_eq_true y0_17; obtain ⟨ad734, e734, hx734_0⟩ := Kd.at_int HR1.out x9_1 p734 q734; cases e734; replace p734 := eq_true p734; replace q734 := eq_true q734; have p735 : 0 ≤ ((ji9) : Int) := of_decide_eq_true y0_17; have q735 : (ji9) < (l1.length : Int) := of_decide_eq_true y0_17; obtain ⟨ad735, e735, hx735_0⟩ := Kd.at_int HR1.out (ji9) p735 q735
      obtain rfl : ad734 = ad735 := (by injection e735)
      replace p735 := eq_true p735; replace q735 := eq_true q735
      go_wp2
      go_ret
      exact ⟨by first | rfl | (simp; done) | (simp only [← hji9] <;> (first | rfl | simp)) | (simp [*]; done), y0_16⟩
     rw [if_neg c12] at H
     have c12b0 : decide ((rd l1 x9_1) ≤ (rd l1 (ji9))) = false := decide_eq_false c12; clear c12; have H' := Aside0.mk H; clear H; have p734 : 0 ≤ (x9_1 : Int) := of_decide_eq_true y0_17; have q734 : x9_1 < (l1.length : Int) := of_decide_eq_true y0_17; obtain ⟨ad734, e734, hx734_0⟩ := Kd.at_int HR1.out x9_1 p734 q734; cases e734; replace p734 := eq_true p734; replace q734 := eq_true q734; have p735 : 0 ≤ ((ji9) : Int) := of_decide_eq_true y0_17; have q735 : (ji9) < (l1.length : Int) := of_decide_eq_true y0_17; obtain ⟨ad735, e735, hx735_0⟩ := Kd.at_int HR1.out (ji9) p735 q735
     obtain rfl : ad734 = ad735 := (by injection e735)
     replace p735 := eq_true p735; replace q735 := eq_true q735
     go_wp2
     go_roundg k1
     case measure => have := HK1.out; omega
     case rel => exact ⟨(wrap64 (x9_1 + 1)), y0_18, H', ⟨y0_21⟩, y0_16⟩
    rw [if_neg c8] at H
    have c8b0 : decide (0 < x9_1) = false := decide_eq_false c8; clear c8; have H' := Aside0.mk H; clear H; have p734 : 0 ≤ (x9_1 : Int) := of_decide_eq_true y0_17; have q734 : x9_1 < (l1.length : Int) := of_decide_eq_true y0_17; obtain ⟨ad734, e734, hx734_0⟩ := Kd.at_int HR1.out x9_1 p734 q734; cases e734; replace p734 := eq_true p734; replace q734 := eq_true q734
    go_wp2
    go_roundg k1
    case measure => have := HK1.out; omega
    case rel => exact ⟨(wrap64 (x9_1 + 1)), y0_18, H', ⟨y0_21⟩, y0_16⟩
   rw [if_neg c3] at H
   have c3b0 : decide (x9_1 < (l1.length : Int)) = false := decide_eq_false c3; clear c3; obtain rfl := Option.some.inj H
   go_wp2
   go_ret
   exact ⟨y0_18, y0_16⟩

/-! ### impl_ViewOf: function 83 -/
def impl_ViewOf.f (k : Nat) (a0 : ByteArray) : Option (Int) := (impl_Steps.f k a0).bind fun bt736 => (if (bt736.1.length : Int) = 0 then (some 0) else (if 0 ≤ (wrap64 ((bt736.1.length : Int) - 1)) then (if (wrap64 ((bt736.1.length : Int) - 1)) < (bt736.1.length : Int) then (some ((rd_T150 bt736.1 (wrap64 ((bt736.1.length : Int) - 1))).f0)) else (none)) else (none)))
theorem impl_ViewOf.mono : ∀ a0 k, LeO (impl_ViewOf.f k a0) (impl_ViewOf.f (k + 1) a0) := by
 intro a0 k
 unfold impl_ViewOf.f
 repeat' first | (with_reducible exact impl_Steps.mono _ _) | (with_reducible exact LeO.refl _) | (with_reducible exact LeO.none _) | (with_reducible refine LeO.ite ?_ ?_) | (with_reducible refine LeO.bind ?_ (fun _ => ?_))
set_option maxHeartbeats 8000000 in
set_option maxRecDepth 100000 in
theorem impl_ViewOf.calls (k : Nat) (a0 : ByteArray) (r : Int) (w : World) (h : impl_ViewOf.f k a0 = some r) (hG : Glob w := by exact gG HG HB) :
  Calls Tryz.prog 83 #[.string a0] w fun e w' => e = .returned (.int .i64 r) ∧ Below w.heap.size w w' := by
 have HG := Aside0.mk hG; clear hG; have HB := Aside0.mk (Below.refl w.heap.size w)
 have H : ((impl_Steps.f k a0).bind fun bt736 => (if (bt736.1.length : Int) = 0 then (some 0) else (if 0 ≤ (wrap64 ((bt736.1.length : Int) - 1)) then (if (wrap64 ((bt736.1.length : Int) - 1)) < (bt736.1.length : Int) then (some ((rd_T150 bt736.1 (wrap64 ((bt736.1.length : Int) - 1))).f0)) else (none)) else (none)))) = some r := h
 clear h; obtain ⟨⟨t736, t737⟩, A20, H⟩ := Option.bind_eq_some_iff.mp H
 try dsimp only at H
 have A2 := Aside0.mk A20; clear A20
 by_cases c3 : (t736.length : Int) = 0
 ·
  rw [if_pos c3] at H
  have c3b0 : ((t736.length : Int) == 0) = true := beq_iff_eq.mpr c3; have c3b1 : ((t736.length : Int) != 0) = false := bne_eq_false_iff_eq.mpr c3; clear c3; obtain rfl := Option.some.inj H
  go_enter Tryz.func83, Tryz.ntmps83
  go_wp2_with (first | ((with_reducible refine gate_callee (f := 130) rfl ?_); refine gB (some 7) Tryz.func130 #[.string a0] ?_; (with_reducible refine (impl_Steps.calls k a0 t736 t737 _ A2.out).mono ?_); rintro e w4 ⟨v738, rfl, ho0, hb⟩; refine ⟨_, rfl, ?_⟩; have HO739 := Aside0.mk (Kd.S_lower ho0 (below_size (bI HB.out))); replace HB := bs HB hb; (try clear hb); (try clear ho0); obtain ⟨Ao5, co5, eo5⟩ := Kd.S_slice HO739.out; subst eo5))
  go_ret
  exact ⟨y0_14, bI HB.out⟩
 rw [if_neg c3] at H
 have c3b0 : ((t736.length : Int) == 0) = false := beq_eq_false_iff_ne.mpr c3; have c3b1 : ((t736.length : Int) != 0) = true := bne_iff_ne.mpr c3
 have c3b2 : ¬ (t736 = []) := fun h_ => c3 (by rw [h_]; rfl)
 obtain ⟨ji6, hji6⟩ : ∃ j_ : Int, (wrap64 ((t736.length : Int) - 1)) = j_ := ⟨_, rfl⟩
 replace H : (if 0 ≤ (ji6) then (if (ji6) < (t736.length : Int) then (some ((rd_T150 t736 (ji6)).f0)) else (none)) else (none)) = some r := by first | (rw [hji6] at H; exact H) | (simp only [hji6] at H ⊢; exact H)
 (try rw [hji6] at A2)
 have hji6w : (IntKind.i64.wrap ((t736.length : Int) - 1)) = ji6 := (i64_w _).trans hji6
 by_cases c7 : 0 ≤ (ji6)
 ·
  rw [if_pos c7] at H
  have c7b0 : decide (0 ≤ (ji6)) = true := decide_eq_true c7; clear c7
  by_cases c8 : (ji6) < (t736.length : Int)
  rotate_left
  ·
   rw [if_neg c8] at H
   exact absurd H (by simp)
  rw [if_pos c8] at H
  have c8b0 : decide ((ji6) < (t736.length : Int)) = true := decide_eq_true c8; clear c8; obtain rfl := Option.some.inj H
  go_enter Tryz.func83, Tryz.ntmps83
  go_wp2_with (first | ((with_reducible refine gate_callee (f := 130) rfl ?_); refine gB (some 7) Tryz.func130 #[.string a0] ?_; (with_reducible refine (impl_Steps.calls k a0 t736 t737 _ A2.out).mono ?_); rintro e w9 ⟨v738, rfl, ho0, hb⟩; refine ⟨_, rfl, ?_⟩; have HO739 := Aside0.mk (Kd.S_lower ho0 (below_size (bI HB.out))); replace HB := bs HB hb; (try clear hb); (try clear ho0); obtain ⟨Ao10, co10, eo10⟩ := Kd.S_slice HO739.out; subst eo10; have p740 : 0 ≤ ((ji6) : Int) := of_decide_eq_true y0_17; have q740 : (ji6) < (t736.length : Int) := of_decide_eq_true y0_17; obtain ⟨ad740, A740_1, c740_1, e740, hx740_0, hx740_1, hl740_1, hi740_1⟩ := at_T150 (Kd.S_reads' HO739.out).2.2 (ji6) p740 q740; cases e740; obtain ⟨ce740, hce740, hMe740, hcc740⟩ := Kd.S_get HO739.out z150 (ji6) p740 (by first | exact q740 | exact of_decide_eq_true y0_17 | (have e_ := (Kd.S_reads' HO739.out).1; omega)); obtain ⟨ve740_1, rfl, ge740_1⟩ := k150_openM hMe740; have hv740_1 := hcc740 1 _ rfl; rw [add_field _ _ 1 (by omega)] at hv740_1; replace hv740_1 := Option.some.inj (hv740_1.symm.trans hx740_1); rw [hv740_1] at ge740_1; have HL740_1 := Aside0.mk (show Kd.R k204 204 _ _ _ _ ((rd_T150 t736 (ji6)).f1) from ge740_1); clear hv740_1 ge740_1; clear hcc740 hce740; have HR740_1 := Aside0.mk hi740_1; have HC740_1 := Aside0.mk hl740_1; clear hi740_1 hl740_1; replace p740 := eq_true p740; replace q740 := eq_true q740))
  go_ret
  exact ⟨by first | rfl | (simp [errW_none, errW_some] <;> rfl) | (simp only [← hji6]; first | rfl | (simp [errW_none, errW_some] <;> rfl)) | (simp [*, errW_none, errW_some] <;> rfl), bI HB.out⟩
 rw [if_neg c7] at H
 exact absurd H (by simp)

/-! ### impl_ConfOk: function 143 -/
def impl_ConfOk.f (a0_0 : Int) (a0_1 : Int) : Option (Bool) := (impl_within.f a0_0 4 7).bind fun t742 => (if t742 = true then ((impl_within.f a0_1 1 6).bind fun t743 => (some t743)) else (some false))
set_option maxHeartbeats 8000000 in
set_option maxRecDepth 100000 in
theorem impl_ConfOk.calls (a0_0 : Int) (a0_1 : Int) (r : Bool) (w : World) (h : impl_ConfOk.f a0_0 a0_1 = some r) :
  Calls Tryz.prog 143 #[.agg #[.int .i64 a0_0, .int .i64 a0_1]] w fun e w' => e = .returned (.bool r) ∧ Below w.heap.size w w' := by
 have hu32 := Tryz.underlying32; have HB := Aside0.mk (Below.refl w.heap.size w)
 have H : ((impl_within.f a0_0 4 7).bind fun t742 => (if t742 = true then ((impl_within.f a0_1 1 6).bind fun t743 => (some t743)) else (some false))) = some r := h
 clear h; obtain ⟨t742, A20, H⟩ := Option.bind_eq_some_iff.mp H
 try dsimp only at H
 have A2 := Aside0.mk A20; clear A20
 by_cases c3 : t742 = true
 ·
  subst c3
  rw [if_pos rfl] at H
  obtain ⟨t743, A40, H⟩ := Option.bind_eq_some_iff.mp H
  try dsimp only at H
  have A4 := Aside0.mk A40; clear A40; obtain rfl := Option.some.inj H
  go_enter Tryz.func143, Tryz.ntmps143
  go_wp2_with (first | ((with_reducible refine gd 1 ?_); refine bL 1 #[.int .i64 a0_0, .int .i64 a0_1] 32 ?_; intro gb741 w5 _ _ _) | ((with_reducible refine gate_callee (f := 138) rfl ?_); refine gD (some 5) Tryz.func138 (impl_within.calls (w := _) (h := A2.out)) ?_; intro w6 _) | (go_at_call 138; refine aD (impl_within.calls (w := _) (h := A4.out)) ?_; intro w7 _))
  go_ret
  exact ⟨y0_18, UpW.out⟩
 replace c3 := Bool.eq_false_iff.mpr c3; subst c3
 rw [if_neg (show ¬ (false = true) by decide)] at H
 obtain rfl := Option.some.inj H
 go_enter Tryz.func143, Tryz.ntmps143
 go_wp2_with (first | ((with_reducible refine gd 1 ?_); refine bL 1 #[.int .i64 a0_0, .int .i64 a0_1] 32 ?_; intro gb741 w8 _ _ _) | ((with_reducible refine gate_callee (f := 138) rfl ?_); refine gD (some 5) Tryz.func138 (impl_within.calls (w := _) (h := A2.out)) ?_; intro w9 _))
 go_ret
 exact ⟨y0_18, UpW.out⟩

/-! ### impl_QcFirst: function 144 -/
def impl_QcFirst.f  : Option (Int × ByteArray × List Int) := some (0, (⟨#[]⟩ : ByteArray), ([] : List Int))
set_option maxHeartbeats 8000000 in
set_option maxRecDepth 100000 in
theorem impl_QcFirst.calls  (r1 : Int) (r2 : ByteArray) (r3 : List Int) (w : World) (h : impl_QcFirst.f  = some (r1, r2, r3)) :
  Calls Tryz.prog 144 #[] w fun e w' => ∃ v2_ : Value, e = .returned (.agg #[.int .i64 r1, .string r2, v2_]) ∧ Kd.R (Kd.int .i64) 3 w' w.heap.size (fun _ => True) v2_ r3 ∧ Below w.heap.size w w' := by
 have hu27 := Tryz.underlying27; have HB := Aside0.mk (Below.refl w.heap.size w); have H : (some (0, (⟨#[]⟩ : ByteArray), ([] : List Int))) = some (r1, r2, r3) := h; clear h
 simp only [Option.some.injEq, Prod.mk.injEq] at H
 obtain ⟨rfl, rfl, rfl⟩ := H
 go_enter Tryz.func144, Tryz.ntmps144
 go_wp2_with (first | ((with_reducible refine gd 0 ?_); refine bL 0 #[.int .i64 0, .string (⟨#[]⟩ : ByteArray), .slice none 0 0] 27 ?_; intro gb744 w1 _ _ _))
 refine bodyPost_ret (results_cell_row rfl _ _ gb744 27 #[.int .i64 0, .string (⟨#[]⟩ : ByteArray), .slice none 0 0] (0, 0) _ rfl xB Tryz.underlying27 rfl (by kernel_rfl)) rfl ?_
 exact ⟨_, y0_18, Kd.R_nil _ _ _ _ _, UpW.out⟩

/-! ### impl_Faults: function 204 -/
def impl_Faults.f (a0_0 : Int) (a0_1 : Int) : Option (Int) := (impl_ConfOk.f a0_0 a0_1).bind fun t746 => (if t746 = true then (some (wrap64 (Int.tdiv (wrap64 (a0_0 - 1)) 3))) else (some 0))
set_option maxHeartbeats 8000000 in
set_option maxRecDepth 100000 in
theorem impl_Faults.calls (a0_0 : Int) (a0_1 : Int) (r : Int) (w : World) (h : impl_Faults.f a0_0 a0_1 = some r) :
  Calls Tryz.prog 204 #[.agg #[.int .i64 a0_0, .int .i64 a0_1]] w fun e w' => e = .returned (.int .i64 r) ∧ Below w.heap.size w w' := by
 have hu32 := Tryz.underlying32; have HB := Aside0.mk (Below.refl w.heap.size w)
 have H : ((impl_ConfOk.f a0_0 a0_1).bind fun t746 => (if t746 = true then (some (wrap64 (Int.tdiv (wrap64 (a0_0 - 1)) 3))) else (some 0))) = some r := h
 clear h; obtain ⟨t746, A20, H⟩ := Option.bind_eq_some_iff.mp H
 try dsimp only at H
 have A2 := Aside0.mk A20; clear A20
 by_cases c3 : t746 = true
 ·
  subst c3
  rw [if_pos rfl] at H
  obtain rfl := Option.some.inj H
  go_enter Tryz.func204, Tryz.ntmps204
  go_wp2_with (first | ((with_reducible refine gd 1 ?_); refine bL 1 #[.int .i64 a0_0, .int .i64 a0_1] 32 ?_; intro gb745 w4 _ _ _) | ((with_reducible refine gate_callee (f := 143) rfl ?_); refine gC (some 4) Tryz.func143 (impl_ConfOk.calls (w := _) (h := A2.out)) ?_; intro w5 _))
  go_ret
  exact ⟨y0_18, UpW.out⟩
 replace c3 := Bool.eq_false_iff.mpr c3; subst c3
 rw [if_neg (show ¬ (false = true) by decide)] at H
 obtain rfl := Option.some.inj H
 go_enter Tryz.func204, Tryz.ntmps204
 go_wp2_with (first | ((with_reducible refine gd 1 ?_); refine bL 1 #[.int .i64 a0_0, .int .i64 a0_1] 32 ?_; intro gb745 w6 _ _ _) | ((with_reducible refine gate_callee (f := 143) rfl ?_); refine gC (some 4) Tryz.func143 (impl_ConfOk.calls (w := _) (h := A2.out)) ?_; intro w7 _))
 go_ret
 exact ⟨y0_18, UpW.out⟩

/-! ### impl_Quorum: function 145 -/
def impl_Quorum.f (a0_0 : Int) (a0_1 : Int) : Option (Int) := (impl_ConfOk.f a0_0 a0_1).bind fun t748 => (if t748 = true then ((impl_Faults.f a0_0 a0_1).bind fun t749 => (some (wrap64 (a0_0 - t749)))) else (some 0))
def impl_Quorum.T3 : Bool × List (List Nat × List Nat) := (true, [([], []), ([0], [0]), ([], []), ([2], [2]), ([1, 3], [1, 3]), ([4, 3, 0, 1, 2, 3, 4], [4])])
def impl_Quorum.B3 : List Nat := [0, 1, 0, 4, 15, 31]
theorem impl_Quorum.tab3 : rtab .any (opsOf Tryz.f145 3) = impl_Quorum.T3 := by kernel_rfl
theorem impl_Quorum.bits3 : waitsOk impl_Quorum.T3.2 impl_Quorum.B3 = true := by kernel_rfl
set_option maxHeartbeats 8000000 in
set_option maxRecDepth 100000 in
theorem impl_Quorum.calls (a0_0 : Int) (a0_1 : Int) (r : Int) (w : World) (h : impl_Quorum.f a0_0 a0_1 = some r) :
  Calls Tryz.prog 145 #[.agg #[.int .i64 a0_0, .int .i64 a0_1]] w fun e w' => e = .returned (.int .i64 r) ∧ Below w.heap.size w w' := by
 have hu32 := Tryz.underlying32; have HB := Aside0.mk (Below.refl w.heap.size w)
 have H : ((impl_ConfOk.f a0_0 a0_1).bind fun t748 => (if t748 = true then ((impl_Faults.f a0_0 a0_1).bind fun t749 => (some (wrap64 (a0_0 - t749)))) else (some 0))) = some r := h
 clear h; obtain ⟨t748, A20, H⟩ := Option.bind_eq_some_iff.mp H
 try dsimp only at H
 have A2 := Aside0.mk A20; clear A20
 by_cases c3 : t748 = true
 ·
  subst c3
  rw [if_pos rfl] at H
  obtain ⟨t749, A40, H⟩ := Option.bind_eq_some_iff.mp H
  try dsimp only at H
  have A4 := Aside0.mk A40; clear A40; obtain rfl := Option.some.inj H
  go_enter Tryz.func145, Tryz.ntmps145
  try go_wp2_with (first | ((with_reducible refine gd 1 ?_); refine bL 1 #[.int .i64 a0_0, .int .i64 a0_1] 32 ?_; intro gb747 w5 _ _ _) | ((with_reducible refine gate_callee (f := 143) rfl ?_); refine gC (some 4) Tryz.func143 (impl_ConfOk.calls (w := _) (h := A2.out)) ?_; intro w6 _))
  refine sB [] impl_Quorum.tab3 impl_Quorum.bits3 ?_; intro w7 _ HT_ HW_
  refine pA 0 (some 6) (bz 6 1) HT_ ?_
  refine tB 1 (some 7) (bz 6 3) HT_ HW_ ?_
  refine tB 2 (some 8) (bz 6 7) HT_ HW_ ?_
  refine o1 3 (some 9) (bz 6 15) HT_ rfl (kC Tryz.func204 (impl_Faults.calls (w := _) (h := A4.out)) ?_); intro w8 _
  refine nA (some 9) ?_
  refine pA 4 (some 10) (bz 6 31) HT_ ?_
  refine pA 5 (some 2) (bz 6 63) HT_ ?_
  refine done_ (done_of HT_.out (by kernel_rfl)) ?_
  try go_wp2
  go_ret
  exact ⟨y0_18, UpW.out⟩
 replace c3 := Bool.eq_false_iff.mpr c3; subst c3
 rw [if_neg (show ¬ (false = true) by decide)] at H
 obtain rfl := Option.some.inj H
 go_enter Tryz.func145, Tryz.ntmps145
 go_wp2_with (first | ((with_reducible refine gd 1 ?_); refine bL 1 #[.int .i64 a0_0, .int .i64 a0_1] 32 ?_; intro gb747 w9 _ _ _) | ((with_reducible refine gate_callee (f := 143) rfl ?_); refine gC (some 4) Tryz.func143 (impl_ConfOk.calls (w := _) (h := A2.out)) ?_; intro w10 _))
 go_ret
 exact ⟨y0_18, UpW.out⟩

/-! ### impl_QcOk: function 49 -/
def impl_QcOk.f (k : Nat) (a0_0 : Int) (a0_1 : Int) (a1_0 : Int) (a1_1 : ByteArray) (l1_2 : List Int) : Option (Bool) := (impl_ConfOk.f a0_0 a0_1).bind fun t752 => (if t752 = true then ((impl_QcFirst.f).bind fun bt753 => ((impl_QcSame.f k a1_0 a1_1 l1_2 bt753.1 bt753.2.1 bt753.2.2).bind fun t758 => (if t758 = true then (some true) else (if a1_0 ≥ 1 then ((impl_NameOk.f k a1_1).bind fun t759 => (if t759 = true then ((impl_ViewOf.f k a1_1).bind fun t760 => (if a1_0 = t760 then ((impl_SetOk.f k a0_0 l1_2).bind fun t761 => (if t761 = true then ((impl_Quorum.f a0_0 a0_1).bind fun t762 => (some (decide ((l1_2.length : Int) ≥ t762)))) else (some false))) else (some false))) else (some false))) else (some false))))) else (some false))
theorem impl_QcOk.mono : ∀ a0 a1 a2 a3 a4 k, LeO (impl_QcOk.f k a0 a1 a2 a3 a4) (impl_QcOk.f (k + 1) a0 a1 a2 a3 a4) := by
 intro a0 a1 a2 a3 a4 k
 unfold impl_QcOk.f
 repeat' first | (with_reducible exact impl_NameOk.mono _ _) | (with_reducible exact impl_QcSame.mono _ _ _ _ _ _ _) | (with_reducible exact impl_SetOk.mono _ _ _) | (with_reducible exact impl_ViewOf.mono _ _) | (with_reducible exact LeO.refl _) | (with_reducible exact LeO.none _) | (with_reducible refine LeO.ite ?_ ?_) | (with_reducible refine LeO.bind ?_ (fun _ => ?_))
def impl_QcOk.T3 : Bool × List (List Nat × List Nat) := (true, [([], []), ([], []), ([0, 1, 1], [0, 1]), ([2, 2], [2]), ([3], [3]), ([4, 3], [3, 4]), ([5, 3], [3, 5]), ([6, 3, 3], [3, 6]), ([7], [7]), ([8, 7], [7, 8]), ([9, 7, 7], [7, 9]), ([7, 10, 3], [3, 7, 10]), ([11, 10, 3], [3, 11]), ([12], [12]), ([13, 12], [12, 13]), ([12], [12]), ([15, 12], [12, 15]), ([16, 12, 12], [12, 16]), ([14, 17, 12], [12, 14, 17]), ([12, 18, 3], [3, 12, 18]), ([19, 17, 3], [3, 19]), ([20], [20]), ([21, 20], [20, 21]), ([20], [20]), ([23, 20], [20, 23]), ([22, 24, 20, 20], [20, 22, 24]), ([20, 25, 3], [3, 20, 25]), ([26, 25, 3], [3, 26]), ([27], [27]), ([28, 27], [27, 28]), ([29, 27], [27, 29]), ([27], [27]), ([31, 27, 27], [27, 31]), ([30, 32, 27], [27, 30, 32]), ([27, 33, 3], [3, 27, 33]), ([3, 34], [3, 34]), ([35, 32, 0, 1, 2, 3, 4, 5, 6, 7, 8, 9, 10, 11, 12, 13, 14, 15, 16, 17, 18, 19, 20, 21, 22, 23, 24, 25, 26, 27, 28, 29, 30, 31, 32, 33, 34, 35], [35])])
def impl_QcOk.B3 : List Nat := [0, 0, 3, 7, 15, 31, 63, 127, 255, 511, 1023, 2047, 4095, 8191, 16383, 8191, 40959, 106495, 262143, 524287, 1048575, 2097151, 4194303, 2097151, 10485759, 33554431, 67108863, 134217727, 268435455, 536870911, 1073741823, 268435455, 2415919103, 8589934591, 17179869183, 34359738367, 68719476735]
theorem impl_QcOk.tab3 : rtab .any (opsOf Tryz.f49 3) = impl_QcOk.T3 := by kernel_rfl
theorem impl_QcOk.bits3 : waitsOk impl_QcOk.T3.2 impl_QcOk.B3 = true := by kernel_rfl
set_option maxHeartbeats 8000000 in
set_option maxRecDepth 100000 in
theorem impl_QcOk.calls (k : Nat) (a0_0 : Int) (a0_1 : Int) (a1_0 : Int) (a1_1 : ByteArray) (A1_2 : Option Addr) (c1_2 : Nat) (l1_2 : List Int) (r : Bool) (w : World) (hr1_2 : Kd.C (Kd.int .i64) w A1_2 l1_2.length l1_2) (hc1_2 : l1_2.length ≤ c1_2) (h : impl_QcOk.f k a0_0 a0_1 a1_0 a1_1 l1_2 = some r) (hG : Glob w := by exact gG HG HB) :
  Calls Tryz.prog 49 #[.agg #[.int .i64 a0_0, .int .i64 a0_1], .agg #[.int .i64 a1_0, .string a1_1, .slice A1_2 l1_2.length c1_2]] w fun e w' => e = .returned (.bool r) ∧ Below w.heap.size w w' := by
 have HG := Aside0.mk hG; clear hG; have hu32 := Tryz.underlying32; have hu27 := Tryz.underlying27; have HR1_2 := Aside0.mk hr1_2; have HC1_2 := Aside0.mk hc1_2; clear hr1_2 hc1_2; have HB := Aside0.mk (Below.refl w.heap.size w)
 have H : ((impl_ConfOk.f a0_0 a0_1).bind fun t752 => (if t752 = true then ((impl_QcFirst.f).bind fun bt753 => ((impl_QcSame.f k a1_0 a1_1 l1_2 bt753.1 bt753.2.1 bt753.2.2).bind fun t758 => (if t758 = true then (some true) else (if a1_0 ≥ 1 then ((impl_NameOk.f k a1_1).bind fun t759 => (if t759 = true then ((impl_ViewOf.f k a1_1).bind fun t760 => (if a1_0 = t760 then ((impl_SetOk.f k a0_0 l1_2).bind fun t761 => (if t761 = true then ((impl_Quorum.f a0_0 a0_1).bind fun t762 => (some (decide ((l1_2.length : Int) ≥ t762)))) else (some false))) else (some false))) else (some false))) else (some false))))) else (some false))) = some r := h
 clear h; obtain ⟨t752, A30, H⟩ := Option.bind_eq_some_iff.mp H
 try dsimp only at H
 have A3 := Aside0.mk A30; clear A30
 by_cases c4 : t752 = true
 ·
  subst c4
  rw [if_pos rfl] at H
  obtain ⟨⟨t753, t754, t755⟩, A50, H⟩ := Option.bind_eq_some_iff.mp H
  try dsimp only at H
  have A5 := Aside0.mk A50; clear A50; obtain ⟨t758, A60, H⟩ := Option.bind_eq_some_iff.mp H
  try dsimp only at H
  have A6 := Aside0.mk A60; clear A60
  by_cases c7 : t758 = true
  ·
   subst c7
   rw [if_pos rfl] at H
   obtain rfl := Option.some.inj H
   go_enter Tryz.func49, Tryz.ntmps49
   try go_wp2_with (first | ((with_reducible refine gd 2 ?_); refine bL 2 #[.int .i64 a0_0, .int .i64 a0_1] 32 ?_; intro gb750 w8 _ _ _) | ((with_reducible refine gd 3 ?_); refine bL 3 #[.int .i64 a1_0, .string a1_1, .slice A1_2 l1_2.length c1_2] 27 ?_; intro gb751 w9 _ _ _) | ((with_reducible refine gate_callee (f := 143) rfl ?_); refine gC (some 6) Tryz.func143 (impl_ConfOk.calls (w := _) (h := A3.out)) ?_; intro w10 _))
   refine sB [] impl_QcOk.tab3 impl_QcOk.bits3 ?_; intro w11 _ HT_ HW_
   refine tB 0 (some 8) (bz 37 1) HT_ HW_ ?_
   refine o1 1 (some 9) (bz 37 3) HT_ rfl (kC1 Tryz.func144 (impl_QcFirst.calls (w := _) (h := A5.out)) ?_); intro Ao756 co756 w12 _ HO757
   refine nA (some 9) ?_
   refine o1 2 (some 10) (bz 37 7) HT_ rfl (kC Tryz.func63 (impl_QcSame.calls (hr0_2 := pC HR1_2) (hc0_2 := HC1_2.out) (hr1_2 := rC HO757) (hc1_2 := rL HO757) (w := _) (h := A6.out)) ?_); intro w13 _
   refine nA (some 10) ?_
   refine pA 3 (some 11) (bz 37 15) HT_ ?_
   refine pU 4 (some 12) (bz 37 31) HT_ ?_
   refine pU 5 (some 13) (bz 37 63) HT_ ?_
   refine pU 6 (some 14) (bz 37 127) HT_ ?_
   refine pU 7 (some 15) (bz 37 255) HT_ ?_
   refine pU 8 (some 16) (bz 37 511) HT_ ?_
   refine pU 9 (some 17) (bz 37 1023) HT_ ?_
   refine pU 10 (some 18) (bz 37 2047) HT_ ?_
   refine pU 11 (some 19) (bz 37 4095) HT_ ?_
   refine pU 12 (some 20) (bz 37 0x1fff) HT_ ?_
   refine pU 13 (some 21) (bz 37 0x3fff) HT_ ?_
   refine pU 14 (some 22) (bz 37 0x7fff) HT_ ?_
   refine pU 15 (some 23) (bz 37 0xffff) HT_ ?_
   refine pU 16 (some 24) (bz 37 0x1ffff) HT_ ?_
   refine pU 17 (some 25) (bz 37 0x3ffff) HT_ ?_
   refine pU 18 (some 26) (bz 37 0x7ffff) HT_ ?_
   refine pU 19 (some 27) (bz 37 0xfffff) HT_ ?_
   refine pU 20 (some 28) (bz 37 0x1fffff) HT_ ?_
   refine pU 21 (some 29) (bz 37 0x3fffff) HT_ ?_
   refine pU 22 (some 30) (bz 37 0x7fffff) HT_ ?_
   refine pU 23 (some 31) (bz 37 0xffffff) HT_ ?_
   refine pU 24 (some 32) (bz 37 0x1ffffff) HT_ ?_
   refine pU 25 (some 33) (bz 37 0x3ffffff) HT_ ?_
   refine pU 26 (some 34) (bz 37 0x7ffffff) HT_ ?_
   refine pU 27 (some 35) (bz 37 0xfffffff) HT_ ?_
   refine pU 28 (some 36) (bz 37 0x1fffffff) HT_ ?_
   refine pU 29 (some 37) (bz 37 0x3fffffff) HT_ ?_
   refine pU 30 (some 38) (bz 37 0x7fffffff) HT_ ?_
   refine pU 31 (some 39) (bz 37 0xffffffff) HT_ ?_
   refine pU 32 (some 40) (bz 37 0x1ffffffff) HT_ ?_
   refine pU 33 (some 41) (bz 37 0x3ffffffff) HT_ ?_
   refine pU 34 (some 42) (bz 37 0x7ffffffff) HT_ ?_
   refine pA 35 (some 43) (bz 37 0xfffffffff) HT_ ?_
   refine pA 36 (some 4) (bz 37 0x1fffffffff) HT_ ?_
   refine done_ (done_of HT_.out (by kernel_rfl)) ?_
   try go_wp2
   go_ret
   exact ⟨y0_18, UpW.out⟩
  replace c7 := Bool.eq_false_iff.mpr c7; subst c7
  rw [if_neg (show ¬ (false = true) by decide)] at H
  by_cases c14 : a1_0 ≥ 1
  ·
   rw [if_pos c14] at H
   have c14b0 : decide (1 ≤ a1_0) = true := decide_eq_true c14; clear c14; obtain ⟨t759, A150, H⟩ := Option.bind_eq_some_iff.mp H
   try dsimp only at H
   have A15 := Aside0.mk A150; clear A150
   by_cases c16 : t759 = true
   ·
    subst c16
    rw [if_pos rfl] at H
    obtain ⟨t760, A170, H⟩ := Option.bind_eq_some_iff.mp H
    try dsimp only at H
    have A17 := Aside0.mk A170; clear A170
    by_cases c18 : a1_0 = t760
    ·
     rw [if_pos c18] at H
     have c18b0 : (a1_0 == t760) = true := beq_iff_eq.mpr c18; have c18b1 : (a1_0 != t760) = false := bne_eq_false_iff_eq.mpr c18; clear c18; obtain ⟨t761, A190, H⟩ := Option.bind_eq_some_iff.mp H
     try dsimp only at H
     have A19 := Aside0.mk A190; clear A190
     by_cases c20 : t761 = true
     ·
      subst c20
      rw [if_pos rfl] at H
      obtain ⟨t762, A210, H⟩ := Option.bind_eq_some_iff.mp H
      try dsimp only at H
      have A21 := Aside0.mk A210; clear A210; obtain rfl := Option.some.inj H
      go_enter Tryz.func49, Tryz.ntmps49
      try go_wp2_with (first | ((with_reducible refine gd 2 ?_); refine bL 2 #[.int .i64 a0_0, .int .i64 a0_1] 32 ?_; intro gb750 w22 _ _ _) | ((with_reducible refine gd 3 ?_); refine bL 3 #[.int .i64 a1_0, .string a1_1, .slice A1_2 l1_2.length c1_2] 27 ?_; intro gb751 w23 _ _ _) | ((with_reducible refine gate_callee (f := 143) rfl ?_); refine gC (some 6) Tryz.func143 (impl_ConfOk.calls (w := _) (h := A3.out)) ?_; intro w24 _))
      refine sB [] impl_QcOk.tab3 impl_QcOk.bits3 ?_; intro w25 _ HT_ HW_
      refine tB 0 (some 8) (bz 37 1) HT_ HW_ ?_
      refine o1 1 (some 9) (bz 37 3) HT_ rfl (kC1 Tryz.func144 (impl_QcFirst.calls (w := _) (h := A5.out)) ?_); intro Ao756 co756 w26 _ HO757
      refine nA (some 9) ?_
      refine o1 2 (some 10) (bz 37 7) HT_ rfl (kC Tryz.func63 (impl_QcSame.calls (hr0_2 := pC HR1_2) (hc0_2 := HC1_2.out) (hr1_2 := rC HO757) (hc1_2 := rL HO757) (w := _) (h := A6.out)) ?_); intro w27 _
      refine nA (some 10) ?_
      refine pA 3 (some 11) (bz 37 15) HT_ ?_
      refine pA 4 (some 12) (bz 37 31) HT_ ?_
      refine tB 5 (some 13) (bz 37 63) HT_ HW_ ?_
      refine pA 6 (some 14) (bz 37 127) HT_ ?_
      refine pA 7 (some 15) (bz 37 255) HT_ ?_
      refine pA 8 (some 16) (bz 37 511) HT_ ?_
      refine tB 9 (some 17) (bz 37 1023) HT_ HW_ ?_
      refine o1 10 (some 18) (bz 37 2047) HT_ rfl (kC Tryz.func139 (impl_NameOk.calls (w := _) (h := A15.out)) ?_); intro w28 _
      refine nA (some 18) ?_
      refine pA 11 (some 19) (bz 37 4095) HT_ ?_
      refine pA 12 (some 20) (bz 37 0x1fff) HT_ ?_
      refine pA 13 (some 21) (bz 37 0x3fff) HT_ ?_
      refine tB 14 (some 22) (bz 37 0x7fff) HT_ HW_ ?_
      refine pA 15 (some 23) (bz 37 0xffff) HT_ ?_
      refine tB 16 (some 24) (bz 37 0x1ffff) HT_ HW_ ?_
      refine o1 17 (some 25) (bz 37 0x3ffff) HT_ rfl (kC Tryz.func83 (impl_ViewOf.calls (w := _) (h := A17.out)) ?_); intro w29 _
      refine nA (some 25) ?_
      refine pA 18 (some 26) (bz 37 0x7ffff) HT_ ?_
      refine pA 19 (some 27) (bz 37 0xfffff) HT_ ?_
      refine pA 20 (some 28) (bz 37 0x1fffff) HT_ ?_
      refine pA 21 (some 29) (bz 37 0x3fffff) HT_ ?_
      refine tB 22 (some 30) (bz 37 0x7fffff) HT_ HW_ ?_
      refine pA 23 (some 31) (bz 37 0xffffff) HT_ ?_
      refine tB 24 (some 32) (bz 37 0x1ffffff) HT_ HW_ ?_
      refine o1 25 (some 33) (bz 37 0x3ffffff) HT_ rfl (kD Tryz.func72 (impl_SetOk.calls (hr1 := pC HR1_2) (hc1 := HC1_2.out) (w := _) (h := A19.out)) ?_); intro w30 _
      refine nA (some 33) ?_
      refine pA 26 (some 34) (bz 37 0x7ffffff) HT_ ?_
      refine pA 27 (some 35) (bz 37 0xfffffff) HT_ ?_
      refine pA 28 (some 36) (bz 37 0x1fffffff) HT_ ?_
      refine tB 29 (some 37) (bz 37 0x3fffffff) HT_ HW_ ?_
      refine pA 30 (some 38) (bz 37 0x7fffffff) HT_ ?_
      refine tB 31 (some 39) (bz 37 0xffffffff) HT_ HW_ ?_
      refine o1 32 (some 40) (bz 37 0x1ffffffff) HT_ rfl (kC Tryz.func145 (impl_Quorum.calls (w := _) (h := A21.out)) ?_); intro w31 _
      refine nA (some 40) ?_
      refine pA 33 (some 41) (bz 37 0x3ffffffff) HT_ ?_
      refine pA 34 (some 42) (bz 37 0x7ffffffff) HT_ ?_
      refine pA 35 (some 43) (bz 37 0xfffffffff) HT_ ?_
      refine pA 36 (some 4) (bz 37 0x1fffffffff) HT_ ?_
      refine done_ (done_of HT_.out (by kernel_rfl)) ?_
      try go_wp2
      go_ret
      exact ⟨y0_18, UpW.out⟩
     replace c20 := Bool.eq_false_iff.mpr c20; subst c20
     rw [if_neg (show ¬ (false = true) by decide)] at H
     obtain rfl := Option.some.inj H
     go_enter Tryz.func49, Tryz.ntmps49
     try go_wp2_with (first | ((with_reducible refine gd 2 ?_); refine bL 2 #[.int .i64 a0_0, .int .i64 a0_1] 32 ?_; intro gb750 w32 _ _ _) | ((with_reducible refine gd 3 ?_); refine bL 3 #[.int .i64 a1_0, .string a1_1, .slice A1_2 l1_2.length c1_2] 27 ?_; intro gb751 w33 _ _ _) | ((with_reducible refine gate_callee (f := 143) rfl ?_); refine gC (some 6) Tryz.func143 (impl_ConfOk.calls (w := _) (h := A3.out)) ?_; intro w34 _))
     refine sB [] impl_QcOk.tab3 impl_QcOk.bits3 ?_; intro w35 _ HT_ HW_
     refine tB 0 (some 8) (bz 37 1) HT_ HW_ ?_
     refine o1 1 (some 9) (bz 37 3) HT_ rfl (kC1 Tryz.func144 (impl_QcFirst.calls (w := _) (h := A5.out)) ?_); intro Ao756 co756 w36 _ HO757
     refine nA (some 9) ?_
     refine o1 2 (some 10) (bz 37 7) HT_ rfl (kC Tryz.func63 (impl_QcSame.calls (hr0_2 := pC HR1_2) (hc0_2 := HC1_2.out) (hr1_2 := rC HO757) (hc1_2 := rL HO757) (w := _) (h := A6.out)) ?_); intro w37 _
     refine nA (some 10) ?_
     refine pA 3 (some 11) (bz 37 15) HT_ ?_
     refine pA 4 (some 12) (bz 37 31) HT_ ?_
     refine tB 5 (some 13) (bz 37 63) HT_ HW_ ?_
     refine pA 6 (some 14) (bz 37 127) HT_ ?_
     refine pA 7 (some 15) (bz 37 255) HT_ ?_
     refine pA 8 (some 16) (bz 37 511) HT_ ?_
     refine tB 9 (some 17) (bz 37 1023) HT_ HW_ ?_
     refine o1 10 (some 18) (bz 37 2047) HT_ rfl (kC Tryz.func139 (impl_NameOk.calls (w := _) (h := A15.out)) ?_); intro w38 _
     refine nA (some 18) ?_
     refine pA 11 (some 19) (bz 37 4095) HT_ ?_
     refine pA 12 (some 20) (bz 37 0x1fff) HT_ ?_
     refine pA 13 (some 21) (bz 37 0x3fff) HT_ ?_
     refine tB 14 (some 22) (bz 37 0x7fff) HT_ HW_ ?_
     refine pA 15 (some 23) (bz 37 0xffff) HT_ ?_
     refine tB 16 (some 24) (bz 37 0x1ffff) HT_ HW_ ?_
     refine o1 17 (some 25) (bz 37 0x3ffff) HT_ rfl (kC Tryz.func83 (impl_ViewOf.calls (w := _) (h := A17.out)) ?_); intro w39 _
     refine nA (some 25) ?_
     refine pA 18 (some 26) (bz 37 0x7ffff) HT_ ?_
     refine pA 19 (some 27) (bz 37 0xfffff) HT_ ?_
     refine pA 20 (some 28) (bz 37 0x1fffff) HT_ ?_
     refine pA 21 (some 29) (bz 37 0x3fffff) HT_ ?_
     refine tB 22 (some 30) (bz 37 0x7fffff) HT_ HW_ ?_
     refine pA 23 (some 31) (bz 37 0xffffff) HT_ ?_
     refine tB 24 (some 32) (bz 37 0x1ffffff) HT_ HW_ ?_
     refine o1 25 (some 33) (bz 37 0x3ffffff) HT_ rfl (kD Tryz.func72 (impl_SetOk.calls (hr1 := pC HR1_2) (hc1 := HC1_2.out) (w := _) (h := A19.out)) ?_); intro w40 _
     refine nA (some 33) ?_
     refine pA 26 (some 34) (bz 37 0x7ffffff) HT_ ?_
     refine pA 27 (some 35) (bz 37 0xfffffff) HT_ ?_
     refine pU 28 (some 36) (bz 37 0x1fffffff) HT_ ?_
     refine pU 29 (some 37) (bz 37 0x3fffffff) HT_ ?_
     refine pU 30 (some 38) (bz 37 0x7fffffff) HT_ ?_
     refine pU 31 (some 39) (bz 37 0xffffffff) HT_ ?_
     refine pU 32 (some 40) (bz 37 0x1ffffffff) HT_ ?_
     refine pU 33 (some 41) (bz 37 0x3ffffffff) HT_ ?_
     refine pA 34 (some 42) (bz 37 0x7ffffffff) HT_ ?_
     refine pA 35 (some 43) (bz 37 0xfffffffff) HT_ ?_
     refine pA 36 (some 4) (bz 37 0x1fffffffff) HT_ ?_
     refine done_ (done_of HT_.out (by kernel_rfl)) ?_
     try go_wp2
     go_ret
     exact ⟨y0_18, UpW.out⟩
    rw [if_neg c18] at H
    have c18b0 : (a1_0 == t760) = false := beq_eq_false_iff_ne.mpr c18; have c18b1 : (a1_0 != t760) = true := bne_iff_ne.mpr c18; obtain rfl := Option.some.inj H
    go_enter Tryz.func49, Tryz.ntmps49
    try go_wp2_with (first | ((with_reducible refine gd 2 ?_); refine bL 2 #[.int .i64 a0_0, .int .i64 a0_1] 32 ?_; intro gb750 w41 _ _ _) | ((with_reducible refine gd 3 ?_); refine bL 3 #[.int .i64 a1_0, .string a1_1, .slice A1_2 l1_2.length c1_2] 27 ?_; intro gb751 w42 _ _ _) | ((with_reducible refine gate_callee (f := 143) rfl ?_); refine gC (some 6) Tryz.func143 (impl_ConfOk.calls (w := _) (h := A3.out)) ?_; intro w43 _))
    refine sB [] impl_QcOk.tab3 impl_QcOk.bits3 ?_; intro w44 _ HT_ HW_
    refine tB 0 (some 8) (bz 37 1) HT_ HW_ ?_
    refine o1 1 (some 9) (bz 37 3) HT_ rfl (kC1 Tryz.func144 (impl_QcFirst.calls (w := _) (h := A5.out)) ?_); intro Ao756 co756 w45 _ HO757
    refine nA (some 9) ?_
    refine o1 2 (some 10) (bz 37 7) HT_ rfl (kC Tryz.func63 (impl_QcSame.calls (hr0_2 := pC HR1_2) (hc0_2 := HC1_2.out) (hr1_2 := rC HO757) (hc1_2 := rL HO757) (w := _) (h := A6.out)) ?_); intro w46 _
    refine nA (some 10) ?_
    refine pA 3 (some 11) (bz 37 15) HT_ ?_
    refine pA 4 (some 12) (bz 37 31) HT_ ?_
    refine tB 5 (some 13) (bz 37 63) HT_ HW_ ?_
    refine pA 6 (some 14) (bz 37 127) HT_ ?_
    refine pA 7 (some 15) (bz 37 255) HT_ ?_
    refine pA 8 (some 16) (bz 37 511) HT_ ?_
    refine tB 9 (some 17) (bz 37 1023) HT_ HW_ ?_
    refine o1 10 (some 18) (bz 37 2047) HT_ rfl (kC Tryz.func139 (impl_NameOk.calls (w := _) (h := A15.out)) ?_); intro w47 _
    refine nA (some 18) ?_
    refine pA 11 (some 19) (bz 37 4095) HT_ ?_
    refine pA 12 (some 20) (bz 37 0x1fff) HT_ ?_
    refine pA 13 (some 21) (bz 37 0x3fff) HT_ ?_
    refine tB 14 (some 22) (bz 37 0x7fff) HT_ HW_ ?_
    refine pA 15 (some 23) (bz 37 0xffff) HT_ ?_
    refine tB 16 (some 24) (bz 37 0x1ffff) HT_ HW_ ?_
    refine o1 17 (some 25) (bz 37 0x3ffff) HT_ rfl (kC Tryz.func83 (impl_ViewOf.calls (w := _) (h := A17.out)) ?_); intro w48 _
    refine nA (some 25) ?_
    refine pA 18 (some 26) (bz 37 0x7ffff) HT_ ?_
    refine pA 19 (some 27) (bz 37 0xfffff) HT_ ?_
    refine pA 20 (some 28) (bz 37 0x1fffff) HT_ ?_
    refine pU 21 (some 29) (bz 37 0x3fffff) HT_ ?_
    refine pU 22 (some 30) (bz 37 0x7fffff) HT_ ?_
    refine pU 23 (some 31) (bz 37 0xffffff) HT_ ?_
    refine pU 24 (some 32) (bz 37 0x1ffffff) HT_ ?_
    refine pU 25 (some 33) (bz 37 0x3ffffff) HT_ ?_
    refine pA 26 (some 34) (bz 37 0x7ffffff) HT_ ?_
    refine pA 27 (some 35) (bz 37 0xfffffff) HT_ ?_
    refine pU 28 (some 36) (bz 37 0x1fffffff) HT_ ?_
    refine pU 29 (some 37) (bz 37 0x3fffffff) HT_ ?_
    refine pU 30 (some 38) (bz 37 0x7fffffff) HT_ ?_
    refine pU 31 (some 39) (bz 37 0xffffffff) HT_ ?_
    refine pU 32 (some 40) (bz 37 0x1ffffffff) HT_ ?_
    refine pU 33 (some 41) (bz 37 0x3ffffffff) HT_ ?_
    refine pA 34 (some 42) (bz 37 0x7ffffffff) HT_ ?_
    refine pA 35 (some 43) (bz 37 0xfffffffff) HT_ ?_
    refine pA 36 (some 4) (bz 37 0x1fffffffff) HT_ ?_
    refine done_ (done_of HT_.out (by kernel_rfl)) ?_
    try go_wp2
    go_ret
    exact ⟨y0_18, UpW.out⟩
   replace c16 := Bool.eq_false_iff.mpr c16; subst c16
   rw [if_neg (show ¬ (false = true) by decide)] at H
   obtain rfl := Option.some.inj H
   go_enter Tryz.func49, Tryz.ntmps49
   try go_wp2_with (first | ((with_reducible refine gd 2 ?_); refine bL 2 #[.int .i64 a0_0, .int .i64 a0_1] 32 ?_; intro gb750 w49 _ _ _) | ((with_reducible refine gd 3 ?_); refine bL 3 #[.int .i64 a1_0, .string a1_1, .slice A1_2 l1_2.length c1_2] 27 ?_; intro gb751 w50 _ _ _) | ((with_reducible refine gate_callee (f := 143) rfl ?_); refine gC (some 6) Tryz.func143 (impl_ConfOk.calls (w := _) (h := A3.out)) ?_; intro w51 _))
   refine sB [] impl_QcOk.tab3 impl_QcOk.bits3 ?_; intro w52 _ HT_ HW_
   refine tB 0 (some 8) (bz 37 1) HT_ HW_ ?_
   refine o1 1 (some 9) (bz 37 3) HT_ rfl (kC1 Tryz.func144 (impl_QcFirst.calls (w := _) (h := A5.out)) ?_); intro Ao756 co756 w53 _ HO757
   refine nA (some 9) ?_
   refine o1 2 (some 10) (bz 37 7) HT_ rfl (kC Tryz.func63 (impl_QcSame.calls (hr0_2 := pC HR1_2) (hc0_2 := HC1_2.out) (hr1_2 := rC HO757) (hc1_2 := rL HO757) (w := _) (h := A6.out)) ?_); intro w54 _
   refine nA (some 10) ?_
   refine pA 3 (some 11) (bz 37 15) HT_ ?_
   refine pA 4 (some 12) (bz 37 31) HT_ ?_
   refine tB 5 (some 13) (bz 37 63) HT_ HW_ ?_
   refine pA 6 (some 14) (bz 37 127) HT_ ?_
   refine pA 7 (some 15) (bz 37 255) HT_ ?_
   refine pA 8 (some 16) (bz 37 511) HT_ ?_
   refine tB 9 (some 17) (bz 37 1023) HT_ HW_ ?_
   refine o1 10 (some 18) (bz 37 2047) HT_ rfl (kC Tryz.func139 (impl_NameOk.calls (w := _) (h := A15.out)) ?_); intro w55 _
   refine nA (some 18) ?_
   refine pA 11 (some 19) (bz 37 4095) HT_ ?_
   refine pA 12 (some 20) (bz 37 0x1fff) HT_ ?_
   refine pU 13 (some 21) (bz 37 0x3fff) HT_ ?_
   refine pU 14 (some 22) (bz 37 0x7fff) HT_ ?_
   refine pU 15 (some 23) (bz 37 0xffff) HT_ ?_
   refine pU 16 (some 24) (bz 37 0x1ffff) HT_ ?_
   refine pU 17 (some 25) (bz 37 0x3ffff) HT_ ?_
   refine pU 18 (some 26) (bz 37 0x7ffff) HT_ ?_
   refine pA 19 (some 27) (bz 37 0xfffff) HT_ ?_
   refine pA 20 (some 28) (bz 37 0x1fffff) HT_ ?_
   refine pU 21 (some 29) (bz 37 0x3fffff) HT_ ?_
   refine pU 22 (some 30) (bz 37 0x7fffff) HT_ ?_
   refine pU 23 (some 31) (bz 37 0xffffff) HT_ ?_
   refine pU 24 (some 32) (bz 37 0x1ffffff) HT_ ?_
   refine pU 25 (some 33) (bz 37 0x3ffffff) HT_ ?_
   refine pA 26 (some 34) (bz 37 0x7ffffff) HT_ ?_
   refine pA 27 (some 35) (bz 37 0xfffffff) HT_ ?_
   refine pU 28 (some 36) (bz 37 0x1fffffff) HT_ ?_
   refine pU 29 (some 37) (bz 37 0x3fffffff) HT_ ?_
   refine pU 30 (some 38) (bz 37 0x7fffffff) HT_ ?_
   refine pU 31 (some 39) (bz 37 0xffffffff) HT_ ?_
   refine pU 32 (some 40) (bz 37 0x1ffffffff) HT_ ?_
   refine pU 33 (some 41) (bz 37 0x3ffffffff) HT_ ?_
   refine pA 34 (some 42) (bz 37 0x7ffffffff) HT_ ?_
   refine pA 35 (some 43) (bz 37 0xfffffffff) HT_ ?_
   refine pA 36 (some 4) (bz 37 0x1fffffffff) HT_ ?_
   refine done_ (done_of HT_.out (by kernel_rfl)) ?_
   try go_wp2
   go_ret
   exact ⟨y0_18, UpW.out⟩
  rw [if_neg c14] at H
  have c14b0 : decide (1 ≤ a1_0) = false := decide_eq_false c14; clear c14; obtain rfl := Option.some.inj H
  go_enter Tryz.func49, Tryz.ntmps49
  try go_wp2_with (first | ((with_reducible refine gd 2 ?_); refine bL 2 #[.int .i64 a0_0, .int .i64 a0_1] 32 ?_; intro gb750 w56 _ _ _) | ((with_reducible refine gd 3 ?_); refine bL 3 #[.int .i64 a1_0, .string a1_1, .slice A1_2 l1_2.length c1_2] 27 ?_; intro gb751 w57 _ _ _) | ((with_reducible refine gate_callee (f := 143) rfl ?_); refine gC (some 6) Tryz.func143 (impl_ConfOk.calls (w := _) (h := A3.out)) ?_; intro w58 _))
  refine sB [] impl_QcOk.tab3 impl_QcOk.bits3 ?_; intro w59 _ HT_ HW_
  refine tB 0 (some 8) (bz 37 1) HT_ HW_ ?_
  refine o1 1 (some 9) (bz 37 3) HT_ rfl (kC1 Tryz.func144 (impl_QcFirst.calls (w := _) (h := A5.out)) ?_); intro Ao756 co756 w60 _ HO757
  refine nA (some 9) ?_
  refine o1 2 (some 10) (bz 37 7) HT_ rfl (kC Tryz.func63 (impl_QcSame.calls (hr0_2 := pC HR1_2) (hc0_2 := HC1_2.out) (hr1_2 := rC HO757) (hc1_2 := rL HO757) (w := _) (h := A6.out)) ?_); intro w61 _
  refine nA (some 10) ?_
  refine pA 3 (some 11) (bz 37 15) HT_ ?_
  refine pA 4 (some 12) (bz 37 31) HT_ ?_
  refine tB 5 (some 13) (bz 37 63) HT_ HW_ ?_
  refine pA 6 (some 14) (bz 37 127) HT_ ?_
  refine pA 7 (some 15) (bz 37 255) HT_ ?_
  refine pU 8 (some 16) (bz 37 511) HT_ ?_
  refine pU 9 (some 17) (bz 37 1023) HT_ ?_
  refine pU 10 (some 18) (bz 37 2047) HT_ ?_
  refine pA 11 (some 19) (bz 37 4095) HT_ ?_
  refine pA 12 (some 20) (bz 37 0x1fff) HT_ ?_
  refine pU 13 (some 21) (bz 37 0x3fff) HT_ ?_
  refine pU 14 (some 22) (bz 37 0x7fff) HT_ ?_
  refine pU 15 (some 23) (bz 37 0xffff) HT_ ?_
  refine pU 16 (some 24) (bz 37 0x1ffff) HT_ ?_
  refine pU 17 (some 25) (bz 37 0x3ffff) HT_ ?_
  refine pU 18 (some 26) (bz 37 0x7ffff) HT_ ?_
  refine pA 19 (some 27) (bz 37 0xfffff) HT_ ?_
  refine pA 20 (some 28) (bz 37 0x1fffff) HT_ ?_
  refine pU 21 (some 29) (bz 37 0x3fffff) HT_ ?_
  refine pU 22 (some 30) (bz 37 0x7fffff) HT_ ?_
  refine pU 23 (some 31) (bz 37 0xffffff) HT_ ?_
  refine pU 24 (some 32) (bz 37 0x1ffffff) HT_ ?_
  refine pU 25 (some 33) (bz 37 0x3ffffff) HT_ ?_
  refine pA 26 (some 34) (bz 37 0x7ffffff) HT_ ?_
  refine pA 27 (some 35) (bz 37 0xfffffff) HT_ ?_
  refine pU 28 (some 36) (bz 37 0x1fffffff) HT_ ?_
  refine pU 29 (some 37) (bz 37 0x3fffffff) HT_ ?_
  refine pU 30 (some 38) (bz 37 0x7fffffff) HT_ ?_
  refine pU 31 (some 39) (bz 37 0xffffffff) HT_ ?_
  refine pU 32 (some 40) (bz 37 0x1ffffffff) HT_ ?_
  refine pU 33 (some 41) (bz 37 0x3ffffffff) HT_ ?_
  refine pA 34 (some 42) (bz 37 0x7ffffffff) HT_ ?_
  refine pA 35 (some 43) (bz 37 0xfffffffff) HT_ ?_
  refine pA 36 (some 4) (bz 37 0x1fffffffff) HT_ ?_
  refine done_ (done_of HT_.out (by kernel_rfl)) ?_
  try go_wp2
  go_ret
  exact ⟨y0_18, UpW.out⟩
 replace c4 := Bool.eq_false_iff.mpr c4; subst c4
 rw [if_neg (show ¬ (false = true) by decide)] at H
 obtain rfl := Option.some.inj H
 go_enter Tryz.func49, Tryz.ntmps49
 go_wp2_with (first | ((with_reducible refine gd 2 ?_); refine bL 2 #[.int .i64 a0_0, .int .i64 a0_1] 32 ?_; intro gb750 w62 _ _ _) | ((with_reducible refine gd 3 ?_); refine bL 3 #[.int .i64 a1_0, .string a1_1, .slice A1_2 l1_2.length c1_2] 27 ?_; intro gb751 w63 _ _ _) | ((with_reducible refine gate_callee (f := 143) rfl ?_); refine gC (some 6) Tryz.func143 (impl_ConfOk.calls (w := _) (h := A3.out)) ?_; intro w64 _))
 go_ret
 exact ⟨y0_18, UpW.out⟩

end Go.Proofs.YtnpbopadajbopaaGreatDoor.PFnBlocks
