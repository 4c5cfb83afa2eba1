-- By a program of this session, out of the translation (the print of the kit, with turns of its own). Lean checks it.
import Derived.Test.YtnpbopadajbopaaGreatDoorPFnSafex0
import Derived.Test.YtnpbopadajbopaaGreatDoorPFnSafex10
import Derived.Test.YtnpbopadajbopaaGreatDoorPFnSafex11
namespace Go.Proofs.YtnpbopadajbopaaGreatDoor.PFnSafe
open Go.RowKit Go.Proofs.YtnpbopadajbopaaGreatDoorW.PrintWords Go.Proofs.YtnpbopadajbopaaGreatDoorW.PrintLast Go.Proofs.YtnpbopadajbopaaGreatDoorW.PrintMore
attribute [local go_sem] max2_int min2_int max_two min_two max_three min_three max_four min_four   -- for this text's walks alone
attribute [local go_sem] cell_in frozen_in
set_option synthInstance.maxSize 1000000
set_option synthInstance.maxHeartbeats 2000000
set_option linter.unusedVariables false
set_option linter.unusedSimpArgs false

/-! ### impl_Settles: function 37 -/
def impl_Settles.j0 : Nat → ByteArray → Bool → Option (ByteArray × Bool)
 | 0, _, _ => none
 | k + 1, x0, x47 => if x47 = true then (some ((⟨#[]⟩ : ByteArray), false)) else ((impl_UpOf.f k x0).bind fun t774 => ((impl_UpOf.f k t774).bind fun t775 => (some (t775, true))))
def impl_Settles.f (k : Nat) (a0 : ByteArray) : Option (ByteArray × Bool) := (impl_Steps.f k a0).bind fun bt766 => (if (bt766.1.length : Int) < 3 then (impl_Settles.j0 k a0 true) else (if 0 ≤ (wrap64 ((bt766.1.length : Int) - 1)) then (if (wrap64 ((bt766.1.length : Int) - 1)) < (bt766.1.length : Int) then (if 0 ≤ (wrap64 ((bt766.1.length : Int) - 2)) then (if (wrap64 ((bt766.1.length : Int) - 2)) < (bt766.1.length : Int) then (if ((rd_T150 bt766.1 (wrap64 ((bt766.1.length : Int) - 1))).f0) = (wrap64 (((rd_T150 bt766.1 (wrap64 ((bt766.1.length : Int) - 2))).f0) + 1)) then (if 0 ≤ (wrap64 ((bt766.1.length : Int) - 3)) then (if (wrap64 ((bt766.1.length : Int) - 3)) < (bt766.1.length : Int) then (impl_Settles.j0 k a0 (((rd_T150 bt766.1 (wrap64 ((bt766.1.length : Int) - 2))).f0) != (wrap64 (((rd_T150 bt766.1 (wrap64 ((bt766.1.length : Int) - 3))).f0) + 1)))) else (none)) else (none)) else (impl_Settles.j0 k a0 true)) else (none)) else (none)) else (none)) else (none)))
theorem impl_Settles.mono_l : ∀ k, (∀ y0 y1, LeO (impl_Settles.j0 k y0 y1) (impl_Settles.j0 (k + 1) y0 y1))
 | 0 => fun _ _ r h => by simp [impl_Settles.j0] at h
 | k + 1 => by
  have ih0 := impl_Settles.mono_l k
  intro y0 y1
  unfold impl_Settles.j0
  repeat' first | (with_reducible exact ih0 _ _) | (with_reducible exact impl_Steps.mono _ _) | (with_reducible exact impl_UpOf.mono _ _) | (with_reducible exact LeO.refl _) | (with_reducible exact LeO.none _) | (with_reducible refine LeO.ite ?_ ?_) | (with_reducible refine LeO.bind ?_ (fun _ => ?_))
theorem impl_Settles.mono : ∀ a0 k, LeO (impl_Settles.f k a0) (impl_Settles.f (k + 1) a0) := by
 intro a0 k
 have ih0 := impl_Settles.mono_l k
 unfold impl_Settles.f
 repeat' first | (with_reducible exact ih0 _ _) | (with_reducible exact impl_Steps.mono _ _) | (with_reducible exact impl_UpOf.mono _ _) | (with_reducible exact LeO.refl _) | (with_reducible exact LeO.none _) | (with_reducible refine LeO.ite ?_ ?_) | (with_reducible refine LeO.bind ?_ (fun _ => ?_))
set_option maxHeartbeats 8000000 in
set_option maxRecDepth 100000 in
theorem impl_Settles.calls (k : Nat) (a0 : ByteArray) (r1 : ByteArray) (r2 : Bool) (w : World) (h : impl_Settles.f k a0 = some (r1, r2)) (hG : Glob w := by exact gG HG HB) :
  Calls Tryz.prog 37 #[.string a0] w fun e w' => e = .returned (.tuple #[.string r1, .bool r2]) ∧ Below w.heap.size w w' := by
 have HG := Aside0.mk hG; clear hG; have HB := Aside0.mk (Below.refl w.heap.size w)
 have H := h; unfold impl_Settles.f at H
 clear h; obtain ⟨⟨t766, t767⟩, A2, H⟩ := oB H; (try dsimp only at H); have HC3 := Aside0.mk H; clear H
 go_enter Tryz.func37, Tryz.ntmps37
 go_upto_region 3 with (first | (go_at_call 130; (with_reducible refine (impl_Steps.calls k a0 t766 t767 _ A2.out).mono ?_); rintro e w4 ⟨v768, rfl, ho0, hb⟩; have HO769 := Aside0.mk (Kd.S_lower ho0 (below_size (bI HB.out))); replace HB := bs HB hb; (try clear hb); (try clear ho0); obtain ⟨Ao5, co5, eo5⟩ := Kd.S_slice HO769.out; subst eo5))
 repeat (go_quiet (first | (go_at_call 130; (with_reducible refine (impl_Steps.calls k a0 t766 t767 _ A2.out).mono ?_); rintro e w4 ⟨v768, rfl, ho0, hb⟩; have HO769 := Aside0.mk (Kd.S_lower ho0 (below_size (bI HB.out))); replace HB := bs HB hb; (try clear hb); (try clear ho0); obtain ⟨Ao5, co5, eo5⟩ := Kd.S_slice HO769.out; subst eo5)); go_upto_region 3 with (first | (go_at_call 130; (with_reducible refine (impl_Steps.calls k a0 t766 t767 _ A2.out).mono ?_); rintro e w4 ⟨v768, rfl, ho0, hb⟩; have HO769 := Aside0.mk (Kd.S_lower ho0 (below_size (bI HB.out))); replace HB := bs HB hb; (try clear hb); (try clear ho0); obtain ⟨Ao5, co5, eo5⟩ := Kd.S_slice HO769.out; subst eo5)))
 (try simp only [Act.put, List.setIfInBounds_toArray, List.set_cons_zero, List.set_cons_succ])
 go_cut [47] (fun v47 wc => ∃ (kq : Nat) (x47_2 : Bool), v47 = .bool x47_2 ∧ Aside0 (impl_Settles.j0 kq a0 x47_2 = some (r1, r2)) ∧ Aside0 (kq ≤ k) ∧ Aside0 (Below w.heap.size w wc))
 case first =>
  have H := HC3.out; clear HC3
  by_cases c6 : (t766.length : Int) < 3
  ·
   rw [if_pos c6] at H
   have c6b0 : decide ((t766.length : Int) < 3) = true := decide_eq_true c6
   have c6b1 : decide (t766.length < 3) = true := decide_eq_true (by omega)
   clear c6
   (first | rw [c6b0] | (simp only [i64_w, i32_w]; rw [c6b0]) | skip)
   have H' := Aside0.mk H; clear H
   go_wp2
   repeat (go_quiet (fail); try go_wp2)
   go_meet
   case rel => exact ⟨_, (true), y0_16, H', ⟨y0_17⟩, ⟨bI HB.out⟩⟩
  rw [if_neg c6] at H
  have c6b0 : decide ((t766.length : Int) < 3) = false := decide_eq_false c6
  have c6b1 : decide (t766.length < 3) = false := decide_eq_false (by omega)
  clear c6
  (first | rw [c6b0] | (simp only [i64_w, i32_w]; rw [c6b0]) | skip)
  obtain ⟨ji7, hji7⟩ : ∃ j_ : Int, (wrap64 ((t766.length : Int) - 1)) = j_ := ⟨_, rfl⟩
  replace H : (if 0 ≤ (ji7) then (if (ji7) < (t766.length : Int) then (if 0 ≤ (wrap64 ((t766.length : Int) - 2)) then (if (wrap64 ((t766.length : Int) - 2)) < (t766.length : Int) then (if ((rd_T150 t766 (ji7)).f0) = (wrap64 (((rd_T150 t766 (wrap64 ((t766.length : Int) - 2))).f0) + 1)) then (if 0 ≤ (wrap64 ((t766.length : Int) - 3)) then (if (wrap64 ((t766.length : Int) - 3)) < (t766.length : Int) then (impl_Settles.j0 k a0 (((rd_T150 t766 (wrap64 ((t766.length : Int) - 2))).f0) != (wrap64 (((rd_T150 t766 (wrap64 ((t766.length : Int) - 3))).f0) + 1)))) else (none)) else (none)) else (impl_Settles.j0 k a0 true)) else (none)) else (none)) else (none)) else (none)) = some (r1, r2) := by first | (rw [hji7] at H; exact H) | (simp only [hji7] at H ⊢; exact H)
  have hji7w : (IntKind.i64.wrap ((t766.length : Int) - 1)) = ji7 := (i64_w _).trans hji7
  by_cases c8 : 0 ≤ (ji7)
  rotate_left
  ·
   rw [if_neg c8] at H
   exact absurd H (by simp)
  rw [if_pos c8] at H
  have c8b0 : decide (0 ≤ (ji7)) = true := decide_eq_true c8; clear c8
  by_cases c9 : (ji7) < (t766.length : Int)
  rotate_left
  ·
   rw [if_neg c9] at H
   exact absurd H (by simp)
  rw [if_pos c9] at H
  have c9b0 : decide ((ji7) < (t766.length : Int)) = true := decide_eq_true c9; clear c9; obtain ⟨ji10, hji10⟩ : ∃ j_ : Int, (wrap64 ((t766.length : Int) - 2)) = j_ := ⟨_, rfl⟩
  replace H : (if 0 ≤ (ji10) then (if (ji10) < (t766.length : Int) then (if ((rd_T150 t766 (ji7)).f0) = (wrap64 (((rd_T150 t766 (ji10)).f0) + 1)) then (if 0 ≤ (wrap64 ((t766.length : Int) - 3)) then (if (wrap64 ((t766.length : Int) - 3)) < (t766.length : Int) then (impl_Settles.j0 k a0 (((rd_T150 t766 (ji10)).f0) != (wrap64 (((rd_T150 t766 (wrap64 ((t766.length : Int) - 3))).f0) + 1)))) else (none)) else (none)) else (impl_Settles.j0 k a0 true)) else (none)) else (none)) = some (r1, r2) := by first | (rw [hji10] at H; exact H) | (simp only [hji10] at H ⊢; exact H)
  have hji10w : (IntKind.i64.wrap ((t766.length : Int) - 2)) = ji10 := (i64_w _).trans hji10
  by_cases c11 : 0 ≤ (ji10)
  rotate_left
  ·
   rw [if_neg c11] at H
   exact absurd H (by simp)
  rw [if_pos c11] at H
  have c11b0 : decide (0 ≤ (ji10)) = true := decide_eq_true c11; clear c11
  by_cases c12 : (ji10) < (t766.length : Int)
  rotate_left
  ·
   rw [if_neg c12] at H
   exact absurd H (by simp)
  rw [if_pos c12] at H
  have c12b0 : decide ((ji10) < (t766.length : Int)) = true := decide_eq_true c12; clear c12
  by_cases c13 : ((rd_T150 t766 (ji7)).f0) = (wrap64 (((rd_T150 t766 (ji10)).f0) + 1))
  ·
   rw [if_pos c13] at H
   have c13b0 : (((rd_T150 t766 (ji7)).f0) == (wrap64 (((rd_T150 t766 (ji10)).f0) + 1))) = true := beq_iff_eq.mpr c13; have c13b1 : (((rd_T150 t766 (ji7)).f0) != (wrap64 (((rd_T150 t766 (ji10)).f0) + 1))) = false := bne_eq_false_iff_eq.mpr c13; clear c13; obtain ⟨ji14, hji14⟩ : ∃ j_ : Int, (wrap64 ((t766.length : Int) - 3)) = j_ := ⟨_, rfl⟩
   replace H : (if 0 ≤ (ji14) then (if (ji14) < (t766.length : Int) then (impl_Settles.j0 k a0 (((rd_T150 t766 (ji10)).f0) != (wrap64 (((rd_T150 t766 (ji14)).f0) + 1)))) else (none)) else (none)) = some (r1, r2) := by first | (rw [hji14] at H; exact H) | (simp only [hji14] at H ⊢; exact H)
   have hji14w : (IntKind.i64.wrap ((t766.length : Int) - 3)) = ji14 := (i64_w _).trans hji14
   by_cases c15 : 0 ≤ (ji14)
   rotate_left
   ·
    rw [if_neg c15] at H
    exact absurd H (by simp)
   rw [if_pos c15] at H
   have c15b0 : decide (0 ≤ (ji14)) = true := decide_eq_true c15; clear c15
   by_cases c16 : (ji14) < (t766.length : Int)
   rotate_left
   ·
    rw [if_neg c16] at H
    exact absurd H (by simp)
   rw [if_pos c16] at H
   have c16b0 : decide ((ji14) < (t766.length : Int)) = true := decide_eq_true c16; clear c16; have H' := Aside0.mk H; clear H; have p770 : 0 ≤ ((ji7) : Int) := of_decide_eq_true y0_15; have q770 : (ji7) < (t766.length : Int) := of_decide_eq_true y0_15; obtain ⟨ad770, A770_1, c770_1, e770, hx770_0, hx770_1, hl770_1, hi770_1⟩ := at_T150 (Kd.S_reads' HO769.out).2.2 (ji7) p770 q770; cases e770
   obtain ⟨ce770, hce770, hMe770, hcc770⟩ := Kd.S_get HO769.out z150 (ji7) p770 (by first | exact q770 | exact of_decide_eq_true y0_15 | (have e_ := (Kd.S_reads' HO769.out).1; omega))
   obtain ⟨ve770_1, rfl, ge770_1⟩ := k150_openM hMe770; have hv770_1 := hcc770 1 _ rfl
   rw [add_field _ _ 1 (by omega)] at hv770_1
   replace hv770_1 := Option.some.inj (hv770_1.symm.trans hx770_1)
   rw [hv770_1] at ge770_1
   have HL770_1 := Aside0.mk (show Kd.R k204 204 _ _ _ _ ((rd_T150 t766 (ji7)).f1) from ge770_1)
   clear hv770_1 ge770_1; clear hcc770 hce770; have HR770_1 := Aside0.mk hi770_1; have HC770_1 := Aside0.mk hl770_1; clear hi770_1 hl770_1; replace p770 := eq_true p770; replace q770 := eq_true q770; have p771 : 0 ≤ ((ji10) : Int) := of_decide_eq_true y0_15; have q771 : (ji10) < (t766.length : Int) := of_decide_eq_true y0_15; obtain ⟨ad771, A771_1, c771_1, e771, hx771_0, hx771_1, hl771_1, hi771_1⟩ := at_T150 (Kd.S_reads' HO769.out).2.2 (ji10) p771 q771
   obtain rfl : ad770 = ad771 := (by injection e771)
   obtain ⟨ce771, hce771, hMe771, hcc771⟩ := Kd.S_get HO769.out z150 (ji10) p771 (by first | exact q771 | exact of_decide_eq_true y0_15 | (have e_ := (Kd.S_reads' HO769.out).1; omega))
   obtain ⟨ve771_1, rfl, ge771_1⟩ := k150_openM hMe771; have hv771_1 := hcc771 1 _ rfl
   rw [add_field _ _ 1 (by omega)] at hv771_1
   replace hv771_1 := Option.some.inj (hv771_1.symm.trans hx771_1)
   rw [hv771_1] at ge771_1
   have HL771_1 := Aside0.mk (show Kd.R k204 204 _ _ _ _ ((rd_T150 t766 (ji10)).f1) from ge771_1)
   clear hv771_1 ge771_1; clear hcc771 hce771; have HR771_1 := Aside0.mk hi771_1; have HC771_1 := Aside0.mk hl771_1; clear hi771_1 hl771_1; replace p771 := eq_true p771; replace q771 := eq_true q771; have p772 : 0 ≤ ((ji10) : Int) := of_decide_eq_true y0_15; have q772 : (ji10) < (t766.length : Int) := of_decide_eq_true y0_15; obtain ⟨ad772, A772_1, c772_1, e772, hx772_0, hx772_1, hl772_1, hi772_1⟩ := at_T150 (Kd.S_reads' HO769.out).2.2 (ji10) p772 q772
   obtain rfl : ad770 = ad772 := (by injection e772)
   obtain ⟨ce772, hce772, hMe772, hcc772⟩ := Kd.S_get HO769.out z150 (ji10) p772 (by first | exact q772 | exact of_decide_eq_true y0_15 | (have e_ := (Kd.S_reads' HO769.out).1; omega))
   obtain ⟨ve772_1, rfl, ge772_1⟩ := k150_openM hMe772; have hv772_1 := hcc772 1 _ rfl
   rw [add_field _ _ 1 (by omega)] at hv772_1
   replace hv772_1 := Option.some.inj (hv772_1.symm.trans hx772_1)
   rw [hv772_1] at ge772_1
   have HL772_1 := Aside0.mk (show Kd.R k204 204 _ _ _ _ ((rd_T150 t766 (ji10)).f1) from ge772_1)
   clear hv772_1 ge772_1; clear hcc772 hce772; have HR772_1 := Aside0.mk hi772_1; have HC772_1 := Aside0.mk hl772_1; clear hi772_1 hl772_1; replace p772 := eq_true p772; replace q772 := eq_true q772; have ea_ := Option.some.inj (hx771_1.symm.trans hx772_1)
   injection ea_ with ea_ en_ ec_
   subst ea_; subst ec_; clear en_; have p773 : 0 ≤ ((ji14) : Int) := of_decide_eq_true y0_15; have q773 : (ji14) < (t766.length : Int) := of_decide_eq_true y0_15; obtain ⟨ad773, A773_1, c773_1, e773, hx773_0, hx773_1, hl773_1, hi773_1⟩ := at_T150 (Kd.S_reads' HO769.out).2.2 (ji14) p773 q773
   obtain rfl : ad770 = ad773 := (by injection e773)
   obtain ⟨ce773, hce773, hMe773, hcc773⟩ := Kd.S_get HO769.out z150 (ji14) p773 (by first | exact q773 | exact of_decide_eq_true y0_15 | (have e_ := (Kd.S_reads' HO769.out).1; omega))
   obtain ⟨ve773_1, rfl, ge773_1⟩ := k150_openM hMe773; have hv773_1 := hcc773 1 _ rfl
   rw [add_field _ _ 1 (by omega)] at hv773_1
   replace hv773_1 := Option.some.inj (hv773_1.symm.trans hx773_1)
   rw [hv773_1] at ge773_1
   have HL773_1 := Aside0.mk (show Kd.R k204 204 _ _ _ _ ((rd_T150 t766 (ji14)).f1) from ge773_1)
   clear hv773_1 ge773_1; clear hcc773 hce773; have HR773_1 := Aside0.mk hi773_1; have HC773_1 := Aside0.mk hl773_1; clear hi773_1 hl773_1; replace p773 := eq_true p773; replace q773 := eq_true q773
   go_wp2
   repeat (go_quiet (fail); try go_wp2)
   go_meet
   case rel => exact ⟨_, ((((rd_T150 t766 (ji10)).f0) != (wrap64 (((rd_T150 t766 (ji14)).f0) + 1)))), (by first | rfl | (simp; done) | (simp only [← hji10, ← hji14] <;> (first | rfl | simp)) | (simp [*]; done)), H', ⟨y0_17⟩, ⟨bI HB.out⟩⟩
  rw [if_neg c13] at H
  have c13b0 : (((rd_T150 t766 (ji7)).f0) == (wrap64 (((rd_T150 t766 (ji10)).f0) + 1))) = false := beq_eq_false_iff_ne.mpr c13; have c13b1 : (((rd_T150 t766 (ji7)).f0) != (wrap64 (((rd_T150 t766 (ji10)).f0) + 1))) = true := bne_iff_ne.mpr c13; have H' := Aside0.mk H; clear H; have p770 : 0 ≤ ((ji7) : Int) := of_decide_eq_true y0_15; have q770 : (ji7) < (t766.length : Int) := of_decide_eq_true y0_15; obtain ⟨ad770, A770_1, c770_1, e770, hx770_0, hx770_1, hl770_1, hi770_1⟩ := at_T150 (Kd.S_reads' HO769.out).2.2 (ji7) p770 q770; cases e770
  obtain ⟨ce770, hce770, hMe770, hcc770⟩ := Kd.S_get HO769.out z150 (ji7) p770 (by first | exact q770 | exact of_decide_eq_true y0_15 | (have e_ := (Kd.S_reads' HO769.out).1; omega))
  obtain ⟨ve770_1, rfl, ge770_1⟩ := k150_openM hMe770; have hv770_1 := hcc770 1 _ rfl
  rw [add_field _ _ 1 (by omega)] at hv770_1
  replace hv770_1 := Option.some.inj (hv770_1.symm.trans hx770_1)
  rw [hv770_1] at ge770_1
  have HL770_1 := Aside0.mk (show Kd.R k204 204 _ _ _ _ ((rd_T150 t766 (ji7)).f1) from ge770_1)
  clear hv770_1 ge770_1; clear hcc770 hce770; have HR770_1 := Aside0.mk hi770_1; have HC770_1 := Aside0.mk hl770_1; clear hi770_1 hl770_1; replace p770 := eq_true p770; replace q770 := eq_true q770; have p771 : 0 ≤ ((ji10) : Int) := of_decide_eq_true y0_15; have q771 : (ji10) < (t766.length : Int) := of_decide_eq_true y0_15; obtain ⟨ad771, A771_1, c771_1, e771, hx771_0, hx771_1, hl771_1, hi771_1⟩ := at_T150 (Kd.S_reads' HO769.out).2.2 (ji10) p771 q771
  obtain rfl : ad770 = ad771 := (by injection e771)
  obtain ⟨ce771, hce771, hMe771, hcc771⟩ := Kd.S_get HO769.out z150 (ji10) p771 (by first | exact q771 | exact of_decide_eq_true y0_15 | (have e_ := (Kd.S_reads' HO769.out).1; omega))
  obtain ⟨ve771_1, rfl, ge771_1⟩ := k150_openM hMe771; have hv771_1 := hcc771 1 _ rfl
  rw [add_field _ _ 1 (by omega)] at hv771_1
  replace hv771_1 := Option.some.inj (hv771_1.symm.trans hx771_1)
  rw [hv771_1] at ge771_1
  have HL771_1 := Aside0.mk (show Kd.R k204 204 _ _ _ _ ((rd_T150 t766 (ji10)).f1) from ge771_1)
  clear hv771_1 ge771_1; clear hcc771 hce771; have HR771_1 := Aside0.mk hi771_1; have HC771_1 := Aside0.mk hl771_1; clear hi771_1 hl771_1; replace p771 := eq_true p771; replace q771 := eq_true q771
  go_wp2
  repeat (go_quiet (fail); try go_wp2)
  go_meet
  case rel => exact ⟨_, (true), y0_16, H', ⟨y0_17⟩, ⟨bI HB.out⟩⟩
 case rest =>
  clear HC3
  try clear c1
  try clear p2
  try clear c3
  try clear c6
  try clear c6b0
  try clear c6b1
  try clear p6
  try clear c7
  try clear p7
  try clear q7
  try clear hx7
  try clear c8
  try clear c8b0
  try clear c9
  try clear c9b0
  try clear c11
  try clear c11b0
  try clear c12
  try clear c12b0
  try clear c13
  try clear c13b0
  try clear c13b1
  try clear c15
  try clear c15b0
  try clear c16
  try clear c16b0
  try clear hx770_0
  try clear hx770_1
  try clear hx771_0
  try clear hx771_1
  try clear hx772_0
  try clear hx772_1
  try clear hx773_0
  try clear hx773_1
  try clear p770
  try clear p771
  try clear p772
  try clear p773
  try clear q770
  try clear q771
  try clear q772
  try clear q773
  obtain ⟨kq, x47_2, rfl, HA, HJ2, HB⟩ := hcut; cases kq with
  | zero => exact absurd HA.out (by simp [impl_Settles.j0])
  | succ kj2 =>
   have H := HA.out; clear HA
   simp only [impl_Settles.j0] at H
   by_cases c17 : x47_2 = true
   ·
    subst c17
    rw [if_pos rfl] at H
    simp only [Option.some.injEq, Prod.mk.injEq] at H
    obtain ⟨rfl, rfl⟩ := H
    go_wp2
    repeat (go_quiet (fail); try go_wp2)
    go_ret2
    exact ⟨y0_11, bI HB.out⟩
   replace c17 := Bool.eq_false_iff.mpr c17; subst c17
   rw [if_neg (show ¬ (false = true) by decide)] at H
   obtain ⟨t774, A18, H⟩ := oB H; (try dsimp only at H); obtain ⟨t775, A19, H⟩ := oB H; (try dsimp only at H)
   simp only [Option.some.injEq, Prod.mk.injEq] at H
   obtain ⟨rfl, rfl⟩ := H
   go_wp2_with (first | (go_at_call 84; (with_reducible refine (impl_UpOf.calls kj2 a0 t774 _ A18.out).mono ?_); rintro e w20 ⟨rfl, hb⟩; replace HB := bs HB hb; (try clear hb); (try clear hb2); (try clear hk); (try clear hi)) | (go_at_call 84; (with_reducible refine (impl_UpOf.calls kj2 t774 t775 _ A19.out).mono ?_); rintro e w21 ⟨rfl, hb⟩; replace HB := bs HB hb; (try clear hb); (try clear hb2); (try clear hk); (try clear hi)))
   repeat (go_quiet (first | (go_at_call 84; (with_reducible refine (impl_UpOf.calls kj2 a0 t774 _ A18.out).mono ?_); rintro e w20 ⟨rfl, hb⟩; replace HB := bs HB hb; (try clear hb); (try clear hb2); (try clear hk); (try clear hi)) | (go_at_call 84; (with_reducible refine (impl_UpOf.calls kj2 t774 t775 _ A19.out).mono ?_); rintro e w21 ⟨rfl, hb⟩; replace HB := bs HB hb; (try clear hb); (try clear hb2); (try clear hk); (try clear hi))); try go_wp2_with (first | (go_at_call 84; (with_reducible refine (impl_UpOf.calls kj2 a0 t774 _ A18.out).mono ?_); rintro e w20 ⟨rfl, hb⟩; replace HB := bs HB hb; (try clear hb); (try clear hb2); (try clear hk); (try clear hi)) | (go_at_call 84; (with_reducible refine (impl_UpOf.calls kj2 t774 t775 _ A19.out).mono ?_); rintro e w21 ⟨rfl, hb⟩; replace HB := bs HB hb; (try clear hb); (try clear hb2); (try clear hk); (try clear hi))))
   go_ret2
   exact ⟨y0_11, bI HB.out⟩

/-! ### slices_Equal_int_int: function 155 -/
def slices_Equal_int_int.l0 : Nat → List Int → List Int → Int → Int → Option (Bool)
 | 0, _, _, _, _ => none
 | k + 1, x0, x1, x12, x13 => if x13 < x12 then (if 0 ≤ x13 then (if x13 < (x0.length : Int) then (if x13 < (x1.length : Int) then (if (rd x0 x13) = (rd x1 x13) then (slices_Equal_int_int.l0 k x0 x1 x12 (wrap64 (x13 + 1))) else (some false)) else (none)) else (none)) else (none)) else (some true)
def slices_Equal_int_int.f (k : Nat) (l0 : List Int) (l1 : List Int) : Option (Bool) := if (l0.length : Int) = (l1.length : Int) then (slices_Equal_int_int.l0 k l0 l1 (l0.length : Int) 0) else (some false)
theorem slices_Equal_int_int.mono_l : ∀ k, (∀ y0 y1 y2 y3, LeO (slices_Equal_int_int.l0 k y0 y1 y2 y3) (slices_Equal_int_int.l0 (k + 1) y0 y1 y2 y3))
 | 0 => fun _ _ _ _ r h => by simp [slices_Equal_int_int.l0] at h
 | k + 1 => by
  have ih0 := slices_Equal_int_int.mono_l k
  intro y0 y1 y2 y3
  unfold slices_Equal_int_int.l0
  repeat' first | (with_reducible exact ih0 _ _ _ _) | (with_reducible exact LeO.refl _) | (with_reducible exact LeO.none _) | (with_reducible refine LeO.ite ?_ ?_) | (with_reducible refine LeO.bind ?_ (fun _ => ?_))
theorem slices_Equal_int_int.mono : ∀ a0 a1 k, LeO (slices_Equal_int_int.f k a0 a1) (slices_Equal_int_int.f (k + 1) a0 a1) := by
 intro a0 a1 k
 have ih0 := slices_Equal_int_int.mono_l k
 unfold slices_Equal_int_int.f
 repeat' first | (with_reducible exact ih0 _ _ _ _) | (with_reducible exact LeO.refl _) | (with_reducible exact LeO.none _) | (with_reducible refine LeO.ite ?_ ?_) | (with_reducible refine LeO.bind ?_ (fun _ => ?_))
set_option maxHeartbeats 8000000 in
set_option maxRecDepth 100000 in
theorem slices_Equal_int_int.calls (k : Nat) (A0 : Option Addr) (c0 : Nat) (l0 : List Int) (A1 : Option Addr) (c1 : Nat) (l1 : List Int) (r : Bool) (w : World) (hr0 : Kd.C (Kd.int .i64) w A0 l0.length l0) (hc0 : l0.length ≤ c0) (hr1 : Kd.C (Kd.int .i64) w A1 l1.length l1) (hc1 : l1.length ≤ c1) (h : slices_Equal_int_int.f k l0 l1 = some r) :
  Calls Tryz.prog 155 #[.slice A0 l0.length c0, .slice A1 l1.length c1] w fun e w' => e = .returned (.bool r) ∧ Drawn0 w w' := by
 have HR0 := Aside0.mk hr0; have HC0 := Aside0.mk hc0; clear hr0 hc0; have HR1 := Aside0.mk hr1; have HC1 := Aside0.mk hc1; clear hr1 hc1; have H := h; unfold slices_Equal_int_int.f at H; clear h
 by_cases c3 : (l0.length : Int) = (l1.length : Int)
 ·
  rw [if_pos c3] at H
  have c3b0 : ((l0.length : Int) == (l1.length : Int)) = true := beq_iff_eq.mpr c3; have c3b1 : ((l0.length : Int) != (l1.length : Int)) = false := bne_eq_false_iff_eq.mpr c3
  have c3b2 : (l0.length == l1.length) = true := by first | simpa using c3 | (simp at c3 ⊢; omega)
  clear c3; have H' := Aside0.mk H; clear H
  go_enter Tryz.func155, Tryz.ntmps155
  go_wp2
  repeat (go_quiet (fail); try go_wp2)
  go_loopg [13] k (fun kq v13 w' => ∃ (x13_1 : Int), v13 = .int .i64 x13_1 ∧ Aside0 (slices_Equal_int_int.l0 kq l0 l1 (l0.length : Int) x13_1 = some r) ∧ Aside0 (kq ≤ k) ∧ Drawn0 w w')
  case atStart => exact ⟨(0), y0_16, H', ⟨Nat.le_refl _⟩, y0_14⟩
  case round =>
   clear H'
   try clear c1
   try clear p2
   try clear c3
   try clear c3b0
   try clear c3b1
   try clear c3b2
   obtain ⟨x13_1, rfl, HA, HK1, ⟨m1, rfl⟩⟩ := hrel; cases gk with
   | zero => exact absurd HA.out (by simp [slices_Equal_int_int.l0])
   | succ k1 =>
    have H := HA.out; clear HA
    simp only [slices_Equal_int_int.l0] at H
    by_cases c4 : x13_1 < (l0.length : Int)
    ·
     rw [if_pos c4] at H
     have c4b0 : decide (x13_1 < (l0.length : Int)) = true := decide_eq_true c4; clear c4
     by_cases c5 : 0 ≤ x13_1
     rotate_left
     ·
      rw [if_neg c5] at H
      exact absurd H (by simp)
     rw [if_pos c5] at H
     have c5b0 : decide (0 ≤ x13_1) = true := decide_eq_true c5; clear c5
     by_cases c6 : x13_1 < (l0.length : Int)
     rotate_left
     ·
      rw [if_neg c6] at H
      exact absurd H (by simp)
     rw [if_pos c6] at H
     have c6b0 : decide (x13_1 < (l0.length : Int)) = true := decide_eq_true c6; clear c6
     by_cases c7 : x13_1 < (l1.length : Int)
     rotate_left
     ·
      rw [if_neg c7] at H
      exact absurd H (by simp)
     rw [if_pos c7] at H
     have c7b0 : decide (x13_1 < (l1.length : Int)) = true := decide_eq_true c7; clear c7
     by_cases c8 : (rd l0 x13_1) = (rd l1 x13_1)
     ·
      rw [if_pos c8] at H
      have c8b0 : ((rd l0 x13_1) == (rd l1 x13_1)) = true := beq_iff_eq.mpr c8; have c8b1 : ((rd l0 x13_1) != (rd l1 x13_1)) = false := bne_eq_false_iff_eq.mpr c8; clear c8; have H' := Aside0.mk H; clear H; have p776 : 0 ≤ (x13_1 : Int) := of_decide_eq_true y0_15; have q776 : x13_1 < (l0.length : Int) := of_decide_eq_true y0_15; obtain ⟨ad776, e776, hx776_0⟩ := Kd.at_int HR0.out x13_1 p776 q776; cases e776; replace p776 := eq_true p776; replace q776 := eq_true q776; have p777 : 0 ≤ (x13_1 : Int) := of_decide_eq_true y0_15; have q777 : x13_1 < (l1.length : Int) := of_decide_eq_true y0_15; obtain ⟨ad777, e777, hx777_0⟩ := Kd.at_int HR1.out x13_1 p777 q777; cases e777; replace p777 := eq_true p777; replace q777 := eq_true q777
      go_wp2
      repeat (go_quiet (fail); try go_wp2)
      go_roundg k1
      case measure => have := HK1.out; omega
      case rel => exact ⟨(wrap64 (x13_1 + 1)), y0_16, H', ⟨y0_18⟩, y0_14⟩
     rw [if_neg c8] at H
     have c8b0 : ((rd l0 x13_1) == (rd l1 x13_1)) = false := beq_eq_false_iff_ne.mpr c8; have c8b1 : ((rd l0 x13_1) != (rd l1 x13_1)) = true := bne_iff_ne.mpr c8; obtain rfl := Option.some.inj H; have p776 : 0 ≤ (x13_1 : Int) := of_decide_eq_true y0_15; have q776 : x13_1 < (l0.length : Int) := of_decide_eq_true y0_15; obtain ⟨ad776, e776, hx776_0⟩ := Kd.at_int HR0.out x13_1 p776 q776; cases e776; replace p776 := eq_true p776; replace q776 := eq_true q776; have p777 : 0 ≤ (x13_1 : Int) := of_decide_eq_true y0_15; have q777 : x13_1 < (l1.length : Int) := of_decide_eq_true y0_15; obtain ⟨ad777, e777, hx777_0⟩ := Kd.at_int HR1.out x13_1 p777 q777; cases e777; replace p777 := eq_true p777; replace q777 := eq_true q777
     go_wp2
     repeat (go_quiet (fail); try go_wp2)
     go_ret
     exact ⟨y0_16, y0_14⟩
    rw [if_neg c4] at H
    have c4b0 : decide (x13_1 < (l0.length : Int)) = false := decide_eq_false c4; clear c4; obtain rfl := Option.some.inj H
    go_wp2
    repeat (go_quiet (fail); try go_wp2)
    go_ret
    exact ⟨y0_16, y0_14⟩
 rw [if_neg c3] at H
 have c3b0 : ((l0.length : Int) == (l1.length : Int)) = false := beq_eq_false_iff_ne.mpr c3; have c3b1 : ((l0.length : Int) != (l1.length : Int)) = true := bne_iff_ne.mpr c3
 have c3b2 : (l0.length == l1.length) = false := by first | simpa using c3 | (simp at c3 ⊢; omega)
 obtain rfl := Option.some.inj H
 go_enter Tryz.func155, Tryz.ntmps155
 go_wp2
 repeat (go_quiet (fail); try go_wp2)
 go_ret
 exact ⟨y0_16, y0_14⟩

/-! ### impl_QcSame: function 63 -/
def impl_QcSame.f (k : Nat) (a0_0 : Int) (a0_1 : ByteArray) (l0_2 : List Int) (a1_0 : Int) (a1_1 : ByteArray) (l1_2 : List Int) : Option (Bool) := if a0_0 = a1_0 then (if a0_1.toList = a1_1.toList then ((slices_Equal_int_int.f k l0_2 l1_2).bind fun t780 => (some t780)) else (some false)) else (some false)
theorem impl_QcSame.mono : ∀ a0 a1 a2 a3 a4 a5 k, LeO (impl_QcSame.f k a0 a1 a2 a3 a4 a5) (impl_QcSame.f (k + 1) a0 a1 a2 a3 a4 a5) := by
 intro a0 a1 a2 a3 a4 a5 k
 unfold impl_QcSame.f
 repeat' first | (with_reducible exact slices_Equal_int_int.mono _ _ _) | (with_reducible exact LeO.refl _) | (with_reducible exact LeO.none _) | (with_reducible refine LeO.ite ?_ ?_) | (with_reducible refine LeO.bind ?_ (fun _ => ?_))
set_option maxHeartbeats 8000000 in
set_option maxRecDepth 100000 in
theorem impl_QcSame.calls (k : Nat) (a0_0 : Int) (a0_1 : ByteArray) (A0_2 : Option Addr) (c0_2 : Nat) (l0_2 : List Int) (a1_0 : Int) (a1_1 : ByteArray) (A1_2 : Option Addr) (c1_2 : Nat) (l1_2 : List Int) (r : Bool) (w : World) (hr0_2 : Kd.C (Kd.int .i64) w A0_2 l0_2.length l0_2) (hc0_2 : l0_2.length ≤ c0_2) (hr1_2 : Kd.C (Kd.int .i64) w A1_2 l1_2.length l1_2) (hc1_2 : l1_2.length ≤ c1_2) (h : impl_QcSame.f k a0_0 a0_1 l0_2 a1_0 a1_1 l1_2 = some r) :
  Calls Tryz.prog 63 #[.agg #[.int .i64 a0_0, .string a0_1, .slice A0_2 l0_2.length c0_2], .agg #[.int .i64 a1_0, .string a1_1, .slice A1_2 l1_2.length c1_2]] w fun e w' => e = .returned (.bool r) ∧ Below w.heap.size w w' := by
 have hu27 := Tryz.underlying27; have HR0_2 := Aside0.mk hr0_2; have HC0_2 := Aside0.mk hc0_2; clear hr0_2 hc0_2; have HR1_2 := Aside0.mk hr1_2; have HC1_2 := Aside0.mk hc1_2; clear hr1_2 hc1_2; have HB := Aside0.mk (Below.refl w.heap.size w)
 have H := h; unfold impl_QcSame.f at H
 clear h
 go_enter Tryz.func63, Tryz.ntmps63
 have H' := Aside0.mk H; clear H
 go_upto_region 1 with (first | ((with_reducible refine gd 2 ?_); refine bL 2 #[.int .i64 a0_0, .string a0_1, .slice A0_2 l0_2.length c0_2] 27 ?_; intro gb778 w3 _ _ _) | ((with_reducible refine gd 3 ?_); refine bL 3 #[.int .i64 a1_0, .string a1_1, .slice A1_2 l1_2.length c1_2] 27 ?_; intro gb779 w4 _ _ _))
 have H := H'.out; clear H'
 by_cases c5 : a0_0 = a1_0
 ·
  rw [if_pos c5] at H
  have c5b0 : (a0_0 == a1_0) = true := beq_iff_eq.mpr c5; have c5b1 : (a0_0 != a1_0) = false := bne_eq_false_iff_eq.mpr c5; clear c5
  (first | rw [c5b0] | (simp only [i64_w, i32_w]; rw [c5b0]) | skip)
  by_cases c6 : a0_1.toList = a1_1.toList
  ·
   rw [if_pos c6] at H
   have c6b0 : (a0_1.toList == a1_1.toList) = true := beq_iff_eq.mpr c6; have c6b1 : (a0_1.toList != a1_1.toList) = false := bne_eq_false_iff_eq.mpr c6; clear c6; obtain ⟨t780, A7, H⟩ := oB H; (try dsimp only at H); obtain rfl := Option.some.inj H
   go_wp2_with (first | (go_at_call 155; refine aD (slices_Equal_int_int.calls (hr0 := pC HR0_2) (hc0 := HC0_2.out) (hr1 := pC HR1_2) (hc1 := HC1_2.out) (w := _) (h := A7.out)) ?_; intro w8 _))
   go_ret
   exact ⟨y0_16, UpW.out⟩
  rw [if_neg c6] at H
  have c6b0 : (a0_1.toList == a1_1.toList) = false := beq_eq_false_iff_ne.mpr c6; have c6b1 : (a0_1.toList != a1_1.toList) = true := bne_iff_ne.mpr c6; obtain rfl := Option.some.inj H
  go_wp2
  go_ret
  exact ⟨y0_16, UpW.out⟩
 rw [if_neg c5] at H
 have c5b0 : (a0_0 == a1_0) = false := beq_eq_false_iff_ne.mpr c5; have c5b1 : (a0_0 != a1_0) = true := bne_iff_ne.mpr c5
 (first | rw [c5b0] | (simp only [i64_w, i32_w]; rw [c5b0]) | skip)
 obtain rfl := Option.some.inj H
 go_wp2
 go_ret
 exact ⟨y0_16, UpW.out⟩

/-! ### impl_SetOk: function 72 -/
def impl_SetOk.l0 : Nat → Int → List Int → List Int → Int → Int → Option (Bool)
 | 0, _, _, _, _, _ => none
 | k + 1, x0, x1, x7, x8, x9 => if x9 < x8 then (if 0 ≤ x9 then (if x9 < (x7.length : Int) then (if (rd x7 x9) < 0 then (some false) else (if (rd x7 x9) ≥ x0 then (some false) else (if x9 > 0 then (if 0 ≤ (wrap64 (x9 - 1)) then (if (wrap64 (x9 - 1)) < (x1.length : Int) then (if (rd x1 (wrap64 (x9 - 1))) ≥ (rd x7 x9) then (some false) else (impl_SetOk.l0 k x0 x1 x7 x8 (wrap64 (x9 + 1)))) else (none)) else (none)) else (impl_SetOk.l0 k x0 x1 x7 x8 (wrap64 (x9 + 1)))))) else (none)) else (none)) else (some true)
def impl_SetOk.f (k : Nat) (a0 : Int) (l1 : List Int) : Option (Bool) := impl_SetOk.l0 k a0 l1 l1 (l1.length : Int) 0
theorem impl_SetOk.mono_l : ∀ k, (∀ y0 y1 y2 y3 y4, LeO (impl_SetOk.l0 k y0 y1 y2 y3 y4) (impl_SetOk.l0 (k + 1) y0 y1 y2 y3 y4))
 | 0 => fun _ _ _ _ _ r h => by simp [impl_SetOk.l0] at h
 | k + 1 => by
  have ih0 := impl_SetOk.mono_l k
  intro y0 y1 y2 y3 y4
  unfold impl_SetOk.l0
  repeat' first | (with_reducible exact ih0 _ _ _ _ _) | (with_reducible exact LeO.refl _) | (with_reducible exact LeO.none _) | (with_reducible refine LeO.ite ?_ ?_) | (with_reducible refine LeO.bind ?_ (fun _ => ?_))
theorem impl_SetOk.mono : ∀ a0 a1 k, LeO (impl_SetOk.f k a0 a1) (impl_SetOk.f (k + 1) a0 a1) := by
 intro a0 a1 k
 have ih0 := impl_SetOk.mono_l k
 unfold impl_SetOk.f
 repeat' first | (with_reducible exact ih0 _ _ _ _ _) | (with_reducible exact LeO.refl _) | (with_reducible exact LeO.none _) | (with_reducible refine LeO.ite ?_ ?_) | (with_reducible refine LeO.bind ?_ (fun _ => ?_))
set_option maxHeartbeats 8000000 in
set_option maxRecDepth 100000 in
theorem impl_SetOk.calls (k : Nat) (a0 : Int) (A1 : Option Addr) (c1 : Nat) (l1 : List Int) (r : Bool) (w : World) (hr1 : Kd.C (Kd.int .i64) w A1 l1.length l1) (hc1 : l1.length ≤ c1) (h : impl_SetOk.f k a0 l1 = some r) :
  Calls Tryz.prog 72 #[.int .i64 a0, .slice A1 l1.length c1] w fun e w' => e = .returned (.bool r) ∧ Drawn0 w w' := by
 have HR1 := Aside0.mk hr1; have HC1 := Aside0.mk hc1; clear hr1 hc1; have H := h; unfold impl_SetOk.f at H; clear h; have H' := Aside0.mk H; clear H
 go_enter Tryz.func72, Tryz.ntmps72
 go_wp2
 go_loopg [9] k (fun kq v9 w' => ∃ (x9_1 : Int), v9 = .int .i64 x9_1 ∧ Aside0 (impl_SetOk.l0 kq a0 l1 l1 (l1.length : Int) x9_1 = some r) ∧ Aside0 (kq ≤ k) ∧ Drawn0 w w')
 case atStart => exact ⟨(0), y0_16, H', ⟨Nat.le_refl _⟩, y0_14⟩
 case round =>
  clear H'
  try clear c1
  try clear p2
  obtain ⟨x9_1, rfl, HA, HK1, ⟨m1, rfl⟩⟩ := hrel; cases gk with
  | zero => exact absurd HA.out (by simp [impl_SetOk.l0])
  | succ k1 =>
   have H := HA.out; clear HA
   simp only [impl_SetOk.l0] at H
   by_cases c3 : x9_1 < (l1.length : Int)
   ·
    rw [if_pos c3] at H
    have c3b0 : decide (x9_1 < (l1.length : Int)) = true := decide_eq_true c3; clear c3
    by_cases c4 : 0 ≤ x9_1
    rotate_left
    ·
     rw [if_neg c4] at H
     exact absurd H (by simp)
    rw [if_pos c4] at H
    have c4b0 : decide (0 ≤ x9_1) = true := decide_eq_true c4; clear c4
    by_cases c5 : x9_1 < (l1.length : Int)
    rotate_left
    ·
     rw [if_neg c5] at H
     exact absurd H (by simp)
    rw [if_pos c5] at H
    have c5b0 : decide (x9_1 < (l1.length : Int)) = true := decide_eq_true c5; clear c5
    by_cases c6 : (rd l1 x9_1) < 0
    ·
     rw [if_pos c6] at H
     have c6b0 : decide ((rd l1 x9_1) < 0) = true := decide_eq_true c6; clear c6; obtain rfl := Option.some.inj H; have p781 : 0 ≤ (x9_1 : Int) := of_decide_eq_true y0_15; have q781 : x9_1 < (l1.length : Int) := of_decide_eq_true y0_15; obtain ⟨ad781, e781, hx781_0⟩ := Kd.at_int HR1.out x9_1 p781 q781; cases e781; replace p781 := eq_true p781; replace q781 := eq_true q781
     go_wp2
     go_ret
     exact ⟨y0_16, y0_14⟩
    rw [if_neg c6] at H
    have c6b0 : decide ((rd l1 x9_1) < 0) = false := decide_eq_false c6; clear c6
    by_cases c7 : (rd l1 x9_1) ≥ a0
    ·
     rw [if_pos c7] at H
     have c7b0 : decide (a0 ≤ (rd l1 x9_1)) = true := decide_eq_true c7; clear c7; obtain rfl := Option.some.inj H; have p781 : 0 ≤ (x9_1 : Int) := of_decide_eq_true y0_15; have q781 : x9_1 < (l1.length : Int) := of_decide_eq_true y0_15; obtain ⟨ad781, e781, hx781_0⟩ := Kd.at_int HR1.out x9_1 p781 q781; cases e781; replace p781 := eq_true p781; replace q781 := eq_true q781
     go_wp2
     go_ret
     exact ⟨y0_16, y0_14⟩
    rw [if_neg c7] at H
    have c7b0 : decide (a0 ≤ (rd l1 x9_1)) = false := decide_eq_false c7; clear c7
    by_cases c8 : x9_1 > 0
    ·
     rw [if_pos c8] at H
     have c8b0 : decide (0 < x9_1) = true := decide_eq_true c8; clear c8; obtain ⟨ji9, hji9⟩ : ∃ j_ : Int, (wrap64 (x9_1 - 1)) = j_ := ⟨_, rfl⟩
     replace H : (if 0 ≤ (ji9) then (if (ji9) < (l1.length : Int) then (if (rd l1 (ji9)) ≥ (rd l1 x9_1) then (some false) else (impl_SetOk.l0 k1 a0 l1 l1 (l1.length : Int) (wrap64 (x9_1 + 1)))) else (none)) else (none)) = some r := by first | (rw [hji9] at H; exact H) | (simp only [hji9] at H ⊢; exact H)
     have hji9w : (IntKind.i64.wrap (x9_1 - 1)) = ji9 := (i64_w _).trans hji9
     by_cases c10 : 0 ≤ (ji9)
     rotate_left
     ·
      rw [if_neg c10] at H
      exact absurd H (by simp)
     rw [if_pos c10] at H
     have c10b0 : decide (0 ≤ (ji9)) = true := decide_eq_true c10; clear c10
     by_cases c11 : (ji9) < (l1.length : Int)
     rotate_left
     ·
      rw [if_neg c11] at H
      exact absurd H (by simp)
     rw [if_pos c11] at H
     have c11b0 : decide ((ji9) < (l1.length : Int)) = true := decide_eq_true c11; clear c11
     by_cases c12 : (rd l1 (ji9)) ≥ (rd l1 x9_1)
     ·
      rw [if_pos c12] at H
      have c12b0 : decide ((rd l1 x9_1) ≤ (rd l1 (ji9))) = true := decide_eq_true c12; clear c12; obtain rfl := Option.some.inj H; have p781 : 0 ≤ (x9_1 : Int) := of_decide_eq_true y0_15; have q781 : x9_1 < (l1.length : Int) := of_decide_eq_true y0_15; obtain ⟨ad781, e781, hx781_0⟩ := Kd.at_int HR1.out x9_1 p781 q781; cases e781; replace p781 := eq_true p781; replace q781 := eq_true q781; have p782 : 0 ≤ ((ji9) : Int) := of_decide_eq_true y0_15; have q782 : (ji9) < (l1.length : Int) := of_decide_eq_true y0_15; obtain ⟨ad782, e782, hx782_0⟩ := Kd.at_int HR1.out (ji9) p782 q782
      obtain rfl : ad781 = ad782 := (by injection e782)
      replace p782 := eq_true p782; replace q782 := eq_true q782
      go_wp2
      go_ret
      exact ⟨by first | rfl | (simp; done) | (simp only [← hji9] <;> (first | rfl | simp)) | (simp [*]; done), y0_14⟩
     rw [if_neg c12] at H
     have c12b0 : decide ((rd l1 x9_1) ≤ (rd l1 (ji9))) = false := decide_eq_false c12; clear c12; have H' := Aside0.mk H; clear H; have p781 : 0 ≤ (x9_1 : Int) := of_decide_eq_true y0_15; have q781 : x9_1 < (l1.length : Int) := of_decide_eq_true y0_15; obtain ⟨ad781, e781, hx781_0⟩ := Kd.at_int HR1.out x9_1 p781 q781; cases e781; replace p781 := eq_true p781; replace q781 := eq_true q781; have p782 : 0 ≤ ((ji9) : Int) := of_decide_eq_true y0_15; have q782 : (ji9) < (l1.length : Int) := of_decide_eq_true y0_15; obtain ⟨ad782, e782, hx782_0⟩ := Kd.at_int HR1.out (ji9) p782 q782
     obtain rfl : ad781 = ad782 := (by injection e782)
     replace p782 := eq_true p782; replace q782 := eq_true q782
     go_wp2
     go_roundg k1
     case measure => have := HK1.out; omega
     case rel => exact ⟨(wrap64 (x9_1 + 1)), y0_16, H', ⟨y0_18⟩, y0_14⟩
    rw [if_neg c8] at H
    have c8b0 : decide (0 < x9_1) = false := decide_eq_false c8; clear c8; have H' := Aside0.mk H; clear H; have p781 : 0 ≤ (x9_1 : Int) := of_decide_eq_true y0_15; have q781 : x9_1 < (l1.length : Int) := of_decide_eq_true y0_15; obtain ⟨ad781, e781, hx781_0⟩ := Kd.at_int HR1.out x9_1 p781 q781; cases e781; replace p781 := eq_true p781; replace q781 := eq_true q781
    go_wp2
    go_roundg k1
    case measure => have := HK1.out; omega
    case rel => exact ⟨(wrap64 (x9_1 + 1)), y0_16, H', ⟨y0_18⟩, y0_14⟩
   rw [if_neg c3] at H
   have c3b0 : decide (x9_1 < (l1.length : Int)) = false := decide_eq_false c3; clear c3; obtain rfl := Option.some.inj H
   go_wp2
   go_ret
   exact ⟨y0_16, y0_14⟩

/-! ### impl_ViewOf: function 83 -/
def impl_ViewOf.f (k : Nat) (a0 : ByteArray) : Option (Int) := (impl_Steps.f k a0).bind fun bt783 => (if (bt783.1.length : Int) = 0 then (some 0) else (if 0 ≤ (wrap64 ((bt783.1.length : Int) - 1)) then (if (wrap64 ((bt783.1.length : Int) - 1)) < (bt783.1.length : Int) then (some ((rd_T150 bt783.1 (wrap64 ((bt783.1.length : Int) - 1))).f0)) else (none)) else (none)))
theorem impl_ViewOf.mono : ∀ a0 k, LeO (impl_ViewOf.f k a0) (impl_ViewOf.f (k + 1) a0) := by
 intro a0 k
 unfold impl_ViewOf.f
 repeat' first | (with_reducible exact impl_Steps.mono _ _) | (with_reducible exact LeO.refl _) | (with_reducible exact LeO.none _) | (with_reducible refine LeO.ite ?_ ?_) | (with_reducible refine LeO.bind ?_ (fun _ => ?_))
set_option maxHeartbeats 8000000 in
set_option maxRecDepth 100000 in
theorem impl_ViewOf.calls (k : Nat) (a0 : ByteArray) (r : Int) (w : World) (h : impl_ViewOf.f k a0 = some r) (hG : Glob w := by exact gG HG HB) :
  Calls Tryz.prog 83 #[.string a0] w fun e w' => e = .returned (.int .i64 r) ∧ Below w.heap.size w w' := by
 have HG := Aside0.mk hG; clear hG; have HB := Aside0.mk (Below.refl w.heap.size w)
 have H := h; unfold impl_ViewOf.f at H
 clear h; obtain ⟨⟨t783, t784⟩, A2, H⟩ := oB H; (try dsimp only at H)
 by_cases c3 : (t783.length : Int) = 0
 ·
  rw [if_pos c3] at H
  have c3b0 : ((t783.length : Int) == 0) = true := beq_iff_eq.mpr c3; have c3b1 : ((t783.length : Int) != 0) = false := bne_eq_false_iff_eq.mpr c3; clear c3; obtain rfl := Option.some.inj H
  go_enter Tryz.func83, Tryz.ntmps83
  go_wp2_with (first | ((with_reducible refine gate_callee (f := 130) rfl ?_); refine gB (some 7) Tryz.func130 #[.string a0] ?_; (with_reducible refine (impl_Steps.calls k a0 t783 t784 _ A2.out).mono ?_); rintro e w4 ⟨v785, rfl, ho0, hb⟩; refine ⟨_, rfl, ?_⟩; have HO786 := Aside0.mk (Kd.S_lower ho0 (below_size (bI HB.out))); replace HB := bs HB hb; (try clear hb); (try clear ho0); obtain ⟨Ao5, co5, eo5⟩ := Kd.S_slice HO786.out; subst eo5))
  go_ret
  exact ⟨y0_11, bI HB.out⟩
 rw [if_neg c3] at H
 have c3b0 : ((t783.length : Int) == 0) = false := beq_eq_false_iff_ne.mpr c3; have c3b1 : ((t783.length : Int) != 0) = true := bne_iff_ne.mpr c3
 have c3b2 : ¬ (t783 = []) := fun h_ => c3 (by rw [h_]; rfl)
 obtain ⟨ji6, hji6⟩ : ∃ j_ : Int, (wrap64 ((t783.length : Int) - 1)) = j_ := ⟨_, rfl⟩
 replace H : (if 0 ≤ (ji6) then (if (ji6) < (t783.length : Int) then (some ((rd_T150 t783 (ji6)).f0)) else (none)) else (none)) = some r := by first | (rw [hji6] at H; exact H) | (simp only [hji6] at H ⊢; exact H)
 (try rw [hji6] at A2)
 have hji6w : (IntKind.i64.wrap ((t783.length : Int) - 1)) = ji6 := (i64_w _).trans hji6
 by_cases c7 : 0 ≤ (ji6)
 ·
  rw [if_pos c7] at H
  have c7b0 : decide (0 ≤ (ji6)) = true := decide_eq_true c7; clear c7
  by_cases c8 : (ji6) < (t783.length : Int)
  rotate_left
  ·
   rw [if_neg c8] at H
   exact absurd H (by simp)
  rw [if_pos c8] at H
  have c8b0 : decide ((ji6) < (t783.length : Int)) = true := decide_eq_true c8; clear c8; obtain rfl := Option.some.inj H
  go_enter Tryz.func83, Tryz.ntmps83
  go_wp2_with (first | ((with_reducible refine gate_callee (f := 130) rfl ?_); refine gB (some 7) Tryz.func130 #[.string a0] ?_; (with_reducible refine (impl_Steps.calls k a0 t783 t784 _ A2.out).mono ?_); rintro e w9 ⟨v785, rfl, ho0, hb⟩; refine ⟨_, rfl, ?_⟩; have HO786 := Aside0.mk (Kd.S_lower ho0 (below_size (bI HB.out))); replace HB := bs HB hb; (try clear hb); (try clear ho0); obtain ⟨Ao10, co10, eo10⟩ := Kd.S_slice HO786.out; subst eo10; have p787 : 0 ≤ ((ji6) : Int) := of_decide_eq_true y0_15; have q787 : (ji6) < (t783.length : Int) := of_decide_eq_true y0_15; obtain ⟨ad787, A787_1, c787_1, e787, hx787_0, hx787_1, hl787_1, hi787_1⟩ := at_T150 (Kd.S_reads' HO786.out).2.2 (ji6) p787 q787; cases e787; obtain ⟨ce787, hce787, hMe787, hcc787⟩ := Kd.S_get HO786.out z150 (ji6) p787 (by first | exact q787 | exact of_decide_eq_true y0_15 | (have e_ := (Kd.S_reads' HO786.out).1; omega)); obtain ⟨ve787_1, rfl, ge787_1⟩ := k150_openM hMe787; have hv787_1 := hcc787 1 _ rfl; rw [add_field _ _ 1 (by omega)] at hv787_1; replace hv787_1 := Option.some.inj (hv787_1.symm.trans hx787_1); rw [hv787_1] at ge787_1; have HL787_1 := Aside0.mk (show Kd.R k204 204 _ _ _ _ ((rd_T150 t783 (ji6)).f1) from ge787_1); clear hv787_1 ge787_1; clear hcc787 hce787; have HR787_1 := Aside0.mk hi787_1; have HC787_1 := Aside0.mk hl787_1; clear hi787_1 hl787_1; replace p787 := eq_true p787; replace q787 := eq_true q787))
  go_ret
  exact ⟨by first | rfl | (simp [errW_none, errW_some] <;> rfl) | (simp only [← hji6]; first | rfl | (simp [errW_none, errW_some] <;> rfl)) | (simp [*, errW_none, errW_some] <;> rfl), bI HB.out⟩
 rw [if_neg c7] at H
 exact absurd H (by simp)

/-! ### impl_ConfOk: function 143 -/
def impl_ConfOk.f (a0_0 : Int) (a0_1 : Int) : Option (Bool) := (impl_within.f a0_0 4 7).bind fun t789 => (if t789 = true then ((impl_within.f a0_1 1 6).bind fun t790 => (some t790)) else (some false))
set_option maxHeartbeats 8000000 in
set_option maxRecDepth 100000 in
theorem impl_ConfOk.calls (a0_0 : Int) (a0_1 : Int) (r : Bool) (w : World) (h : impl_ConfOk.f a0_0 a0_1 = some r) :
  Calls Tryz.prog 143 #[.agg #[.int .i64 a0_0, .int .i64 a0_1]] w fun e w' => e = .returned (.bool r) ∧ Below w.heap.size w w' := by
 have hu32 := Tryz.underlying32; have HB := Aside0.mk (Below.refl w.heap.size w)
 have H := h; unfold impl_ConfOk.f at H
 clear h
 go_enter Tryz.func143, Tryz.ntmps143
 have H' := Aside0.mk H; clear H
 go_upto_region 1 with (first | ((with_reducible refine gd 1 ?_); refine bL 1 #[.int .i64 a0_0, .int .i64 a0_1] 32 ?_; intro gb788 w2 _ _ _))
 have H := H'.out; clear H'; obtain ⟨t789, A3, H⟩ := oB H; (try dsimp only at H)
 by_cases c4 : t789 = true
 ·
  subst c4
  rw [if_pos rfl] at H
  obtain ⟨t790, A5, H⟩ := oB H; (try dsimp only at H); obtain rfl := Option.some.inj H
  go_wp2_with (first | ((with_reducible refine gate_callee (f := 138) rfl ?_); refine gD (some 5) Tryz.func138 (impl_within.calls (w := _) (h := A3.out)) ?_; intro w6 _) | (go_at_call 138; refine aD (impl_within.calls (w := _) (h := A5.out)) ?_; intro w7 _))
  go_ret
  exact ⟨y0_16, UpW.out⟩
 replace c4 := Bool.eq_false_iff.mpr c4; subst c4
 rw [if_neg (show ¬ (false = true) by decide)] at H
 obtain rfl := Option.some.inj H
 go_wp2_with (first | ((with_reducible refine gate_callee (f := 138) rfl ?_); refine gD (some 5) Tryz.func138 (impl_within.calls (w := _) (h := A3.out)) ?_; intro w8 _))
 go_ret
 exact ⟨y0_16, UpW.out⟩

/-! ### impl_QcFirst: function 144 -/
def impl_QcFirst.f  : Option (Int × ByteArray × List Int) := some (0, (⟨#[]⟩ : ByteArray), ([] : List Int))
set_option maxHeartbeats 8000000 in
set_option maxRecDepth 100000 in
theorem impl_QcFirst.calls  (r1 : Int) (r2 : ByteArray) (r3 : List Int) (w : World) (h : impl_QcFirst.f  = some (r1, r2, r3)) :
  Calls Tryz.prog 144 #[] w fun e w' => ∃ v2_ : Value, e = .returned (.agg #[.int .i64 r1, .string r2, v2_]) ∧ Kd.R (Kd.int .i64) 3 w' w.heap.size (fun _ => True) v2_ r3 ∧ Below w.heap.size w w' := by
 have hu27 := Tryz.underlying27; have HB := Aside0.mk (Below.refl w.heap.size w); have H := h; unfold impl_QcFirst.f at H; clear h
 simp only [Option.some.injEq, Prod.mk.injEq] at H
 obtain ⟨rfl, rfl, rfl⟩ := H
 go_enter Tryz.func144, Tryz.ntmps144
 go_wp2_with (first | ((with_reducible refine gd 0 ?_); refine bL 0 #[.int .i64 0, .string (⟨#[]⟩ : ByteArray), .slice none 0 0] 27 ?_; intro gb791 w1 _ _ _))
 refine bodyPost_ret (results_cell_row rfl _ _ gb791 27 #[.int .i64 0, .string (⟨#[]⟩ : ByteArray), .slice none 0 0] (0, 0) _ rfl xB Tryz.underlying27 rfl (by kernel_rfl)) rfl ?_
 exact ⟨_, y0_16, Kd.R_nil _ _ _ _ _, UpW.out⟩

end Go.Proofs.YtnpbopadajbopaaGreatDoor.PFnSafe
