-- By a program of this session, out of the translation (the print of the kit, with turns of its own). Lean checks it.
import Derived.Test.YtcmldmlmhpfjhaaDoorPFnExactSettlesx0
import Derived.Test.YtcmldmlmhpfjhaaDoorPFnExactSettlesx4
import Derived.Test.YtcmldmlmhpfjhaaDoorPFnExactSettlesx6
namespace Go.Proofs.YtcmldmlmhpfjhaaDoor.PFnExactSettles
open Go.RowKit Go.Proofs.YtcmldmlmhpfjhaaDoorW.PrintWords Go.Proofs.YtcmldmlmhpfjhaaDoorW.PrintLast Go.Proofs.YtcmldmlmhpfjhaaDoorW.PrintMore
attribute [local go_sem] max2_int min2_int max_two min_two max_three min_three max_four min_four   -- for this text's walks alone
set_option linter.unusedVariables false
set_option linter.unusedSimpArgs false

/-! ### impl_Settles: function 16 -/
def impl_Settles.j0 : Nat → ByteArray → Bool → Option (ByteArray × Bool)
  | 0, _, _ => none
  | k + 1, x0, x47 => if x47 = true then (some ((⟨#[]⟩ : ByteArray), false)) else ((impl_UpOf.f k x0).bind fun t276 => ((impl_UpOf.f k t276).bind fun t277 => (some (t277, true))))
def impl_Settles.f (k : Nat) (a0 : ByteArray) : Option (ByteArray × Bool) := (impl_Steps.f k a0).bind fun bt268 => (if (bt268.1.length : Int) < 3 then (impl_Settles.j0 k a0 true) else (if 0 ≤ (wrap64 ((bt268.1.length : Int) - 1)) then (if (wrap64 ((bt268.1.length : Int) - 1)) < (bt268.1.length : Int) then (if 0 ≤ (wrap64 ((bt268.1.length : Int) - 2)) then (if (wrap64 ((bt268.1.length : Int) - 2)) < (bt268.1.length : Int) then (if ((rd_T95 bt268.1 (wrap64 ((bt268.1.length : Int) - 1))).f0) = (wrap64 (((rd_T95 bt268.1 (wrap64 ((bt268.1.length : Int) - 2))).f0) + 1)) then (if 0 ≤ (wrap64 ((bt268.1.length : Int) - 3)) then (if (wrap64 ((bt268.1.length : Int) - 3)) < (bt268.1.length : Int) then (impl_Settles.j0 k a0 (((rd_T95 bt268.1 (wrap64 ((bt268.1.length : Int) - 2))).f0) != (wrap64 (((rd_T95 bt268.1 (wrap64 ((bt268.1.length : Int) - 3))).f0) + 1)))) else (none)) else (none)) else (impl_Settles.j0 k a0 true)) else (none)) else (none)) else (none)) else (none)))
theorem impl_Settles.mono_l : ∀ k, (∀ y0 y1, LeO (impl_Settles.j0 k y0 y1) (impl_Settles.j0 (k + 1) y0 y1))
  | 0 => fun _ _ r h => by simp [impl_Settles.j0] at h
  | k + 1 => by
    have ih0 := impl_Settles.mono_l k
    · intro y0 y1
      unfold impl_Settles.j0
      repeat' first
      | (with_reducible exact ih0 _ _)
      | (with_reducible exact impl_Steps.mono _ _)
      | (with_reducible exact impl_UpOf.mono _ _)
      | (with_reducible exact LeO.refl _)
      | (with_reducible exact LeO.none _)
      | (with_reducible refine LeO.ite ?_ ?_)
      | (with_reducible refine LeO.bind ?_ (fun _ => ?_))
      | exact ih0 _ _
      | exact impl_Steps.mono _ _
      | exact impl_UpOf.mono _ _
      | exact LeO.none _
      | refine LeO.ite ?_ ?_
      | refine LeO.bind ?_ (fun _ => ?_)
theorem impl_Settles.mono : ∀ a0 k, LeO (impl_Settles.f k a0) (impl_Settles.f (k + 1) a0) := by
  intro a0 k
  have ih0 := impl_Settles.mono_l k
  unfold impl_Settles.f
  repeat' first
      | (with_reducible exact ih0 _ _)
      | (with_reducible exact impl_Steps.mono _ _)
      | (with_reducible exact impl_UpOf.mono _ _)
      | (with_reducible exact LeO.refl _)
      | (with_reducible exact LeO.none _)
      | (with_reducible refine LeO.ite ?_ ?_)
      | (with_reducible refine LeO.bind ?_ (fun _ => ?_))
      | exact ih0 _ _
      | exact impl_Steps.mono _ _
      | exact impl_UpOf.mono _ _
      | exact LeO.none _
      | refine LeO.ite ?_ ?_
      | refine LeO.bind ?_ (fun _ => ?_)
set_option maxHeartbeats 8000000 in
set_option maxRecDepth 100000 in
theorem impl_Settles.calls (k : Nat) (a0 : ByteArray) (r1 : ByteArray) (r2 : Bool) (w : World) (h : impl_Settles.f k a0 = some (r1, r2)) (hG : Glob w := by exact gG HG HB) :
    Calls Tryd.prog 16 #[.string a0] w fun e w' => e = .returned (.tuple #[.string r1, .bool r2]) ∧ Below w.heap.size w w' := by
  have HG := Aside0.mk hG
  clear hG
  have HB := Aside0.mk (Below.refl w.heap.size w)
  have H : ((impl_Steps.f k a0).bind fun bt268 => (if (bt268.1.length : Int) < 3 then (impl_Settles.j0 k a0 true) else (if 0 ≤ (wrap64 ((bt268.1.length : Int) - 1)) then (if (wrap64 ((bt268.1.length : Int) - 1)) < (bt268.1.length : Int) then (if 0 ≤ (wrap64 ((bt268.1.length : Int) - 2)) then (if (wrap64 ((bt268.1.length : Int) - 2)) < (bt268.1.length : Int) then (if ((rd_T95 bt268.1 (wrap64 ((bt268.1.length : Int) - 1))).f0) = (wrap64 (((rd_T95 bt268.1 (wrap64 ((bt268.1.length : Int) - 2))).f0) + 1)) then (if 0 ≤ (wrap64 ((bt268.1.length : Int) - 3)) then (if (wrap64 ((bt268.1.length : Int) - 3)) < (bt268.1.length : Int) then (impl_Settles.j0 k a0 (((rd_T95 bt268.1 (wrap64 ((bt268.1.length : Int) - 2))).f0) != (wrap64 (((rd_T95 bt268.1 (wrap64 ((bt268.1.length : Int) - 3))).f0) + 1)))) else (none)) else (none)) else (impl_Settles.j0 k a0 true)) else (none)) else (none)) else (none)) else (none)))) = some (r1, r2) := h
  clear h
  obtain ⟨⟨t268, t269⟩, A20, H⟩ := Option.bind_eq_some_iff.mp H
  try dsimp only at H
  have A2 := Aside0.mk A20
  clear A20
  have HC3 := Aside0.mk H
  clear H
  go_enter Tryd.func16, Tryd.ntmps16
  go_upto_region 3 with (first | (go_at_call 67; (with_reducible refine (impl_Steps.calls k a0 t268 t269 _ A2.out).mono ?_); rintro e w4 ⟨v270, rfl, ho0, hb⟩; have HO271 := Aside0.mk (Kd.S_lower ho0 (below_size (bI HB.out))); replace HB := bs HB hb; (try clear hb); (try clear ho0); obtain ⟨Ao5, co5, eo5⟩ := Kd.S_slice HO271.out; subst eo5))
  repeat (go_quiet (first | (go_at_call 67; (with_reducible refine (impl_Steps.calls k a0 t268 t269 _ A2.out).mono ?_); rintro e w4 ⟨v270, rfl, ho0, hb⟩; have HO271 := Aside0.mk (Kd.S_lower ho0 (below_size (bI HB.out))); replace HB := bs HB hb; (try clear hb); (try clear ho0); obtain ⟨Ao5, co5, eo5⟩ := Kd.S_slice HO271.out; subst eo5)); go_upto_region 3 with (first | (go_at_call 67; (with_reducible refine (impl_Steps.calls k a0 t268 t269 _ A2.out).mono ?_); rintro e w4 ⟨v270, rfl, ho0, hb⟩; have HO271 := Aside0.mk (Kd.S_lower ho0 (below_size (bI HB.out))); replace HB := bs HB hb; (try clear hb); (try clear ho0); obtain ⟨Ao5, co5, eo5⟩ := Kd.S_slice HO271.out; subst eo5)))
  (try simp only [Act.put, List.setIfInBounds_toArray, List.set_cons_zero, List.set_cons_succ])
  go_cut [47] (fun v47 wc => ∃ (kq : Nat) (x47_2 : Bool), v47 = .bool x47_2 ∧ Aside0 (impl_Settles.j0 kq a0 x47_2 = some (r1, r2)) ∧ Aside0 (kq ≤ k) ∧ Aside0 (Below w.heap.size w wc))
  case first =>
    have H := HC3.out
    clear HC3
    by_cases c6 : (t268.length : Int) < 3
    · rw [if_pos c6] at H
      have c6b0 : decide ((t268.length : Int) < 3) = true := decide_eq_true c6
      have c6b1 : decide (t268.length < 3) = true := decide_eq_true (by omega)
      clear c6
      (first | rw [c6b0] | (simp only [i64_w, i32_w]; rw [c6b0]) | skip)
      have H' := Aside0.mk H
      clear H
      go_wp2
      repeat (go_quiet (fail); try go_wp2)
      go_meet
      case rel => exact ⟨_, (true), y0_7, H', ⟨y0_8⟩, ⟨bI HB.out⟩⟩
    · rw [if_neg c6] at H
      have c6b0 : decide ((t268.length : Int) < 3) = false := decide_eq_false c6
      have c6b1 : decide (t268.length < 3) = false := decide_eq_false (by omega)
      clear c6
      (first | rw [c6b0] | (simp only [i64_w, i32_w]; rw [c6b0]) | skip)
      obtain ⟨ji7, hji7⟩ : ∃ j_ : Int, (wrap64 ((t268.length : Int) - 1)) = j_ := ⟨_, rfl⟩
      replace H : (if 0 ≤ (ji7) then (if (ji7) < (t268.length : Int) then (if 0 ≤ (wrap64 ((t268.length : Int) - 2)) then (if (wrap64 ((t268.length : Int) - 2)) < (t268.length : Int) then (if ((rd_T95 t268 (ji7)).f0) = (wrap64 (((rd_T95 t268 (wrap64 ((t268.length : Int) - 2))).f0) + 1)) then (if 0 ≤ (wrap64 ((t268.length : Int) - 3)) then (if (wrap64 ((t268.length : Int) - 3)) < (t268.length : Int) then (impl_Settles.j0 k a0 (((rd_T95 t268 (wrap64 ((t268.length : Int) - 2))).f0) != (wrap64 (((rd_T95 t268 (wrap64 ((t268.length : Int) - 3))).f0) + 1)))) else (none)) else (none)) else (impl_Settles.j0 k a0 true)) else (none)) else (none)) else (none)) else (none)) = some (r1, r2) := by first | (rw [hji7] at H; exact H) | (simp only [hji7] at H ⊢; exact H)
      have hji7w : (IntKind.i64.wrap ((t268.length : Int) - 1)) = ji7 := (i64_w _).trans hji7
      by_cases c8 : 0 ≤ (ji7)
      rotate_left
      · rw [if_neg c8] at H
        exact absurd H (by simp)
      rw [if_pos c8] at H
      have c8b0 : decide (0 ≤ (ji7)) = true := decide_eq_true c8
      clear c8
      by_cases c9 : (ji7) < (t268.length : Int)
      rotate_left
      · rw [if_neg c9] at H
        exact absurd H (by simp)
      rw [if_pos c9] at H
      have c9b0 : decide ((ji7) < (t268.length : Int)) = true := decide_eq_true c9
      clear c9
      obtain ⟨ji10, hji10⟩ : ∃ j_ : Int, (wrap64 ((t268.length : Int) - 2)) = j_ := ⟨_, rfl⟩
      replace H : (if 0 ≤ (ji10) then (if (ji10) < (t268.length : Int) then (if ((rd_T95 t268 (ji7)).f0) = (wrap64 (((rd_T95 t268 (ji10)).f0) + 1)) then (if 0 ≤ (wrap64 ((t268.length : Int) - 3)) then (if (wrap64 ((t268.length : Int) - 3)) < (t268.length : Int) then (impl_Settles.j0 k a0 (((rd_T95 t268 (ji10)).f0) != (wrap64 (((rd_T95 t268 (wrap64 ((t268.length : Int) - 3))).f0) + 1)))) else (none)) else (none)) else (impl_Settles.j0 k a0 true)) else (none)) else (none)) = some (r1, r2) := by first | (rw [hji10] at H; exact H) | (simp only [hji10] at H ⊢; exact H)
      have hji10w : (IntKind.i64.wrap ((t268.length : Int) - 2)) = ji10 := (i64_w _).trans hji10
      by_cases c11 : 0 ≤ (ji10)
      rotate_left
      · rw [if_neg c11] at H
        exact absurd H (by simp)
      rw [if_pos c11] at H
      have c11b0 : decide (0 ≤ (ji10)) = true := decide_eq_true c11
      clear c11
      by_cases c12 : (ji10) < (t268.length : Int)
      rotate_left
      · rw [if_neg c12] at H
        exact absurd H (by simp)
      rw [if_pos c12] at H
      have c12b0 : decide ((ji10) < (t268.length : Int)) = true := decide_eq_true c12
      clear c12
      by_cases c13 : ((rd_T95 t268 (ji7)).f0) = (wrap64 (((rd_T95 t268 (ji10)).f0) + 1))
      · rw [if_pos c13] at H
        have c13b0 : (((rd_T95 t268 (ji7)).f0) == (wrap64 (((rd_T95 t268 (ji10)).f0) + 1))) = true := beq_iff_eq.mpr c13
        have c13b1 : (((rd_T95 t268 (ji7)).f0) != (wrap64 (((rd_T95 t268 (ji10)).f0) + 1))) = false := bne_eq_false_iff_eq.mpr c13
        clear c13
        obtain ⟨ji14, hji14⟩ : ∃ j_ : Int, (wrap64 ((t268.length : Int) - 3)) = j_ := ⟨_, rfl⟩
        replace H : (if 0 ≤ (ji14) then (if (ji14) < (t268.length : Int) then (impl_Settles.j0 k a0 (((rd_T95 t268 (ji10)).f0) != (wrap64 (((rd_T95 t268 (ji14)).f0) + 1)))) else (none)) else (none)) = some (r1, r2) := by first | (rw [hji14] at H; exact H) | (simp only [hji14] at H ⊢; exact H)
        have hji14w : (IntKind.i64.wrap ((t268.length : Int) - 3)) = ji14 := (i64_w _).trans hji14
        by_cases c15 : 0 ≤ (ji14)
        rotate_left
        · rw [if_neg c15] at H
          exact absurd H (by simp)
        rw [if_pos c15] at H
        have c15b0 : decide (0 ≤ (ji14)) = true := decide_eq_true c15
        clear c15
        by_cases c16 : (ji14) < (t268.length : Int)
        rotate_left
        · rw [if_neg c16] at H
          exact absurd H (by simp)
        rw [if_pos c16] at H
        have c16b0 : decide ((ji14) < (t268.length : Int)) = true := decide_eq_true c16
        clear c16
        have H' := Aside0.mk H
        clear H
        have p272 : 0 ≤ ((ji7) : Int) := of_decide_eq_true y0_6
        have q272 : (ji7) < (t268.length : Int) := of_decide_eq_true y0_6
        obtain ⟨ad272, A272_1, c272_1, e272, hx272_0, hx272_1, hl272_1, hi272_1⟩ := at_T95 (Kd.S_reads' HO271.out).2.2 (ji7) p272 q272
        cases e272
        obtain ⟨ce272, hce272, hMe272, hcc272⟩ := Kd.S_get HO271.out z95 (ji7) p272 (by first | exact q272 | exact of_decide_eq_true y0_6 | (have e_ := (Kd.S_reads' HO271.out).1; omega))
        obtain ⟨ve272_1, rfl, ge272_1⟩ := k95_openM hMe272
        have hv272_1 := hcc272 1 _ rfl
        rw [add_field _ _ 1 (by omega)] at hv272_1
        replace hv272_1 := Option.some.inj (hv272_1.symm.trans hx272_1)
        rw [hv272_1] at ge272_1
        have HL272_1 := Aside0.mk (show Kd.R k150 150 _ _ _ _ ((rd_T95 t268 (ji7)).f1) from ge272_1)
        clear hv272_1 ge272_1
        clear hcc272 hce272
        have HR272_1 := Aside0.mk hi272_1
        have HC272_1 := Aside0.mk hl272_1
        clear hi272_1 hl272_1
        replace p272 := eq_true p272
        replace q272 := eq_true q272
        have p273 : 0 ≤ ((ji10) : Int) := of_decide_eq_true y0_6
        have q273 : (ji10) < (t268.length : Int) := of_decide_eq_true y0_6
        obtain ⟨ad273, A273_1, c273_1, e273, hx273_0, hx273_1, hl273_1, hi273_1⟩ := at_T95 (Kd.S_reads' HO271.out).2.2 (ji10) p273 q273
        obtain rfl : ad272 = ad273 := (by injection e273)
        obtain ⟨ce273, hce273, hMe273, hcc273⟩ := Kd.S_get HO271.out z95 (ji10) p273 (by first | exact q273 | exact of_decide_eq_true y0_6 | (have e_ := (Kd.S_reads' HO271.out).1; omega))
        obtain ⟨ve273_1, rfl, ge273_1⟩ := k95_openM hMe273
        have hv273_1 := hcc273 1 _ rfl
        rw [add_field _ _ 1 (by omega)] at hv273_1
        replace hv273_1 := Option.some.inj (hv273_1.symm.trans hx273_1)
        rw [hv273_1] at ge273_1
        have HL273_1 := Aside0.mk (show Kd.R k150 150 _ _ _ _ ((rd_T95 t268 (ji10)).f1) from ge273_1)
        clear hv273_1 ge273_1
        clear hcc273 hce273
        have HR273_1 := Aside0.mk hi273_1
        have HC273_1 := Aside0.mk hl273_1
        clear hi273_1 hl273_1
        replace p273 := eq_true p273
        replace q273 := eq_true q273
        have p274 : 0 ≤ ((ji10) : Int) := of_decide_eq_true y0_6
        have q274 : (ji10) < (t268.length : Int) := of_decide_eq_true y0_6
        obtain ⟨ad274, A274_1, c274_1, e274, hx274_0, hx274_1, hl274_1, hi274_1⟩ := at_T95 (Kd.S_reads' HO271.out).2.2 (ji10) p274 q274
        obtain rfl : ad272 = ad274 := (by injection e274)
        obtain ⟨ce274, hce274, hMe274, hcc274⟩ := Kd.S_get HO271.out z95 (ji10) p274 (by first | exact q274 | exact of_decide_eq_true y0_6 | (have e_ := (Kd.S_reads' HO271.out).1; omega))
        obtain ⟨ve274_1, rfl, ge274_1⟩ := k95_openM hMe274
        have hv274_1 := hcc274 1 _ rfl
        rw [add_field _ _ 1 (by omega)] at hv274_1
        replace hv274_1 := Option.some.inj (hv274_1.symm.trans hx274_1)
        rw [hv274_1] at ge274_1
        have HL274_1 := Aside0.mk (show Kd.R k150 150 _ _ _ _ ((rd_T95 t268 (ji10)).f1) from ge274_1)
        clear hv274_1 ge274_1
        clear hcc274 hce274
        have HR274_1 := Aside0.mk hi274_1
        have HC274_1 := Aside0.mk hl274_1
        clear hi274_1 hl274_1
        replace p274 := eq_true p274
        replace q274 := eq_true q274
        have ea_ := Option.some.inj (hx273_1.symm.trans hx274_1)
        injection ea_ with ea_ en_ ec_
        subst ea_
        subst ec_
        clear en_
        have p275 : 0 ≤ ((ji14) : Int) := of_decide_eq_true y0_6
        have q275 : (ji14) < (t268.length : Int) := of_decide_eq_true y0_6
        obtain ⟨ad275, A275_1, c275_1, e275, hx275_0, hx275_1, hl275_1, hi275_1⟩ := at_T95 (Kd.S_reads' HO271.out).2.2 (ji14) p275 q275
        obtain rfl : ad272 = ad275 := (by injection e275)
        obtain ⟨ce275, hce275, hMe275, hcc275⟩ := Kd.S_get HO271.out z95 (ji14) p275 (by first | exact q275 | exact of_decide_eq_true y0_6 | (have e_ := (Kd.S_reads' HO271.out).1; omega))
        obtain ⟨ve275_1, rfl, ge275_1⟩ := k95_openM hMe275
        have hv275_1 := hcc275 1 _ rfl
        rw [add_field _ _ 1 (by omega)] at hv275_1
        replace hv275_1 := Option.some.inj (hv275_1.symm.trans hx275_1)
        rw [hv275_1] at ge275_1
        have HL275_1 := Aside0.mk (show Kd.R k150 150 _ _ _ _ ((rd_T95 t268 (ji14)).f1) from ge275_1)
        clear hv275_1 ge275_1
        clear hcc275 hce275
        have HR275_1 := Aside0.mk hi275_1
        have HC275_1 := Aside0.mk hl275_1
        clear hi275_1 hl275_1
        replace p275 := eq_true p275
        replace q275 := eq_true q275
        go_wp2
        repeat (go_quiet (fail); try go_wp2)
        go_meet
        case rel => exact ⟨_, ((((rd_T95 t268 (ji10)).f0) != (wrap64 (((rd_T95 t268 (ji14)).f0) + 1)))), (by first | rfl | (simp; done) | (simp only [← hji10, ← hji14] <;> (first | rfl | simp)) | (simp [*]; done)), H', ⟨y0_8⟩, ⟨bI HB.out⟩⟩
      · rw [if_neg c13] at H
        have c13b0 : (((rd_T95 t268 (ji7)).f0) == (wrap64 (((rd_T95 t268 (ji10)).f0) + 1))) = false := beq_eq_false_iff_ne.mpr c13
        have c13b1 : (((rd_T95 t268 (ji7)).f0) != (wrap64 (((rd_T95 t268 (ji10)).f0) + 1))) = true := bne_iff_ne.mpr c13
        have H' := Aside0.mk H
        clear H
        have p272 : 0 ≤ ((ji7) : Int) := of_decide_eq_true y0_6
        have q272 : (ji7) < (t268.length : Int) := of_decide_eq_true y0_6
        obtain ⟨ad272, A272_1, c272_1, e272, hx272_0, hx272_1, hl272_1, hi272_1⟩ := at_T95 (Kd.S_reads' HO271.out).2.2 (ji7) p272 q272
        cases e272
        obtain ⟨ce272, hce272, hMe272, hcc272⟩ := Kd.S_get HO271.out z95 (ji7) p272 (by first | exact q272 | exact of_decide_eq_true y0_6 | (have e_ := (Kd.S_reads' HO271.out).1; omega))
        obtain ⟨ve272_1, rfl, ge272_1⟩ := k95_openM hMe272
        have hv272_1 := hcc272 1 _ rfl
        rw [add_field _ _ 1 (by omega)] at hv272_1
        replace hv272_1 := Option.some.inj (hv272_1.symm.trans hx272_1)
        rw [hv272_1] at ge272_1
        have HL272_1 := Aside0.mk (show Kd.R k150 150 _ _ _ _ ((rd_T95 t268 (ji7)).f1) from ge272_1)
        clear hv272_1 ge272_1
        clear hcc272 hce272
        have HR272_1 := Aside0.mk hi272_1
        have HC272_1 := Aside0.mk hl272_1
        clear hi272_1 hl272_1
        replace p272 := eq_true p272
        replace q272 := eq_true q272
        have p273 : 0 ≤ ((ji10) : Int) := of_decide_eq_true y0_6
        have q273 : (ji10) < (t268.length : Int) := of_decide_eq_true y0_6
        obtain ⟨ad273, A273_1, c273_1, e273, hx273_0, hx273_1, hl273_1, hi273_1⟩ := at_T95 (Kd.S_reads' HO271.out).2.2 (ji10) p273 q273
        obtain rfl : ad272 = ad273 := (by injection e273)
        obtain ⟨ce273, hce273, hMe273, hcc273⟩ := Kd.S_get HO271.out z95 (ji10) p273 (by first | exact q273 | exact of_decide_eq_true y0_6 | (have e_ := (Kd.S_reads' HO271.out).1; omega))
        obtain ⟨ve273_1, rfl, ge273_1⟩ := k95_openM hMe273
        have hv273_1 := hcc273 1 _ rfl
        rw [add_field _ _ 1 (by omega)] at hv273_1
        replace hv273_1 := Option.some.inj (hv273_1.symm.trans hx273_1)
        rw [hv273_1] at ge273_1
        have HL273_1 := Aside0.mk (show Kd.R k150 150 _ _ _ _ ((rd_T95 t268 (ji10)).f1) from ge273_1)
        clear hv273_1 ge273_1
        clear hcc273 hce273
        have HR273_1 := Aside0.mk hi273_1
        have HC273_1 := Aside0.mk hl273_1
        clear hi273_1 hl273_1
        replace p273 := eq_true p273
        replace q273 := eq_true q273
        go_wp2
        repeat (go_quiet (fail); try go_wp2)
        go_meet
        case rel => exact ⟨_, (true), y0_7, H', ⟨y0_8⟩, ⟨bI HB.out⟩⟩
  case rest =>
    clear HC3
    try clear c1
    try clear c2
    try clear p2
    try clear q2
    try clear hx2
    try clear c6
    try clear c6b0
    try clear c6b1
    try clear p6
    try clear c8
    try clear c8b0
    try clear c9
    try clear c9b0
    try clear c11
    try clear c11b0
    try clear c12
    try clear c12b0
    try clear c13
    try clear c13b0
    try clear c13b1
    try clear c15
    try clear c15b0
    try clear c16
    try clear c16b0
    try clear hx272_0
    try clear hx272_1
    try clear hx273_0
    try clear hx273_1
    try clear hx274_0
    try clear hx274_1
    try clear hx275_0
    try clear hx275_1
    try clear p272
    try clear p273
    try clear p274
    try clear p275
    try clear q272
    try clear q273
    try clear q274
    try clear q275
    obtain ⟨kq, x47_2, rfl, HA, HJ2, HB⟩ := hcut
    cases kq with
    | zero => exact absurd HA.out (by simp [impl_Settles.j0])
    | succ kj2 =>
      have H := HA.out
      clear HA
      simp only [impl_Settles.j0] at H
      by_cases c17 : x47_2 = true
      · subst c17
        rw [if_pos rfl] at H
        simp only [Option.some.injEq, Prod.mk.injEq] at H
        obtain ⟨rfl, rfl⟩ := H
        go_wp2
        repeat (go_quiet (fail); try go_wp2)
        go_ret2
        exact ⟨y0_4, bI HB.out⟩
      · replace c17 := Bool.eq_false_iff.mpr c17
        subst c17
        rw [if_neg (show ¬ (false = true) by decide)] at H
        obtain ⟨t276, A180, H⟩ := Option.bind_eq_some_iff.mp H
        try dsimp only at H
        have A18 := Aside0.mk A180
        clear A180
        obtain ⟨t277, A190, H⟩ := Option.bind_eq_some_iff.mp H
        try dsimp only at H
        have A19 := Aside0.mk A190
        clear A190
        simp only [Option.some.injEq, Prod.mk.injEq] at H
        obtain ⟨rfl, rfl⟩ := H
        go_wp2_with (first | (go_at_call 68; (with_reducible refine (impl_UpOf.calls kj2 a0 t276 _ A18.out).mono ?_); rintro e w20 ⟨rfl, hb⟩; replace HB := bs HB hb; (try clear hb); (try clear hb2); (try clear hk); (try clear hi)) | (go_at_call 68; (with_reducible refine (impl_UpOf.calls kj2 t276 t277 _ A19.out).mono ?_); rintro e w21 ⟨rfl, hb⟩; replace HB := bs HB hb; (try clear hb); (try clear hb2); (try clear hk); (try clear hi)))
        repeat (go_quiet (first | (go_at_call 68; (with_reducible refine (impl_UpOf.calls kj2 a0 t276 _ A18.out).mono ?_); rintro e w20 ⟨rfl, hb⟩; replace HB := bs HB hb; (try clear hb); (try clear hb2); (try clear hk); (try clear hi)) | (go_at_call 68; (with_reducible refine (impl_UpOf.calls kj2 t276 t277 _ A19.out).mono ?_); rintro e w21 ⟨rfl, hb⟩; replace HB := bs HB hb; (try clear hb); (try clear hb2); (try clear hk); (try clear hi))); try go_wp2_with (first | (go_at_call 68; (with_reducible refine (impl_UpOf.calls kj2 a0 t276 _ A18.out).mono ?_); rintro e w20 ⟨rfl, hb⟩; replace HB := bs HB hb; (try clear hb); (try clear hb2); (try clear hk); (try clear hi)) | (go_at_call 68; (with_reducible refine (impl_UpOf.calls kj2 t276 t277 _ A19.out).mono ?_); rintro e w21 ⟨rfl, hb⟩; replace HB := bs HB hb; (try clear hb); (try clear hb2); (try clear hk); (try clear hi))))
        go_ret2
        exact ⟨y0_4, bI HB.out⟩

/-! ### laws_FnExactSettles: function 3 -/
def laws_FnExactSettles.f (k : Nat) (a0 : ByteArray) : Option (Bool) := if (a0.size : Int) > 1048576 then (some true) else ((spec_Settles.f k a0).bind fun bt278 => ((impl_Settles.f k a0).bind fun bt280 => (if bt280.1.toList = bt278.1.toList then (if (bt280.2 != bt278.2) = true then (some false) else (some true)) else (some false))))
theorem laws_FnExactSettles.mono : ∀ a0 k, LeO (laws_FnExactSettles.f k a0) (laws_FnExactSettles.f (k + 1) a0) := by
  intro a0 k
  unfold laws_FnExactSettles.f
  repeat' first
      | (with_reducible exact impl_Settles.mono _ _)
      | (with_reducible exact spec_Settles.mono _ _)
      | (with_reducible exact LeO.refl _)
      | (with_reducible exact LeO.none _)
      | (with_reducible refine LeO.ite ?_ ?_)
      | (with_reducible refine LeO.bind ?_ (fun _ => ?_))
      | exact impl_Settles.mono _ _
      | exact spec_Settles.mono _ _
      | exact LeO.none _
      | refine LeO.ite ?_ ?_
      | refine LeO.bind ?_ (fun _ => ?_)
set_option maxHeartbeats 8000000 in
set_option maxRecDepth 100000 in
theorem laws_FnExactSettles.calls (k : Nat) (a0 : ByteArray) (r : Bool) (hrt : Aside0 (r = true)) (w : World) (h : laws_FnExactSettles.f k a0 = some r) (hG : Glob w := by exact gG HG HB) :
    Calls Tryd.prog 3 #[.string a0] w fun e w' => e = .returned (.bool r) ∧ Below w.heap.size w w' := by
  have HG := Aside0.mk hG
  clear hG
  have HB := Aside0.mk (Below.refl w.heap.size w)
  have H : (if (a0.size : Int) > 1048576 then (some true) else ((spec_Settles.f k a0).bind fun bt278 => ((impl_Settles.f k a0).bind fun bt280 => (if bt280.1.toList = bt278.1.toList then (if (bt280.2 != bt278.2) = true then (some false) else (some true)) else (some false))))) = some r := h
  clear h
  by_cases c2 : (a0.size : Int) > 1048576
  · rw [if_pos c2] at H
    have c2b0 : decide (1048576 < (a0.size : Int)) = true := decide_eq_true c2
    have c2b1 : decide (1048576 < a0.size) = true := decide_eq_true (by omega)
    clear c2
    obtain rfl := Option.some.inj H
    go_enter Tryd.func3, Tryd.ntmps3
    go_wp2
    go_ret
    exact ⟨y0_4, bI HB.out⟩
  · rw [if_neg c2] at H
    have c2b0 : decide (1048576 < (a0.size : Int)) = false := decide_eq_false c2
    have c2b1 : decide (1048576 < a0.size) = false := decide_eq_false (by omega)
    clear c2
    obtain ⟨⟨t278, t279⟩, A30, H⟩ := Option.bind_eq_some_iff.mp H
    try dsimp only at H
    have A3 := Aside0.mk A30
    clear A30
    obtain ⟨⟨t280, t281⟩, A40, H⟩ := Option.bind_eq_some_iff.mp H
    try dsimp only at H
    have A4 := Aside0.mk A40
    clear A40
    by_cases c5 : t280.toList = t278.toList
    · rw [if_pos c5] at H
      have c5b0 : (t280.toList == t278.toList) = true := beq_iff_eq.mpr c5
      have c5b1 : (t280.toList != t278.toList) = false := bne_eq_false_iff_eq.mpr c5
      clear c5
      by_cases c6 : (t281 != t279) = true
      · rw [if_pos c6] at H
        have c6b0 : (t281 != t279) = true := c6
        (try (have c6b1 : decide (t281 = t279) = false := by simpa using c6))
        (try (have c6b2 : (t281 == t279) = false := by simpa using c6))
        (try (have c6b3 : ¬ (t281 = t279) := by simpa using c6))
        clear c6
        exact absurd (hrt.out.symm.trans (Option.some.inj H).symm) (by decide)
      rw [if_neg c6] at H
      have c6b0 : (t281 != t279) = false := by simpa using c6
      (try (have c6b1 : decide (t281 = t279) = true := by simpa using c6))
      (try (have c6b2 : (t281 == t279) = true := by simpa using c6))
      clear c6
      obtain rfl := Option.some.inj H
      go_enter Tryd.func3, Tryd.ntmps3
      go_wp2_with (first | ((with_reducible refine gate_callee (f := 15) rfl ?_); refine gB (some 12) Tryd.func15 #[.string a0] ?_; (with_reducible refine (spec_Settles.calls k a0 t278 t279 _ A3.out).mono ?_); rintro e w7 ⟨rfl, hb⟩; refine ⟨_, rfl, ?_⟩; replace HB := bs HB hb; (try clear hb); (try clear hb2); (try clear hk); (try clear hi)) | ((with_reducible refine gate_callee (f := 16) rfl ?_); refine gB (some 17) Tryd.func16 #[.string a0] ?_; (with_reducible refine (impl_Settles.calls k a0 t280 t281 _ A4.out).mono ?_); rintro e w8 ⟨rfl, hb⟩; refine ⟨_, rfl, ?_⟩; replace HB := bs HB hb; (try clear hb); (try clear hb2); (try clear hk); (try clear hi)))
      go_ret
      exact ⟨y0_4, bI HB.out⟩
    · rw [if_neg c5] at H
      have c5b0 : (t280.toList == t278.toList) = false := beq_eq_false_iff_ne.mpr c5
      have c5b1 : (t280.toList != t278.toList) = true := bne_iff_ne.mpr c5
      exact absurd (hrt.out.symm.trans (Option.some.inj H).symm) (by decide)


end Go.Proofs.YtcmldmlmhpfjhaaDoor.PFnExactSettles
