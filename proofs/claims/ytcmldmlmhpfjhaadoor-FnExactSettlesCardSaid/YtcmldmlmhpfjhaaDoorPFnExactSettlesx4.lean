-- By a program of this session, out of the translation (the print of the kit, with turns of its own). Lean checks it.
import Derived.Test.YtcmldmlmhpfjhaaDoorPFnExactSettlesx0
import Derived.Test.YtcmldmlmhpfjhaaDoorPFnExactSettlesx3
namespace Go.Proofs.YtcmldmlmhpfjhaaDoor.PFnExactSettles
open Go.RowKit Go.Proofs.YtcmldmlmhpfjhaaDoorW.PrintWords Go.Proofs.YtcmldmlmhpfjhaaDoorW.PrintLast Go.Proofs.YtcmldmlmhpfjhaaDoorW.PrintMore
attribute [local go_sem] max2_int min2_int max_two min_two max_three min_three max_four min_four   -- for this text's walks alone
set_option linter.unusedVariables false
set_option linter.unusedSimpArgs false

/-! ### spec_Settles: function 15 -/
def spec_Settles.j0 : Nat → ByteArray → Bool → Option (ByteArray × Bool)
  | 0, _, _ => none
  | k + 1, x0, x51 => if x51 = true then (some ((⟨#[]⟩ : ByteArray), false)) else ((spec_UpOf.f k x0).bind fun t205 => ((spec_UpOf.f k t205).bind fun t206 => (some (t206, true))))
def spec_Settles.f (k : Nat) (a0 : ByteArray) : Option (ByteArray × Bool) := (spec_Steps.f k a0).bind fun bt197 => (if bt197.2 = true then (if (bt197.1.length : Int) < 3 then (spec_Settles.j0 k a0 true) else (if 0 ≤ (wrap64 ((bt197.1.length : Int) - 1)) then (if (wrap64 ((bt197.1.length : Int) - 1)) < (bt197.1.length : Int) then (if 0 ≤ (wrap64 ((bt197.1.length : Int) - 2)) then (if (wrap64 ((bt197.1.length : Int) - 2)) < (bt197.1.length : Int) then (if ((rd_T95 bt197.1 (wrap64 ((bt197.1.length : Int) - 1))).f0) = (wrap64 (((rd_T95 bt197.1 (wrap64 ((bt197.1.length : Int) - 2))).f0) + 1)) then (if 0 ≤ (wrap64 ((bt197.1.length : Int) - 3)) then (if (wrap64 ((bt197.1.length : Int) - 3)) < (bt197.1.length : Int) then (spec_Settles.j0 k a0 (((rd_T95 bt197.1 (wrap64 ((bt197.1.length : Int) - 2))).f0) != (wrap64 (((rd_T95 bt197.1 (wrap64 ((bt197.1.length : Int) - 3))).f0) + 1)))) else (none)) else (none)) else (spec_Settles.j0 k a0 true)) else (none)) else (none)) else (none)) else (none))) else (spec_Settles.j0 k a0 true))
theorem spec_Settles.mono_l : ∀ k, (∀ y0 y1, LeO (spec_Settles.j0 k y0 y1) (spec_Settles.j0 (k + 1) y0 y1))
  | 0 => fun _ _ r h => by simp [spec_Settles.j0] at h
  | k + 1 => by
    have ih0 := spec_Settles.mono_l k
    · intro y0 y1
      unfold spec_Settles.j0
      repeat' first
      | (with_reducible exact ih0 _ _)
      | (with_reducible exact spec_Steps.mono _ _)
      | (with_reducible exact spec_UpOf.mono _ _)
      | (with_reducible exact LeO.refl _)
      | (with_reducible exact LeO.none _)
      | (with_reducible refine LeO.ite ?_ ?_)
      | (with_reducible refine LeO.bind ?_ (fun _ => ?_))
      | exact ih0 _ _
      | exact spec_Steps.mono _ _
      | exact spec_UpOf.mono _ _
      | exact LeO.none _
      | refine LeO.ite ?_ ?_
      | refine LeO.bind ?_ (fun _ => ?_)
theorem spec_Settles.mono : ∀ a0 k, LeO (spec_Settles.f k a0) (spec_Settles.f (k + 1) a0) := by
  intro a0 k
  have ih0 := spec_Settles.mono_l k
  unfold spec_Settles.f
  repeat' first
      | (with_reducible exact ih0 _ _)
      | (with_reducible exact spec_Steps.mono _ _)
      | (with_reducible exact spec_UpOf.mono _ _)
      | (with_reducible exact LeO.refl _)
      | (with_reducible exact LeO.none _)
      | (with_reducible refine LeO.ite ?_ ?_)
      | (with_reducible refine LeO.bind ?_ (fun _ => ?_))
      | exact ih0 _ _
      | exact spec_Steps.mono _ _
      | exact spec_UpOf.mono _ _
      | exact LeO.none _
      | refine LeO.ite ?_ ?_
      | refine LeO.bind ?_ (fun _ => ?_)
set_option maxHeartbeats 8000000 in
set_option maxRecDepth 100000 in
theorem spec_Settles.calls (k : Nat) (a0 : ByteArray) (r1 : ByteArray) (r2 : Bool) (w : World) (h : spec_Settles.f k a0 = some (r1, r2)) :
    Calls Tryd.prog 15 #[.string a0] w fun e w' => e = .returned (.tuple #[.string r1, .bool r2]) ∧ Below w.heap.size w w' := by
  have HB := Aside0.mk (Below.refl w.heap.size w)
  have H : ((spec_Steps.f k a0).bind fun bt197 => (if bt197.2 = true then (if (bt197.1.length : Int) < 3 then (spec_Settles.j0 k a0 true) else (if 0 ≤ (wrap64 ((bt197.1.length : Int) - 1)) then (if (wrap64 ((bt197.1.length : Int) - 1)) < (bt197.1.length : Int) then (if 0 ≤ (wrap64 ((bt197.1.length : Int) - 2)) then (if (wrap64 ((bt197.1.length : Int) - 2)) < (bt197.1.length : Int) then (if ((rd_T95 bt197.1 (wrap64 ((bt197.1.length : Int) - 1))).f0) = (wrap64 (((rd_T95 bt197.1 (wrap64 ((bt197.1.length : Int) - 2))).f0) + 1)) then (if 0 ≤ (wrap64 ((bt197.1.length : Int) - 3)) then (if (wrap64 ((bt197.1.length : Int) - 3)) < (bt197.1.length : Int) then (spec_Settles.j0 k a0 (((rd_T95 bt197.1 (wrap64 ((bt197.1.length : Int) - 2))).f0) != (wrap64 (((rd_T95 bt197.1 (wrap64 ((bt197.1.length : Int) - 3))).f0) + 1)))) else (none)) else (none)) else (spec_Settles.j0 k a0 true)) else (none)) else (none)) else (none)) else (none))) else (spec_Settles.j0 k a0 true))) = some (r1, r2) := h
  clear h
  obtain ⟨⟨t197, t198⟩, A20, H⟩ := Option.bind_eq_some_iff.mp H
  try dsimp only at H
  have A2 := Aside0.mk A20
  clear A20
  have HC3 := Aside0.mk H
  clear H
  go_enter Tryd.func15, Tryd.ntmps15
  go_upto_region 3 with (first | (go_at_call 65; (with_reducible refine (spec_Steps.calls k a0 t197 t198 _ A2.out).mono ?_); rintro e w4 ⟨v199, rfl, ho0, hb⟩; have HO200 := Aside0.mk (Kd.S_lower ho0 (below_size (bI HB.out))); replace HB := bs HB hb; (try clear hb); (try clear ho0); obtain ⟨Ao5, co5, eo5⟩ := Kd.S_slice HO200.out; subst eo5))
  repeat (go_quiet (first | (go_at_call 65; (with_reducible refine (spec_Steps.calls k a0 t197 t198 _ A2.out).mono ?_); rintro e w4 ⟨v199, rfl, ho0, hb⟩; have HO200 := Aside0.mk (Kd.S_lower ho0 (below_size (bI HB.out))); replace HB := bs HB hb; (try clear hb); (try clear ho0); obtain ⟨Ao5, co5, eo5⟩ := Kd.S_slice HO200.out; subst eo5)); go_upto_region 3 with (first | (go_at_call 65; (with_reducible refine (spec_Steps.calls k a0 t197 t198 _ A2.out).mono ?_); rintro e w4 ⟨v199, rfl, ho0, hb⟩; have HO200 := Aside0.mk (Kd.S_lower ho0 (below_size (bI HB.out))); replace HB := bs HB hb; (try clear hb); (try clear ho0); obtain ⟨Ao5, co5, eo5⟩ := Kd.S_slice HO200.out; subst eo5)))
  (try simp only [Act.put, List.setIfInBounds_toArray, List.set_cons_zero, List.set_cons_succ])
  go_cut [51] (fun v51 wc => ∃ (kq : Nat) (x51_2 : Bool), v51 = .bool x51_2 ∧ Aside0 (spec_Settles.j0 kq a0 x51_2 = some (r1, r2)) ∧ Aside0 (kq ≤ k) ∧ Aside0 (Below w.heap.size w wc))
  case first =>
    have H := HC3.out
    clear HC3
    by_cases c6 : t198 = true
    · subst c6
      rw [if_pos rfl] at H
      by_cases c7 : (t197.length : Int) < 3
      · rw [if_pos c7] at H
        have c7b0 : decide ((t197.length : Int) < 3) = true := decide_eq_true c7
        have c7b1 : decide (t197.length < 3) = true := decide_eq_true (by omega)
        clear c7
        (first | rw [c7b0] | (simp only [i64_w, i32_w]; rw [c7b0]) | skip)
        have H' := Aside0.mk H
        clear H
        go_wp2
        repeat (go_quiet (fail); try go_wp2)
        go_meet
        case rel => exact ⟨_, (true), y0_7, H', ⟨y0_8⟩, ⟨bI HB.out⟩⟩
      · rw [if_neg c7] at H
        have c7b0 : decide ((t197.length : Int) < 3) = false := decide_eq_false c7
        have c7b1 : decide (t197.length < 3) = false := decide_eq_false (by omega)
        clear c7
        (first | rw [c7b0] | (simp only [i64_w, i32_w]; rw [c7b0]) | skip)
        obtain ⟨ji8, hji8⟩ : ∃ j_ : Int, (wrap64 ((t197.length : Int) - 1)) = j_ := ⟨_, rfl⟩
        replace H : (if 0 ≤ (ji8) then (if (ji8) < (t197.length : Int) then (if 0 ≤ (wrap64 ((t197.length : Int) - 2)) then (if (wrap64 ((t197.length : Int) - 2)) < (t197.length : Int) then (if ((rd_T95 t197 (ji8)).f0) = (wrap64 (((rd_T95 t197 (wrap64 ((t197.length : Int) - 2))).f0) + 1)) then (if 0 ≤ (wrap64 ((t197.length : Int) - 3)) then (if (wrap64 ((t197.length : Int) - 3)) < (t197.length : Int) then (spec_Settles.j0 k a0 (((rd_T95 t197 (wrap64 ((t197.length : Int) - 2))).f0) != (wrap64 (((rd_T95 t197 (wrap64 ((t197.length : Int) - 3))).f0) + 1)))) else (none)) else (none)) else (spec_Settles.j0 k a0 true)) else (none)) else (none)) else (none)) else (none)) = some (r1, r2) := by first | (rw [hji8] at H; exact H) | (simp only [hji8] at H ⊢; exact H)
        have hji8w : (IntKind.i64.wrap ((t197.length : Int) - 1)) = ji8 := (i64_w _).trans hji8
        by_cases c9 : 0 ≤ (ji8)
        rotate_left
        · rw [if_neg c9] at H
          exact absurd H (by simp)
        rw [if_pos c9] at H
        have c9b0 : decide (0 ≤ (ji8)) = true := decide_eq_true c9
        clear c9
        by_cases c10 : (ji8) < (t197.length : Int)
        rotate_left
        · rw [if_neg c10] at H
          exact absurd H (by simp)
        rw [if_pos c10] at H
        have c10b0 : decide ((ji8) < (t197.length : Int)) = true := decide_eq_true c10
        clear c10
        obtain ⟨ji11, hji11⟩ : ∃ j_ : Int, (wrap64 ((t197.length : Int) - 2)) = j_ := ⟨_, rfl⟩
        replace H : (if 0 ≤ (ji11) then (if (ji11) < (t197.length : Int) then (if ((rd_T95 t197 (ji8)).f0) = (wrap64 (((rd_T95 t197 (ji11)).f0) + 1)) then (if 0 ≤ (wrap64 ((t197.length : Int) - 3)) then (if (wrap64 ((t197.length : Int) - 3)) < (t197.length : Int) then (spec_Settles.j0 k a0 (((rd_T95 t197 (ji11)).f0) != (wrap64 (((rd_T95 t197 (wrap64 ((t197.length : Int) - 3))).f0) + 1)))) else (none)) else (none)) else (spec_Settles.j0 k a0 true)) else (none)) else (none)) = some (r1, r2) := by first | (rw [hji11] at H; exact H) | (simp only [hji11] at H ⊢; exact H)
        have hji11w : (IntKind.i64.wrap ((t197.length : Int) - 2)) = ji11 := (i64_w _).trans hji11
        by_cases c12 : 0 ≤ (ji11)
        rotate_left
        · rw [if_neg c12] at H
          exact absurd H (by simp)
        rw [if_pos c12] at H
        have c12b0 : decide (0 ≤ (ji11)) = true := decide_eq_true c12
        clear c12
        by_cases c13 : (ji11) < (t197.length : Int)
        rotate_left
        · rw [if_neg c13] at H
          exact absurd H (by simp)
        rw [if_pos c13] at H
        have c13b0 : decide ((ji11) < (t197.length : Int)) = true := decide_eq_true c13
        clear c13
        by_cases c14 : ((rd_T95 t197 (ji8)).f0) = (wrap64 (((rd_T95 t197 (ji11)).f0) + 1))
        · rw [if_pos c14] at H
          have c14b0 : (((rd_T95 t197 (ji8)).f0) == (wrap64 (((rd_T95 t197 (ji11)).f0) + 1))) = true := beq_iff_eq.mpr c14
          have c14b1 : (((rd_T95 t197 (ji8)).f0) != (wrap64 (((rd_T95 t197 (ji11)).f0) + 1))) = false := bne_eq_false_iff_eq.mpr c14
          clear c14
          obtain ⟨ji15, hji15⟩ : ∃ j_ : Int, (wrap64 ((t197.length : Int) - 3)) = j_ := ⟨_, rfl⟩
          replace H : (if 0 ≤ (ji15) then (if (ji15) < (t197.length : Int) then (spec_Settles.j0 k a0 (((rd_T95 t197 (ji11)).f0) != (wrap64 (((rd_T95 t197 (ji15)).f0) + 1)))) else (none)) else (none)) = some (r1, r2) := by first | (rw [hji15] at H; exact H) | (simp only [hji15] at H ⊢; exact H)
          have hji15w : (IntKind.i64.wrap ((t197.length : Int) - 3)) = ji15 := (i64_w _).trans hji15
          by_cases c16 : 0 ≤ (ji15)
          rotate_left
          · rw [if_neg c16] at H
            exact absurd H (by simp)
          rw [if_pos c16] at H
          have c16b0 : decide (0 ≤ (ji15)) = true := decide_eq_true c16
          clear c16
          by_cases c17 : (ji15) < (t197.length : Int)
          rotate_left
          · rw [if_neg c17] at H
            exact absurd H (by simp)
          rw [if_pos c17] at H
          have c17b0 : decide ((ji15) < (t197.length : Int)) = true := decide_eq_true c17
          clear c17
          have H' := Aside0.mk H
          clear H
          have p201 : 0 ≤ ((ji8) : Int) := of_decide_eq_true y0_6
          have q201 : (ji8) < (t197.length : Int) := of_decide_eq_true y0_6
          obtain ⟨ad201, A201_1, c201_1, e201, hx201_0, hx201_1, hl201_1, hi201_1⟩ := at_T95 (Kd.S_reads' HO200.out).2.2 (ji8) p201 q201
          cases e201
          obtain ⟨ce201, hce201, hMe201, hcc201⟩ := Kd.S_get HO200.out z95 (ji8) p201 (by first | exact q201 | exact of_decide_eq_true y0_6 | (have e_ := (Kd.S_reads' HO200.out).1; omega))
          obtain ⟨ve201_1, rfl, ge201_1⟩ := k95_openM hMe201
          have hv201_1 := hcc201 1 _ rfl
          rw [add_field _ _ 1 (by omega)] at hv201_1
          replace hv201_1 := Option.some.inj (hv201_1.symm.trans hx201_1)
          rw [hv201_1] at ge201_1
          have HL201_1 := Aside0.mk (show Kd.R k150 150 _ _ _ _ ((rd_T95 t197 (ji8)).f1) from ge201_1)
          clear hv201_1 ge201_1
          clear hcc201 hce201
          have HR201_1 := Aside0.mk hi201_1
          have HC201_1 := Aside0.mk hl201_1
          clear hi201_1 hl201_1
          replace p201 := eq_true p201
          replace q201 := eq_true q201
          have p202 : 0 ≤ ((ji11) : Int) := of_decide_eq_true y0_6
          have q202 : (ji11) < (t197.length : Int) := of_decide_eq_true y0_6
          obtain ⟨ad202, A202_1, c202_1, e202, hx202_0, hx202_1, hl202_1, hi202_1⟩ := at_T95 (Kd.S_reads' HO200.out).2.2 (ji11) p202 q202
          obtain rfl : ad201 = ad202 := (by injection e202)
          obtain ⟨ce202, hce202, hMe202, hcc202⟩ := Kd.S_get HO200.out z95 (ji11) p202 (by first | exact q202 | exact of_decide_eq_true y0_6 | (have e_ := (Kd.S_reads' HO200.out).1; omega))
          obtain ⟨ve202_1, rfl, ge202_1⟩ := k95_openM hMe202
          have hv202_1 := hcc202 1 _ rfl
          rw [add_field _ _ 1 (by omega)] at hv202_1
          replace hv202_1 := Option.some.inj (hv202_1.symm.trans hx202_1)
          rw [hv202_1] at ge202_1
          have HL202_1 := Aside0.mk (show Kd.R k150 150 _ _ _ _ ((rd_T95 t197 (ji11)).f1) from ge202_1)
          clear hv202_1 ge202_1
          clear hcc202 hce202
          have HR202_1 := Aside0.mk hi202_1
          have HC202_1 := Aside0.mk hl202_1
          clear hi202_1 hl202_1
          replace p202 := eq_true p202
          replace q202 := eq_true q202
          have p203 : 0 ≤ ((ji11) : Int) := of_decide_eq_true y0_6
          have q203 : (ji11) < (t197.length : Int) := of_decide_eq_true y0_6
          obtain ⟨ad203, A203_1, c203_1, e203, hx203_0, hx203_1, hl203_1, hi203_1⟩ := at_T95 (Kd.S_reads' HO200.out).2.2 (ji11) p203 q203
          obtain rfl : ad201 = ad203 := (by injection e203)
          obtain ⟨ce203, hce203, hMe203, hcc203⟩ := Kd.S_get HO200.out z95 (ji11) p203 (by first | exact q203 | exact of_decide_eq_true y0_6 | (have e_ := (Kd.S_reads' HO200.out).1; omega))
          obtain ⟨ve203_1, rfl, ge203_1⟩ := k95_openM hMe203
          have hv203_1 := hcc203 1 _ rfl
          rw [add_field _ _ 1 (by omega)] at hv203_1
          replace hv203_1 := Option.some.inj (hv203_1.symm.trans hx203_1)
          rw [hv203_1] at ge203_1
          have HL203_1 := Aside0.mk (show Kd.R k150 150 _ _ _ _ ((rd_T95 t197 (ji11)).f1) from ge203_1)
          clear hv203_1 ge203_1
          clear hcc203 hce203
          have HR203_1 := Aside0.mk hi203_1
          have HC203_1 := Aside0.mk hl203_1
          clear hi203_1 hl203_1
          replace p203 := eq_true p203
          replace q203 := eq_true q203
          have ea_ := Option.some.inj (hx202_1.symm.trans hx203_1)
          injection ea_ with ea_ en_ ec_
          subst ea_
          subst ec_
          clear en_
          have p204 : 0 ≤ ((ji15) : Int) := of_decide_eq_true y0_6
          have q204 : (ji15) < (t197.length : Int) := of_decide_eq_true y0_6
          obtain ⟨ad204, A204_1, c204_1, e204, hx204_0, hx204_1, hl204_1, hi204_1⟩ := at_T95 (Kd.S_reads' HO200.out).2.2 (ji15) p204 q204
          obtain rfl : ad201 = ad204 := (by injection e204)
          obtain ⟨ce204, hce204, hMe204, hcc204⟩ := Kd.S_get HO200.out z95 (ji15) p204 (by first | exact q204 | exact of_decide_eq_true y0_6 | (have e_ := (Kd.S_reads' HO200.out).1; omega))
          obtain ⟨ve204_1, rfl, ge204_1⟩ := k95_openM hMe204
          have hv204_1 := hcc204 1 _ rfl
          rw [add_field _ _ 1 (by omega)] at hv204_1
          replace hv204_1 := Option.some.inj (hv204_1.symm.trans hx204_1)
          rw [hv204_1] at ge204_1
          have HL204_1 := Aside0.mk (show Kd.R k150 150 _ _ _ _ ((rd_T95 t197 (ji15)).f1) from ge204_1)
          clear hv204_1 ge204_1
          clear hcc204 hce204
          have HR204_1 := Aside0.mk hi204_1
          have HC204_1 := Aside0.mk hl204_1
          clear hi204_1 hl204_1
          replace p204 := eq_true p204
          replace q204 := eq_true q204
          go_wp2
          repeat (go_quiet (fail); try go_wp2)
          go_meet
          case rel => exact ⟨_, ((((rd_T95 t197 (ji11)).f0) != (wrap64 (((rd_T95 t197 (ji15)).f0) + 1)))), (by first | rfl | (simp; done) | (simp only [← hji11, ← hji15] <;> (first | rfl | simp)) | (simp [*]; done)), H', ⟨y0_8⟩, ⟨bI HB.out⟩⟩
        · rw [if_neg c14] at H
          have c14b0 : (((rd_T95 t197 (ji8)).f0) == (wrap64 (((rd_T95 t197 (ji11)).f0) + 1))) = false := beq_eq_false_iff_ne.mpr c14
          have c14b1 : (((rd_T95 t197 (ji8)).f0) != (wrap64 (((rd_T95 t197 (ji11)).f0) + 1))) = true := bne_iff_ne.mpr c14
          have H' := Aside0.mk H
          clear H
          have p201 : 0 ≤ ((ji8) : Int) := of_decide_eq_true y0_6
          have q201 : (ji8) < (t197.length : Int) := of_decide_eq_true y0_6
          obtain ⟨ad201, A201_1, c201_1, e201, hx201_0, hx201_1, hl201_1, hi201_1⟩ := at_T95 (Kd.S_reads' HO200.out).2.2 (ji8) p201 q201
          cases e201
          obtain ⟨ce201, hce201, hMe201, hcc201⟩ := Kd.S_get HO200.out z95 (ji8) p201 (by first | exact q201 | exact of_decide_eq_true y0_6 | (have e_ := (Kd.S_reads' HO200.out).1; omega))
          obtain ⟨ve201_1, rfl, ge201_1⟩ := k95_openM hMe201
          have hv201_1 := hcc201 1 _ rfl
          rw [add_field _ _ 1 (by omega)] at hv201_1
          replace hv201_1 := Option.some.inj (hv201_1.symm.trans hx201_1)
          rw [hv201_1] at ge201_1
          have HL201_1 := Aside0.mk (show Kd.R k150 150 _ _ _ _ ((rd_T95 t197 (ji8)).f1) from ge201_1)
          clear hv201_1 ge201_1
          clear hcc201 hce201
          have HR201_1 := Aside0.mk hi201_1
          have HC201_1 := Aside0.mk hl201_1
          clear hi201_1 hl201_1
          replace p201 := eq_true p201
          replace q201 := eq_true q201
          have p202 : 0 ≤ ((ji11) : Int) := of_decide_eq_true y0_6
          have q202 : (ji11) < (t197.length : Int) := of_decide_eq_true y0_6
          obtain ⟨ad202, A202_1, c202_1, e202, hx202_0, hx202_1, hl202_1, hi202_1⟩ := at_T95 (Kd.S_reads' HO200.out).2.2 (ji11) p202 q202
          obtain rfl : ad201 = ad202 := (by injection e202)
          obtain ⟨ce202, hce202, hMe202, hcc202⟩ := Kd.S_get HO200.out z95 (ji11) p202 (by first | exact q202 | exact of_decide_eq_true y0_6 | (have e_ := (Kd.S_reads' HO200.out).1; omega))
          obtain ⟨ve202_1, rfl, ge202_1⟩ := k95_openM hMe202
          have hv202_1 := hcc202 1 _ rfl
          rw [add_field _ _ 1 (by omega)] at hv202_1
          replace hv202_1 := Option.some.inj (hv202_1.symm.trans hx202_1)
          rw [hv202_1] at ge202_1
          have HL202_1 := Aside0.mk (show Kd.R k150 150 _ _ _ _ ((rd_T95 t197 (ji11)).f1) from ge202_1)
          clear hv202_1 ge202_1
          clear hcc202 hce202
          have HR202_1 := Aside0.mk hi202_1
          have HC202_1 := Aside0.mk hl202_1
          clear hi202_1 hl202_1
          replace p202 := eq_true p202
          replace q202 := eq_true q202
          go_wp2
          repeat (go_quiet (fail); try go_wp2)
          go_meet
          case rel => exact ⟨_, (true), y0_7, H', ⟨y0_8⟩, ⟨bI HB.out⟩⟩
    · replace c6 := Bool.eq_false_iff.mpr c6
      subst c6
      rw [if_neg (show ¬ (false = true) by decide)] at H
      have H' := Aside0.mk H
      clear H
      go_wp2
      repeat (go_quiet (fail); try go_wp2)
      go_meet
      case rel => exact ⟨_, (true), y0_7, H', ⟨y0_8⟩, ⟨bI HB.out⟩⟩
  case rest =>
    clear HC3
    try clear c1
    try clear c2
    try clear p2
    try clear q2
    try clear hx2
    try clear c6
    try clear p6
    try clear c7
    try clear c7b0
    try clear c7b1
    try clear c9
    try clear c9b0
    try clear c10
    try clear c10b0
    try clear c12
    try clear c12b0
    try clear c13
    try clear c13b0
    try clear c14
    try clear c14b0
    try clear c14b1
    try clear c15
    try clear c16
    try clear c16b0
    try clear c17
    try clear c17b0
    try clear hx201_0
    try clear hx201_1
    try clear hx202_0
    try clear hx202_1
    try clear hx203_0
    try clear hx203_1
    try clear hx204_0
    try clear hx204_1
    try clear p201
    try clear p202
    try clear p203
    try clear p204
    try clear q201
    try clear q202
    try clear q203
    try clear q204
    obtain ⟨kq, x51_2, rfl, HA, HJ2, HB⟩ := hcut
    cases kq with
    | zero => exact absurd HA.out (by simp [spec_Settles.j0])
    | succ kj2 =>
      have H := HA.out
      clear HA
      simp only [spec_Settles.j0] at H
      by_cases c18 : x51_2 = true
      · subst c18
        rw [if_pos rfl] at H
        simp only [Option.some.injEq, Prod.mk.injEq] at H
        obtain ⟨rfl, rfl⟩ := H
        go_wp2
        repeat (go_quiet (fail); try go_wp2)
        go_ret2
        exact ⟨y0_4, bI HB.out⟩
      · replace c18 := Bool.eq_false_iff.mpr c18
        subst c18
        rw [if_neg (show ¬ (false = true) by decide)] at H
        obtain ⟨t205, A190, H⟩ := Option.bind_eq_some_iff.mp H
        try dsimp only at H
        have A19 := Aside0.mk A190
        clear A190
        obtain ⟨t206, A200, H⟩ := Option.bind_eq_some_iff.mp H
        try dsimp only at H
        have A20 := Aside0.mk A200
        clear A200
        simp only [Option.some.injEq, Prod.mk.injEq] at H
        obtain ⟨rfl, rfl⟩ := H
        go_wp2_with (first | (go_at_call 66; (with_reducible refine (spec_UpOf.calls kj2 a0 t205 _ A19.out).mono ?_); rintro e w21 ⟨rfl, hb⟩; replace HB := bs HB hb; (try clear hb); (try clear hb2); (try clear hk); (try clear hi)) | (go_at_call 66; (with_reducible refine (spec_UpOf.calls kj2 t205 t206 _ A20.out).mono ?_); rintro e w22 ⟨rfl, hb⟩; replace HB := bs HB hb; (try clear hb); (try clear hb2); (try clear hk); (try clear hi)))
        repeat (go_quiet (first | (go_at_call 66; (with_reducible refine (spec_UpOf.calls kj2 a0 t205 _ A19.out).mono ?_); rintro e w21 ⟨rfl, hb⟩; replace HB := bs HB hb; (try clear hb); (try clear hb2); (try clear hk); (try clear hi)) | (go_at_call 66; (with_reducible refine (spec_UpOf.calls kj2 t205 t206 _ A20.out).mono ?_); rintro e w22 ⟨rfl, hb⟩; replace HB := bs HB hb; (try clear hb); (try clear hb2); (try clear hk); (try clear hi))); try go_wp2_with (first | (go_at_call 66; (with_reducible refine (spec_UpOf.calls kj2 a0 t205 _ A19.out).mono ?_); rintro e w21 ⟨rfl, hb⟩; replace HB := bs HB hb; (try clear hb); (try clear hb2); (try clear hk); (try clear hi)) | (go_at_call 66; (with_reducible refine (spec_UpOf.calls kj2 t205 t206 _ A20.out).mono ?_); rintro e w22 ⟨rfl, hb⟩; replace HB := bs HB hb; (try clear hb); (try clear hb2); (try clear hk); (try clear hi))))
        go_ret2
        exact ⟨y0_4, bI HB.out⟩

/-! ### impl_within: function 77 -/
def impl_within.f (a0 : Int) (a1 : Int) (a2 : Int) : Option (Bool) := if a0 ≥ a1 then (some (decide (a0 ≤ a2))) else (some false)
set_option maxHeartbeats 8000000 in
set_option maxRecDepth 100000 in
theorem impl_within.calls (a0 : Int) (a1 : Int) (a2 : Int) (r : Bool) (w : World) (h : impl_within.f a0 a1 a2 = some r) :
    Calls Tryd.prog 77 #[.int .i64 a0, .int .i64 a1, .int .i64 a2] w fun e w' => e = .returned (.bool r) ∧ Drawn0 w w' := by
  have H : (if a0 ≥ a1 then (some (decide (a0 ≤ a2))) else (some false)) = some r := h
  clear h
  by_cases c4 : a0 ≥ a1
  · rw [if_pos c4] at H
    have c4b0 : decide (a1 ≤ a0) = true := decide_eq_true c4
    clear c4
    obtain rfl := Option.some.inj H
    go_enter Tryd.func77, Tryd.ntmps77
    go_wp2
    go_ret
    exact ⟨y0_7, y0_5⟩
  · rw [if_neg c4] at H
    have c4b0 : decide (a1 ≤ a0) = false := decide_eq_false c4
    clear c4
    obtain rfl := Option.some.inj H
    go_enter Tryd.func77, Tryd.ntmps77
    go_wp2
    go_ret
    exact ⟨y0_7, y0_5⟩

/-! ### strings_Split: function 131 -/

/-! ### impl_Split: function 107 -/
def impl_Split.f (a0 : ByteArray) (a1 : Int) : Option (List ByteArray) := (strings_Split.f a0 (strOfNums (([a1] : List Int)))).bind fun t210 => (some t210)
set_option maxHeartbeats 8000000 in
set_option maxRecDepth 100000 in
theorem impl_Split.calls (a0 : ByteArray) (a1 : Int) (r : List ByteArray) (w : World) (h : impl_Split.f a0 a1 = some r) (hG : Glob w := by exact gG HG HB) :
    Calls Tryd.prog 107 #[.string a0, .int .u8 a1] w fun e w' => ∃ v0_ : Value, e = .returned (v0_) ∧ Kd.R Kd.string 9 w' w.heap.size (fun _ => True) v0_ r ∧ Below w.heap.size w w' := by
  have HG := Aside0.mk hG
  clear hG
  have HB := Aside0.mk (Below.refl w.heap.size w)
  have H : ((strings_Split.f a0 (strOfNums (([a1] : List Int)))).bind fun t210 => (some t210)) = some r := h
  clear h
  obtain ⟨y207, hy207⟩ : ∃ y_ : List Int, y_ = (([a1] : List Int)) := ⟨_, rfl⟩
  replace H : ((strings_Split.f a0 (strOfNums y207)).bind fun t210 => (some t210)) = some r := by first | (rw [hy207]; with_reducible exact H) | (have H2_ := (Option.bind_some _ _).symm.trans H; rw [hy207]; with_reducible exact H2_) | (have H2_ := (Option.bind_some _ _).symm.trans H; with_reducible exact H2_) | with_reducible exact H | (rw [hy207]; exact H) | exact H
  have Ny207 := Aside0.mk hy207
  clear hy207
  obtain ⟨t210, A30, H⟩ := Option.bind_eq_some_iff.mp H
  try dsimp only at H
  have A3 := Aside0.mk A30
  clear A30
  obtain rfl := Option.some.inj H
  go_enter Tryd.func107, Tryd.ntmps107
  go_wp2_with (first | ((with_reducible refine gate_dst (N := 7) rfl ?_); refine Kd.R_lit (Kd.int .u8) _ 5 ?hg (N := 7) ?hd (xs := ([a1] : List Int)) (inner := [.int .u8 a1]) (ok := fun _ => True) (okp := fun _ => True) ?hr ?hp (fun _ hk => hk) trivial (Below.refl _ _) (Nat.le_refl _) (by simp) ?_; (case hd => rfl); (case hg => rfl); (case hr => first | (go_simp; done) | (go_simp; rfl)); (case hp => exact (Reps.one (show Kd.M (Kd.int .u8) _ _ _ a1 [.int .u8 a1] from rfl) (Reps.none _ _))); intro v208 w4 ho5 hb hg_ hnew_; clear hg_ hnew_; (first | rw [← Ny207.out] at ho5 | (simp only [Int.reduceToNat] at ho5; rw [← Ny207.out] at ho5)); have HO209 := Aside0.mk (Kd.R_lower ho5 (below_size (bI HB.out))); replace HB := bs HB hb; clear hb ho5; have hcv6 := own_string (P := Tryd.prog) Tryd.underlying74 Tryd.underlying5 Tryd.underlying9 (Kd.own_of_R HO209.out)) | ((with_reducible refine gate_callee (f := 131) rfl ?_); refine gB (some 9) Tryd.func131 #[.string a0, .string (strOfNums y207)] ?_; (with_reducible refine (strings_Split.calls a0 (strOfNums y207) t210 _ A3.out).mono ?_); rintro e w7 ⟨v211, rfl, ho0, hb⟩; refine ⟨_, rfl, ?_⟩; replace HO209 := rb HO209 hb; have HO212 := Aside0.mk (Kd.R_lower ho0 (below_size (bI HB.out))); replace HB := bs HB hb; (try clear hb); (try clear ho0)))
  go_ret
  exact ⟨_, y0_4, by (with_reducible repeat (first | apply Kd.R_alloc | apply Kd.R_drewN | apply Kd.R_drew)); exact HO212.out, bI HB.out⟩

/-! ### strings_Cut: function 108 -/

/-! ### strconv_Itoa_150: function 150 -/

/-! ### impl_Digits: function 133 -/
def impl_Digits.f (a0 : Int) : Option (ByteArray) := (strconv_Itoa_150.f a0).bind fun t213 => (some t213)
set_option maxHeartbeats 8000000 in
set_option maxRecDepth 100000 in
theorem impl_Digits.calls (a0 : Int) (r : ByteArray) (w : World) (h : impl_Digits.f a0 = some r) (hG : Glob w := by exact gG HG HB) :
    Calls Tryd.prog 133 #[.int .i64 a0] w fun e w' => e = .returned (.string r) ∧ Below w.heap.size w w' := by
  have HG := Aside0.mk hG
  clear hG
  have HB := Aside0.mk (Below.refl w.heap.size w)
  have H : ((strconv_Itoa_150.f a0).bind fun t213 => (some t213)) = some r := h
  clear h
  obtain ⟨t213, A20, H⟩ := Option.bind_eq_some_iff.mp H
  try dsimp only at H
  have A2 := Aside0.mk A20
  clear A20
  obtain rfl := Option.some.inj H
  go_enter Tryd.func133, Tryd.ntmps133
  go_wp2_with (first | ((with_reducible refine gate_callee (f := 150) rfl ?_); refine gB (some 4) Tryd.func150 #[.int .i64 a0] ?_; (with_reducible refine (strconv_Itoa_150.calls a0 t213 _ A2.out).mono ?_); rintro e w3 ⟨rfl, hb⟩; refine ⟨_, rfl, ?_⟩; replace HB := bs HB hb; (try clear hb); (try clear hb2); (try clear hk); (try clear hi)))
  go_ret
  exact ⟨y0_4, bI HB.out⟩

/-! ### impl_Number: function 109 -/
mutual
def impl_Number.j0 : Nat → ByteArray → Bool → Option (Int × Bool)
  | 0, _, _ => none
  | k + 1, x0, x13 => if x13 = true then (some (0, false)) else (impl_Number.l0 k x0 0 0)
def impl_Number.l0 : Nat → ByteArray → Int → Int → Option (Int × Bool)
  | 0, _, _, _ => none
  | k + 1, x0, x4, x5 => if x5 < (x0.size : Int) then (if 0 ≤ x5 then (if (bt x0 x5) < 48 then (some (0, false)) else (if (bt x0 x5) > 57 then (some (0, false)) else (impl_Number.l0 k x0 (wrap64 ((wrap64 (10 * x4)) + (((bt x0 x5) - 48) % 256))) (wrap64 (x5 + 1))))) else (none)) else ((impl_Digits.f x4).bind fun t214 => (if t214.toList = x0.toList then (some (x4, true)) else (some (0, false))))
end
def impl_Number.f (k : Nat) (a0 : ByteArray) : Option (Int × Bool) := if (a0.size : Int) < 1 then (impl_Number.j0 k a0 true) else (impl_Number.j0 k a0 (decide ((a0.size : Int) > 6)))
theorem impl_Number.mono_l : ∀ k, (∀ y0 y1, LeO (impl_Number.j0 k y0 y1) (impl_Number.j0 (k + 1) y0 y1)) ∧ (∀ y0 y1 y2, LeO (impl_Number.l0 k y0 y1 y2) (impl_Number.l0 (k + 1) y0 y1 y2))
  | 0 => ⟨fun _ _ r h => by simp [impl_Number.j0] at h, fun _ _ _ r h => by simp [impl_Number.l0] at h⟩
  | k + 1 => by
    obtain ⟨ih0, ih1⟩ := impl_Number.mono_l k
    refine ⟨?_, ?_⟩
    · intro y0 y1
      unfold impl_Number.j0
      repeat' first
      | (with_reducible exact ih0 _ _)
      | (with_reducible exact ih1 _ _ _)
      | (with_reducible exact LeO.refl _)
      | (with_reducible exact LeO.none _)
      | (with_reducible refine LeO.ite ?_ ?_)
      | (with_reducible refine LeO.bind ?_ (fun _ => ?_))
      | exact ih0 _ _
      | exact ih1 _ _ _
      | exact LeO.none _
      | refine LeO.ite ?_ ?_
      | refine LeO.bind ?_ (fun _ => ?_)
    · intro y0 y1 y2
      unfold impl_Number.l0
      repeat' first
      | (with_reducible exact ih0 _ _)
      | (with_reducible exact ih1 _ _ _)
      | (with_reducible exact LeO.refl _)
      | (with_reducible exact LeO.none _)
      | (with_reducible refine LeO.ite ?_ ?_)
      | (with_reducible refine LeO.bind ?_ (fun _ => ?_))
      | exact ih0 _ _
      | exact ih1 _ _ _
      | exact LeO.none _
      | refine LeO.ite ?_ ?_
      | refine LeO.bind ?_ (fun _ => ?_)
theorem impl_Number.mono : ∀ a0 k, LeO (impl_Number.f k a0) (impl_Number.f (k + 1) a0) := by
  intro a0 k
  obtain ⟨ih0, ih1⟩ := impl_Number.mono_l k
  unfold impl_Number.f
  repeat' first
      | (with_reducible exact ih0 _ _)
      | (with_reducible exact ih1 _ _ _)
      | (with_reducible exact LeO.refl _)
      | (with_reducible exact LeO.none _)
      | (with_reducible refine LeO.ite ?_ ?_)
      | (with_reducible refine LeO.bind ?_ (fun _ => ?_))
      | exact ih0 _ _
      | exact ih1 _ _ _
      | exact LeO.none _
      | refine LeO.ite ?_ ?_
      | refine LeO.bind ?_ (fun _ => ?_)
set_option maxHeartbeats 8000000 in
set_option maxRecDepth 100000 in
theorem impl_Number.calls (k : Nat) (a0 : ByteArray) (r1 : Int) (r2 : Bool) (w : World) (h : impl_Number.f k a0 = some (r1, r2)) (hG : Glob w := by exact gG HG HB) :
    Calls Tryd.prog 109 #[.string a0] w fun e w' => e = .returned (.tuple #[.int .i64 r1, .bool r2]) ∧ Below w.heap.size w w' := by
  have HG := Aside0.mk hG
  clear hG
  have HB := Aside0.mk (Below.refl w.heap.size w)
  have H : (if (a0.size : Int) < 1 then (impl_Number.j0 k a0 true) else (impl_Number.j0 k a0 (decide ((a0.size : Int) > 6)))) = some (r1, r2) := h
  clear h
  have HC2 := Aside0.mk H
  clear H
  go_enter Tryd.func109, Tryd.ntmps109
  go_upto_region 1 with (fail)
  go_cut [13] (fun v13 wc => ∃ (kq : Nat) (x13_1 : Bool), v13 = .bool x13_1 ∧ Aside0 (impl_Number.j0 kq a0 x13_1 = some (r1, r2)) ∧ Aside0 (kq ≤ k) ∧ Aside0 (Below w.heap.size w wc))
  case first =>
    have H := HC2.out
    clear HC2
    by_cases c3 : (a0.size : Int) < 1
    · rw [if_pos c3] at H
      have c3b0 : decide ((a0.size : Int) < 1) = true := decide_eq_true c3
      have c3b1 : decide (a0.size < 1) = true := decide_eq_true (by omega)
      clear c3
      (first | rw [c3b0] | (simp only [i64_w, i32_w]; rw [c3b0]) | skip)
      have H' := Aside0.mk H
      clear H
      go_wp2
      go_meet
      case rel => exact ⟨_, (true), y0_7, H', ⟨y0_8⟩, ⟨bI HB.out⟩⟩
    · rw [if_neg c3] at H
      have c3b0 : decide ((a0.size : Int) < 1) = false := decide_eq_false c3
      have c3b1 : decide (a0.size < 1) = false := decide_eq_false (by omega)
      clear c3
      (first | rw [c3b0] | (simp only [i64_w, i32_w]; rw [c3b0]) | skip)
      have H' := Aside0.mk H
      clear H
      go_wp2
      go_meet
      case rel => exact ⟨_, (decide ((a0.size : Int) > 6)), y0_7, H', ⟨y0_8⟩, ⟨bI HB.out⟩⟩
  case rest =>
    clear HC2
    try clear c1
    try clear p2
    try clear c3
    try clear c3b0
    try clear c3b1
    obtain ⟨kq, x13_1, rfl, HA, HJ1, HB⟩ := hcut
    cases kq with
    | zero => exact absurd HA.out (by simp [impl_Number.j0])
    | succ kj1 =>
      have H := HA.out
      clear HA
      simp only [impl_Number.j0] at H
      by_cases c4 : x13_1 = true
      · subst c4
        rw [if_pos rfl] at H
        simp only [Option.some.injEq, Prod.mk.injEq] at H
        obtain ⟨rfl, rfl⟩ := H
        go_wp2
        go_ret2
        exact ⟨y0_4, bI HB.out⟩
      · replace c4 := Bool.eq_false_iff.mpr c4
        subst c4
        rw [if_neg (show ¬ (false = true) by decide)] at H
        have H' := Aside0.mk H
        clear H
        go_wp2
        go_loopg [4, 5] kj1 (fun kq v4 v5 w' => ∃ (x4_2 : Int) (x5_2 : Int), v4 = .int .i64 x4_2 ∧ v5 = .int .i64 x5_2 ∧ Aside0 (impl_Number.l0 kq a0 x4_2 x5_2 = some (r1, r2)) ∧ Aside0 (kq ≤ kj1) ∧ Aside0 (Below w.heap.size w w'))
        case atStart => exact ⟨(0), (0), y0_7, y0_7, H', ⟨Nat.le_refl _⟩, ⟨bI HB.out⟩⟩
        case round =>
          clear H'
          try clear c1
          try clear p2
          try clear c3
          try clear c3b0
          try clear c3b1
          try clear c4
          try clear p2
          obtain ⟨x4_2, x5_2, rfl, rfl, HA, HK2, HB⟩ := hrel
          cases gk with
          | zero => exact absurd HA.out (by simp [impl_Number.l0])
          | succ k2 =>
            have H := HA.out
            clear HA
            simp only [impl_Number.l0] at H
            by_cases c5 : x5_2 < (a0.size : Int)
            · rw [if_pos c5] at H
              have c5b0 : decide (x5_2 < (a0.size : Int)) = true := decide_eq_true c5
              clear c5
              by_cases c6 : 0 ≤ x5_2
              rotate_left
              · rw [if_neg c6] at H
                exact absurd H (by simp)
              rw [if_pos c6] at H
              have c6b0 : decide (0 ≤ x5_2) = true := decide_eq_true c6
              clear c6
              by_cases c8 : (bt a0 x5_2) < 48
              · rw [if_pos c8] at H
                have c8b0 : decide ((bt a0 x5_2) < 48) = true := decide_eq_true c8
                clear c8
                simp only [Option.some.injEq, Prod.mk.injEq] at H
                obtain ⟨rfl, rfl⟩ := H
                have p7 : 0 ≤ (x5_2 : Int) := of_decide_eq_true y0_6
                have q7 : x5_2 < (a0.size : Int) := of_decide_eq_true y0_6
                have hx7 := bt_at a0 x5_2
                replace p7 := eq_true p7
                replace q7 := eq_true q7
                go_wp2
                go_ret2
                exact ⟨y0_4, bI HB.out⟩
              · rw [if_neg c8] at H
                have c8b0 : decide ((bt a0 x5_2) < 48) = false := decide_eq_false c8
                clear c8
                by_cases c10 : (bt a0 x5_2) > 57
                · rw [if_pos c10] at H
                  have c10b0 : decide (57 < (bt a0 x5_2)) = true := decide_eq_true c10
                  clear c10
                  simp only [Option.some.injEq, Prod.mk.injEq] at H
                  obtain ⟨rfl, rfl⟩ := H
                  have p7 : 0 ≤ (x5_2 : Int) := of_decide_eq_true y0_6
                  have q7 : x5_2 < (a0.size : Int) := of_decide_eq_true y0_6
                  have hx7 := bt_at a0 x5_2
                  replace p7 := eq_true p7
                  replace q7 := eq_true q7
                  have p9 : 0 ≤ (x5_2 : Int) := of_decide_eq_true y0_6
                  have q9 : x5_2 < (a0.size : Int) := of_decide_eq_true y0_6
                  have hx9 := bt_at a0 x5_2
                  replace p9 := eq_true p9
                  replace q9 := eq_true q9
                  go_wp2
                  go_ret2
                  exact ⟨y0_4, bI HB.out⟩
                · rw [if_neg c10] at H
                  have c10b0 : decide (57 < (bt a0 x5_2)) = false := decide_eq_false c10
                  clear c10
                  have H' := Aside0.mk H
                  clear H
                  have p7 : 0 ≤ (x5_2 : Int) := of_decide_eq_true y0_6
                  have q7 : x5_2 < (a0.size : Int) := of_decide_eq_true y0_6
                  have hx7 := bt_at a0 x5_2
                  replace p7 := eq_true p7
                  replace q7 := eq_true q7
                  have p9 : 0 ≤ (x5_2 : Int) := of_decide_eq_true y0_6
                  have q9 : x5_2 < (a0.size : Int) := of_decide_eq_true y0_6
                  have hx9 := bt_at a0 x5_2
                  replace p9 := eq_true p9
                  replace q9 := eq_true q9
                  have p11 : 0 ≤ (x5_2 : Int) := of_decide_eq_true y0_6
                  have q11 : x5_2 < (a0.size : Int) := of_decide_eq_true y0_6
                  have hx11 := bt_at a0 x5_2
                  replace p11 := eq_true p11
                  replace q11 := eq_true q11
                  go_wp2
                  go_roundg k2
                  case measure => have := HJ1.out; have := HK2.out; omega
                  case rel => exact ⟨(wrap64 ((wrap64 (10 * x4_2)) + (((bt a0 x5_2) - 48) % 256))), (wrap64 (x5_2 + 1)), y0_7, y0_7, H', ⟨by have := HJ1.out; have := HK2.out; omega⟩, ⟨bI HB.out⟩⟩
            · rw [if_neg c5] at H
              have c5b0 : decide (x5_2 < (a0.size : Int)) = false := decide_eq_false c5
              clear c5
              obtain ⟨t214, A120, H⟩ := Option.bind_eq_some_iff.mp H
              try dsimp only at H
              have A12 := Aside0.mk A120
              clear A120
              by_cases c13 : t214.toList = a0.toList
              · rw [if_pos c13] at H
                have c13b0 : (t214.toList == a0.toList) = true := beq_iff_eq.mpr c13
                have c13b1 : (t214.toList != a0.toList) = false := bne_eq_false_iff_eq.mpr c13
                clear c13
                simp only [Option.some.injEq, Prod.mk.injEq] at H
                obtain ⟨rfl, rfl⟩ := H
                go_wp2_with (first | ((with_reducible refine gate_callee (f := 133) rfl ?_); refine gB (some 39) Tryd.func133 #[.int .i64 x4_2] ?_; (with_reducible refine (impl_Digits.calls x4_2 t214 _ A12.out).mono ?_); rintro e w14 ⟨rfl, hb⟩; refine ⟨_, rfl, ?_⟩; replace HB := bs HB hb; (try clear hb); (try clear hb2); (try clear hk); (try clear hi)))
                go_ret2
                exact ⟨y0_4, bI HB.out⟩
              · rw [if_neg c13] at H
                have c13b0 : (t214.toList == a0.toList) = false := beq_eq_false_iff_ne.mpr c13
                have c13b1 : (t214.toList != a0.toList) = true := bne_iff_ne.mpr c13
                simp only [Option.some.injEq, Prod.mk.injEq] at H
                obtain ⟨rfl, rfl⟩ := H
                go_wp2_with (first | ((with_reducible refine gate_callee (f := 133) rfl ?_); refine gB (some 39) Tryd.func133 #[.int .i64 x4_2] ?_; (with_reducible refine (impl_Digits.calls x4_2 t214 _ A12.out).mono ?_); rintro e w15 ⟨rfl, hb⟩; refine ⟨_, rfl, ?_⟩; replace HB := bs HB hb; (try clear hb); (try clear hb2); (try clear hk); (try clear hi)))
                go_ret2
                exact ⟨y0_4, bI HB.out⟩

/-! ### impl_TxOk: function 151 -/
def impl_TxOk.f (a0_0 : Int) (a0_1 : Int) (a0_2 : Int) (a0_3 : Int) : Option (Bool) := (impl_within.f a0_0 0 3).bind fun t216 => (if t216 = true then ((impl_within.f a0_1 0 3).bind fun t217 => (if t217 = true then ((impl_within.f a0_2 0 1000).bind fun t218 => (if t218 = true then ((impl_within.f a0_3 0 99).bind fun t219 => (some t219)) else (some false))) else (some false))) else (some false))
set_option maxHeartbeats 8000000 in
set_option maxRecDepth 100000 in
theorem impl_TxOk.calls (a0_0 : Int) (a0_1 : Int) (a0_2 : Int) (a0_3 : Int) (r : Bool) (w : World) (h : impl_TxOk.f a0_0 a0_1 a0_2 a0_3 = some r) :
    Calls Tryd.prog 151 #[.agg #[.int .i64 a0_0, .int .i64 a0_1, .int .i64 a0_2, .int .i64 a0_3]] w fun e w' => e = .returned (.bool r) ∧ Below w.heap.size w w' := by
  have hu150 := Tryd.underlying150
  have HB := Aside0.mk (Below.refl w.heap.size w)
  have H : ((impl_within.f a0_0 0 3).bind fun t216 => (if t216 = true then ((impl_within.f a0_1 0 3).bind fun t217 => (if t217 = true then ((impl_within.f a0_2 0 1000).bind fun t218 => (if t218 = true then ((impl_within.f a0_3 0 99).bind fun t219 => (some t219)) else (some false))) else (some false))) else (some false))) = some r := h
  clear h
  obtain ⟨t216, A20, H⟩ := Option.bind_eq_some_iff.mp H
  try dsimp only at H
  have A2 := Aside0.mk A20
  clear A20
  by_cases c3 : t216 = true
  · subst c3
    rw [if_pos rfl] at H
    obtain ⟨t217, A40, H⟩ := Option.bind_eq_some_iff.mp H
    try dsimp only at H
    have A4 := Aside0.mk A40
    clear A40
    by_cases c5 : t217 = true
    · subst c5
      rw [if_pos rfl] at H
      obtain ⟨t218, A60, H⟩ := Option.bind_eq_some_iff.mp H
      try dsimp only at H
      have A6 := Aside0.mk A60
      clear A60
      by_cases c7 : t218 = true
      · subst c7
        rw [if_pos rfl] at H
        obtain ⟨t219, A80, H⟩ := Option.bind_eq_some_iff.mp H
        try dsimp only at H
        have A8 := Aside0.mk A80
        clear A80
        obtain rfl := Option.some.inj H
        go_enter Tryd.func151, Tryd.ntmps151
        go_wp2_with (first | ((with_reducible refine gd 1 ?_); refine bA 1 #[.int .i64 a0_0, .int .i64 a0_1, .int .i64 a0_2, .int .i64 a0_3] 150 ?_; intro gb215 hg w9 hbox hb; have BK215 := Aside0.mk (hbox); have GW215 := bg hg HB; have GJ215 := gi GW215; have GE215 := GW215; replace HB := bs HB hb; clear hb hbox hg; obtain ⟨hcz10_0, hcz10_1, hcz10_2, hcz10_3, hfz10_0, hfz10_1, hfz10_2, hfz10_3⟩ := cs4 BK215) | ((with_reducible refine gate_callee (f := 77) rfl ?_); refine gB (some 5) Tryd.func77 #[.int .i64 a0_0, .int .i64 0, .int .i64 3] ?_; (with_reducible refine (impl_within.calls a0_0 0 3 true _ A2.out).mono ?_); rintro e w' ⟨rfl, ⟨nd, rfl⟩⟩; refine ⟨_, rfl, ?_⟩) | (go_at_call 77; (with_reducible refine (impl_within.calls a0_1 0 3 true _ A4.out).mono ?_); rintro e w' ⟨rfl, ⟨nd, rfl⟩⟩) | (go_at_call 77; (with_reducible refine (impl_within.calls a0_2 0 1000 true _ A6.out).mono ?_); rintro e w' ⟨rfl, ⟨nd, rfl⟩⟩) | (go_at_call 77; (with_reducible refine (impl_within.calls a0_3 0 99 t219 _ A8.out).mono ?_); rintro e w' ⟨rfl, ⟨nd, rfl⟩⟩))
        go_ret
        exact ⟨y0_4, bI HB.out⟩
      · replace c7 := Bool.eq_false_iff.mpr c7
        subst c7
        rw [if_neg (show ¬ (false = true) by decide)] at H
        obtain rfl := Option.some.inj H
        go_enter Tryd.func151, Tryd.ntmps151
        go_wp2_with (first | ((with_reducible refine gd 1 ?_); refine bA 1 #[.int .i64 a0_0, .int .i64 a0_1, .int .i64 a0_2, .int .i64 a0_3] 150 ?_; intro gb215 hg w11 hbox hb; have BK215 := Aside0.mk (hbox); have GW215 := bg hg HB; have GJ215 := gi GW215; have GE215 := GW215; replace HB := bs HB hb; clear hb hbox hg; obtain ⟨hcz12_0, hcz12_1, hcz12_2, hcz12_3, hfz12_0, hfz12_1, hfz12_2, hfz12_3⟩ := cs4 BK215) | ((with_reducible refine gate_callee (f := 77) rfl ?_); refine gB (some 5) Tryd.func77 #[.int .i64 a0_0, .int .i64 0, .int .i64 3] ?_; (with_reducible refine (impl_within.calls a0_0 0 3 true _ A2.out).mono ?_); rintro e w' ⟨rfl, ⟨nd, rfl⟩⟩; refine ⟨_, rfl, ?_⟩) | (go_at_call 77; (with_reducible refine (impl_within.calls a0_1 0 3 true _ A4.out).mono ?_); rintro e w' ⟨rfl, ⟨nd, rfl⟩⟩) | (go_at_call 77; (with_reducible refine (impl_within.calls a0_2 0 1000 false _ A6.out).mono ?_); rintro e w' ⟨rfl, ⟨nd, rfl⟩⟩))
        go_ret
        exact ⟨y0_4, bI HB.out⟩
    · replace c5 := Bool.eq_false_iff.mpr c5
      subst c5
      rw [if_neg (show ¬ (false = true) by decide)] at H
      obtain rfl := Option.some.inj H
      go_enter Tryd.func151, Tryd.ntmps151
      go_wp2_with (first | ((with_reducible refine gd 1 ?_); refine bA 1 #[.int .i64 a0_0, .int .i64 a0_1, .int .i64 a0_2, .int .i64 a0_3] 150 ?_; intro gb215 hg w13 hbox hb; have BK215 := Aside0.mk (hbox); have GW215 := bg hg HB; have GJ215 := gi GW215; have GE215 := GW215; replace HB := bs HB hb; clear hb hbox hg; obtain ⟨hcz14_0, hcz14_1, hcz14_2, hcz14_3, hfz14_0, hfz14_1, hfz14_2, hfz14_3⟩ := cs4 BK215) | ((with_reducible refine gate_callee (f := 77) rfl ?_); refine gB (some 5) Tryd.func77 #[.int .i64 a0_0, .int .i64 0, .int .i64 3] ?_; (with_reducible refine (impl_within.calls a0_0 0 3 true _ A2.out).mono ?_); rintro e w' ⟨rfl, ⟨nd, rfl⟩⟩; refine ⟨_, rfl, ?_⟩) | (go_at_call 77; (with_reducible refine (impl_within.calls a0_1 0 3 false _ A4.out).mono ?_); rintro e w' ⟨rfl, ⟨nd, rfl⟩⟩))
      go_ret
      exact ⟨y0_4, bI HB.out⟩
  · replace c3 := Bool.eq_false_iff.mpr c3
    subst c3
    rw [if_neg (show ¬ (false = true) by decide)] at H
    obtain rfl := Option.some.inj H
    go_enter Tryd.func151, Tryd.ntmps151
    go_wp2_with (first | ((with_reducible refine gd 1 ?_); refine bA 1 #[.int .i64 a0_0, .int .i64 a0_1, .int .i64 a0_2, .int .i64 a0_3] 150 ?_; intro gb215 hg w15 hbox hb; have BK215 := Aside0.mk (hbox); have GW215 := bg hg HB; have GJ215 := gi GW215; have GE215 := GW215; replace HB := bs HB hb; clear hb hbox hg; obtain ⟨hcz16_0, hcz16_1, hcz16_2, hcz16_3, hfz16_0, hfz16_1, hfz16_2, hfz16_3⟩ := cs4 BK215) | ((with_reducible refine gate_callee (f := 77) rfl ?_); refine gB (some 5) Tryd.func77 #[.int .i64 a0_0, .int .i64 0, .int .i64 3] ?_; (with_reducible refine (impl_within.calls a0_0 0 3 false _ A2.out).mono ?_); rintro e w' ⟨rfl, ⟨nd, rfl⟩⟩; refine ⟨_, rfl, ?_⟩))
    go_ret
    exact ⟨y0_4, bI HB.out⟩

end Go.Proofs.YtcmldmlmhpfjhaaDoor.PFnExactSettles
