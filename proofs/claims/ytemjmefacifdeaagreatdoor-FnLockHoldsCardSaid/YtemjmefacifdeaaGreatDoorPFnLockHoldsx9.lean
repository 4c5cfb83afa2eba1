-- By a program of this session, out of the translation (the print of the kit, with turns of its own). Lean checks it.
import Derived.Test.YtemjmefacifdeaaGreatDoorPFnLockHoldsx0
import Derived.Test.YtemjmefacifdeaaGreatDoorPFnLockHoldsx3
import Derived.Test.YtemjmefacifdeaaGreatDoorPFnLockHoldsx4
import Derived.Test.YtemjmefacifdeaaGreatDoorPFnLockHoldsx7
import Derived.Test.YtemjmefacifdeaaGreatDoorPFnLockHoldsx8
namespace Go.Proofs.YtemjmefacifdeaaGreatDoor.PFnLockHolds
open Go.RowKit Go.Proofs.YtemjmefacifdeaaGreatDoorW.PrintWords Go.Proofs.YtemjmefacifdeaaGreatDoorW.PrintLast Go.Proofs.YtemjmefacifdeaaGreatDoorW.PrintMore
attribute [local go_sem] max2_int min2_int max_two min_two max_three min_three max_four min_four   -- for this text's walks alone
attribute [local go_sem] cell_in frozen_in
set_option synthInstance.maxSize 1000000
set_option synthInstance.maxHeartbeats 2000000
set_option linter.unusedVariables false
set_option linter.unusedSimpArgs false

/-! ### spec_Settles: function 69 -/
def spec_Settles.j0 : Nat → ByteArray → Bool → Option (ByteArray × Bool)
 | 0, _, _ => none
 | k + 1, x0, x51 => if x51 = true then (some ((⟨#[]⟩ : ByteArray), false)) else ((spec_UpOf.f k x0).bind fun t512 => ((spec_UpOf.f k t512).bind fun t513 => (some (t513, true))))
def spec_Settles.f (k : Nat) (a0 : ByteArray) : Option (ByteArray × Bool) := (spec_Steps.f k a0).bind fun bt504 => (if bt504.2 = true then (if (bt504.1.length : Int) < 3 then (spec_Settles.j0 k a0 true) else (if 0 ≤ (wrap64 ((bt504.1.length : Int) - 1)) then (if (wrap64 ((bt504.1.length : Int) - 1)) < (bt504.1.length : Int) then (if 0 ≤ (wrap64 ((bt504.1.length : Int) - 2)) then (if (wrap64 ((bt504.1.length : Int) - 2)) < (bt504.1.length : Int) then (if ((rd_T112 bt504.1 (wrap64 ((bt504.1.length : Int) - 1))).f0) = (wrap64 (((rd_T112 bt504.1 (wrap64 ((bt504.1.length : Int) - 2))).f0) + 1)) then (if 0 ≤ (wrap64 ((bt504.1.length : Int) - 3)) then (if (wrap64 ((bt504.1.length : Int) - 3)) < (bt504.1.length : Int) then (spec_Settles.j0 k a0 (((rd_T112 bt504.1 (wrap64 ((bt504.1.length : Int) - 2))).f0) != (wrap64 (((rd_T112 bt504.1 (wrap64 ((bt504.1.length : Int) - 3))).f0) + 1)))) else (none)) else (none)) else (spec_Settles.j0 k a0 true)) else (none)) else (none)) else (none)) else (none))) else (spec_Settles.j0 k a0 true))
theorem spec_Settles.mono_l : ∀ k, (∀ y0 y1, LeO (spec_Settles.j0 k y0 y1) (spec_Settles.j0 (k + 1) y0 y1))
 | 0 => fun _ _ r h => by simp [spec_Settles.j0] at h
 | k + 1 => by
  have ih0 := spec_Settles.mono_l k
  intro y0 y1
  unfold spec_Settles.j0
  repeat' first | (with_reducible exact ih0 _ _) | (with_reducible exact spec_Steps.mono _ _) | (with_reducible exact spec_UpOf.mono _ _) | (with_reducible exact LeO.refl _) | (with_reducible exact LeO.none _) | (with_reducible refine LeO.ite ?_ ?_) | (with_reducible refine LeO.bind ?_ (fun _ => ?_))
theorem spec_Settles.mono : ∀ a0 k, LeO (spec_Settles.f k a0) (spec_Settles.f (k + 1) a0) := by
 intro a0 k
 have ih0 := spec_Settles.mono_l k
 unfold spec_Settles.f
 repeat' first | (with_reducible exact ih0 _ _) | (with_reducible exact spec_Steps.mono _ _) | (with_reducible exact spec_UpOf.mono _ _) | (with_reducible exact LeO.refl _) | (with_reducible exact LeO.none _) | (with_reducible refine LeO.ite ?_ ?_) | (with_reducible refine LeO.bind ?_ (fun _ => ?_))
set_option maxHeartbeats 8000000 in
set_option maxRecDepth 100000 in
theorem spec_Settles.calls (k : Nat) (a0 : ByteArray) (r1 : ByteArray) (r2 : Bool) (w : World) (h : spec_Settles.f k a0 = some (r1, r2)) :
  Calls Tryz.prog 69 #[.string a0] w fun e w' => e = .returned (.tuple #[.string r1, .bool r2]) ∧ Below w.heap.size w w' := by
 have HB := Aside0.mk (Below.refl w.heap.size w)
 have H : ((spec_Steps.f k a0).bind fun bt504 => (if bt504.2 = true then (if (bt504.1.length : Int) < 3 then (spec_Settles.j0 k a0 true) else (if 0 ≤ (wrap64 ((bt504.1.length : Int) - 1)) then (if (wrap64 ((bt504.1.length : Int) - 1)) < (bt504.1.length : Int) then (if 0 ≤ (wrap64 ((bt504.1.length : Int) - 2)) then (if (wrap64 ((bt504.1.length : Int) - 2)) < (bt504.1.length : Int) then (if ((rd_T112 bt504.1 (wrap64 ((bt504.1.length : Int) - 1))).f0) = (wrap64 (((rd_T112 bt504.1 (wrap64 ((bt504.1.length : Int) - 2))).f0) + 1)) then (if 0 ≤ (wrap64 ((bt504.1.length : Int) - 3)) then (if (wrap64 ((bt504.1.length : Int) - 3)) < (bt504.1.length : Int) then (spec_Settles.j0 k a0 (((rd_T112 bt504.1 (wrap64 ((bt504.1.length : Int) - 2))).f0) != (wrap64 (((rd_T112 bt504.1 (wrap64 ((bt504.1.length : Int) - 3))).f0) + 1)))) else (none)) else (none)) else (spec_Settles.j0 k a0 true)) else (none)) else (none)) else (none)) else (none))) else (spec_Settles.j0 k a0 true))) = some (r1, r2) := h
 clear h; obtain ⟨⟨t504, t505⟩, A20, H⟩ := Option.bind_eq_some_iff.mp H
 try dsimp only at H
 have A2 := Aside0.mk A20; clear A20; have HC3 := Aside0.mk H; clear H
 go_enter Tryz.func69, Tryz.ntmps69
 go_upto_region 3 with (first | (go_at_call 103; (with_reducible refine (spec_Steps.calls k a0 t504 t505 _ A2.out).mono ?_); rintro e w4 ⟨v506, rfl, ho0, hb⟩; have HO507 := Aside0.mk (Kd.S_lower ho0 (below_size (bI HB.out))); replace HB := bs HB hb; (try clear hb); (try clear ho0); obtain ⟨Ao5, co5, eo5⟩ := Kd.S_slice HO507.out; subst eo5))
 repeat (go_quiet (first | (go_at_call 103; (with_reducible refine (spec_Steps.calls k a0 t504 t505 _ A2.out).mono ?_); rintro e w4 ⟨v506, rfl, ho0, hb⟩; have HO507 := Aside0.mk (Kd.S_lower ho0 (below_size (bI HB.out))); replace HB := bs HB hb; (try clear hb); (try clear ho0); obtain ⟨Ao5, co5, eo5⟩ := Kd.S_slice HO507.out; subst eo5)); go_upto_region 3 with (first | (go_at_call 103; (with_reducible refine (spec_Steps.calls k a0 t504 t505 _ A2.out).mono ?_); rintro e w4 ⟨v506, rfl, ho0, hb⟩; have HO507 := Aside0.mk (Kd.S_lower ho0 (below_size (bI HB.out))); replace HB := bs HB hb; (try clear hb); (try clear ho0); obtain ⟨Ao5, co5, eo5⟩ := Kd.S_slice HO507.out; subst eo5)))
 (try simp only [Act.put, List.setIfInBounds_toArray, List.set_cons_zero, List.set_cons_succ])
 go_cut [51] (fun v51 wc => ∃ (kq : Nat) (x51_2 : Bool), v51 = .bool x51_2 ∧ Aside0 (spec_Settles.j0 kq a0 x51_2 = some (r1, r2)) ∧ Aside0 (kq ≤ k) ∧ Aside0 (Below w.heap.size w wc))
 case first =>
  have H := HC3.out; clear HC3
  by_cases c6 : t505 = true
  ·
   subst c6
   rw [if_pos rfl] at H
   by_cases c7 : (t504.length : Int) < 3
   ·
    rw [if_pos c7] at H
    have c7b0 : decide ((t504.length : Int) < 3) = true := decide_eq_true c7
    have c7b1 : decide (t504.length < 3) = true := decide_eq_true (by omega)
    clear c7
    (first | rw [c7b0] | (simp only [i64_w, i32_w]; rw [c7b0]) | skip)
    have H' := Aside0.mk H; clear H
    go_wp2
    repeat (go_quiet (fail); try go_wp2)
    go_meet
    case rel => exact ⟨_, (true), y0_18, H', ⟨y0_19⟩, ⟨bI HB.out⟩⟩
   rw [if_neg c7] at H
   have c7b0 : decide ((t504.length : Int) < 3) = false := decide_eq_false c7
   have c7b1 : decide (t504.length < 3) = false := decide_eq_false (by omega)
   clear c7
   (first | rw [c7b0] | (simp only [i64_w, i32_w]; rw [c7b0]) | skip)
   obtain ⟨ji8, hji8⟩ : ∃ j_ : Int, (wrap64 ((t504.length : Int) - 1)) = j_ := ⟨_, rfl⟩
   replace H : (if 0 ≤ (ji8) then (if (ji8) < (t504.length : Int) then (if 0 ≤ (wrap64 ((t504.length : Int) - 2)) then (if (wrap64 ((t504.length : Int) - 2)) < (t504.length : Int) then (if ((rd_T112 t504 (ji8)).f0) = (wrap64 (((rd_T112 t504 (wrap64 ((t504.length : Int) - 2))).f0) + 1)) then (if 0 ≤ (wrap64 ((t504.length : Int) - 3)) then (if (wrap64 ((t504.length : Int) - 3)) < (t504.length : Int) then (spec_Settles.j0 k a0 (((rd_T112 t504 (wrap64 ((t504.length : Int) - 2))).f0) != (wrap64 (((rd_T112 t504 (wrap64 ((t504.length : Int) - 3))).f0) + 1)))) else (none)) else (none)) else (spec_Settles.j0 k a0 true)) else (none)) else (none)) else (none)) else (none)) = some (r1, r2) := by first | (rw [hji8] at H; exact H) | (simp only [hji8] at H ⊢; exact H)
   have hji8w : (IntKind.i64.wrap ((t504.length : Int) - 1)) = ji8 := (i64_w _).trans hji8
   by_cases c9 : 0 ≤ (ji8)
   rotate_left
   ·
    rw [if_neg c9] at H
    exact absurd H (by simp)
   rw [if_pos c9] at H
   have c9b0 : decide (0 ≤ (ji8)) = true := decide_eq_true c9; clear c9
   by_cases c10 : (ji8) < (t504.length : Int)
   rotate_left
   ·
    rw [if_neg c10] at H
    exact absurd H (by simp)
   rw [if_pos c10] at H
   have c10b0 : decide ((ji8) < (t504.length : Int)) = true := decide_eq_true c10; clear c10; obtain ⟨ji11, hji11⟩ : ∃ j_ : Int, (wrap64 ((t504.length : Int) - 2)) = j_ := ⟨_, rfl⟩
   replace H : (if 0 ≤ (ji11) then (if (ji11) < (t504.length : Int) then (if ((rd_T112 t504 (ji8)).f0) = (wrap64 (((rd_T112 t504 (ji11)).f0) + 1)) then (if 0 ≤ (wrap64 ((t504.length : Int) - 3)) then (if (wrap64 ((t504.length : Int) - 3)) < (t504.length : Int) then (spec_Settles.j0 k a0 (((rd_T112 t504 (ji11)).f0) != (wrap64 (((rd_T112 t504 (wrap64 ((t504.length : Int) - 3))).f0) + 1)))) else (none)) else (none)) else (spec_Settles.j0 k a0 true)) else (none)) else (none)) = some (r1, r2) := by first | (rw [hji11] at H; exact H) | (simp only [hji11] at H ⊢; exact H)
   have hji11w : (IntKind.i64.wrap ((t504.length : Int) - 2)) = ji11 := (i64_w _).trans hji11
   by_cases c12 : 0 ≤ (ji11)
   rotate_left
   ·
    rw [if_neg c12] at H
    exact absurd H (by simp)
   rw [if_pos c12] at H
   have c12b0 : decide (0 ≤ (ji11)) = true := decide_eq_true c12; clear c12
   by_cases c13 : (ji11) < (t504.length : Int)
   rotate_left
   ·
    rw [if_neg c13] at H
    exact absurd H (by simp)
   rw [if_pos c13] at H
   have c13b0 : decide ((ji11) < (t504.length : Int)) = true := decide_eq_true c13; clear c13
   by_cases c14 : ((rd_T112 t504 (ji8)).f0) = (wrap64 (((rd_T112 t504 (ji11)).f0) + 1))
   ·
    rw [if_pos c14] at H
    have c14b0 : (((rd_T112 t504 (ji8)).f0) == (wrap64 (((rd_T112 t504 (ji11)).f0) + 1))) = true := beq_iff_eq.mpr c14; have c14b1 : (((rd_T112 t504 (ji8)).f0) != (wrap64 (((rd_T112 t504 (ji11)).f0) + 1))) = false := bne_eq_false_iff_eq.mpr c14; clear c14; obtain ⟨ji15, hji15⟩ : ∃ j_ : Int, (wrap64 ((t504.length : Int) - 3)) = j_ := ⟨_, rfl⟩
    replace H : (if 0 ≤ (ji15) then (if (ji15) < (t504.length : Int) then (spec_Settles.j0 k a0 (((rd_T112 t504 (ji11)).f0) != (wrap64 (((rd_T112 t504 (ji15)).f0) + 1)))) else (none)) else (none)) = some (r1, r2) := by first | (rw [hji15] at H; exact H) | (simp only [hji15] at H ⊢; exact H)
    have hji15w : (IntKind.i64.wrap ((t504.length : Int) - 3)) = ji15 := (i64_w _).trans hji15
    by_cases c16 : 0 ≤ (ji15)
    rotate_left
    ·
     rw [if_neg c16] at H
     exact absurd H (by simp)
    rw [if_pos c16] at H
    have c16b0 : decide (0 ≤ (ji15)) = true := decide_eq_true c16; clear c16
    by_cases c17 : (ji15) < (t504.length : Int)
    rotate_left
    ·
     rw [if_neg c17] at H
     exact absurd H (by simp)
    rw [if_pos c17] at H
    have c17b0 : decide ((ji15) < (t504.length : Int)) = true := decide_eq_true c17; clear c17; have H' := Aside0.mk H; clear H; have p508 : 0 ≤ ((ji8) : Int) := of_decide_eq_true y0_17; have q508 : (ji8) < (t504.length : Int) := of_decide_eq_true y0_17; obtain ⟨ad508, A508_1, c508_1, e508, hx508_0, hx508_1, hl508_1, hi508_1⟩ := at_T112 (Kd.S_reads' HO507.out).2.2 (ji8) p508 q508; cases e508
    obtain ⟨ce508, hce508, hMe508, hcc508⟩ := Kd.S_get HO507.out z112 (ji8) p508 (by first | exact q508 | exact of_decide_eq_true y0_17 | (have e_ := (Kd.S_reads' HO507.out).1; omega))
    obtain ⟨ve508_1, rfl, ge508_1⟩ := k112_openM hMe508; have hv508_1 := hcc508 1 _ rfl
    rw [add_field _ _ 1 (by omega)] at hv508_1
    replace hv508_1 := Option.some.inj (hv508_1.symm.trans hx508_1)
    rw [hv508_1] at ge508_1
    have HL508_1 := Aside0.mk (show Kd.R k99 99 _ _ _ _ ((rd_T112 t504 (ji8)).f1) from ge508_1)
    clear hv508_1 ge508_1; clear hcc508 hce508; have HR508_1 := Aside0.mk hi508_1; have HC508_1 := Aside0.mk hl508_1; clear hi508_1 hl508_1; replace p508 := eq_true p508; replace q508 := eq_true q508; have p509 : 0 ≤ ((ji11) : Int) := of_decide_eq_true y0_17; have q509 : (ji11) < (t504.length : Int) := of_decide_eq_true y0_17; obtain ⟨ad509, A509_1, c509_1, e509, hx509_0, hx509_1, hl509_1, hi509_1⟩ := at_T112 (Kd.S_reads' HO507.out).2.2 (ji11) p509 q509
    obtain rfl : ad508 = ad509 := (by injection e509)
    obtain ⟨ce509, hce509, hMe509, hcc509⟩ := Kd.S_get HO507.out z112 (ji11) p509 (by first | exact q509 | exact of_decide_eq_true y0_17 | (have e_ := (Kd.S_reads' HO507.out).1; omega))
    obtain ⟨ve509_1, rfl, ge509_1⟩ := k112_openM hMe509; have hv509_1 := hcc509 1 _ rfl
    rw [add_field _ _ 1 (by omega)] at hv509_1
    replace hv509_1 := Option.some.inj (hv509_1.symm.trans hx509_1)
    rw [hv509_1] at ge509_1
    have HL509_1 := Aside0.mk (show Kd.R k99 99 _ _ _ _ ((rd_T112 t504 (ji11)).f1) from ge509_1)
    clear hv509_1 ge509_1; clear hcc509 hce509; have HR509_1 := Aside0.mk hi509_1; have HC509_1 := Aside0.mk hl509_1; clear hi509_1 hl509_1; replace p509 := eq_true p509; replace q509 := eq_true q509; have p510 : 0 ≤ ((ji11) : Int) := of_decide_eq_true y0_17; have q510 : (ji11) < (t504.length : Int) := of_decide_eq_true y0_17; obtain ⟨ad510, A510_1, c510_1, e510, hx510_0, hx510_1, hl510_1, hi510_1⟩ := at_T112 (Kd.S_reads' HO507.out).2.2 (ji11) p510 q510
    obtain rfl : ad508 = ad510 := (by injection e510)
    obtain ⟨ce510, hce510, hMe510, hcc510⟩ := Kd.S_get HO507.out z112 (ji11) p510 (by first | exact q510 | exact of_decide_eq_true y0_17 | (have e_ := (Kd.S_reads' HO507.out).1; omega))
    obtain ⟨ve510_1, rfl, ge510_1⟩ := k112_openM hMe510; have hv510_1 := hcc510 1 _ rfl
    rw [add_field _ _ 1 (by omega)] at hv510_1
    replace hv510_1 := Option.some.inj (hv510_1.symm.trans hx510_1)
    rw [hv510_1] at ge510_1
    have HL510_1 := Aside0.mk (show Kd.R k99 99 _ _ _ _ ((rd_T112 t504 (ji11)).f1) from ge510_1)
    clear hv510_1 ge510_1; clear hcc510 hce510; have HR510_1 := Aside0.mk hi510_1; have HC510_1 := Aside0.mk hl510_1; clear hi510_1 hl510_1; replace p510 := eq_true p510; replace q510 := eq_true q510; have ea_ := Option.some.inj (hx509_1.symm.trans hx510_1)
    injection ea_ with ea_ en_ ec_
    subst ea_; subst ec_; clear en_; have p511 : 0 ≤ ((ji15) : Int) := of_decide_eq_true y0_17; have q511 : (ji15) < (t504.length : Int) := of_decide_eq_true y0_17; obtain ⟨ad511, A511_1, c511_1, e511, hx511_0, hx511_1, hl511_1, hi511_1⟩ := at_T112 (Kd.S_reads' HO507.out).2.2 (ji15) p511 q511
    obtain rfl : ad508 = ad511 := (by injection e511)
    obtain ⟨ce511, hce511, hMe511, hcc511⟩ := Kd.S_get HO507.out z112 (ji15) p511 (by first | exact q511 | exact of_decide_eq_true y0_17 | (have e_ := (Kd.S_reads' HO507.out).1; omega))
    obtain ⟨ve511_1, rfl, ge511_1⟩ := k112_openM hMe511; have hv511_1 := hcc511 1 _ rfl
    rw [add_field _ _ 1 (by omega)] at hv511_1
    replace hv511_1 := Option.some.inj (hv511_1.symm.trans hx511_1)
    rw [hv511_1] at ge511_1
    have HL511_1 := Aside0.mk (show Kd.R k99 99 _ _ _ _ ((rd_T112 t504 (ji15)).f1) from ge511_1)
    clear hv511_1 ge511_1; clear hcc511 hce511; have HR511_1 := Aside0.mk hi511_1; have HC511_1 := Aside0.mk hl511_1; clear hi511_1 hl511_1; replace p511 := eq_true p511; replace q511 := eq_true q511
    go_wp2
    repeat (go_quiet (fail); try go_wp2)
    go_meet
    case rel => exact ⟨_, ((((rd_T112 t504 (ji11)).f0) != (wrap64 (((rd_T112 t504 (ji15)).f0) + 1)))), (by first | rfl | (simp; done) | (simp only [← hji11, ← hji15] <;> (first | rfl | simp)) | (simp [*]; done)), H', ⟨y0_19⟩, ⟨bI HB.out⟩⟩
   rw [if_neg c14] at H
   have c14b0 : (((rd_T112 t504 (ji8)).f0) == (wrap64 (((rd_T112 t504 (ji11)).f0) + 1))) = false := beq_eq_false_iff_ne.mpr c14; have c14b1 : (((rd_T112 t504 (ji8)).f0) != (wrap64 (((rd_T112 t504 (ji11)).f0) + 1))) = true := bne_iff_ne.mpr c14; have H' := Aside0.mk H; clear H; have p508 : 0 ≤ ((ji8) : Int) := of_decide_eq_true y0_17; have q508 : (ji8) < (t504.length : Int) := of_decide_eq_true y0_17; obtain ⟨ad508, A508_1, c508_1, e508, hx508_0, hx508_1, hl508_1, hi508_1⟩ := at_T112 (Kd.S_reads' HO507.out).2.2 (ji8) p508 q508; cases e508
   obtain ⟨ce508, hce508, hMe508, hcc508⟩ := Kd.S_get HO507.out z112 (ji8) p508 (by first | exact q508 | exact of_decide_eq_true y0_17 | (have e_ := (Kd.S_reads' HO507.out).1; omega))
   obtain ⟨ve508_1, rfl, ge508_1⟩ := k112_openM hMe508; have hv508_1 := hcc508 1 _ rfl
   rw [add_field _ _ 1 (by omega)] at hv508_1
   replace hv508_1 := Option.some.inj (hv508_1.symm.trans hx508_1)
   rw [hv508_1] at ge508_1
   have HL508_1 := Aside0.mk (show Kd.R k99 99 _ _ _ _ ((rd_T112 t504 (ji8)).f1) from ge508_1)
   clear hv508_1 ge508_1; clear hcc508 hce508; have HR508_1 := Aside0.mk hi508_1; have HC508_1 := Aside0.mk hl508_1; clear hi508_1 hl508_1; replace p508 := eq_true p508; replace q508 := eq_true q508; have p509 : 0 ≤ ((ji11) : Int) := of_decide_eq_true y0_17; have q509 : (ji11) < (t504.length : Int) := of_decide_eq_true y0_17; obtain ⟨ad509, A509_1, c509_1, e509, hx509_0, hx509_1, hl509_1, hi509_1⟩ := at_T112 (Kd.S_reads' HO507.out).2.2 (ji11) p509 q509
   obtain rfl : ad508 = ad509 := (by injection e509)
   obtain ⟨ce509, hce509, hMe509, hcc509⟩ := Kd.S_get HO507.out z112 (ji11) p509 (by first | exact q509 | exact of_decide_eq_true y0_17 | (have e_ := (Kd.S_reads' HO507.out).1; omega))
   obtain ⟨ve509_1, rfl, ge509_1⟩ := k112_openM hMe509; have hv509_1 := hcc509 1 _ rfl
   rw [add_field _ _ 1 (by omega)] at hv509_1
   replace hv509_1 := Option.some.inj (hv509_1.symm.trans hx509_1)
   rw [hv509_1] at ge509_1
   have HL509_1 := Aside0.mk (show Kd.R k99 99 _ _ _ _ ((rd_T112 t504 (ji11)).f1) from ge509_1)
   clear hv509_1 ge509_1; clear hcc509 hce509; have HR509_1 := Aside0.mk hi509_1; have HC509_1 := Aside0.mk hl509_1; clear hi509_1 hl509_1; replace p509 := eq_true p509; replace q509 := eq_true q509
   go_wp2
   repeat (go_quiet (fail); try go_wp2)
   go_meet
   case rel => exact ⟨_, (true), y0_18, H', ⟨y0_19⟩, ⟨bI HB.out⟩⟩
  replace c6 := Bool.eq_false_iff.mpr c6; subst c6
  rw [if_neg (show ¬ (false = true) by decide)] at H
  have H' := Aside0.mk H; clear H
  go_wp2
  repeat (go_quiet (fail); try go_wp2)
  go_meet
  case rel => exact ⟨_, (true), y0_18, H', ⟨y0_19⟩, ⟨bI HB.out⟩⟩
 case rest =>
  clear HC3
  try clear c1
  try clear p2
  try clear c5
  try clear p5
  try clear q5
  try clear hx5
  try clear c6
  try clear p6
  try clear c7
  try clear c7b0
  try clear c7b1
  try clear c9
  try clear c9b0
  try clear c10
  try clear c10b0
  try clear c12
  try clear c12b0
  try clear c13
  try clear c13b0
  try clear c14
  try clear c14b0
  try clear c14b1
  try clear c16
  try clear c16b0
  try clear c17
  try clear c17b0
  try clear hx508_0
  try clear hx508_1
  try clear hx509_0
  try clear hx509_1
  try clear hx510_0
  try clear hx510_1
  try clear hx511_0
  try clear hx511_1
  try clear p508
  try clear p509
  try clear p510
  try clear p511
  try clear q508
  try clear q509
  try clear q510
  try clear q511
  obtain ⟨kq, x51_2, rfl, HA, HJ2, HB⟩ := hcut; cases kq with
  | zero => exact absurd HA.out (by simp [spec_Settles.j0])
  | succ kj2 =>
   have H := HA.out; clear HA
   simp only [spec_Settles.j0] at H
   by_cases c18 : x51_2 = true
   ·
    subst c18
    rw [if_pos rfl] at H
    simp only [Option.some.injEq, Prod.mk.injEq] at H
    obtain ⟨rfl, rfl⟩ := H
    go_wp2
    repeat (go_quiet (fail); try go_wp2)
    go_ret2
    exact ⟨y0_14, bI HB.out⟩
   replace c18 := Bool.eq_false_iff.mpr c18; subst c18
   rw [if_neg (show ¬ (false = true) by decide)] at H
   obtain ⟨t512, A190, H⟩ := Option.bind_eq_some_iff.mp H
   try dsimp only at H
   have A19 := Aside0.mk A190; clear A190; obtain ⟨t513, A200, H⟩ := Option.bind_eq_some_iff.mp H
   try dsimp only at H
   have A20 := Aside0.mk A200; clear A200
   simp only [Option.some.injEq, Prod.mk.injEq] at H
   obtain ⟨rfl, rfl⟩ := H
   go_wp2_with (first | (go_at_call 68; (with_reducible refine (spec_UpOf.calls kj2 a0 t512 _ A19.out).mono ?_); rintro e w21 ⟨rfl, hb⟩; replace HB := bs HB hb; (try clear hb); (try clear hb2); (try clear hk); (try clear hi)) | (go_at_call 68; (with_reducible refine (spec_UpOf.calls kj2 t512 t513 _ A20.out).mono ?_); rintro e w22 ⟨rfl, hb⟩; replace HB := bs HB hb; (try clear hb); (try clear hb2); (try clear hk); (try clear hi)))
   repeat (go_quiet (first | (go_at_call 68; (with_reducible refine (spec_UpOf.calls kj2 a0 t512 _ A19.out).mono ?_); rintro e w21 ⟨rfl, hb⟩; replace HB := bs HB hb; (try clear hb); (try clear hb2); (try clear hk); (try clear hi)) | (go_at_call 68; (with_reducible refine (spec_UpOf.calls kj2 t512 t513 _ A20.out).mono ?_); rintro e w22 ⟨rfl, hb⟩; replace HB := bs HB hb; (try clear hb); (try clear hb2); (try clear hk); (try clear hi))); try go_wp2_with (first | (go_at_call 68; (with_reducible refine (spec_UpOf.calls kj2 a0 t512 _ A19.out).mono ?_); rintro e w21 ⟨rfl, hb⟩; replace HB := bs HB hb; (try clear hb); (try clear hb2); (try clear hk); (try clear hi)) | (go_at_call 68; (with_reducible refine (spec_UpOf.calls kj2 t512 t513 _ A20.out).mono ?_); rintro e w22 ⟨rfl, hb⟩; replace HB := bs HB hb; (try clear hb); (try clear hb2); (try clear hk); (try clear hi))))
   go_ret2
   exact ⟨y0_14, bI HB.out⟩

/-! ### spec_Extends: function 70 -/
theorem bt_size_spec_Extends (s t : ByteArray) : ∀ h : t.size < s.size, (((s[t.size]'h).toNat : Nat) : Int) = bt s (t.size : Int) := fun h => by
 unfold bt
 rw [dif_pos (show ((t.size : Int)).toNat < s.size by simpa using h)]
 rfl
def spec_Extends.f (k : Nat) (a0 : ByteArray) (a1 : ByteArray) : Option (Bool) := (spec_NameOk.f k a0).bind fun t514 => (if t514 = true then ((spec_NameOk.f k a1).bind fun t515 => (if t515 = true then (if (a1.size : Int) > (a0.size : Int) then (some false) else (if 0 ≤ (a1.size : Int) then (if (a1.size : Int) ≤ (a0.size : Int) then (if (a0.extract 0 ((a1.size : Int) : Int).toNat).toList = a1.toList then (if (a0.size : Int) = (a1.size : Int) then (some true) else (if (a1.size : Int) < (a0.size : Int) then (some ((bt a0 (a1.size : Int)) == 47)) else (none))) else (some false)) else (none)) else (none))) else (some false))) else (some false))
theorem spec_Extends.mono : ∀ a0 a1 k, LeO (spec_Extends.f k a0 a1) (spec_Extends.f (k + 1) a0 a1) := by
 intro a0 a1 k
 unfold spec_Extends.f
 repeat' first | (with_reducible exact spec_NameOk.mono _ _) | (with_reducible exact LeO.refl _) | (with_reducible exact LeO.none _) | (with_reducible refine LeO.ite ?_ ?_) | (with_reducible refine LeO.bind ?_ (fun _ => ?_))
set_option maxHeartbeats 8000000 in
set_option maxRecDepth 100000 in
theorem spec_Extends.calls (k : Nat) (a0 : ByteArray) (a1 : ByteArray) (r : Bool) (w : World) (h : spec_Extends.f k a0 a1 = some r) :
  Calls Tryz.prog 70 #[.string a0, .string a1] w fun e w' => e = .returned (.bool r) ∧ Below w.heap.size w w' := by
 have HB := Aside0.mk (Below.refl w.heap.size w); have hxs := bt_size_spec_Extends a0 a1
 have H : ((spec_NameOk.f k a0).bind fun t514 => (if t514 = true then ((spec_NameOk.f k a1).bind fun t515 => (if t515 = true then (if (a1.size : Int) > (a0.size : Int) then (some false) else (if 0 ≤ (a1.size : Int) then (if (a1.size : Int) ≤ (a0.size : Int) then (if (a0.extract 0 ((a1.size : Int) : Int).toNat).toList = a1.toList then (if (a0.size : Int) = (a1.size : Int) then (some true) else (if (a1.size : Int) < (a0.size : Int) then (some ((bt a0 (a1.size : Int)) == 47)) else (none))) else (some false)) else (none)) else (none))) else (some false))) else (some false))) = some r := h
 clear h; obtain ⟨t514, A30, H⟩ := Option.bind_eq_some_iff.mp H
 try dsimp only at H
 have A3 := Aside0.mk A30; clear A30
 by_cases c4 : t514 = true
 ·
  subst c4
  rw [if_pos rfl] at H
  obtain ⟨t515, A50, H⟩ := Option.bind_eq_some_iff.mp H
  try dsimp only at H
  have A5 := Aside0.mk A50; clear A50
  by_cases c6 : t515 = true
  ·
   subst c6
   rw [if_pos rfl] at H
   by_cases c7 : (a1.size : Int) > (a0.size : Int)
   ·
    rw [if_pos c7] at H
    have c7b0 : decide ((a0.size : Int) < (a1.size : Int)) = true := decide_eq_true c7; have c7b1 : decide (a0.size < a1.size) = true := decide_eq_true (Int.ofNat_lt.mp c7); clear c7; obtain rfl := Option.some.inj H
    go_enter Tryz.func70, Tryz.ntmps70
    go_wp2_with (first | ((with_reducible refine gate_callee (f := 97) rfl ?_); refine gB (some 6) Tryz.func97 #[.string a0] ?_; (with_reducible refine (spec_NameOk.calls k a0 true _ A3.out).mono ?_); rintro e w8 ⟨rfl, hb⟩; refine ⟨_, rfl, ?_⟩; replace HB := bs HB hb; (try clear hb); (try clear hb2); (try clear hk); (try clear hi)) | (go_at_call 97; (with_reducible refine (spec_NameOk.calls k a1 true _ A5.out).mono ?_); rintro e w9 ⟨rfl, hb⟩; replace HB := bs HB hb; (try clear hb); (try clear hb2); (try clear hk); (try clear hi)))
    go_ret
    exact ⟨y0_14, bI HB.out⟩
   rw [if_neg c7] at H
   have c7b0 : decide ((a0.size : Int) < (a1.size : Int)) = false := decide_eq_false c7
   have c7b1 : decide (a0.size < a1.size) = false := decide_eq_false (fun h => c7 (Int.ofNat_lt.mpr h))
   clear c7
   by_cases c10 : 0 ≤ (a1.size : Int)
   rotate_left
   ·
    rw [if_neg c10] at H
    exact absurd H (by simp)
   rw [if_pos c10] at H
   have c10b0 := eq_true c10; have c10b1 : decide (0 ≤ (a1.size : Int)) = true := decide_eq_true c10; clear c10
   by_cases c11 : (a1.size : Int) ≤ (a0.size : Int)
   rotate_left
   ·
    rw [if_neg c11] at H
    exact absurd H (by simp)
   rw [if_pos c11] at H
   have c11b0 := eq_true c11; have c11b1 : decide ((a1.size : Int) ≤ (a0.size : Int)) = true := decide_eq_true c11; clear c11
   by_cases c12 : (a0.extract 0 ((a1.size : Int) : Int).toNat).toList = a1.toList
   ·
    rw [if_pos c12] at H
    have c12b0 : ((a0.extract 0 ((a1.size : Int) : Int).toNat).toList == a1.toList) = true := beq_iff_eq.mpr c12; have c12b0' : ((a0.extract 0 a1.size).toList == a1.toList) = true := c12b0; have c12b1 : ((a0.extract 0 ((a1.size : Int) : Int).toNat).toList != a1.toList) = false := bne_eq_false_iff_eq.mpr c12; have c12b1' : ((a0.extract 0 a1.size).toList != a1.toList) = false := c12b1; clear c12
    by_cases c13 : (a0.size : Int) = (a1.size : Int)
    ·
     rw [if_pos c13] at H
     have c13b0 : ((a0.size : Int) == (a1.size : Int)) = true := beq_iff_eq.mpr c13; have c13b1 : ((a0.size : Int) != (a1.size : Int)) = false := bne_eq_false_iff_eq.mpr c13
     have c13b2 : (a0.size == a1.size) = true := by first | simpa using c13 | (simp at c13 ⊢; omega)
     clear c13; obtain rfl := Option.some.inj H
     go_enter Tryz.func70, Tryz.ntmps70
     go_wp2_with (first | ((with_reducible refine gate_callee (f := 97) rfl ?_); refine gB (some 6) Tryz.func97 #[.string a0] ?_; (with_reducible refine (spec_NameOk.calls k a0 true _ A3.out).mono ?_); rintro e w14 ⟨rfl, hb⟩; refine ⟨_, rfl, ?_⟩; replace HB := bs HB hb; (try clear hb); (try clear hb2); (try clear hk); (try clear hi)) | (go_at_call 97; (with_reducible refine (spec_NameOk.calls k a1 true _ A5.out).mono ?_); rintro e w15 ⟨rfl, hb⟩; replace HB := bs HB hb; (try clear hb); (try clear hb2); (try clear hk); (try clear hi)))
     go_ret
     exact ⟨y0_14, bI HB.out⟩
    rw [if_neg c13] at H
    have c13b0 : ((a0.size : Int) == (a1.size : Int)) = false := beq_eq_false_iff_ne.mpr c13; have c13b1 : ((a0.size : Int) != (a1.size : Int)) = true := bne_iff_ne.mpr c13
    have c13b2 : (a0.size == a1.size) = false := by first | simpa using c13 | (simp at c13 ⊢; omega)
    by_cases c16 : (a1.size : Int) < (a0.size : Int)
    rotate_left
    ·
     rw [if_neg c16] at H
     exact absurd H (by simp)
    rw [if_pos c16] at H
    have c16b0 : decide ((a1.size : Int) < (a0.size : Int)) = true := decide_eq_true c16; have c16b1 : decide (a1.size < a0.size) = true := decide_eq_true (Int.ofNat_lt.mp c16); clear c16; obtain rfl := Option.some.inj H
    go_enter Tryz.func70, Tryz.ntmps70
    go_wp2_with (first | ((with_reducible refine gate_callee (f := 97) rfl ?_); refine gB (some 6) Tryz.func97 #[.string a0] ?_; (with_reducible refine (spec_NameOk.calls k a0 true _ A3.out).mono ?_); rintro e w18 ⟨rfl, hb⟩; refine ⟨_, rfl, ?_⟩; replace HB := bs HB hb; (try clear hb); (try clear hb2); (try clear hk); (try clear hi)) | (go_at_call 97; (with_reducible refine (spec_NameOk.calls k a1 true _ A5.out).mono ?_); rintro e w19 ⟨rfl, hb⟩; replace HB := bs HB hb; (try clear hb); (try clear hb2); (try clear hk); (try clear hi); have p17 : 0 ≤ ((a1.size : Int) : Int) := of_decide_eq_true y0_17; have q17 : (a1.size : Int) < (a0.size : Int) := of_decide_eq_true y0_17; have hx17 := bt_at a0 (a1.size : Int); replace p17 := eq_true p17; replace q17 := eq_true q17))
    go_ret
    exact ⟨y0_14, bI HB.out⟩
   rw [if_neg c12] at H
   have c12b0 : ((a0.extract 0 ((a1.size : Int) : Int).toNat).toList == a1.toList) = false := beq_eq_false_iff_ne.mpr c12; have c12b0' : ((a0.extract 0 a1.size).toList == a1.toList) = false := c12b0; have c12b1 : ((a0.extract 0 ((a1.size : Int) : Int).toNat).toList != a1.toList) = true := bne_iff_ne.mpr c12; have c12b1' : ((a0.extract 0 a1.size).toList != a1.toList) = true := c12b1; obtain rfl := Option.some.inj H
   go_enter Tryz.func70, Tryz.ntmps70
   go_wp2_with (first | ((with_reducible refine gate_callee (f := 97) rfl ?_); refine gB (some 6) Tryz.func97 #[.string a0] ?_; (with_reducible refine (spec_NameOk.calls k a0 true _ A3.out).mono ?_); rintro e w20 ⟨rfl, hb⟩; refine ⟨_, rfl, ?_⟩; replace HB := bs HB hb; (try clear hb); (try clear hb2); (try clear hk); (try clear hi)) | (go_at_call 97; (with_reducible refine (spec_NameOk.calls k a1 true _ A5.out).mono ?_); rintro e w21 ⟨rfl, hb⟩; replace HB := bs HB hb; (try clear hb); (try clear hb2); (try clear hk); (try clear hi)))
   go_ret
   exact ⟨y0_14, bI HB.out⟩
  replace c6 := Bool.eq_false_iff.mpr c6; subst c6
  rw [if_neg (show ¬ (false = true) by decide)] at H
  obtain rfl := Option.some.inj H
  go_enter Tryz.func70, Tryz.ntmps70
  go_wp2_with (first | ((with_reducible refine gate_callee (f := 97) rfl ?_); refine gB (some 6) Tryz.func97 #[.string a0] ?_; (with_reducible refine (spec_NameOk.calls k a0 true _ A3.out).mono ?_); rintro e w22 ⟨rfl, hb⟩; refine ⟨_, rfl, ?_⟩; replace HB := bs HB hb; (try clear hb); (try clear hb2); (try clear hk); (try clear hi)) | (go_at_call 97; (with_reducible refine (spec_NameOk.calls k a1 false _ A5.out).mono ?_); rintro e w23 ⟨rfl, hb⟩; replace HB := bs HB hb; (try clear hb); (try clear hb2); (try clear hk); (try clear hi)))
  go_ret
  exact ⟨y0_14, bI HB.out⟩
 replace c4 := Bool.eq_false_iff.mpr c4; subst c4
 rw [if_neg (show ¬ (false = true) by decide)] at H
 obtain rfl := Option.some.inj H
 go_enter Tryz.func70, Tryz.ntmps70
 go_wp2_with (first | ((with_reducible refine gate_callee (f := 97) rfl ?_); refine gB (some 6) Tryz.func97 #[.string a0] ?_; (with_reducible refine (spec_NameOk.calls k a0 false _ A3.out).mono ?_); rintro e w24 ⟨rfl, hb⟩; refine ⟨_, rfl, ?_⟩; replace HB := bs HB hb; (try clear hb); (try clear hb2); (try clear hk); (try clear hi)))
 go_ret
 exact ⟨y0_14, bI HB.out⟩

/-! ### spec_See: function 24 -/
def spec_See.f (k : Nat) (a0_0 : Int) (a0_1 : Int) (a1_0 : Int) (a1_1 : Int) (a1_2 : Int) (a1_3 : ByteArray) (l1_4 : List Int) (a1_5 : ByteArray) (a2_0 : Int) (a2_1 : ByteArray) (l2_2 : List Int) : Option (Int × Int × Int × ByteArray × List Int × ByteArray) := (spec_l11Copy.f a1_0 a1_1 a1_2 a1_3 l1_4 a1_5).bind fun bt520 => ((spec_SafeOk.f k a0_0 a0_1 a1_0 a1_1 a1_2 a1_3 l1_4 a1_5).bind fun t529 => (if t529 = true then ((spec_QcOk.f k a0_0 a0_1 a2_0 a2_1 l2_2).bind fun t530 => (if t530 = true then ((spec_QcLater.f a2_0 a2_1 l2_2 a1_2 a1_3 l1_4).bind fun bt531 => ((spec_UpOf.f k a2_1).bind fun t536 => ((spec_ViewOf.f k t536).bind fun t537 => ((spec_l1Max.f a1_1 t537).bind fun t538 => ((spec_Settles.f k a2_1).bind fun bt539 => (if bt539.2 = true then ((spec_Extends.f k bt539.1 a1_5).bind fun t541 => (if t541 = true then (some (bt520.1, t538, bt531.1, bt531.2.1, bt531.2.2, bt539.1)) else (some (bt520.1, t538, bt531.1, bt531.2.1, bt531.2.2, bt520.2.2.2.2.2)))) else (some (bt520.1, t538, bt531.1, bt531.2.1, bt531.2.2, bt520.2.2.2.2.2)))))))) else (some (bt520.1, bt520.2.1, bt520.2.2.1, bt520.2.2.2.1, bt520.2.2.2.2.1, bt520.2.2.2.2.2)))) else (some (bt520.1, bt520.2.1, bt520.2.2.1, bt520.2.2.2.1, bt520.2.2.2.2.1, bt520.2.2.2.2.2))))
theorem spec_See.mono : ∀ a0 a1 a2 a3 a4 a5 a6 a7 a8 a9 a10 k, LeO (spec_See.f k a0 a1 a2 a3 a4 a5 a6 a7 a8 a9 a10) (spec_See.f (k + 1) a0 a1 a2 a3 a4 a5 a6 a7 a8 a9 a10) := by
 intro a0 a1 a2 a3 a4 a5 a6 a7 a8 a9 a10 k
 unfold spec_See.f
 repeat' first | (with_reducible exact spec_Extends.mono _ _ _) | (with_reducible exact spec_QcOk.mono _ _ _ _ _ _) | (with_reducible exact spec_SafeOk.mono _ _ _ _ _ _ _ _ _) | (with_reducible exact spec_Settles.mono _ _) | (with_reducible exact spec_UpOf.mono _ _) | (with_reducible exact spec_ViewOf.mono _ _) | (with_reducible exact LeO.refl _) | (with_reducible exact LeO.none _) | (with_reducible refine LeO.ite ?_ ?_) | (with_reducible refine LeO.bind ?_ (fun _ => ?_))
def spec_See.T5 : Bool × List (List Nat × List Nat) := (true, [([], []), ([0], [0]), ([], []), ([2], [2]), ([3], [3]), ([4, 4], [4]), ([1, 5, 5], [1, 5]), ([0, 1, 2, 3, 4, 5, 6], []), ([7, 6, 6, 0, 1, 2, 3, 4, 5, 6], [6, 7])])
def spec_See.B5 : List Nat := [0, 1, 0, 4, 12, 28, 63, 127, 255]
theorem spec_See.tab5 : rtab .any (opsOf Tryz.f24 5) = spec_See.T5 := by kernel_rfl
theorem spec_See.bits5 : waitsOk spec_See.T5.2 spec_See.B5 = true := by kernel_rfl
set_option maxHeartbeats 8000000 in
set_option maxRecDepth 100000 in
theorem spec_See.calls (k : Nat) (a0_0 : Int) (a0_1 : Int) (a1_0 : Int) (a1_1 : Int) (a1_2 : Int) (a1_3 : ByteArray) (A1_4 : Option Addr) (c1_4 : Nat) (l1_4 : List Int) (a1_5 : ByteArray) (a2_0 : Int) (a2_1 : ByteArray) (A2_2 : Option Addr) (c2_2 : Nat) (l2_2 : List Int) (r1 : Int) (r2 : Int) (r3 : Int) (r4 : ByteArray) (r5 : List Int) (r6 : ByteArray) (w : World) (hr1_4 : Kd.C (Kd.int .i64) w A1_4 l1_4.length l1_4) (hc1_4 : l1_4.length ≤ c1_4) (hr2_2 : Kd.C (Kd.int .i64) w A2_2 l2_2.length l2_2) (hc2_2 : l2_2.length ≤ c2_2) (h : spec_See.f k a0_0 a0_1 a1_0 a1_1 a1_2 a1_3 l1_4 a1_5 a2_0 a2_1 l2_2 = some (r1, r2, r3, r4, r5, r6)) :
  Calls Tryz.prog 24 #[.agg #[.int .i64 a0_0, .int .i64 a0_1], .agg #[.int .i64 a1_0, .int .i64 a1_1, .int .i64 a1_2, .string a1_3, .slice A1_4 l1_4.length c1_4, .string a1_5], .agg #[.int .i64 a2_0, .string a2_1, .slice A2_2 l2_2.length c2_2]] w fun e w' => ∃ v4_ : Value, e = .returned (.agg #[.int .i64 r1, .int .i64 r2, .int .i64 r3, .string r4, v4_, .string r6]) ∧ Kd.R (Kd.int .i64) 3 w' w.heap.size (fun _ => True) v4_ r5 ∧ Below w.heap.size w w' := by
 have hu38 := Tryz.underlying38; have hu35 := Tryz.underlying35; have hu33 := Tryz.underlying33; have HR1_4 := Aside0.mk hr1_4; have HC1_4 := Aside0.mk hc1_4; clear hr1_4 hc1_4; have HR2_2 := Aside0.mk hr2_2; have HC2_2 := Aside0.mk hc2_2; clear hr2_2 hc2_2; have HB := Aside0.mk (Below.refl w.heap.size w)
 have H : ((spec_l11Copy.f a1_0 a1_1 a1_2 a1_3 l1_4 a1_5).bind fun bt520 => ((spec_SafeOk.f k a0_0 a0_1 a1_0 a1_1 a1_2 a1_3 l1_4 a1_5).bind fun t529 => (if t529 = true then ((spec_QcOk.f k a0_0 a0_1 a2_0 a2_1 l2_2).bind fun t530 => (if t530 = true then ((spec_QcLater.f a2_0 a2_1 l2_2 a1_2 a1_3 l1_4).bind fun bt531 => ((spec_UpOf.f k a2_1).bind fun t536 => ((spec_ViewOf.f k t536).bind fun t537 => ((spec_l1Max.f a1_1 t537).bind fun t538 => ((spec_Settles.f k a2_1).bind fun bt539 => (if bt539.2 = true then ((spec_Extends.f k bt539.1 a1_5).bind fun t541 => (if t541 = true then (some (bt520.1, t538, bt531.1, bt531.2.1, bt531.2.2, bt539.1)) else (some (bt520.1, t538, bt531.1, bt531.2.1, bt531.2.2, bt520.2.2.2.2.2)))) else (some (bt520.1, t538, bt531.1, bt531.2.1, bt531.2.2, bt520.2.2.2.2.2)))))))) else (some (bt520.1, bt520.2.1, bt520.2.2.1, bt520.2.2.2.1, bt520.2.2.2.2.1, bt520.2.2.2.2.2)))) else (some (bt520.1, bt520.2.1, bt520.2.2.1, bt520.2.2.2.1, bt520.2.2.2.2.1, bt520.2.2.2.2.2))))) = some (r1, r2, r3, r4, r5, r6) := h
 clear h; obtain ⟨⟨t520, t521, t522, t523, t524, t527⟩, A40, H⟩ := Option.bind_eq_some_iff.mp H
 try dsimp only at H
 have A4 := Aside0.mk A40; clear A40; obtain ⟨t529, A50, H⟩ := Option.bind_eq_some_iff.mp H
 try dsimp only at H
 have A5 := Aside0.mk A50; clear A50
 by_cases c6 : t529 = true
 ·
  subst c6
  rw [if_pos rfl] at H
  obtain ⟨t530, A70, H⟩ := Option.bind_eq_some_iff.mp H
  try dsimp only at H
  have A7 := Aside0.mk A70; clear A70
  by_cases c8 : t530 = true
  ·
   subst c8
   rw [if_pos rfl] at H
   obtain ⟨⟨t531, t532, t533⟩, A90, H⟩ := Option.bind_eq_some_iff.mp H
   try dsimp only at H
   have A9 := Aside0.mk A90; clear A90; obtain ⟨t536, A100, H⟩ := Option.bind_eq_some_iff.mp H
   try dsimp only at H
   have A10 := Aside0.mk A100; clear A100; obtain ⟨t537, A110, H⟩ := Option.bind_eq_some_iff.mp H
   try dsimp only at H
   have A11 := Aside0.mk A110; clear A110; obtain ⟨t538, A120, H⟩ := Option.bind_eq_some_iff.mp H
   try dsimp only at H
   have A12 := Aside0.mk A120; clear A120; obtain ⟨⟨t539, t540⟩, A130, H⟩ := Option.bind_eq_some_iff.mp H
   try dsimp only at H
   have A13 := Aside0.mk A130; clear A130
   by_cases c14 : t540 = true
   ·
    subst c14
    rw [if_pos rfl] at H
    obtain ⟨t541, A150, H⟩ := Option.bind_eq_some_iff.mp H
    try dsimp only at H
    have A15 := Aside0.mk A150; clear A150
    by_cases c16 : t541 = true
    ·
     subst c16
     rw [if_pos rfl] at H
     simp only [Option.some.injEq, Prod.mk.injEq] at H
     obtain ⟨rfl, rfl, rfl, rfl, rfl, rfl⟩ := H
     go_enter Tryz.func24, Tryz.ntmps24
     try go_wp2_with (first | ((with_reducible refine gd 3 ?_); refine bL 3 #[.int .i64 a0_0, .int .i64 a0_1] 38 ?_; intro gb516 w17 _ _ _) | ((with_reducible refine gd 4 ?_); refine bL 4 #[.int .i64 a1_0, .int .i64 a1_1, .int .i64 a1_2, .string a1_3, .slice A1_4 l1_4.length c1_4, .string a1_5] 35 ?_; intro gb517 w18 _ _ _) | ((with_reducible refine gd 5 ?_); refine bL 5 #[.int .i64 a2_0, .string a2_1, .slice A2_2 l2_2.length c2_2] 33 ?_; intro gb518 w19 _ _ _) | ((with_reducible refine gd 6 ?_); refine bL 6 #[.int .i64 0, .int .i64 0, .int .i64 0, .string (⟨#[]⟩ : ByteArray), .slice none 0 0, .string (⟨#[]⟩ : ByteArray)] 35 ?_; intro gb519 w20 _ _ _) | ((with_reducible refine gate_callee (f := 61) rfl ?_); refine gC1 (some 11) Tryz.func61 (spec_l11Copy.calls (hr0_4 := pC HR1_4) (hc0_4 := HC1_4.out) (w := _) (h := A4.out)) ?_; intro Ao525 co525 w21 _ HO526) | ((with_reducible refine gd 7 ?_); refine bL 7 #[.int .i64 0, .int .i64 0, .int .i64 0, .string (⟨#[]⟩ : ByteArray), .slice none 0 0, .string (⟨#[]⟩ : ByteArray)] 35 ?_; intro gb528 w22 _ _ _) | ((with_reducible refine gate_callee (f := 66) rfl ?_); refine gC (some 14) Tryz.func66 (spec_SafeOk.calls (hr1_4 := pC HR1_4) (hc1_4 := HC1_4.out) (w := _) (h := A5.out)) ?_; intro w23 _) | (go_at_call 49; refine aC (spec_QcOk.calls (hr1_2 := pC HR2_2) (hc1_2 := HC2_2.out) (w := _) (h := A7.out)) ?_; intro w24 _) | ((with_reducible refine gate_callee (f := 58) rfl ?_); refine gC1 (some 26) Tryz.func58 (spec_QcLater.calls (hr0_2 := pC HR2_2) (hc0_2 := HC2_2.out) (hr1_2 := pC HR1_4) (hc1_2 := HC1_4.out) (w := _) (h := A9.out)) ?_; intro Ao534 co534 w25 _ HO535))
     refine sB [gb528] spec_See.tab5 spec_See.bits5 ?_; intro w26 _ HT_ HW_
     refine pA 0 (some 28) (bz 9 1) HT_ ?_
     refine tB 1 (some 29) (bz 9 3) HT_ HW_ ?_
     refine pA 2 (some 30) (bz 9 7) HT_ ?_
     refine tB 3 (some 31) (bz 9 15) HT_ HW_ ?_
     refine o1 4 (some 32) (bz 9 31) HT_ rfl (kC Tryz.func68 (spec_UpOf.calls (w := _) (h := A10.out)) ?_); intro w27 _
     refine nA (some 32) ?_
     refine o1 5 (some 33) (bz 9 63) HT_ rfl (kC Tryz.func62 (spec_ViewOf.calls (w := _) (h := A11.out)) ?_); intro w28 _
     refine nA (some 33) ?_
     refine o1 6 (some 34) (bz 9 127) HT_ rfl (kD Tryz.func67 (spec_l1Max.calls (w := _) (h := A12.out)) ?_); intro w29 _
     refine nA (some 34) ?_
     refine pA 7 (some 35) (bz 9 255) HT_ ?_
     refine o1 8 none (bz 9 511) HT_ rfl (kS ?_)
     refine done_ (done_of HT_.out (by kernel_rfl)) ?_
     try go_wp2_with (first | ((with_reducible refine gate_callee (f := 69) rfl ?_); refine gC (some 39) Tryz.func69 (spec_Settles.calls (w := _) (h := A13.out)) ?_; intro w30 _) | (go_at_call 70; refine aC (spec_Extends.calls (w := _) (h := A15.out)) ?_; intro w31 _))
     refine bodyPost_ret (results_cell_row rfl _ _ gb519 35 #[.int .i64 t520, .int .i64 t538, .int .i64 t531, .string t532, .slice Ao534 t533.length co534, .string t539] (0, 0) _ rfl xB Tryz.underlying35 rfl (by kernel_rfl)) rfl ?_
     exact ⟨_, y0_18, rR HO535, UpW.out⟩
    replace c16 := Bool.eq_false_iff.mpr c16; subst c16
    rw [if_neg (show ¬ (false = true) by decide)] at H
    simp only [Option.some.injEq, Prod.mk.injEq] at H
    obtain ⟨rfl, rfl, rfl, rfl, rfl, rfl⟩ := H
    go_enter Tryz.func24, Tryz.ntmps24
    try go_wp2_with (first | ((with_reducible refine gd 3 ?_); refine bL 3 #[.int .i64 a0_0, .int .i64 a0_1] 38 ?_; intro gb516 w32 _ _ _) | ((with_reducible refine gd 4 ?_); refine bL 4 #[.int .i64 a1_0, .int .i64 a1_1, .int .i64 a1_2, .string a1_3, .slice A1_4 l1_4.length c1_4, .string a1_5] 35 ?_; intro gb517 w33 _ _ _) | ((with_reducible refine gd 5 ?_); refine bL 5 #[.int .i64 a2_0, .string a2_1, .slice A2_2 l2_2.length c2_2] 33 ?_; intro gb518 w34 _ _ _) | ((with_reducible refine gd 6 ?_); refine bL 6 #[.int .i64 0, .int .i64 0, .int .i64 0, .string (⟨#[]⟩ : ByteArray), .slice none 0 0, .string (⟨#[]⟩ : ByteArray)] 35 ?_; intro gb519 w35 _ _ _) | ((with_reducible refine gate_callee (f := 61) rfl ?_); refine gC1 (some 11) Tryz.func61 (spec_l11Copy.calls (hr0_4 := pC HR1_4) (hc0_4 := HC1_4.out) (w := _) (h := A4.out)) ?_; intro Ao525 co525 w36 _ HO526) | ((with_reducible refine gd 7 ?_); refine bL 7 #[.int .i64 0, .int .i64 0, .int .i64 0, .string (⟨#[]⟩ : ByteArray), .slice none 0 0, .string (⟨#[]⟩ : ByteArray)] 35 ?_; intro gb528 w37 _ _ _) | ((with_reducible refine gate_callee (f := 66) rfl ?_); refine gC (some 14) Tryz.func66 (spec_SafeOk.calls (hr1_4 := pC HR1_4) (hc1_4 := HC1_4.out) (w := _) (h := A5.out)) ?_; intro w38 _) | (go_at_call 49; refine aC (spec_QcOk.calls (hr1_2 := pC HR2_2) (hc1_2 := HC2_2.out) (w := _) (h := A7.out)) ?_; intro w39 _) | ((with_reducible refine gate_callee (f := 58) rfl ?_); refine gC1 (some 26) Tryz.func58 (spec_QcLater.calls (hr0_2 := pC HR2_2) (hc0_2 := HC2_2.out) (hr1_2 := pC HR1_4) (hc1_2 := HC1_4.out) (w := _) (h := A9.out)) ?_; intro Ao534 co534 w40 _ HO535))
    refine sB [gb528] spec_See.tab5 spec_See.bits5 ?_; intro w41 _ HT_ HW_
    refine pA 0 (some 28) (bz 9 1) HT_ ?_
    refine tB 1 (some 29) (bz 9 3) HT_ HW_ ?_
    refine pA 2 (some 30) (bz 9 7) HT_ ?_
    refine tB 3 (some 31) (bz 9 15) HT_ HW_ ?_
    refine o1 4 (some 32) (bz 9 31) HT_ rfl (kC Tryz.func68 (spec_UpOf.calls (w := _) (h := A10.out)) ?_); intro w42 _
    refine nA (some 32) ?_
    refine o1 5 (some 33) (bz 9 63) HT_ rfl (kC Tryz.func62 (spec_ViewOf.calls (w := _) (h := A11.out)) ?_); intro w43 _
    refine nA (some 33) ?_
    refine o1 6 (some 34) (bz 9 127) HT_ rfl (kD Tryz.func67 (spec_l1Max.calls (w := _) (h := A12.out)) ?_); intro w44 _
    refine nA (some 34) ?_
    refine pA 7 (some 35) (bz 9 255) HT_ ?_
    refine o1 8 none (bz 9 511) HT_ rfl (kS ?_)
    refine done_ (done_of HT_.out (by kernel_rfl)) ?_
    try go_wp2_with (first | ((with_reducible refine gate_callee (f := 69) rfl ?_); refine gC (some 39) Tryz.func69 (spec_Settles.calls (w := _) (h := A13.out)) ?_; intro w45 _) | (go_at_call 70; refine aC (spec_Extends.calls (w := _) (h := A15.out)) ?_; intro w46 _))
    refine bodyPost_ret (results_cell_row rfl _ _ gb519 35 #[.int .i64 t520, .int .i64 t538, .int .i64 t531, .string t532, .slice Ao534 t533.length co534, .string t527] (0, 0) _ rfl xB Tryz.underlying35 rfl (by kernel_rfl)) rfl ?_
    exact ⟨_, y0_18, rR HO535, UpW.out⟩
   replace c14 := Bool.eq_false_iff.mpr c14; subst c14
   rw [if_neg (show ¬ (false = true) by decide)] at H
   simp only [Option.some.injEq, Prod.mk.injEq] at H
   obtain ⟨rfl, rfl, rfl, rfl, rfl, rfl⟩ := H
   go_enter Tryz.func24, Tryz.ntmps24
   try go_wp2_with (first | ((with_reducible refine gd 3 ?_); refine bL 3 #[.int .i64 a0_0, .int .i64 a0_1] 38 ?_; intro gb516 w47 _ _ _) | ((with_reducible refine gd 4 ?_); refine bL 4 #[.int .i64 a1_0, .int .i64 a1_1, .int .i64 a1_2, .string a1_3, .slice A1_4 l1_4.length c1_4, .string a1_5] 35 ?_; intro gb517 w48 _ _ _) | ((with_reducible refine gd 5 ?_); refine bL 5 #[.int .i64 a2_0, .string a2_1, .slice A2_2 l2_2.length c2_2] 33 ?_; intro gb518 w49 _ _ _) | ((with_reducible refine gd 6 ?_); refine bL 6 #[.int .i64 0, .int .i64 0, .int .i64 0, .string (⟨#[]⟩ : ByteArray), .slice none 0 0, .string (⟨#[]⟩ : ByteArray)] 35 ?_; intro gb519 w50 _ _ _) | ((with_reducible refine gate_callee (f := 61) rfl ?_); refine gC1 (some 11) Tryz.func61 (spec_l11Copy.calls (hr0_4 := pC HR1_4) (hc0_4 := HC1_4.out) (w := _) (h := A4.out)) ?_; intro Ao525 co525 w51 _ HO526) | ((with_reducible refine gd 7 ?_); refine bL 7 #[.int .i64 0, .int .i64 0, .int .i64 0, .string (⟨#[]⟩ : ByteArray), .slice none 0 0, .string (⟨#[]⟩ : ByteArray)] 35 ?_; intro gb528 w52 _ _ _) | ((with_reducible refine gate_callee (f := 66) rfl ?_); refine gC (some 14) Tryz.func66 (spec_SafeOk.calls (hr1_4 := pC HR1_4) (hc1_4 := HC1_4.out) (w := _) (h := A5.out)) ?_; intro w53 _) | (go_at_call 49; refine aC (spec_QcOk.calls (hr1_2 := pC HR2_2) (hc1_2 := HC2_2.out) (w := _) (h := A7.out)) ?_; intro w54 _) | ((with_reducible refine gate_callee (f := 58) rfl ?_); refine gC1 (some 26) Tryz.func58 (spec_QcLater.calls (hr0_2 := pC HR2_2) (hc0_2 := HC2_2.out) (hr1_2 := pC HR1_4) (hc1_2 := HC1_4.out) (w := _) (h := A9.out)) ?_; intro Ao534 co534 w55 _ HO535))
   refine sB [gb528] spec_See.tab5 spec_See.bits5 ?_; intro w56 _ HT_ HW_
   refine pA 0 (some 28) (bz 9 1) HT_ ?_
   refine tB 1 (some 29) (bz 9 3) HT_ HW_ ?_
   refine pA 2 (some 30) (bz 9 7) HT_ ?_
   refine tB 3 (some 31) (bz 9 15) HT_ HW_ ?_
   refine o1 4 (some 32) (bz 9 31) HT_ rfl (kC Tryz.func68 (spec_UpOf.calls (w := _) (h := A10.out)) ?_); intro w57 _
   refine nA (some 32) ?_
   refine o1 5 (some 33) (bz 9 63) HT_ rfl (kC Tryz.func62 (spec_ViewOf.calls (w := _) (h := A11.out)) ?_); intro w58 _
   refine nA (some 33) ?_
   refine o1 6 (some 34) (bz 9 127) HT_ rfl (kD Tryz.func67 (spec_l1Max.calls (w := _) (h := A12.out)) ?_); intro w59 _
   refine nA (some 34) ?_
   refine pA 7 (some 35) (bz 9 255) HT_ ?_
   refine o1 8 none (bz 9 511) HT_ rfl (kS ?_)
   refine done_ (done_of HT_.out (by kernel_rfl)) ?_
   try go_wp2_with (first | ((with_reducible refine gate_callee (f := 69) rfl ?_); refine gC (some 39) Tryz.func69 (spec_Settles.calls (w := _) (h := A13.out)) ?_; intro w60 _))
   refine bodyPost_ret (results_cell_row rfl _ _ gb519 35 #[.int .i64 t520, .int .i64 t538, .int .i64 t531, .string t532, .slice Ao534 t533.length co534, .string t527] (0, 0) _ rfl xB Tryz.underlying35 rfl (by kernel_rfl)) rfl ?_
   exact ⟨_, y0_18, rR HO535, UpW.out⟩
  replace c8 := Bool.eq_false_iff.mpr c8; subst c8
  rw [if_neg (show ¬ (false = true) by decide)] at H
  simp only [Option.some.injEq, Prod.mk.injEq] at H
  obtain ⟨rfl, rfl, rfl, rfl, rfl, rfl⟩ := H
  go_enter Tryz.func24, Tryz.ntmps24
  go_wp2_with (first | ((with_reducible refine gd 3 ?_); refine bL 3 #[.int .i64 a0_0, .int .i64 a0_1] 38 ?_; intro gb516 w61 _ _ _) | ((with_reducible refine gd 4 ?_); refine bL 4 #[.int .i64 a1_0, .int .i64 a1_1, .int .i64 a1_2, .string a1_3, .slice A1_4 l1_4.length c1_4, .string a1_5] 35 ?_; intro gb517 w62 _ _ _) | ((with_reducible refine gd 5 ?_); refine bL 5 #[.int .i64 a2_0, .string a2_1, .slice A2_2 l2_2.length c2_2] 33 ?_; intro gb518 w63 _ _ _) | ((with_reducible refine gd 6 ?_); refine bL 6 #[.int .i64 0, .int .i64 0, .int .i64 0, .string (⟨#[]⟩ : ByteArray), .slice none 0 0, .string (⟨#[]⟩ : ByteArray)] 35 ?_; intro gb519 w64 _ _ _) | ((with_reducible refine gate_callee (f := 61) rfl ?_); refine gC1 (some 11) Tryz.func61 (spec_l11Copy.calls (hr0_4 := pC HR1_4) (hc0_4 := HC1_4.out) (w := _) (h := A4.out)) ?_; intro Ao525 co525 w65 _ HO526) | ((with_reducible refine gd 7 ?_); refine bL 7 #[.int .i64 0, .int .i64 0, .int .i64 0, .string (⟨#[]⟩ : ByteArray), .slice none 0 0, .string (⟨#[]⟩ : ByteArray)] 35 ?_; intro gb528 w66 _ _ _) | ((with_reducible refine gate_callee (f := 66) rfl ?_); refine gC (some 14) Tryz.func66 (spec_SafeOk.calls (hr1_4 := pC HR1_4) (hc1_4 := HC1_4.out) (w := _) (h := A5.out)) ?_; intro w67 _) | (go_at_call 49; refine aC (spec_QcOk.calls (hr1_2 := pC HR2_2) (hc1_2 := HC2_2.out) (w := _) (h := A7.out)) ?_; intro w68 _))
  refine bodyPost_ret (results_cell_row rfl _ _ gb519 35 #[.int .i64 t520, .int .i64 t521, .int .i64 t522, .string t523, .slice Ao525 t524.length co525, .string t527] (0, 0) _ rfl xB Tryz.underlying35 rfl (by kernel_rfl)) rfl ?_
  exact ⟨_, y0_18, rR HO526, UpW.out⟩
 replace c6 := Bool.eq_false_iff.mpr c6; subst c6
 rw [if_neg (show ¬ (false = true) by decide)] at H
 simp only [Option.some.injEq, Prod.mk.injEq] at H
 obtain ⟨rfl, rfl, rfl, rfl, rfl, rfl⟩ := H
 go_enter Tryz.func24, Tryz.ntmps24
 go_wp2_with (first | ((with_reducible refine gd 3 ?_); refine bL 3 #[.int .i64 a0_0, .int .i64 a0_1] 38 ?_; intro gb516 w69 _ _ _) | ((with_reducible refine gd 4 ?_); refine bL 4 #[.int .i64 a1_0, .int .i64 a1_1, .int .i64 a1_2, .string a1_3, .slice A1_4 l1_4.length c1_4, .string a1_5] 35 ?_; intro gb517 w70 _ _ _) | ((with_reducible refine gd 5 ?_); refine bL 5 #[.int .i64 a2_0, .string a2_1, .slice A2_2 l2_2.length c2_2] 33 ?_; intro gb518 w71 _ _ _) | ((with_reducible refine gd 6 ?_); refine bL 6 #[.int .i64 0, .int .i64 0, .int .i64 0, .string (⟨#[]⟩ : ByteArray), .slice none 0 0, .string (⟨#[]⟩ : ByteArray)] 35 ?_; intro gb519 w72 _ _ _) | ((with_reducible refine gate_callee (f := 61) rfl ?_); refine gC1 (some 11) Tryz.func61 (spec_l11Copy.calls (hr0_4 := pC HR1_4) (hc0_4 := HC1_4.out) (w := _) (h := A4.out)) ?_; intro Ao525 co525 w73 _ HO526) | ((with_reducible refine gd 7 ?_); refine bL 7 #[.int .i64 0, .int .i64 0, .int .i64 0, .string (⟨#[]⟩ : ByteArray), .slice none 0 0, .string (⟨#[]⟩ : ByteArray)] 35 ?_; intro gb528 w74 _ _ _) | ((with_reducible refine gate_callee (f := 66) rfl ?_); refine gC (some 14) Tryz.func66 (spec_SafeOk.calls (hr1_4 := pC HR1_4) (hc1_4 := HC1_4.out) (w := _) (h := A5.out)) ?_; intro w75 _))
 refine bodyPost_ret (results_cell_row rfl _ _ gb519 35 #[.int .i64 t520, .int .i64 t521, .int .i64 t522, .string t523, .slice Ao525 t524.length co525, .string t527] (0, 0) _ rfl xB Tryz.underlying35 rfl (by kernel_rfl)) rfl ?_
 exact ⟨_, y0_18, rR HO526, UpW.out⟩

end Go.Proofs.YtemjmefacifdeaaGreatDoor.PFnLockHolds
