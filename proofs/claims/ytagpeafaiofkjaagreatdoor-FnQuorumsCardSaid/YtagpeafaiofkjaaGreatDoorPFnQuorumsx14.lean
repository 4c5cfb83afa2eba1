-- By a program of this session, out of the translation (the print of the kit, with turns of its own). Lean checks it.
import Derived.Test.YtagpeafaiofkjaaGreatDoorPFnQuorumsx0
import Derived.Test.YtagpeafaiofkjaaGreatDoorPFnQuorumsx1
import Derived.Test.YtagpeafaiofkjaaGreatDoorPFnQuorumsx2
import Derived.Test.YtagpeafaiofkjaaGreatDoorPFnQuorumsx8
import Derived.Test.YtagpeafaiofkjaaGreatDoorPFnQuorumsx11
import Derived.Test.YtagpeafaiofkjaaGreatDoorPFnQuorumsx12
import Derived.Test.YtagpeafaiofkjaaGreatDoorPFnQuorumsx13
namespace Go.Proofs.YtagpeafaiofkjaaGreatDoor.PFnQuorums
open Go.RowKit Go.Proofs.YtagpeafaiofkjaaGreatDoorW.PrintWords Go.Proofs.YtagpeafaiofkjaaGreatDoorW.PrintLast Go.Proofs.YtagpeafaiofkjaaGreatDoorW.PrintMore
attribute [local go_sem] max2_int min2_int max_two min_two max_three min_three max_four min_four   -- for this text's walks alone
attribute [local go_sem] cell_in frozen_in
set_option synthInstance.maxSize 1000000
set_option synthInstance.maxHeartbeats 2000000
set_option linter.unusedVariables false
set_option linter.unusedSimpArgs false

attribute [local go_sem high] eqA25
/-! ### laws_FnQuorums: function 3 -/
def laws_FnQuorums.l0 : Nat → List Int → Int → Int → Int → Int → ByteArray → List Int → Int → ByteArray → List Int → Option (Bool)
 | 0, _, _, _, _, _, _, _, _, _, _ => none
 | k + 1, x11, x12, x687000, x687001, x688000, x688001, x688002, x697000, x697001, x697002 => if x12 < x687000 then (if x11.length < 17592186044416 then (laws_FnQuorums.l0 k (x11 ++ [x12]) (wrap64 (x12 + 1)) x687000 x687001 x688000 x688001 x688002 x697000 x697001 x697002) else (none)) else ((impl_Common.f k x688002 x697002).bind fun t748 => ((impl_Faults.f x687000 x687001).bind fun t749 => (if t748 > t749 then ((impl_Common.f k x688002 x11).bind fun t750 => ((impl_Faults.f x687000 x687001).bind fun t751 => (if t750 > t751 then ((impl_Quorum.f x687000 x687001).bind fun t752 => ((impl_Faults.f x687000 x687001).bind fun t753 => (some (decide ((wrap64 ((wrap64 (2 * t752)) - x687000)) > t753))))) else (some false)))) else (some false))))
def laws_FnQuorums.f (k : Nat) (l0 : List Int) : Option (Bool) := (laws_big.f l0).bind fun t678 => (if t678 = true then (some true) else ((spec_DrawQcOk.f k l0).bind fun bt679 => ((spec_DrawQcOk.f k l0).bind fun bt688 => ((impl_QcOk.f k bt679.1 bt679.2.1 bt679.2.2.1 bt679.2.2.2.1 bt679.2.2.2.2).bind fun t697 => ((spec_QcOk.f k bt679.1 bt679.2.1 bt679.2.2.1 bt679.2.2.2.1 bt679.2.2.2.2).bind fun t698 => (if (t697 != t698) = true then (some false) else ((impl_Faults.f bt679.1 bt679.2.1).bind fun t699 => ((spec_Faults.f bt679.1 bt679.2.1).bind fun t700 => (if t699 = t700 then ((impl_Quorum.f bt679.1 bt679.2.1).bind fun t701 => ((spec_Quorum.f bt679.1 bt679.2.1).bind fun t702 => (if t701 = t702 then ((impl_ConfOk.f bt679.1 bt679.2.1).bind fun t703 => ((spec_ConfOk.f bt679.1 bt679.2.1).bind fun t704 => (if (t703 != t704) = true then (some false) else ((spec_DrawQcLater.f k l0).bind fun bt705 => ((impl_QcLater.f bt705.1 bt705.2.1 bt705.2.2.1 bt705.2.2.2.1 bt705.2.2.2.2.1 bt705.2.2.2.2.2).bind fun bt717 => ((spec_QcLater.f bt705.1 bt705.2.1 bt705.2.2.1 bt705.2.2.2.1 bt705.2.2.2.2.1 bt705.2.2.2.2.2).bind fun bt723 => ((impl_QcSame.f k bt717.1 bt717.2.1 bt717.2.2 bt723.1 bt723.2.1 bt723.2.2).bind fun t728 => (if t728 = true then (if bt717.1 < bt705.1 then (if bt717.1 < bt705.2.2.2.1 then (some false) else ((impl_QcFirst.f).bind fun bt729 => ((spec_QcFirst.f).bind fun bt734 => ((impl_QcSame.f k bt729.1 bt729.2.1 bt729.2.2 bt734.1 bt734.2.1 bt734.2.2).bind fun t739 => (if t739 = true then (if t697 = true then ((impl_QcOk.f k bt688.1 bt688.2.1 bt688.2.2.1 bt688.2.2.2.1 bt688.2.2.2.2).bind fun t740 => (if t740 = true then (if (!(bt679.1 == bt688.1) || (!(bt679.2.1 == bt688.2.1))) = true then (some true) else (if bt679.2.2.2.1.toList = ([] : List UInt8) then (some true) else (if bt688.2.2.2.1.toList = ([] : List UInt8) then (some true) else ((impl_Faults.f bt679.1 bt679.2.1).bind fun t744 => (laws_FnQuorums.l0 k (([] : List Int)) t744 bt679.1 bt679.2.1 bt679.2.2.1 bt679.2.2.2.1 bt679.2.2.2.2 bt688.2.2.1 bt688.2.2.2.1 bt688.2.2.2.2))))) else (some true))) else (some true)) else (some false)))))) else ((impl_QcFirst.f).bind fun bt754 => ((spec_QcFirst.f).bind fun bt759 => ((impl_QcSame.f k bt754.1 bt754.2.1 bt754.2.2 bt759.1 bt759.2.1 bt759.2.2).bind fun t764 => (if t764 = true then (if t697 = true then ((impl_QcOk.f k bt688.1 bt688.2.1 bt688.2.2.1 bt688.2.2.2.1 bt688.2.2.2.2).bind fun t765 => (if t765 = true then (if (!(bt679.1 == bt688.1) || (!(bt679.2.1 == bt688.2.1))) = true then (some true) else (if bt679.2.2.2.1.toList = ([] : List UInt8) then (some true) else (if bt688.2.2.2.1.toList = ([] : List UInt8) then (some true) else ((impl_Faults.f bt679.1 bt679.2.1).bind fun t769 => (laws_FnQuorums.l0 k (([] : List Int)) t769 bt679.1 bt679.2.1 bt679.2.2.1 bt679.2.2.2.1 bt679.2.2.2.2 bt688.2.2.1 bt688.2.2.2.1 bt688.2.2.2.2))))) else (some true))) else (some true)) else (some false)))))) else (some false))))))))) else (some false)))) else (some false))))))))))
theorem laws_FnQuorums.mono_l : ∀ k, (∀ y0 y1 y2 y3 y4 y5 y6 y7 y8 y9, LeO (laws_FnQuorums.l0 k y0 y1 y2 y3 y4 y5 y6 y7 y8 y9) (laws_FnQuorums.l0 (k + 1) y0 y1 y2 y3 y4 y5 y6 y7 y8 y9))
 | 0 => fun _ _ _ _ _ _ _ _ _ _ r h => by simp [laws_FnQuorums.l0] at h
 | k + 1 => by
  have ih0 := laws_FnQuorums.mono_l k
  intro y0 y1 y2 y3 y4 y5 y6 y7 y8 y9
  unfold laws_FnQuorums.l0
  repeat' first | (with_reducible exact ih0 _ _ _ _ _ _ _ _ _ _) | (with_reducible exact impl_Common.mono _ _ _) | (with_reducible exact impl_QcOk.mono _ _ _ _ _ _) | (with_reducible exact impl_QcSame.mono _ _ _ _ _ _ _) | (with_reducible exact spec_DrawQcLater.mono _ _) | (with_reducible exact spec_DrawQcOk.mono _ _) | (with_reducible exact spec_QcOk.mono _ _ _ _ _ _) | (with_reducible exact LeO.refl _) | (with_reducible exact LeO.none _) | (with_reducible refine LeO.ite ?_ ?_) | (with_reducible refine LeO.bind ?_ (fun _ => ?_))
theorem laws_FnQuorums.mono : ∀ a0 k, LeO (laws_FnQuorums.f k a0) (laws_FnQuorums.f (k + 1) a0) := by
 intro a0 k
 have ih0 := laws_FnQuorums.mono_l k
 unfold laws_FnQuorums.f
 repeat' first | (with_reducible exact ih0 _ _ _ _ _ _ _ _ _ _) | (with_reducible exact impl_Common.mono _ _ _) | (with_reducible exact impl_QcOk.mono _ _ _ _ _ _) | (with_reducible exact impl_QcSame.mono _ _ _ _ _ _ _) | (with_reducible exact spec_DrawQcLater.mono _ _) | (with_reducible exact spec_DrawQcOk.mono _ _) | (with_reducible exact spec_QcOk.mono _ _ _ _ _ _) | (with_reducible exact LeO.refl _) | (with_reducible exact LeO.none _) | (with_reducible refine LeO.ite ?_ ?_) | (with_reducible refine LeO.bind ?_ (fun _ => ?_))
def laws_FnQuorums.T6 : Bool × List (List Nat × List Nat) := (true, [([], []), ([], []), ([], []), ([1, 2], [1, 2]), ([0, 3], [0, 3]), ([4, 3], [4]), ([5], [5]), ([6, 5, 5], [5, 6]), ([5], [5]), ([8, 7, 5], [5, 8]), ([7, 9, 5], [5, 7, 9]), ([5, 10], [5, 10]), ([11, 9], [11]), ([12], [12]), ([13, 12, 12], [12, 13]), ([12], [12]), ([15, 14, 12], [12, 15]), ([14, 16, 12], [12, 14, 16]), ([12, 17], [12, 17]), ([18, 16], [18]), ([19], [19]), ([20, 19, 19], [19, 20]), ([19], [19]), ([22, 21, 19], [19, 22]), ([21, 23, 19], [19, 21, 23]), ([19, 24], [19, 24])])
def laws_FnQuorums.B6 : List Nat := [0, 0, 0, 6, 15, 31, 63, 127, 63, 511, 1023, 2047, 4095, 8191, 16383, 8191, 65535, 131071, 262143, 524287, 1048575, 2097151, 1048575, 8388607, 16777215, 33554431]
theorem laws_FnQuorums.tab6 : rtab .any (opsOf Tryz.f3 6) = laws_FnQuorums.T6 := by kernel_rfl
theorem laws_FnQuorums.bits6 : waitsOk laws_FnQuorums.T6.2 laws_FnQuorums.B6 = true := by kernel_rfl
def laws_FnQuorums.T10 : Bool × List (List Nat × List Nat) := (true, [([], []), ([], []), ([], []), ([1, 2], [1, 2]), ([0, 3, 3], [0, 3]), ([4], [4]), ([5, 4], [5]), ([6], [6]), ([7, 6], [6, 7]), ([6], [6]), ([9, 6], [6, 9]), ([8, 10, 6], [6, 8, 10]), ([11, 6, 6], [6, 11]), ([12], [12]), ([13, 12], [12, 13]), ([12], [12]), ([15, 12], [12, 15]), ([14, 16, 12], [12, 14, 16]), ([12, 17, 6], [6, 12, 17]), ([6, 18], [6, 18]), ([19, 12], [19]), ([20, 20], [20]), ([21, 20], [20]), ([21, 22, 22, 20], [20, 21, 22]), ([23, 20], [20, 23]), ([20, 24], [20, 24])])
def laws_FnQuorums.B10 : List Nat := [0, 0, 0, 6, 15, 31, 63, 127, 255, 127, 639, 2047, 4095, 8191, 16383, 8191, 40959, 131071, 262143, 524287, 1048575, 2097151, 4194303, 8388607, 16777215, 33554431]
theorem laws_FnQuorums.tab10 : rtab .any (opsOf Tryz.f3 10) = laws_FnQuorums.T10 := by kernel_rfl
theorem laws_FnQuorums.bits10 : waitsOk laws_FnQuorums.T10.2 laws_FnQuorums.B10 = true := by kernel_rfl
def laws_FnQuorums.T19 : Bool × List (List Nat × List Nat) := (true, [([], []), ([0], [0]), ([], []), ([2], [2]), ([1, 3], [1, 3]), ([], []), ([5, 4], [5]), ([4, 6], [4, 6]), ([7, 6], [7]), ([8], [8]), ([9, 8], [8, 9]), ([8], [8]), ([10, 11, 8, 8], [8, 10, 11]), ([8], [8]), ([13, 12, 8], [8, 13]), ([12, 14, 8], [8, 12, 14]), ([8, 15], [8, 15]), ([16, 14], [16]), ([17], [17]), ([18, 17, 17], [17, 18]), ([19, 17], [17, 19]), ([17], [17]), ([21, 17], [17, 21]), ([20, 22, 17], [17, 20, 22]), ([17], [17]), ([24, 19, 17], [17, 24]), ([23, 25, 17], [17, 23, 25]), ([17, 26], [17, 26]), ([27, 25, 0, 1, 2, 3, 4, 5, 6, 7, 8, 9, 10, 11, 12, 13, 14, 15, 16, 17, 18, 19, 20, 21, 22, 23, 24, 25, 26, 27], [27])])
def laws_FnQuorums.B19 : List Nat := [0, 1, 0, 4, 15, 0, 63, 127, 255, 511, 1023, 511, 4095, 511, 16383, 32767, 65535, 131071, 262143, 524287, 1048575, 262143, 2359295, 8388607, 262143, 17825791, 67108863, 134217727, 268435455]
theorem laws_FnQuorums.tab19 : rtab .any (opsOf Tryz.f3 19) = laws_FnQuorums.T19 := by kernel_rfl
theorem laws_FnQuorums.bits19 : waitsOk laws_FnQuorums.T19.2 laws_FnQuorums.B19 = true := by kernel_rfl
set_option maxHeartbeats 8000000 in
set_option maxRecDepth 100000 in
theorem laws_FnQuorums.calls (k : Nat) (A0 : Option Addr) (c0 : Nat) (l0 : List Int) (r : Bool) (hrt : Aside0 (r = true)) (w : World) (hr0 : Kd.C (Kd.int .u8) w A0 l0.length l0) (hc0 : l0.length ≤ c0) (h : laws_FnQuorums.f k l0 = some r) (hG : Glob w := by exact gG HG HB) :
  Calls Tryz.prog 3 #[.slice A0 l0.length c0] w fun e w' => e = .returned (.bool r) ∧ Below w.heap.size w w' := by
 have HG := Aside0.mk hG; clear hG; have hu25 := Tryz.underlying25; have hu28 := Tryz.underlying28; have HR0 := Aside0.mk hr0; have HC0 := Aside0.mk hc0; clear hr0 hc0; have HB := Aside0.mk (Below.refl w.heap.size w)
 have H := h; unfold laws_FnQuorums.f at H
 clear h; obtain ⟨t678, A2, H⟩ := oB H; (try dsimp only at H)
 go_enter Tryz.func3, Tryz.ntmps3
 have H' := Aside0.mk H; clear H
 go_upto_if 14 with (first | ((with_reducible refine gate_callee (f := 4) rfl ?_); refine gD (some 14) Tryz.func4 (laws_big.calls (hr0 := pC HR0) (hc0 := HC0.out) (w := _) (h := A2.out)) ?_; intro w3 _))
 have H := H'.out; clear H'
 by_cases c4 : t678 = true
 ·
  subst c4
  rw [if_pos rfl] at H
  obtain rfl := Option.some.inj H
  go_wp2
  go_ret
  exact ⟨y0_15, UpW.out⟩
 replace c4 := Bool.eq_false_iff.mpr c4; subst c4
 rw [if_neg (show ¬ (false = true) by decide)] at H
 obtain ⟨⟨t679, t680, t681, t682, t683⟩, A5, H⟩ := oB H; (try dsimp only at H); obtain ⟨⟨t688, t689, t690, t691, t692⟩, A6, H⟩ := oB H; (try dsimp only at H); obtain ⟨t697, A7, H⟩ := oB H; (try dsimp only at H); have H' := Aside0.mk H; clear H
 go_upto_region 6 with (first | ((with_reducible refine gate_callee (f := 5) rfl ?_); refine gC1 (some 17) Tryz.func5 (spec_DrawQcOk.calls (hr0 := pC HR0) (hc0 := HC0.out) (w := _) (h := A5.out)) ?_; intro Ao684 co684 w8 _ HO685) | ((with_reducible refine gd 3 ?_); refine bL 3 #[.int .i64 0, .int .i64 0] 25 ?_; intro gb686 w9 _ _ _) | ((with_reducible refine gd 4 ?_); refine bL 4 #[.int .i64 0, .string (⟨#[]⟩ : ByteArray), .slice none 0 0] 28 ?_; intro gb687 w10 _ _ _) | ((with_reducible refine gate_callee (f := 5) rfl ?_); refine gC1 (some 22) Tryz.func5 (spec_DrawQcOk.calls (hr0 := pC HR0) (hc0 := HC0.out) (w := _) (h := A6.out)) ?_; intro Ao693 co693 w11 _ HO694) | ((with_reducible refine gd 5 ?_); refine bL 5 #[.int .i64 0, .int .i64 0] 25 ?_; intro gb695 w12 _ _ _) | ((with_reducible refine gd 6 ?_); refine bL 6 #[.int .i64 0, .string (⟨#[]⟩ : ByteArray), .slice none 0 0] 28 ?_; intro gb696 w13 _ _ _) | ((with_reducible refine gate_callee (f := 6) rfl ?_); refine gC (some 27) Tryz.func6 (impl_QcOk.calls (hr1_2 := rC HO685) (hc1_2 := rL HO685) (w := _) (h := A7.out)) ?_; intro w14 _))
 have H := H'.out; clear H'; obtain ⟨t698, A15, H⟩ := oB H; (try dsimp only at H)
 by_cases c16 : (t697 != t698) = true
 ·
  rw [if_pos c16] at H
  have c16b0 : (t697 != t698) = true := c16
  (try (have c16b1 : decide (t697 = t698) = false := by simpa using c16))
  (try (have c16b2 : (t697 == t698) = false := by simpa using c16))
  (try (have c16b3 : ¬ (t697 = t698) := by simpa using c16))
  clear c16
  (first | rw [c16b0] | (simp only [i64_w, i32_w]; rw [c16b0]) | rw [show (!(t697 == t698)) = true from c16b0] | skip)
  exact absurd (hrt.out.symm.trans (Option.some.inj H).symm) (by decide)
 rw [if_neg c16] at H
 have c16b0 : (t697 != t698) = false := by simpa using c16
 (try (have c16b1 : decide (t697 = t698) = true := by simpa using c16))
 (try (have c16b2 : (t697 == t698) = true := by simpa using c16))
 clear c16
 (first | rw [c16b0] | (simp only [i64_w, i32_w]; rw [c16b0]) | rw [show (!(t697 == t698)) = false from c16b0] | skip)
 obtain ⟨t699, A17, H⟩ := oB H; (try dsimp only at H); obtain ⟨t700, A18, H⟩ := oB H; (try dsimp only at H)
 by_cases c19 : t699 = t700
 ·
  rw [if_pos c19] at H
  have c19b0 : (t699 == t700) = true := beq_iff_eq.mpr c19; have c19b1 : (t699 != t700) = false := bne_eq_false_iff_eq.mpr c19; clear c19; obtain ⟨t701, A20, H⟩ := oB H; (try dsimp only at H); obtain ⟨t702, A21, H⟩ := oB H; (try dsimp only at H)
  by_cases c22 : t701 = t702
  rotate_left
  ·
   rw [if_neg c22] at H
   have c22b0 : (t701 == t702) = false := beq_eq_false_iff_ne.mpr c22; have c22b1 : (t701 != t702) = true := bne_iff_ne.mpr c22
   exact absurd (hrt.out.symm.trans (Option.some.inj H).symm) (by decide)
  rw [if_pos c22] at H
  have c22b0 : (t701 == t702) = true := beq_iff_eq.mpr c22; have c22b1 : (t701 != t702) = false := bne_eq_false_iff_eq.mpr c22; clear c22; obtain ⟨t703, A23, H⟩ := oB H; (try dsimp only at H); obtain ⟨t704, A24, H⟩ := oB H; (try dsimp only at H); have H' := Aside0.mk H; clear H
  try go_wp2
  refine sB [] laws_FnQuorums.tab6 laws_FnQuorums.bits6 ?_; intro w25 _ HT_ HW_
  refine pA 0 (some 28) (bz 26 1) HT_ ?_
  refine tB 1 (some 29) (bz 26 3) HT_ HW_ ?_
  refine tB 2 (some 30) (bz 26 7) HT_ HW_ ?_
  refine o1 3 (some 31) (bz 26 15) HT_ rfl (kC Tryz.func7 (spec_QcOk.calls (hr1_2 := rC HO685) (hc1_2 := rL HO685) (w := _) (h := A15.out)) ?_); intro w26 _
  refine nA (some 31) ?_
  refine pA 4 (some 32) (bz 26 31) HT_ ?_
  refine pA 5 (some 33) (bz 26 63) HT_ ?_
  refine tB 6 (some 34) (bz 26 127) HT_ HW_ ?_
  refine tB 8 (some 36) (bz 26 383) HT_ HW_ ?_
  refine o1 7 (some 35) (bz 26 511) HT_ rfl (kC Tryz.func8 (impl_Faults.calls (w := _) (h := A17.out)) ?_); intro w27 _
  refine nA (some 35) ?_
  refine o1 9 (some 37) (bz 26 1023) HT_ rfl (kC Tryz.func9 (spec_Faults.calls (w := _) (h := A18.out)) ?_); intro w28 _
  refine nA (some 37) ?_
  refine pA 10 (some 38) (bz 26 2047) HT_ ?_
  refine pA 11 (some 39) (bz 26 4095) HT_ ?_
  refine pA 12 (some 40) (bz 26 0x1fff) HT_ ?_
  refine tB 13 (some 41) (bz 26 0x3fff) HT_ HW_ ?_
  refine tB 15 (some 43) (bz 26 0xbfff) HT_ HW_ ?_
  refine o1 14 (some 42) (bz 26 0xffff) HT_ rfl (kC Tryz.func10 (impl_Quorum.calls (w := _) (h := A20.out)) ?_); intro w29 _
  refine nA (some 42) ?_
  refine o1 16 (some 44) (bz 26 0x1ffff) HT_ rfl (kC Tryz.func11 (spec_Quorum.calls (w := _) (h := A21.out)) ?_); intro w30 _
  refine nA (some 44) ?_
  refine pA 17 (some 45) (bz 26 0x3ffff) HT_ ?_
  refine pA 18 (some 46) (bz 26 0x7ffff) HT_ ?_
  refine pA 19 (some 47) (bz 26 0xfffff) HT_ ?_
  refine tB 20 (some 48) (bz 26 0x1fffff) HT_ HW_ ?_
  refine tB 22 (some 50) (bz 26 0x5fffff) HT_ HW_ ?_
  refine o1 21 (some 49) (bz 26 0x7fffff) HT_ rfl (kC Tryz.func12 (impl_ConfOk.calls (w := _) (h := A23.out)) ?_); intro w31 _
  refine nA (some 49) ?_
  refine o1 23 (some 51) (bz 26 0xffffff) HT_ rfl (kC Tryz.func13 (spec_ConfOk.calls (w := _) (h := A24.out)) ?_); intro w32 _
  refine nA (some 51) ?_
  refine pA 24 (some 52) (bz 26 0x1ffffff) HT_ ?_
  refine pA 25 (some 53) (bz 26 0x3ffffff) HT_ ?_
  refine done_ (done_of HT_.out (by kernel_rfl)) ?_
  go_upto_if 53 with fail
  have H := H'.out; clear H'
  by_cases c33 : (t703 != t704) = true
  ·
   rw [if_pos c33] at H
   have c33b0 : (t703 != t704) = true := c33
   (try (have c33b1 : decide (t703 = t704) = false := by simpa using c33))
   (try (have c33b2 : (t703 == t704) = false := by simpa using c33))
   (try (have c33b3 : ¬ (t703 = t704) := by simpa using c33))
   clear c33
   (first | rw [c33b0] | (simp only [i64_w, i32_w]; rw [c33b0]) | rw [show (!(t703 == t704)) = true from c33b0] | skip)
   exact absurd (hrt.out.symm.trans (Option.some.inj H).symm) (by decide)
  rw [if_neg c33] at H
  have c33b0 : (t703 != t704) = false := by simpa using c33
  (try (have c33b1 : decide (t703 = t704) = true := by simpa using c33))
  (try (have c33b2 : (t703 == t704) = true := by simpa using c33))
  clear c33
  (first | rw [c33b0] | (simp only [i64_w, i32_w]; rw [c33b0]) | rw [show (!(t703 == t704)) = false from c33b0] | skip)
  obtain ⟨⟨t705, t706, t707, t710, t711, t712⟩, A34, H⟩ := oB H; (try dsimp only at H); obtain ⟨⟨t717, t718, t719⟩, A35, H⟩ := oB H; (try dsimp only at H); have H' := Aside0.mk H; clear H
  go_upto_region 10 with (first | ((with_reducible refine gate_callee (f := 14) rfl ?_); refine gC2 (some 56) Tryz.func14 (spec_DrawQcLater.calls (hr0 := pC HR0) (hc0 := HC0.out) (w := _) (h := A34.out)) ?_; intro Ao708 co708 Ao713 co713 w36 _ HO709 HO714) | ((with_reducible refine gd 8 ?_); refine bL 8 #[.int .i64 0, .string (⟨#[]⟩ : ByteArray), .slice none 0 0] 28 ?_; intro gb715 w37 _ _ _) | ((with_reducible refine gd 9 ?_); refine bL 9 #[.int .i64 0, .string (⟨#[]⟩ : ByteArray), .slice none 0 0] 28 ?_; intro gb716 w38 _ _ _) | ((with_reducible refine gate_callee (f := 15) rfl ?_); refine gC1 (some 61) Tryz.func15 (impl_QcLater.calls (hr0_2 := rC HO709) (hc0_2 := rL HO709) (hr1_2 := rC HO714) (hc1_2 := rL HO714) (w := _) (h := A35.out)) ?_; intro Ao720 co720 w39 _ HO721) | ((with_reducible refine gd 10 ?_); refine bL 10 #[.int .i64 0, .string (⟨#[]⟩ : ByteArray), .slice none 0 0] 28 ?_; intro gb722 w40 _ _ _))
  have H := H'.out; clear H'; obtain ⟨⟨t723, t724, t725⟩, A41, H⟩ := oB H; (try dsimp only at H); obtain ⟨t728, A42, H⟩ := oB H; (try dsimp only at H)
  by_cases c43 : t728 = true
  rotate_left
  ·
   replace c43 := Bool.eq_false_iff.mpr c43; subst c43
   rw [if_neg (show ¬ (false = true) by decide)] at H
   exact absurd (hrt.out.symm.trans (Option.some.inj H).symm) (by decide)
  subst c43
  rw [if_pos rfl] at H
  by_cases c44 : t717 < t705
  ·
   rw [if_pos c44] at H
   have c44b0 : decide (t717 < t705) = true := decide_eq_true c44; clear c44
   (first | rw [c44b0] | (simp only [i64_w, i32_w]; rw [c44b0]) | skip)
   by_cases c45 : t717 < t710
   ·
    rw [if_pos c45] at H
    have c45b0 : decide (t717 < t710) = true := decide_eq_true c45; clear c45
    exact absurd (hrt.out.symm.trans (Option.some.inj H).symm) (by decide)
   rw [if_neg c45] at H
   have c45b0 : decide (t717 < t710) = false := decide_eq_false c45; clear c45; obtain ⟨⟨t729, t730, t731⟩, A46, H⟩ := oB H; (try dsimp only at H); obtain ⟨⟨t734, t735, t736⟩, A47, H⟩ := oB H; (try dsimp only at H); obtain ⟨t739, A48, H⟩ := oB H; (try dsimp only at H); have H' := Aside0.mk H; clear H
   try go_wp2
   refine sB [] laws_FnQuorums.tab10 laws_FnQuorums.bits10 ?_; intro w49 _ HT_ HW_
   refine tB 0 (some 62) (bz 26 1) HT_ HW_ ?_
   refine tB 1 (some 63) (bz 26 3) HT_ HW_ ?_
   refine tB 2 (some 64) (bz 26 7) HT_ HW_ ?_
   refine o1 3 (some 65) (bz 26 15) HT_ rfl (kC1 Tryz.func17 (spec_QcLater.calls (hr0_2 := rC HO709) (hc0_2 := rL HO709) (hr1_2 := rC HO714) (hc1_2 := rL HO714) (w := _) (h := A41.out)) ?_); intro Ao726 co726 w50 _ HO727
   refine nA (some 65) ?_
   refine o1 4 (some 66) (bz 26 31) HT_ rfl (kC Tryz.func16 (impl_QcSame.calls (hr0_2 := rC HO721) (hc0_2 := rL HO721) (hr1_2 := rC HO727) (hc1_2 := rL HO727) (w := _) (h := A42.out)) ?_); intro w51 _
   refine nA (some 66) ?_
   refine pA 5 (some 67) (bz 26 63) HT_ ?_
   refine pA 6 (some 68) (bz 26 127) HT_ ?_
   refine pA 7 (some 69) (bz 26 255) HT_ ?_
   refine tB 8 (some 70) (bz 26 511) HT_ HW_ ?_
   refine pA 9 (some 71) (bz 26 1023) HT_ ?_
   refine tB 10 (some 72) (bz 26 2047) HT_ HW_ ?_
   refine pA 11 (some 73) (bz 26 4095) HT_ ?_
   refine pA 12 (some 74) (bz 26 0x1fff) HT_ ?_
   refine pA 13 (some 75) (bz 26 0x3fff) HT_ ?_
   refine tB 14 (some 76) (bz 26 0x7fff) HT_ HW_ ?_
   refine pA 15 (some 77) (bz 26 0xffff) HT_ ?_
   refine tB 16 (some 78) (bz 26 0x1ffff) HT_ HW_ ?_
   refine pA 17 (some 79) (bz 26 0x3ffff) HT_ ?_
   refine pA 18 (some 80) (bz 26 0x7ffff) HT_ ?_
   refine pA 19 (some 81) (bz 26 0xfffff) HT_ ?_
   refine pA 20 (some 82) (bz 26 0x1fffff) HT_ ?_
   refine o1 21 (some 83) (bz 26 0x3fffff) HT_ rfl (kC1 Tryz.func18 (impl_QcFirst.calls (w := _) (h := A46.out)) ?_); intro Ao732 co732 w52 _ HO733
   refine nA (some 83) ?_
   refine o1 22 (some 84) (bz 26 0x7fffff) HT_ rfl (kC1 Tryz.func19 (spec_QcFirst.calls (w := _) (h := A47.out)) ?_); intro Ao737 co737 w53 _ HO738
   refine nA (some 84) ?_
   refine o1 23 (some 85) (bz 26 0xffffff) HT_ rfl (kC Tryz.func16 (impl_QcSame.calls (hr0_2 := rC HO733) (hc0_2 := rL HO733) (hr1_2 := rC HO738) (hc1_2 := rL HO738) (w := _) (h := A48.out)) ?_); intro w54 _
   refine nA (some 85) ?_
   refine pA 24 (some 86) (bz 26 0x1ffffff) HT_ ?_
   refine pA 25 (some 87) (bz 26 0x3ffffff) HT_ ?_
   refine done_ (done_of HT_.out (by kernel_rfl)) ?_
   go_upto_if 87 with fail
   have H := H'.out; clear H'
   by_cases c55 : t739 = true
   rotate_left
   ·
    replace c55 := Bool.eq_false_iff.mpr c55; subst c55
    rw [if_neg (show ¬ (false = true) by decide)] at H
    exact absurd (hrt.out.symm.trans (Option.some.inj H).symm) (by decide)
   subst c55
   rw [if_pos rfl] at H
   by_cases c56 : t697 = true
   ·
    subst c56
    rw [if_pos rfl] at H
    obtain ⟨t740, A57, H⟩ := oB H; (try dsimp only at H)
    by_cases c58 : t740 = true
    ·
     subst c58
     rw [if_pos rfl] at H
     by_cases c59 : (!(t679 == t688) || (!(t680 == t689))) = true
     ·
      rw [if_pos c59] at H
      have c59b0 : (!(t679 == t688) || (!(t680 == t689))) = true := c59
      clear c59
      (first | rw [c59b0] | (simp only [i64_w, i32_w]; rw [c59b0]) | skip)
      have H' := Aside0.mk H; clear H
      go_upto_if 110 with (first | (go_at_call 6; refine aC (impl_QcOk.calls (hr1_2 := rC HO694) (hc1_2 := rL HO694) (w := _) (h := A57.out)) ?_; intro w60 _))
      have H := H'.out; clear H'; obtain rfl := Option.some.inj H
      go_wp2
      go_ret
      exact ⟨y0_15, UpW.out⟩
     rw [if_neg c59] at H
     have c59b0 : (!(t679 == t688) || (!(t680 == t689))) = false := by simpa using c59
     clear c59
     (first | rw [c59b0] | (simp only [i64_w, i32_w]; rw [c59b0]) | skip)
     by_cases c61 : t682.toList = ([] : List UInt8)
     ·
      rw [if_pos c61] at H
      have c61b0 : (t682.toList == ([] : List UInt8)) = true := beq_iff_eq.mpr c61; have c61b1 : (t682.toList != ([] : List UInt8)) = false := bne_eq_false_iff_eq.mpr c61; clear c61; have H' := Aside0.mk H; clear H
      go_upto_if 110 with (first | (go_at_call 6; refine aC (impl_QcOk.calls (hr1_2 := rC HO694) (hc1_2 := rL HO694) (w := _) (h := A57.out)) ?_; intro w62 _))
      have H := H'.out; clear H'; obtain rfl := Option.some.inj H
      go_wp2
      go_ret
      exact ⟨y0_15, UpW.out⟩
     rw [if_neg c61] at H
     have c61b0 : (t682.toList == ([] : List UInt8)) = false := beq_eq_false_iff_ne.mpr c61; have c61b1 : (t682.toList != ([] : List UInt8)) = true := bne_iff_ne.mpr c61; have H' := Aside0.mk H; clear H
     go_upto_if 110 with (first | (go_at_call 6; refine aC (impl_QcOk.calls (hr1_2 := rC HO694) (hc1_2 := rL HO694) (w := _) (h := A57.out)) ?_; intro w63 _))
     have H := H'.out; clear H'
     by_cases c64 : t691.toList = ([] : List UInt8)
     ·
      rw [if_pos c64] at H
      have c64b0 : (t691.toList == ([] : List UInt8)) = true := beq_iff_eq.mpr c64; have c64b1 : (t691.toList != ([] : List UInt8)) = false := bne_eq_false_iff_eq.mpr c64; clear c64
      (first | rw [c64b0] | (simp only [i64_w, i32_w]; rw [c64b0]) | rw [show List.isEmpty (t691.toList) = true from by simpa using c64b0] | skip)
      obtain rfl := Option.some.inj H
      go_wp2
      go_ret
      exact ⟨y0_15, UpW.out⟩
     rw [if_neg c64] at H
     have c64b0 : (t691.toList == ([] : List UInt8)) = false := beq_eq_false_iff_ne.mpr c64; have c64b1 : (t691.toList != ([] : List UInt8)) = true := bne_iff_ne.mpr c64
     (first | rw [c64b0] | (simp only [i64_w, i32_w]; rw [c64b0]) | rw [show List.isEmpty (t691.toList) = false from by simpa using c64b0] | skip)
     obtain ⟨y741, hy741⟩ : ∃ y_ : List Int, y_ = (([] : List Int)) := ⟨_, rfl⟩
     replace H : ((impl_Faults.f t679 t680).bind fun t744 => (laws_FnQuorums.l0 k y741 t744 t679 t680 t681 t682 t683 t690 t691 t692)) = some r := by first | (rw [hy741]; with_reducible exact H) | (have H2_ := (Option.bind_some _ _).symm.trans H; rw [hy741]; with_reducible exact H2_) | (have H2_ := (Option.bind_some _ _).symm.trans H; with_reducible exact H2_) | with_reducible exact H | (rw [hy741]; exact H) | exact H
     have Ny741 := Aside0.mk hy741; clear hy741; obtain ⟨t744, A65, H⟩ := oB H; (try dsimp only at H); have H' := Aside0.mk H; clear H
     go_wp2_with (first | ((with_reducible refine gate_dst (N := 111) rfl ?_); refine lL 111 3 (Kd.int .i64) rfl Ny741 ?_; intro Ao742 co742 w66 _ HO743) | ((with_reducible refine gate_callee (f := 8) rfl ?_); refine gC (some 113) Tryz.func8 (impl_Faults.calls (w := _) (h := A65.out)) ?_; intro w67 _))
     refine wC ?_; intro w68 _
     go_loopg [11, 12] k (fun kq v11 v12 w' => ∃ (x11_1 : List Int) (x12_1 : Int) (Ao11_1 : Option Addr) (co11_1 : Nat), v11 = .slice Ao11_1 x11_1.length co11_1 ∧ v12 = .int .i64 x12_1 ∧ Aside0 (laws_FnQuorums.l0 kq x11_1 x12_1 t679 t680 t681 t682 t683 t690 t691 t692 = some r) ∧ Aside0 (kq ≤ k) ∧ Aside0 (Kd.R (Kd.int .i64) 3 w' w63.heap.size (iv w63 w') (.slice Ao11_1 x11_1.length co11_1) x11_1) ∧ KT w68 [] w63 _ (Kd.int .i64) 3 w' ∧ LB w w')
     case atStart => exact ⟨(y741), (t744), (Ao742), (co742), y0_15, y0_15, H', ⟨Nat.le_refl _⟩, ⟨rJ HO743⟩, ⟨UpT.out⟩, ⟨UpW.out⟩⟩
     case round =>
      clear H'; obtain ⟨x11_1, x12_1, Ao11_1, co11_1, rfl, rfl, HA, HK1, HO_11, _, _⟩ := hrel; have HO_688002 := HO685; have HO_697002 := HO694; have HO_716002 := HO709; have HO_717002 := HO714; have HO_723002 := HO721; have HO_111 := HO743; cases gk with
      | zero => exact absurd HA.out (by simp [laws_FnQuorums.l0])
      | succ k1 =>
       have H := HA.out; clear HA
       simp only [laws_FnQuorums.l0] at H
       replace HO685 := rT (W' := wr) (W := w68) HO685; replace HO694 := rT (W' := wr) (W := w68) HO694; replace HO721 := rT (W' := wr) (W := w68) HO721; replace HO727 := rT (W' := wr) (W := w68) HO727; replace HO733 := rT (W' := wr) (W := w68) HO733; replace HO738 := rT (W' := wr) (W := w68) HO738; replace HO_688002 := rT (W' := wr) (W := w68) HO_688002; replace HO_697002 := rT (W' := wr) (W := w68) HO_697002; replace HO_723002 := rT (W' := wr) (W := w68) HO_723002; have H' := Aside0.mk H; clear H
       go_upto_if 117 with fail
       have H := H'.out; clear H'
       by_cases c69 : x12_1 < t679
       ·
        rw [if_pos c69] at H
        have c69b0 : decide (x12_1 < t679) = true := decide_eq_true c69; clear c69
        (first | rw [c69b0] | (simp only [i64_w, i32_w]; rw [c69b0]) | skip)
        by_cases c70 : x11_1.length < 17592186044416
        rotate_left
        ·
         rw [if_neg c70] at H
         exact absurd H (by simp)
        rw [if_pos c70] at H
        have LMc70 := Aside0.mk c70; clear c70; obtain ⟨y745, hy745⟩ : ∃ y_ : List Int, y_ = (x11_1 ++ [x12_1]) := ⟨_, rfl⟩
        replace H : (laws_FnQuorums.l0 k1 y745 (wrap64 (x12_1 + 1)) t679 t680 t681 t682 t683 t690 t691 t692) = some r := by first | (rw [hy745]; with_reducible exact H) | (have H2_ := (Option.bind_some _ _).symm.trans H; rw [hy745]; with_reducible exact H2_) | (have H2_ := (Option.bind_some _ _).symm.trans H; with_reducible exact H2_) | with_reducible exact H | (rw [hy745]; exact H) | exact H
        have Ny745 := Aside0.mk hy745; clear hy745; have H' := Aside0.mk H; clear H
        go_wp2_with (first | ((with_reducible refine gate_builtin (b := .append) (xs := #[.tmp 120, .tmp 122]) rfl ?_); at_builtin; refine gA (Kd.int .i64) (.tmp 120) (.tmp 122) 26 3 (.int .i64 0) 8 x12_1 [.int .i64 x12_1] w63 Ny745 HO_11 rfl (by have := LMc70.out; omega) ?_ (ht := Tryz.underlying26) (hinfo := info3); intro Ao746 co746 w71 _ _ HO747; replace HO685 := rG (W' := w71) HO685; replace HO694 := rG (W' := w71) HO694; replace HO721 := rG (W' := w71) HO721; replace HO727 := rG (W' := w71) HO727; replace HO733 := rG (W' := w71) HO733; replace HO738 := rG (W' := w71) HO738; replace HO_688002 := rG (W' := w71) HO_688002; replace HO_697002 := rG (W' := w71) HO_697002; replace HO_723002 := rG (W' := w71) HO_723002))
        go_roundg k1
        case measure => have := HK1.out; omega
        case rel => exact ⟨(y745), (wrap64 (x12_1 + 1)), (Ao746), (co746), y0_15, y0_15, H', ⟨y0_17⟩, ⟨rJ HO747⟩, ⟨UpT.out⟩, ⟨UpW.out⟩⟩
       rw [if_neg c69] at H
       have c69b0 : decide (x12_1 < t679) = false := decide_eq_false c69; clear c69
       (first | rw [c69b0] | (simp only [i64_w, i32_w]; rw [c69b0]) | skip)
       obtain ⟨t748, A72, H⟩ := oB H; (try dsimp only at H); obtain ⟨t749, A73, H⟩ := oB H; (try dsimp only at H)
       by_cases c74 : t748 > t749
       rotate_left
       ·
        rw [if_neg c74] at H
        have c74b0 : decide (t749 < t748) = false := decide_eq_false c74; clear c74
        exact absurd (hrt.out.symm.trans (Option.some.inj H).symm) (by decide)
       rw [if_pos c74] at H
       have c74b0 : decide (t749 < t748) = true := decide_eq_true c74; clear c74; obtain ⟨t750, A75, H⟩ := oB H; (try dsimp only at H); obtain ⟨t751, A76, H⟩ := oB H; (try dsimp only at H)
       by_cases c77 : t750 > t751
       rotate_left
       ·
        rw [if_neg c77] at H
        have c77b0 : decide (t751 < t750) = false := decide_eq_false c77; clear c77
        exact absurd (hrt.out.symm.trans (Option.some.inj H).symm) (by decide)
       rw [if_pos c77] at H
       have c77b0 : decide (t751 < t750) = true := decide_eq_true c77; clear c77; obtain ⟨t752, A78, H⟩ := oB H; (try dsimp only at H); obtain ⟨t753, A79, H⟩ := oB H; (try dsimp only at H); obtain rfl := Option.some.inj H
       try go_wp2
       refine sB [] laws_FnQuorums.tab19 laws_FnQuorums.bits19 ?_; intro w80 _ HT_ HW_
       refine pA 0 (some 124) (bz 29 1) HT_ ?_
       refine tB 1 (some 125) (bz 29 3) HT_ HW_ ?_
       refine pA 2 (some 126) (bz 29 7) HT_ ?_
       refine tB 3 (some 127) (bz 29 15) HT_ HW_ ?_
       refine tB 5 (some 129) (bz 29 47) HT_ HW_ ?_
       refine o1 4 (some 128) (bz 29 63) HT_ rfl (kD Tryz.func20 (impl_Common.calls (hr0 := rC HO_688002) (hc0 := rL HO_688002) (hr1 := rC HO_697002) (hc1 := rL HO_697002) (w := _) (h := A72.out)) ?_); intro w81 _
       refine nA (some 128) ?_
       refine o1 6 (some 130) (bz 29 127) HT_ rfl (kC Tryz.func8 (impl_Faults.calls (w := _) (h := A73.out)) ?_); intro w82 _
       refine nA (some 130) ?_
       refine pA 7 (some 131) (bz 29 255) HT_ ?_
       refine pA 8 (some 132) (bz 29 511) HT_ ?_
       refine pA 9 (some 133) (bz 29 1023) HT_ ?_
       refine tB 10 (some 134) (bz 29 2047) HT_ HW_ ?_
       refine pA 11 (some 135) (bz 29 4095) HT_ ?_
       refine tB 13 (some 137) (bz 29 0x2fff) HT_ HW_ ?_
       refine o1 12 (some 136) (bz 29 0x3fff) HT_ rfl (kD Tryz.func20 (impl_Common.calls (hr0 := rC HO_688002) (hc0 := rL HO_688002) (hr1 := rC HO_11) (hc1 := rL HO_11) (w := _) (h := A75.out)) ?_); intro w83 _
       refine nA (some 136) ?_
       refine o1 14 (some 138) (bz 29 0x7fff) HT_ rfl (kC Tryz.func8 (impl_Faults.calls (w := _) (h := A76.out)) ?_); intro w84 _
       refine nA (some 138) ?_
       refine pA 15 (some 139) (bz 29 0xffff) HT_ ?_
       refine pA 16 (some 140) (bz 29 0x1ffff) HT_ ?_
       refine pA 17 (some 141) (bz 29 0x3ffff) HT_ ?_
       refine tB 18 (some 142) (bz 29 0x7ffff) HT_ HW_ ?_
       refine pA 21 (some 145) (bz 29 0x27ffff) HT_ ?_
       refine tB 22 (some 146) (bz 29 0x67ffff) HT_ HW_ ?_
       refine tB 24 (some 148) (bz 29 0x167ffff) HT_ HW_ ?_
       refine o1 19 (some 143) (bz 29 0x16fffff) HT_ rfl (kC Tryz.func10 (impl_Quorum.calls (w := _) (h := A78.out)) ?_); intro w85 _
       refine nA (some 143) ?_
       refine pA 20 (some 144) (bz 29 0x17fffff) HT_ ?_
       refine pA 23 (some 147) (bz 29 0x1ffffff) HT_ ?_
       refine o1 25 (some 149) (bz 29 0x3ffffff) HT_ rfl (kC Tryz.func8 (impl_Faults.calls (w := _) (h := A79.out)) ?_); intro w86 _
       refine nA (some 149) ?_
       refine pA 26 (some 150) (bz 29 0x7ffffff) HT_ ?_
       refine pA 27 (some 151) (bz 29 0xfffffff) HT_ ?_
       refine pA 28 (some 2) (bz 29 0x1fffffff) HT_ ?_
       refine done_ (done_of HT_.out (by kernel_rfl)) ?_
       try go_wp2
       go_ret
       exact ⟨y0_15, UpW.out⟩
    replace c58 := Bool.eq_false_iff.mpr c58; subst c58
    rw [if_neg (show ¬ (false = true) by decide)] at H
    have H' := Aside0.mk H; clear H
    go_upto_if 110 with (first | (go_at_call 6; refine aC (impl_QcOk.calls (hr1_2 := rC HO694) (hc1_2 := rL HO694) (w := _) (h := A57.out)) ?_; intro w87 _))
    have H := H'.out; clear H'; obtain rfl := Option.some.inj H
    go_wp2
    go_ret
    exact ⟨y0_15, UpW.out⟩
   replace c56 := Bool.eq_false_iff.mpr c56; subst c56
   rw [if_neg (show ¬ (false = true) by decide)] at H
   obtain rfl := Option.some.inj H
   go_wp2
   go_ret
   exact ⟨y0_15, UpW.out⟩
  rw [if_neg c44] at H
  have c44b0 : decide (t717 < t705) = false := decide_eq_false c44; clear c44
  (first | rw [c44b0] | (simp only [i64_w, i32_w]; rw [c44b0]) | skip)
  obtain ⟨⟨t754, t755, t756⟩, A88, H⟩ := oB H; (try dsimp only at H); obtain ⟨⟨t759, t760, t761⟩, A89, H⟩ := oB H; (try dsimp only at H); obtain ⟨t764, A90, H⟩ := oB H; (try dsimp only at H); have H' := Aside0.mk H; clear H
  try go_wp2
  refine sB [] laws_FnQuorums.tab10 laws_FnQuorums.bits10 ?_; intro w91 _ HT_ HW_
  refine tB 0 (some 62) (bz 26 1) HT_ HW_ ?_
  refine tB 1 (some 63) (bz 26 3) HT_ HW_ ?_
  refine tB 2 (some 64) (bz 26 7) HT_ HW_ ?_
  refine o1 3 (some 65) (bz 26 15) HT_ rfl (kC1 Tryz.func17 (spec_QcLater.calls (hr0_2 := rC HO709) (hc0_2 := rL HO709) (hr1_2 := rC HO714) (hc1_2 := rL HO714) (w := _) (h := A41.out)) ?_); intro Ao726 co726 w92 _ HO727
  refine nA (some 65) ?_
  refine o1 4 (some 66) (bz 26 31) HT_ rfl (kC Tryz.func16 (impl_QcSame.calls (hr0_2 := rC HO721) (hc0_2 := rL HO721) (hr1_2 := rC HO727) (hc1_2 := rL HO727) (w := _) (h := A42.out)) ?_); intro w93 _
  refine nA (some 66) ?_
  refine pA 5 (some 67) (bz 26 63) HT_ ?_
  refine pA 6 (some 68) (bz 26 127) HT_ ?_
  refine pA 7 (some 69) (bz 26 255) HT_ ?_
  refine tB 8 (some 70) (bz 26 511) HT_ HW_ ?_
  refine pA 9 (some 71) (bz 26 1023) HT_ ?_
  refine tB 10 (some 72) (bz 26 2047) HT_ HW_ ?_
  refine pA 11 (some 73) (bz 26 4095) HT_ ?_
  refine pA 12 (some 74) (bz 26 0x1fff) HT_ ?_
  refine pU 13 (some 75) (bz 26 0x3fff) HT_ ?_
  refine pU 14 (some 76) (bz 26 0x7fff) HT_ ?_
  refine pU 15 (some 77) (bz 26 0xffff) HT_ ?_
  refine pU 16 (some 78) (bz 26 0x1ffff) HT_ ?_
  refine pU 17 (some 79) (bz 26 0x3ffff) HT_ ?_
  refine pA 18 (some 80) (bz 26 0x7ffff) HT_ ?_
  refine pA 19 (some 81) (bz 26 0xfffff) HT_ ?_
  refine pA 20 (some 82) (bz 26 0x1fffff) HT_ ?_
  refine o1 21 (some 83) (bz 26 0x3fffff) HT_ rfl (kC1 Tryz.func18 (impl_QcFirst.calls (w := _) (h := A88.out)) ?_); intro Ao757 co757 w94 _ HO758
  refine nA (some 83) ?_
  refine o1 22 (some 84) (bz 26 0x7fffff) HT_ rfl (kC1 Tryz.func19 (spec_QcFirst.calls (w := _) (h := A89.out)) ?_); intro Ao762 co762 w95 _ HO763
  refine nA (some 84) ?_
  refine o1 23 (some 85) (bz 26 0xffffff) HT_ rfl (kC Tryz.func16 (impl_QcSame.calls (hr0_2 := rC HO758) (hc0_2 := rL HO758) (hr1_2 := rC HO763) (hc1_2 := rL HO763) (w := _) (h := A90.out)) ?_); intro w96 _
  refine nA (some 85) ?_
  refine pA 24 (some 86) (bz 26 0x1ffffff) HT_ ?_
  refine pA 25 (some 87) (bz 26 0x3ffffff) HT_ ?_
  refine done_ (done_of HT_.out (by kernel_rfl)) ?_
  go_upto_if 87 with fail
  have H := H'.out; clear H'
  by_cases c97 : t764 = true
  rotate_left
  ·
   replace c97 := Bool.eq_false_iff.mpr c97; subst c97
   rw [if_neg (show ¬ (false = true) by decide)] at H
   exact absurd (hrt.out.symm.trans (Option.some.inj H).symm) (by decide)
  subst c97
  rw [if_pos rfl] at H
  by_cases c98 : t697 = true
  ·
   subst c98
   rw [if_pos rfl] at H
   obtain ⟨t765, A99, H⟩ := oB H; (try dsimp only at H)
   by_cases c100 : t765 = true
   ·
    subst c100
    rw [if_pos rfl] at H
    by_cases c101 : (!(t679 == t688) || (!(t680 == t689))) = true
    ·
     rw [if_pos c101] at H
     have c101b0 : (!(t679 == t688) || (!(t680 == t689))) = true := c101
     clear c101
     (first | rw [c101b0] | (simp only [i64_w, i32_w]; rw [c101b0]) | skip)
     have H' := Aside0.mk H; clear H
     go_upto_if 110 with (first | (go_at_call 6; refine aC (impl_QcOk.calls (hr1_2 := rC HO694) (hc1_2 := rL HO694) (w := _) (h := A99.out)) ?_; intro w102 _))
     have H := H'.out; clear H'; obtain rfl := Option.some.inj H
     go_wp2
     go_ret
     exact ⟨y0_15, UpW.out⟩
    rw [if_neg c101] at H
    have c101b0 : (!(t679 == t688) || (!(t680 == t689))) = false := by simpa using c101
    clear c101
    (first | rw [c101b0] | (simp only [i64_w, i32_w]; rw [c101b0]) | skip)
    by_cases c103 : t682.toList = ([] : List UInt8)
    ·
     rw [if_pos c103] at H
     have c103b0 : (t682.toList == ([] : List UInt8)) = true := beq_iff_eq.mpr c103; have c103b1 : (t682.toList != ([] : List UInt8)) = false := bne_eq_false_iff_eq.mpr c103; clear c103; have H' := Aside0.mk H; clear H
     go_upto_if 110 with (first | (go_at_call 6; refine aC (impl_QcOk.calls (hr1_2 := rC HO694) (hc1_2 := rL HO694) (w := _) (h := A99.out)) ?_; intro w104 _))
     have H := H'.out; clear H'; obtain rfl := Option.some.inj H
     go_wp2
     go_ret
     exact ⟨y0_15, UpW.out⟩
    rw [if_neg c103] at H
    have c103b0 : (t682.toList == ([] : List UInt8)) = false := beq_eq_false_iff_ne.mpr c103; have c103b1 : (t682.toList != ([] : List UInt8)) = true := bne_iff_ne.mpr c103; have H' := Aside0.mk H; clear H
    go_upto_if 110 with (first | (go_at_call 6; refine aC (impl_QcOk.calls (hr1_2 := rC HO694) (hc1_2 := rL HO694) (w := _) (h := A99.out)) ?_; intro w105 _))
    have H := H'.out; clear H'
    by_cases c106 : t691.toList = ([] : List UInt8)
    ·
     rw [if_pos c106] at H
     have c106b0 : (t691.toList == ([] : List UInt8)) = true := beq_iff_eq.mpr c106; have c106b1 : (t691.toList != ([] : List UInt8)) = false := bne_eq_false_iff_eq.mpr c106; clear c106
     (first | rw [c106b0] | (simp only [i64_w, i32_w]; rw [c106b0]) | rw [show List.isEmpty (t691.toList) = true from by simpa using c106b0] | skip)
     obtain rfl := Option.some.inj H
     go_wp2
     go_ret
     exact ⟨y0_15, UpW.out⟩
    rw [if_neg c106] at H
    have c106b0 : (t691.toList == ([] : List UInt8)) = false := beq_eq_false_iff_ne.mpr c106; have c106b1 : (t691.toList != ([] : List UInt8)) = true := bne_iff_ne.mpr c106
    (first | rw [c106b0] | (simp only [i64_w, i32_w]; rw [c106b0]) | rw [show List.isEmpty (t691.toList) = false from by simpa using c106b0] | skip)
    obtain ⟨y766, hy766⟩ : ∃ y_ : List Int, y_ = (([] : List Int)) := ⟨_, rfl⟩
    replace H : ((impl_Faults.f t679 t680).bind fun t769 => (laws_FnQuorums.l0 k y766 t769 t679 t680 t681 t682 t683 t690 t691 t692)) = some r := by first | (rw [hy766]; with_reducible exact H) | (have H2_ := (Option.bind_some _ _).symm.trans H; rw [hy766]; with_reducible exact H2_) | (have H2_ := (Option.bind_some _ _).symm.trans H; with_reducible exact H2_) | with_reducible exact H | (rw [hy766]; exact H) | exact H
    have Ny766 := Aside0.mk hy766; clear hy766; obtain ⟨t769, A107, H⟩ := oB H; (try dsimp only at H); have H' := Aside0.mk H; clear H
    go_wp2_with (first | ((with_reducible refine gate_dst (N := 111) rfl ?_); refine lL 111 3 (Kd.int .i64) rfl Ny766 ?_; intro Ao767 co767 w108 _ HO768) | ((with_reducible refine gate_callee (f := 8) rfl ?_); refine gC (some 113) Tryz.func8 (impl_Faults.calls (w := _) (h := A107.out)) ?_; intro w109 _))
    refine wC ?_; intro w110 _
    go_loopg [11, 12] k (fun kq v11 v12 w' => ∃ (x11_1 : List Int) (x12_1 : Int) (Ao11_1 : Option Addr) (co11_1 : Nat), v11 = .slice Ao11_1 x11_1.length co11_1 ∧ v12 = .int .i64 x12_1 ∧ Aside0 (laws_FnQuorums.l0 kq x11_1 x12_1 t679 t680 t681 t682 t683 t690 t691 t692 = some r) ∧ Aside0 (kq ≤ k) ∧ Aside0 (Kd.R (Kd.int .i64) 3 w' w105.heap.size (iv w105 w') (.slice Ao11_1 x11_1.length co11_1) x11_1) ∧ KT w110 [] w105 _ (Kd.int .i64) 3 w' ∧ LB w w')
    case atStart => exact ⟨(y766), (t769), (Ao767), (co767), y0_15, y0_15, H', ⟨Nat.le_refl _⟩, ⟨rJ HO768⟩, ⟨UpT.out⟩, ⟨UpW.out⟩⟩
    case round =>
     clear H'; obtain ⟨x11_1, x12_1, Ao11_1, co11_1, rfl, rfl, HA, HK1, HO_11, _, _⟩ := hrel; have HO_688002 := HO685; have HO_697002 := HO694; have HO_716002 := HO709; have HO_717002 := HO714; have HO_723002 := HO721; have HO_111 := HO768; cases gk with
     | zero => exact absurd HA.out (by simp [laws_FnQuorums.l0])
     | succ k1 =>
      have H := HA.out; clear HA
      simp only [laws_FnQuorums.l0] at H
      replace HO685 := rT (W' := wr) (W := w110) HO685; replace HO694 := rT (W' := wr) (W := w110) HO694; replace HO721 := rT (W' := wr) (W := w110) HO721; replace HO727 := rT (W' := wr) (W := w110) HO727; replace HO758 := rT (W' := wr) (W := w110) HO758; replace HO763 := rT (W' := wr) (W := w110) HO763; replace HO_688002 := rT (W' := wr) (W := w110) HO_688002; replace HO_697002 := rT (W' := wr) (W := w110) HO_697002; replace HO_723002 := rT (W' := wr) (W := w110) HO_723002; have H' := Aside0.mk H; clear H
      go_upto_if 117 with fail
      have H := H'.out; clear H'
      by_cases c111 : x12_1 < t679
      ·
       rw [if_pos c111] at H
       have c111b0 : decide (x12_1 < t679) = true := decide_eq_true c111; clear c111
       (first | rw [c111b0] | (simp only [i64_w, i32_w]; rw [c111b0]) | skip)
       by_cases c112 : x11_1.length < 17592186044416
       rotate_left
       ·
        rw [if_neg c112] at H
        exact absurd H (by simp)
       rw [if_pos c112] at H
       have LMc112 := Aside0.mk c112; clear c112; obtain ⟨y745, hy745⟩ : ∃ y_ : List Int, y_ = (x11_1 ++ [x12_1]) := ⟨_, rfl⟩
       replace H : (laws_FnQuorums.l0 k1 y745 (wrap64 (x12_1 + 1)) t679 t680 t681 t682 t683 t690 t691 t692) = some r := by first | (rw [hy745]; with_reducible exact H) | (have H2_ := (Option.bind_some _ _).symm.trans H; rw [hy745]; with_reducible exact H2_) | (have H2_ := (Option.bind_some _ _).symm.trans H; with_reducible exact H2_) | with_reducible exact H | (rw [hy745]; exact H) | exact H
       have Ny745 := Aside0.mk hy745; clear hy745; have H' := Aside0.mk H; clear H
       go_wp2_with (first | ((with_reducible refine gate_builtin (b := .append) (xs := #[.tmp 120, .tmp 122]) rfl ?_); at_builtin; refine gA (Kd.int .i64) (.tmp 120) (.tmp 122) 26 3 (.int .i64 0) 8 x12_1 [.int .i64 x12_1] w105 Ny745 HO_11 rfl (by have := LMc112.out; omega) ?_ (ht := Tryz.underlying26) (hinfo := info3); intro Ao746 co746 w113 _ _ HO747; replace HO685 := rG (W' := w113) HO685; replace HO694 := rG (W' := w113) HO694; replace HO721 := rG (W' := w113) HO721; replace HO727 := rG (W' := w113) HO727; replace HO758 := rG (W' := w113) HO758; replace HO763 := rG (W' := w113) HO763; replace HO_688002 := rG (W' := w113) HO_688002; replace HO_697002 := rG (W' := w113) HO_697002; replace HO_723002 := rG (W' := w113) HO_723002))
       go_roundg k1
       case measure => have := HK1.out; omega
       case rel => exact ⟨(y745), (wrap64 (x12_1 + 1)), (Ao746), (co746), y0_15, y0_15, H', ⟨y0_17⟩, ⟨rJ HO747⟩, ⟨UpT.out⟩, ⟨UpW.out⟩⟩
      rw [if_neg c111] at H
      have c111b0 : decide (x12_1 < t679) = false := decide_eq_false c111; clear c111
      (first | rw [c111b0] | (simp only [i64_w, i32_w]; rw [c111b0]) | skip)
      obtain ⟨t748, A114, H⟩ := oB H; (try dsimp only at H); obtain ⟨t749, A115, H⟩ := oB H; (try dsimp only at H)
      by_cases c116 : t748 > t749
      rotate_left
      ·
       rw [if_neg c116] at H
       have c116b0 : decide (t749 < t748) = false := decide_eq_false c116; clear c116
       exact absurd (hrt.out.symm.trans (Option.some.inj H).symm) (by decide)
      rw [if_pos c116] at H
      have c116b0 : decide (t749 < t748) = true := decide_eq_true c116; clear c116; obtain ⟨t750, A117, H⟩ := oB H; (try dsimp only at H); obtain ⟨t751, A118, H⟩ := oB H; (try dsimp only at H)
      by_cases c119 : t750 > t751
      rotate_left
      ·
       rw [if_neg c119] at H
       have c119b0 : decide (t751 < t750) = false := decide_eq_false c119; clear c119
       exact absurd (hrt.out.symm.trans (Option.some.inj H).symm) (by decide)
      rw [if_pos c119] at H
      have c119b0 : decide (t751 < t750) = true := decide_eq_true c119; clear c119; obtain ⟨t752, A120, H⟩ := oB H; (try dsimp only at H); obtain ⟨t753, A121, H⟩ := oB H; (try dsimp only at H); obtain rfl := Option.some.inj H
      try go_wp2
      refine sB [] laws_FnQuorums.tab19 laws_FnQuorums.bits19 ?_; intro w122 _ HT_ HW_
      refine pA 0 (some 124) (bz 29 1) HT_ ?_
      refine tB 1 (some 125) (bz 29 3) HT_ HW_ ?_
      refine pA 2 (some 126) (bz 29 7) HT_ ?_
      refine tB 3 (some 127) (bz 29 15) HT_ HW_ ?_
      refine tB 5 (some 129) (bz 29 47) HT_ HW_ ?_
      refine o1 4 (some 128) (bz 29 63) HT_ rfl (kD Tryz.func20 (impl_Common.calls (hr0 := rC HO_688002) (hc0 := rL HO_688002) (hr1 := rC HO_697002) (hc1 := rL HO_697002) (w := _) (h := A114.out)) ?_); intro w123 _
      refine nA (some 128) ?_
      refine o1 6 (some 130) (bz 29 127) HT_ rfl (kC Tryz.func8 (impl_Faults.calls (w := _) (h := A115.out)) ?_); intro w124 _
      refine nA (some 130) ?_
      refine pA 7 (some 131) (bz 29 255) HT_ ?_
      refine pA 8 (some 132) (bz 29 511) HT_ ?_
      refine pA 9 (some 133) (bz 29 1023) HT_ ?_
      refine tB 10 (some 134) (bz 29 2047) HT_ HW_ ?_
      refine pA 11 (some 135) (bz 29 4095) HT_ ?_
      refine tB 13 (some 137) (bz 29 0x2fff) HT_ HW_ ?_
      refine o1 12 (some 136) (bz 29 0x3fff) HT_ rfl (kD Tryz.func20 (impl_Common.calls (hr0 := rC HO_688002) (hc0 := rL HO_688002) (hr1 := rC HO_11) (hc1 := rL HO_11) (w := _) (h := A117.out)) ?_); intro w125 _
      refine nA (some 136) ?_
      refine o1 14 (some 138) (bz 29 0x7fff) HT_ rfl (kC Tryz.func8 (impl_Faults.calls (w := _) (h := A118.out)) ?_); intro w126 _
      refine nA (some 138) ?_
      refine pA 15 (some 139) (bz 29 0xffff) HT_ ?_
      refine pA 16 (some 140) (bz 29 0x1ffff) HT_ ?_
      refine pA 17 (some 141) (bz 29 0x3ffff) HT_ ?_
      refine tB 18 (some 142) (bz 29 0x7ffff) HT_ HW_ ?_
      refine pA 21 (some 145) (bz 29 0x27ffff) HT_ ?_
      refine tB 22 (some 146) (bz 29 0x67ffff) HT_ HW_ ?_
      refine tB 24 (some 148) (bz 29 0x167ffff) HT_ HW_ ?_
      refine o1 19 (some 143) (bz 29 0x16fffff) HT_ rfl (kC Tryz.func10 (impl_Quorum.calls (w := _) (h := A120.out)) ?_); intro w127 _
      refine nA (some 143) ?_
      refine pA 20 (some 144) (bz 29 0x17fffff) HT_ ?_
      refine pA 23 (some 147) (bz 29 0x1ffffff) HT_ ?_
      refine o1 25 (some 149) (bz 29 0x3ffffff) HT_ rfl (kC Tryz.func8 (impl_Faults.calls (w := _) (h := A121.out)) ?_); intro w128 _
      refine nA (some 149) ?_
      refine pA 26 (some 150) (bz 29 0x7ffffff) HT_ ?_
      refine pA 27 (some 151) (bz 29 0xfffffff) HT_ ?_
      refine pA 28 (some 2) (bz 29 0x1fffffff) HT_ ?_
      refine done_ (done_of HT_.out (by kernel_rfl)) ?_
      try go_wp2
      go_ret
      exact ⟨y0_15, UpW.out⟩
   replace c100 := Bool.eq_false_iff.mpr c100; subst c100
   rw [if_neg (show ¬ (false = true) by decide)] at H
   have H' := Aside0.mk H; clear H
   go_upto_if 110 with (first | (go_at_call 6; refine aC (impl_QcOk.calls (hr1_2 := rC HO694) (hc1_2 := rL HO694) (w := _) (h := A99.out)) ?_; intro w129 _))
   have H := H'.out; clear H'; obtain rfl := Option.some.inj H
   go_wp2
   go_ret
   exact ⟨y0_15, UpW.out⟩
  replace c98 := Bool.eq_false_iff.mpr c98; subst c98
  rw [if_neg (show ¬ (false = true) by decide)] at H
  obtain rfl := Option.some.inj H
  go_wp2
  go_ret
  exact ⟨y0_15, UpW.out⟩
 rw [if_neg c19] at H
 have c19b0 : (t699 == t700) = false := beq_eq_false_iff_ne.mpr c19; have c19b1 : (t699 != t700) = true := bne_iff_ne.mpr c19
 exact absurd (hrt.out.symm.trans (Option.some.inj H).symm) (by decide)


end Go.Proofs.YtagpeafaiofkjaaGreatDoor.PFnQuorums
