-- By a program of this session, out of the translation (the print of the kit, with turns of its own). Lean checks it.
import Derived.Test.YtemjmefacifdeaaGreatDoorPFnQuorumsx0
import Derived.Test.YtemjmefacifdeaaGreatDoorPFnQuorumsx1
import Derived.Test.YtemjmefacifdeaaGreatDoorPFnQuorumsx2
import Derived.Test.YtemjmefacifdeaaGreatDoorPFnQuorumsx7
import Derived.Test.YtemjmefacifdeaaGreatDoorPFnQuorumsx8
import Derived.Test.YtemjmefacifdeaaGreatDoorPFnQuorumsx9
import Derived.Test.YtemjmefacifdeaaGreatDoorPFnQuorumsx10
import Derived.Test.YtemjmefacifdeaaGreatDoorPFnQuorumsx11
import Derived.Test.YtemjmefacifdeaaGreatDoorPFnQuorumsx12
namespace Go.Proofs.YtemjmefacifdeaaGreatDoor.PFnQuorums
open Go.RowKit Go.Proofs.YtemjmefacifdeaaGreatDoorW.PrintWords Go.Proofs.YtemjmefacifdeaaGreatDoorW.PrintLast Go.Proofs.YtemjmefacifdeaaGreatDoorW.PrintMore
attribute [local go_sem] max2_int min2_int max_two min_two max_three min_three max_four min_four   -- for this text's walks alone
attribute [local go_sem] cell_in frozen_in
set_option synthInstance.maxSize 1000000
set_option synthInstance.maxHeartbeats 2000000
set_option linter.unusedVariables false
set_option linter.unusedSimpArgs false

attribute [local go_sem high] eqA38
/-! ### laws_FnQuorums: function 10 -/
def laws_FnQuorums.l0 : Nat → List Int → Int → Int → Int → Int → ByteArray → List Int → Int → ByteArray → List Int → Option (Bool)
 | 0, _, _, _, _, _, _, _, _, _, _ => none
 | k + 1, x11, x12, x687000, x687001, x688000, x688001, x688002, x697000, x697001, x697002 => if x12 < x687000 then (if x11.length < 17592186044416 then (laws_FnQuorums.l0 k (x11 ++ [x12]) (wrap64 (x12 + 1)) x687000 x687001 x688000 x688001 x688002 x697000 x697001 x697002) else (none)) else ((impl_Common.f k x688002 x697002).bind fun t748 => ((impl_Faults.f x687000 x687001).bind fun t749 => (if t748 > t749 then ((impl_Common.f k x688002 x11).bind fun t750 => ((impl_Faults.f x687000 x687001).bind fun t751 => (if t750 > t751 then ((impl_Quorum.f x687000 x687001).bind fun t752 => ((impl_Faults.f x687000 x687001).bind fun t753 => (some (decide ((wrap64 ((wrap64 (2 * t752)) - x687000)) > t753))))) else (some false)))) else (some false))))
def laws_FnQuorums.f (k : Nat) (l0 : List Int) : Option (Bool) := (laws_big.f l0).bind fun t678 => (if t678 = true then (some true) else ((spec_DrawQcOk.f k l0).bind fun bt679 => ((spec_DrawQcOk.f k l0).bind fun bt688 => ((impl_QcOk.f k bt679.1 bt679.2.1 bt679.2.2.1 bt679.2.2.2.1 bt679.2.2.2.2).bind fun t697 => ((spec_QcOk.f k bt679.1 bt679.2.1 bt679.2.2.1 bt679.2.2.2.1 bt679.2.2.2.2).bind fun t698 => (if (t697 != t698) = true then (some false) else ((impl_Faults.f bt679.1 bt679.2.1).bind fun t699 => ((spec_Faults.f bt679.1 bt679.2.1).bind fun t700 => (if t699 = t700 then ((impl_Quorum.f bt679.1 bt679.2.1).bind fun t701 => ((spec_Quorum.f bt679.1 bt679.2.1).bind fun t702 => (if t701 = t702 then ((impl_ConfOk.f bt679.1 bt679.2.1).bind fun t703 => ((spec_ConfOk.f bt679.1 bt679.2.1).bind fun t704 => (if (t703 != t704) = true then (some false) else ((spec_DrawQcLater.f k l0).bind fun bt705 => ((impl_QcLater.f bt705.1 bt705.2.1 bt705.2.2.1 bt705.2.2.2.1 bt705.2.2.2.2.1 bt705.2.2.2.2.2).bind fun bt717 => ((spec_QcLater.f bt705.1 bt705.2.1 bt705.2.2.1 bt705.2.2.2.1 bt705.2.2.2.2.1 bt705.2.2.2.2.2).bind fun bt723 => ((impl_QcSame.f k bt717.1 bt717.2.1 bt717.2.2 bt723.1 bt723.2.1 bt723.2.2).bind fun t728 => (if t728 = true then (if bt717.1 < bt705.1 then (if bt717.1 < bt705.2.2.2.1 then (some false) else ((impl_QcFirst.f).bind fun bt729 => ((spec_QcFirst.f).bind fun bt734 => ((impl_QcSame.f k bt729.1 bt729.2.1 bt729.2.2 bt734.1 bt734.2.1 bt734.2.2).bind fun t739 => (if t739 = true then (if t697 = true then ((impl_QcOk.f k bt688.1 bt688.2.1 bt688.2.2.1 bt688.2.2.2.1 bt688.2.2.2.2).bind fun t740 => (if t740 = true then (if (!(bt679.1 == bt688.1) || (!(bt679.2.1 == bt688.2.1))) = true then (some true) else (if bt679.2.2.2.1.toList = ([] : List UInt8) then (some true) else (if bt688.2.2.2.1.toList = ([] : List UInt8) then (some true) else ((impl_Faults.f bt679.1 bt679.2.1).bind fun t744 => (laws_FnQuorums.l0 k (([] : List Int)) t744 bt679.1 bt679.2.1 bt679.2.2.1 bt679.2.2.2.1 bt679.2.2.2.2 bt688.2.2.1 bt688.2.2.2.1 bt688.2.2.2.2))))) else (some true))) else (some true)) else (some false)))))) else ((impl_QcFirst.f).bind fun bt754 => ((spec_QcFirst.f).bind fun bt759 => ((impl_QcSame.f k bt754.1 bt754.2.1 bt754.2.2 bt759.1 bt759.2.1 bt759.2.2).bind fun t764 => (if t764 = true then (if t697 = true then ((impl_QcOk.f k bt688.1 bt688.2.1 bt688.2.2.1 bt688.2.2.2.1 bt688.2.2.2.2).bind fun t765 => (if t765 = true then (if (!(bt679.1 == bt688.1) || (!(bt679.2.1 == bt688.2.1))) = true then (some true) else (if bt679.2.2.2.1.toList = ([] : List UInt8) then (some true) else (if bt688.2.2.2.1.toList = ([] : List UInt8) then (some true) else ((impl_Faults.f bt679.1 bt679.2.1).bind fun t769 => (laws_FnQuorums.l0 k (([] : List Int)) t769 bt679.1 bt679.2.1 bt679.2.2.1 bt679.2.2.2.1 bt679.2.2.2.2 bt688.2.2.1 bt688.2.2.2.1 bt688.2.2.2.2))))) else (some true))) else (some true)) else (some false)))))) else (some false))))))))) else (some false)))) else (some false))))))))))
theorem laws_FnQuorums.mono_l : ∀ k, (∀ y0 y1 y2 y3 y4 y5 y6 y7 y8 y9, LeO (laws_FnQuorums.l0 k y0 y1 y2 y3 y4 y5 y6 y7 y8 y9) (laws_FnQuorums.l0 (k + 1) y0 y1 y2 y3 y4 y5 y6 y7 y8 y9))
 | 0 => fun _ _ _ _ _ _ _ _ _ _ r h => by simp [laws_FnQuorums.l0] at h
 | k + 1 => by
  have ih0 := laws_FnQuorums.mono_l k
  intro y0 y1 y2 y3 y4 y5 y6 y7 y8 y9
  unfold laws_FnQuorums.l0
  repeat' first | (with_reducible exact ih0 _ _ _ _ _ _ _ _ _ _) | (with_reducible exact impl_Common.mono _ _ _) | (with_reducible exact impl_QcOk.mono _ _ _ _ _ _) | (with_reducible exact impl_QcSame.mono _ _ _ _ _ _ _) | (with_reducible exact spec_DrawQcLater.mono _ _) | (with_reducible exact spec_DrawQcOk.mono _ _) | (with_reducible exact spec_QcOk.mono _ _ _ _ _ _) | (with_reducible exact LeO.refl _) | (with_reducible exact LeO.none _) | (with_reducible refine LeO.ite ?_ ?_) | (with_reducible refine LeO.bind ?_ (fun _ => ?_))
theorem laws_FnQuorums.mono : ∀ a0 k, LeO (laws_FnQuorums.f k a0) (laws_FnQuorums.f (k + 1) a0) := by
 intro a0 k
 have ih0 := laws_FnQuorums.mono_l k
 unfold laws_FnQuorums.f
 repeat' first | (with_reducible exact ih0 _ _ _ _ _ _ _ _ _ _) | (with_reducible exact impl_Common.mono _ _ _) | (with_reducible exact impl_QcOk.mono _ _ _ _ _ _) | (with_reducible exact impl_QcSame.mono _ _ _ _ _ _ _) | (with_reducible exact spec_DrawQcLater.mono _ _) | (with_reducible exact spec_DrawQcOk.mono _ _) | (with_reducible exact spec_QcOk.mono _ _ _ _ _ _) | (with_reducible exact LeO.refl _) | (with_reducible exact LeO.none _) | (with_reducible refine LeO.ite ?_ ?_) | (with_reducible refine LeO.bind ?_ (fun _ => ?_))
def laws_FnQuorums.T6 : Bool × List (List Nat × List Nat) := (true, [([], []), ([], []), ([], []), ([1, 2], [1, 2]), ([0, 3], [0, 3]), ([4, 3], [4]), ([5], [5]), ([6, 5, 5], [5, 6]), ([5], [5]), ([8, 7, 5], [5, 8]), ([7, 9, 5], [5, 7, 9]), ([5, 10], [5, 10]), ([11, 9], [11]), ([12], [12]), ([13, 12, 12], [12, 13]), ([12], [12]), ([15, 14, 12], [12, 15]), ([14, 16, 12], [12, 14, 16]), ([12, 17], [12, 17]), ([18, 16], [18]), ([19], [19]), ([20, 19, 19], [19, 20]), ([19], [19]), ([22, 21, 19], [19, 22]), ([21, 23, 19], [19, 21, 23]), ([19, 24], [19, 24])])
def laws_FnQuorums.B6 : List Nat := [0, 0, 0, 6, 15, 31, 63, 127, 63, 511, 1023, 2047, 4095, 8191, 16383, 8191, 65535, 131071, 262143, 524287, 1048575, 2097151, 1048575, 8388607, 16777215, 33554431]
theorem laws_FnQuorums.tab6 : rtab .any (opsOf Tryz.f10 6) = laws_FnQuorums.T6 := by kernel_rfl
theorem laws_FnQuorums.bits6 : waitsOk laws_FnQuorums.T6.2 laws_FnQuorums.B6 = true := by kernel_rfl
def laws_FnQuorums.T10 : Bool × List (List Nat × List Nat) := (true, [([], []), ([], []), ([], []), ([1, 2], [1, 2]), ([0, 3, 3], [0, 3]), ([4], [4]), ([5, 4], [5]), ([6], [6]), ([7, 6], [6, 7]), ([6], [6]), ([9, 6], [6, 9]), ([8, 10, 6], [6, 8, 10]), ([11, 6, 6], [6, 11]), ([12], [12]), ([13, 12], [12, 13]), ([12], [12]), ([15, 12], [12, 15]), ([14, 16, 12], [12, 14, 16]), ([12, 17, 6], [6, 12, 17]), ([6, 18], [6, 18]), ([19, 12], [19]), ([20, 20], [20]), ([21, 20], [20]), ([21, 22, 22, 20], [20, 21, 22]), ([23, 20], [20, 23]), ([20, 24], [20, 24])])
def laws_FnQuorums.B10 : List Nat := [0, 0, 0, 6, 15, 31, 63, 127, 255, 127, 639, 2047, 4095, 8191, 16383, 8191, 40959, 131071, 262143, 524287, 1048575, 2097151, 4194303, 8388607, 16777215, 33554431]
theorem laws_FnQuorums.tab10 : rtab .any (opsOf Tryz.f10 10) = laws_FnQuorums.T10 := by kernel_rfl
theorem laws_FnQuorums.bits10 : waitsOk laws_FnQuorums.T10.2 laws_FnQuorums.B10 = true := by kernel_rfl
def laws_FnQuorums.T19 : Bool × List (List Nat × List Nat) := (true, [([], []), ([0], [0]), ([], []), ([2], [2]), ([1, 3], [1, 3]), ([], []), ([5, 4], [5]), ([4, 6], [4, 6]), ([7, 6], [7]), ([8], [8]), ([9, 8], [8, 9]), ([8], [8]), ([10, 11, 8, 8], [8, 10, 11]), ([8], [8]), ([13, 12, 8], [8, 13]), ([12, 14, 8], [8, 12, 14]), ([8, 15], [8, 15]), ([16, 14], [16]), ([17], [17]), ([18, 17, 17], [17, 18]), ([19, 17], [17, 19]), ([17], [17]), ([21, 17], [17, 21]), ([20, 22, 17], [17, 20, 22]), ([17], [17]), ([24, 19, 17], [17, 24]), ([23, 25, 17], [17, 23, 25]), ([17, 26], [17, 26]), ([27, 25, 0, 1, 2, 3, 4, 5, 6, 7, 8, 9, 10, 11, 12, 13, 14, 15, 16, 17, 18, 19, 20, 21, 22, 23, 24, 25, 26, 27], [27])])
def laws_FnQuorums.B19 : List Nat := [0, 1, 0, 4, 15, 0, 63, 127, 255, 511, 1023, 511, 4095, 511, 16383, 32767, 65535, 131071, 262143, 524287, 1048575, 262143, 2359295, 8388607, 262143, 17825791, 67108863, 134217727, 268435455]
theorem laws_FnQuorums.tab19 : rtab .any (opsOf Tryz.f10 19) = laws_FnQuorums.T19 := by kernel_rfl
theorem laws_FnQuorums.bits19 : waitsOk laws_FnQuorums.T19.2 laws_FnQuorums.B19 = true := by kernel_rfl
set_option maxHeartbeats 8000000 in
set_option maxRecDepth 100000 in
theorem laws_FnQuorums.calls (k : Nat) (A0 : Option Addr) (c0 : Nat) (l0 : List Int) (r : Bool) (hrt : Aside0 (r = true)) (w : World) (hr0 : Kd.C (Kd.int .u8) w A0 l0.length l0) (hc0 : l0.length ≤ c0) (h : laws_FnQuorums.f k l0 = some r) (hG : Glob w := by exact gG HG HB) :
  Calls Tryz.prog 10 #[.slice A0 l0.length c0] w fun e w' => e = .returned (.bool r) ∧ Below w.heap.size w w' := by
 have HG := Aside0.mk hG; clear hG; have hu38 := Tryz.underlying38; have hu33 := Tryz.underlying33; have HR0 := Aside0.mk hr0; have HC0 := Aside0.mk hc0; clear hr0 hc0; have HB := Aside0.mk (Below.refl w.heap.size w)
 have H := h; unfold laws_FnQuorums.f at H
 clear h; obtain ⟨t678, A2, H⟩ := oB H; (try dsimp only at H)
 go_enter Tryz.func10, Tryz.ntmps10
 have H' := Aside0.mk H; clear H
 go_upto_if 14 with (first | ((with_reducible refine gate_callee (f := 36) rfl ?_); refine gD (some 14) Tryz.func36 (laws_big.calls (hr0 := pC HR0) (hc0 := HC0.out) (w := _) (h := A2.out)) ?_; intro w3 _))
 have H := H'.out; clear H'
 by_cases c4 : t678 = true
 ·
  subst c4
  rw [if_pos rfl] at H
  obtain rfl := Option.some.inj H
  go_wp2
  go_ret
  exact ⟨y0_15, UpW.out⟩
 replace c4 := Bool.eq_false_iff.mpr c4; subst c4
 rw [if_neg (show ¬ (false = true) by decide)] at H
 obtain ⟨⟨t679, t680, t681, t682, t683⟩, A5, H⟩ := oB H; (try dsimp only at H); obtain ⟨⟨t688, t689, t690, t691, t692⟩, A6, H⟩ := oB H; (try dsimp only at H); obtain ⟨t697, A7, H⟩ := oB H; (try dsimp only at H); have H' := Aside0.mk H; clear H
 go_upto_region 6 with (first | ((with_reducible refine gate_callee (f := 47) rfl ?_); refine gC1 (some 17) Tryz.func47 (spec_DrawQcOk.calls (hr0 := pC HR0) (hc0 := HC0.out) (w := _) (h := A5.out)) ?_; intro Ao684 co684 w8 _ HO685) | ((with_reducible refine gd 3 ?_); refine bL 3 #[.int .i64 0, .int .i64 0] 38 ?_; intro gb686 w9 _ _ _) | ((with_reducible refine gd 4 ?_); refine bL 4 #[.int .i64 0, .string (⟨#[]⟩ : ByteArray), .slice none 0 0] 33 ?_; intro gb687 w10 _ _ _) | ((with_reducible refine gate_callee (f := 47) rfl ?_); refine gC1 (some 22) Tryz.func47 (spec_DrawQcOk.calls (hr0 := pC HR0) (hc0 := HC0.out) (w := _) (h := A6.out)) ?_; intro Ao693 co693 w11 _ HO694) | ((with_reducible refine gd 5 ?_); refine bL 5 #[.int .i64 0, .int .i64 0] 38 ?_; intro gb695 w12 _ _ _) | ((with_reducible refine gd 6 ?_); refine bL 6 #[.int .i64 0, .string (⟨#[]⟩ : ByteArray), .slice none 0 0] 33 ?_; intro gb696 w13 _ _ _) | ((with_reducible refine gate_callee (f := 48) rfl ?_); refine gC (some 27) Tryz.func48 (impl_QcOk.calls (hr1_2 := rC HO685) (hc1_2 := rL HO685) (w := _) (h := A7.out)) ?_; intro w14 _))
 have H := H'.out; clear H'; obtain ⟨t698, A15, H⟩ := oB H; (try dsimp only at H)
 by_cases c16 : (t697 != t698) = true
 ·
  rw [if_pos c16] at H
  have c16b0 : (t697 != t698) = true := c16
  (try (have c16b1 : decide (t697 = t698) = false := by simpa using c16))
  (try (have c16b2 : (t697 == t698) = false := by simpa using c16))
  (try (have c16b3 : ¬ (t697 = t698) := by simpa using c16))
  clear c16
  (first | rw [c16b0] | (simp only [i64_w, i32_w]; rw [c16b0]) | skip)
  have H' := Aside0.mk H; clear H
  try go_wp2
  refine sB [] laws_FnQuorums.tab6 laws_FnQuorums.bits6 ?_; intro w17 _ HT_ HW_
  refine pA 0 (some 28) (bz 26 1) HT_ ?_
  refine tB 1 (some 29) (bz 26 3) HT_ HW_ ?_
  refine tB 2 (some 30) (bz 26 7) HT_ HW_ ?_
  refine o1 3 (some 31) (bz 26 15) HT_ rfl (kC Tryz.func49 (spec_QcOk.calls (hr1_2 := rC HO685) (hc1_2 := rL HO685) (w := _) (h := A15.out)) ?_); intro w18 _
  refine nA (some 31) ?_
  refine pA 4 (some 32) (bz 26 31) HT_ ?_
  refine pA 5 (some 33) (bz 26 63) HT_ ?_
  refine pU 6 (some 34) (bz 26 127) HT_ ?_
  refine pU 7 (some 35) (bz 26 255) HT_ ?_
  refine pU 8 (some 36) (bz 26 511) HT_ ?_
  refine pU 9 (some 37) (bz 26 1023) HT_ ?_
  refine pU 10 (some 38) (bz 26 2047) HT_ ?_
  refine pA 11 (some 39) (bz 26 4095) HT_ ?_
  refine pA 12 (some 40) (bz 26 0x1fff) HT_ ?_
  refine pU 13 (some 41) (bz 26 0x3fff) HT_ ?_
  refine pU 14 (some 42) (bz 26 0x7fff) HT_ ?_
  refine pU 15 (some 43) (bz 26 0xffff) HT_ ?_
  refine pU 16 (some 44) (bz 26 0x1ffff) HT_ ?_
  refine pU 17 (some 45) (bz 26 0x3ffff) HT_ ?_
  refine pA 18 (some 46) (bz 26 0x7ffff) HT_ ?_
  refine pA 19 (some 47) (bz 26 0xfffff) HT_ ?_
  refine pU 20 (some 48) (bz 26 0x1fffff) HT_ ?_
  refine pU 21 (some 49) (bz 26 0x3fffff) HT_ ?_
  refine pU 22 (some 50) (bz 26 0x7fffff) HT_ ?_
  refine pU 23 (some 51) (bz 26 0xffffff) HT_ ?_
  refine pU 24 (some 52) (bz 26 0x1ffffff) HT_ ?_
  refine pA 25 (some 53) (bz 26 0x3ffffff) HT_ ?_
  refine done_ (done_of HT_.out (by kernel_rfl)) ?_
  go_upto_if 53 with fail
  have H := H'.out; clear H'
  exact absurd (hrt.out.symm.trans (Option.some.inj H).symm) (by decide)
 rw [if_neg c16] at H
 have c16b0 : (t697 != t698) = false := by simpa using c16
 (try (have c16b1 : decide (t697 = t698) = true := by simpa using c16))
 (try (have c16b2 : (t697 == t698) = true := by simpa using c16))
 clear c16
 (first | rw [c16b0] | (simp only [i64_w, i32_w]; rw [c16b0]) | skip)
 obtain ⟨t699, A19, H⟩ := oB H; (try dsimp only at H); obtain ⟨t700, A20, H⟩ := oB H; (try dsimp only at H)
 by_cases c21 : t699 = t700
 ·
  rw [if_pos c21] at H
  have c21b0 : (t699 == t700) = true := beq_iff_eq.mpr c21; have c21b1 : (t699 != t700) = false := bne_eq_false_iff_eq.mpr c21; clear c21; obtain ⟨t701, A22, H⟩ := oB H; (try dsimp only at H); obtain ⟨t702, A23, H⟩ := oB H; (try dsimp only at H)
  by_cases c24 : t701 = t702
  ·
   rw [if_pos c24] at H
   have c24b0 : (t701 == t702) = true := beq_iff_eq.mpr c24; have c24b1 : (t701 != t702) = false := bne_eq_false_iff_eq.mpr c24; clear c24; obtain ⟨t703, A25, H⟩ := oB H; (try dsimp only at H); obtain ⟨t704, A26, H⟩ := oB H; (try dsimp only at H); have H' := Aside0.mk H; clear H
   try go_wp2
   refine sB [] laws_FnQuorums.tab6 laws_FnQuorums.bits6 ?_; intro w27 _ HT_ HW_
   refine pA 0 (some 28) (bz 26 1) HT_ ?_
   refine tB 1 (some 29) (bz 26 3) HT_ HW_ ?_
   refine tB 2 (some 30) (bz 26 7) HT_ HW_ ?_
   refine o1 3 (some 31) (bz 26 15) HT_ rfl (kC Tryz.func49 (spec_QcOk.calls (hr1_2 := rC HO685) (hc1_2 := rL HO685) (w := _) (h := A15.out)) ?_); intro w28 _
   refine nA (some 31) ?_
   refine pA 4 (some 32) (bz 26 31) HT_ ?_
   refine pA 5 (some 33) (bz 26 63) HT_ ?_
   refine tB 6 (some 34) (bz 26 127) HT_ HW_ ?_
   refine tB 8 (some 36) (bz 26 383) HT_ HW_ ?_
   refine o1 7 (some 35) (bz 26 511) HT_ rfl (kC Tryz.func50 (impl_Faults.calls (w := _) (h := A19.out)) ?_); intro w29 _
   refine nA (some 35) ?_
   refine o1 9 (some 37) (bz 26 1023) HT_ rfl (kC Tryz.func51 (spec_Faults.calls (w := _) (h := A20.out)) ?_); intro w30 _
   refine nA (some 37) ?_
   refine pA 10 (some 38) (bz 26 2047) HT_ ?_
   refine pA 11 (some 39) (bz 26 4095) HT_ ?_
   refine pA 12 (some 40) (bz 26 0x1fff) HT_ ?_
   refine tB 13 (some 41) (bz 26 0x3fff) HT_ HW_ ?_
   refine tB 15 (some 43) (bz 26 0xbfff) HT_ HW_ ?_
   refine o1 14 (some 42) (bz 26 0xffff) HT_ rfl (kC Tryz.func52 (impl_Quorum.calls (w := _) (h := A22.out)) ?_); intro w31 _
   refine nA (some 42) ?_
   refine o1 16 (some 44) (bz 26 0x1ffff) HT_ rfl (kC Tryz.func53 (spec_Quorum.calls (w := _) (h := A23.out)) ?_); intro w32 _
   refine nA (some 44) ?_
   refine pA 17 (some 45) (bz 26 0x3ffff) HT_ ?_
   refine pA 18 (some 46) (bz 26 0x7ffff) HT_ ?_
   refine pA 19 (some 47) (bz 26 0xfffff) HT_ ?_
   refine tB 20 (some 48) (bz 26 0x1fffff) HT_ HW_ ?_
   refine tB 22 (some 50) (bz 26 0x5fffff) HT_ HW_ ?_
   refine o1 21 (some 49) (bz 26 0x7fffff) HT_ rfl (kC Tryz.func54 (impl_ConfOk.calls (w := _) (h := A25.out)) ?_); intro w33 _
   refine nA (some 49) ?_
   refine o1 23 (some 51) (bz 26 0xffffff) HT_ rfl (kC Tryz.func55 (spec_ConfOk.calls (w := _) (h := A26.out)) ?_); intro w34 _
   refine nA (some 51) ?_
   refine pA 24 (some 52) (bz 26 0x1ffffff) HT_ ?_
   refine pA 25 (some 53) (bz 26 0x3ffffff) HT_ ?_
   refine done_ (done_of HT_.out (by kernel_rfl)) ?_
   go_upto_if 53 with fail
   have H := H'.out; clear H'
   by_cases c35 : (t703 != t704) = true
   ·
    rw [if_pos c35] at H
    have c35b0 : (t703 != t704) = true := c35
    (try (have c35b1 : decide (t703 = t704) = false := by simpa using c35))
    (try (have c35b2 : (t703 == t704) = false := by simpa using c35))
    (try (have c35b3 : ¬ (t703 = t704) := by simpa using c35))
    clear c35
    (first | rw [c35b0] | (simp only [i64_w, i32_w]; rw [c35b0]) | skip)
    exact absurd (hrt.out.symm.trans (Option.some.inj H).symm) (by decide)
   rw [if_neg c35] at H
   have c35b0 : (t703 != t704) = false := by simpa using c35
   (try (have c35b1 : decide (t703 = t704) = true := by simpa using c35))
   (try (have c35b2 : (t703 == t704) = true := by simpa using c35))
   clear c35
   (first | rw [c35b0] | (simp only [i64_w, i32_w]; rw [c35b0]) | skip)
   obtain ⟨⟨t705, t706, t707, t710, t711, t712⟩, A36, H⟩ := oB H; (try dsimp only at H); obtain ⟨⟨t717, t718, t719⟩, A37, H⟩ := oB H; (try dsimp only at H); have H' := Aside0.mk H; clear H
   go_upto_region 10 with (first | ((with_reducible refine gate_callee (f := 46) rfl ?_); refine gC2 (some 56) Tryz.func46 (spec_DrawQcLater.calls (hr0 := pC HR0) (hc0 := HC0.out) (w := _) (h := A36.out)) ?_; intro Ao708 co708 Ao713 co713 w38 _ HO709 HO714) | ((with_reducible refine gd 8 ?_); refine bL 8 #[.int .i64 0, .string (⟨#[]⟩ : ByteArray), .slice none 0 0] 33 ?_; intro gb715 w39 _ _ _) | ((with_reducible refine gd 9 ?_); refine bL 9 #[.int .i64 0, .string (⟨#[]⟩ : ByteArray), .slice none 0 0] 33 ?_; intro gb716 w40 _ _ _) | ((with_reducible refine gate_callee (f := 56) rfl ?_); refine gC1 (some 61) Tryz.func56 (impl_QcLater.calls (hr0_2 := rC HO709) (hc0_2 := rL HO709) (hr1_2 := rC HO714) (hc1_2 := rL HO714) (w := _) (h := A37.out)) ?_; intro Ao720 co720 w41 _ HO721) | ((with_reducible refine gd 10 ?_); refine bL 10 #[.int .i64 0, .string (⟨#[]⟩ : ByteArray), .slice none 0 0] 33 ?_; intro gb722 w42 _ _ _))
   have H := H'.out; clear H'; obtain ⟨⟨t723, t724, t725⟩, A43, H⟩ := oB H; (try dsimp only at H); obtain ⟨t728, A44, H⟩ := oB H; (try dsimp only at H)
   by_cases c45 : t728 = true
   ·
    subst c45
    rw [if_pos rfl] at H
    by_cases c46 : t717 < t705
    ·
     rw [if_pos c46] at H
     have c46b0 : decide (t717 < t705) = true := decide_eq_true c46; clear c46
     (first | rw [c46b0] | (simp only [i64_w, i32_w]; rw [c46b0]) | skip)
     by_cases c47 : t717 < t710
     ·
      rw [if_pos c47] at H
      have c47b0 : decide (t717 < t710) = true := decide_eq_true c47; clear c47; have H' := Aside0.mk H; clear H
      try go_wp2
      refine sB [] laws_FnQuorums.tab10 laws_FnQuorums.bits10 ?_; intro w48 _ HT_ HW_
      refine tB 0 (some 62) (bz 26 1) HT_ HW_ ?_
      refine tB 1 (some 63) (bz 26 3) HT_ HW_ ?_
      refine tB 2 (some 64) (bz 26 7) HT_ HW_ ?_
      refine o1 3 (some 65) (bz 26 15) HT_ rfl (kC1 Tryz.func58 (spec_QcLater.calls (hr0_2 := rC HO709) (hc0_2 := rL HO709) (hr1_2 := rC HO714) (hc1_2 := rL HO714) (w := _) (h := A43.out)) ?_); intro Ao726 co726 w49 _ HO727
      refine nA (some 65) ?_
      refine o1 4 (some 66) (bz 26 31) HT_ rfl (kC Tryz.func57 (impl_QcSame.calls (hr0_2 := rC HO721) (hc0_2 := rL HO721) (hr1_2 := rC HO727) (hc1_2 := rL HO727) (w := _) (h := A44.out)) ?_); intro w50 _
      refine nA (some 66) ?_
      refine pA 5 (some 67) (bz 26 63) HT_ ?_
      refine pA 6 (some 68) (bz 26 127) HT_ ?_
      refine pA 7 (some 69) (bz 26 255) HT_ ?_
      refine tB 8 (some 70) (bz 26 511) HT_ HW_ ?_
      refine pA 9 (some 71) (bz 26 1023) HT_ ?_
      refine tB 10 (some 72) (bz 26 2047) HT_ HW_ ?_
      refine pA 11 (some 73) (bz 26 4095) HT_ ?_
      refine pA 12 (some 74) (bz 26 0x1fff) HT_ ?_
      refine pA 13 (some 75) (bz 26 0x3fff) HT_ ?_
      refine tB 14 (some 76) (bz 26 0x7fff) HT_ HW_ ?_
      refine pA 15 (some 77) (bz 26 0xffff) HT_ ?_
      refine tB 16 (some 78) (bz 26 0x1ffff) HT_ HW_ ?_
      refine pA 17 (some 79) (bz 26 0x3ffff) HT_ ?_
      refine pA 18 (some 80) (bz 26 0x7ffff) HT_ ?_
      refine pA 19 (some 81) (bz 26 0xfffff) HT_ ?_
      refine pA 20 (some 82) (bz 26 0x1fffff) HT_ ?_
      refine pU 21 (some 83) (bz 26 0x3fffff) HT_ ?_
      refine pU 22 (some 84) (bz 26 0x7fffff) HT_ ?_
      refine pU 23 (some 85) (bz 26 0xffffff) HT_ ?_
      refine pU 24 (some 86) (bz 26 0x1ffffff) HT_ ?_
      refine pA 25 (some 87) (bz 26 0x3ffffff) HT_ ?_
      refine done_ (done_of HT_.out (by kernel_rfl)) ?_
      go_upto_if 87 with fail
      have H := H'.out; clear H'
      exact absurd (hrt.out.symm.trans (Option.some.inj H).symm) (by decide)
     rw [if_neg c47] at H
     have c47b0 : decide (t717 < t710) = false := decide_eq_false c47; clear c47; obtain ⟨⟨t729, t730, t731⟩, A51, H⟩ := oB H; (try dsimp only at H); obtain ⟨⟨t734, t735, t736⟩, A52, H⟩ := oB H; (try dsimp only at H); obtain ⟨t739, A53, H⟩ := oB H; (try dsimp only at H); have H' := Aside0.mk H; clear H
     try go_wp2
     refine sB [] laws_FnQuorums.tab10 laws_FnQuorums.bits10 ?_; intro w54 _ HT_ HW_
     refine tB 0 (some 62) (bz 26 1) HT_ HW_ ?_
     refine tB 1 (some 63) (bz 26 3) HT_ HW_ ?_
     refine tB 2 (some 64) (bz 26 7) HT_ HW_ ?_
     refine o1 3 (some 65) (bz 26 15) HT_ rfl (kC1 Tryz.func58 (spec_QcLater.calls (hr0_2 := rC HO709) (hc0_2 := rL HO709) (hr1_2 := rC HO714) (hc1_2 := rL HO714) (w := _) (h := A43.out)) ?_); intro Ao726 co726 w55 _ HO727
     refine nA (some 65) ?_
     refine o1 4 (some 66) (bz 26 31) HT_ rfl (kC Tryz.func57 (impl_QcSame.calls (hr0_2 := rC HO721) (hc0_2 := rL HO721) (hr1_2 := rC HO727) (hc1_2 := rL HO727) (w := _) (h := A44.out)) ?_); intro w56 _
     refine nA (some 66) ?_
     refine pA 5 (some 67) (bz 26 63) HT_ ?_
     refine pA 6 (some 68) (bz 26 127) HT_ ?_
     refine pA 7 (some 69) (bz 26 255) HT_ ?_
     refine tB 8 (some 70) (bz 26 511) HT_ HW_ ?_
     refine pA 9 (some 71) (bz 26 1023) HT_ ?_
     refine tB 10 (some 72) (bz 26 2047) HT_ HW_ ?_
     refine pA 11 (some 73) (bz 26 4095) HT_ ?_
     refine pA 12 (some 74) (bz 26 0x1fff) HT_ ?_
     refine pA 13 (some 75) (bz 26 0x3fff) HT_ ?_
     refine tB 14 (some 76) (bz 26 0x7fff) HT_ HW_ ?_
     refine pA 15 (some 77) (bz 26 0xffff) HT_ ?_
     refine tB 16 (some 78) (bz 26 0x1ffff) HT_ HW_ ?_
     refine pA 17 (some 79) (bz 26 0x3ffff) HT_ ?_
     refine pA 18 (some 80) (bz 26 0x7ffff) HT_ ?_
     refine pA 19 (some 81) (bz 26 0xfffff) HT_ ?_
     refine pA 20 (some 82) (bz 26 0x1fffff) HT_ ?_
     refine o1 21 (some 83) (bz 26 0x3fffff) HT_ rfl (kC1 Tryz.func39 (impl_QcFirst.calls (w := _) (h := A51.out)) ?_); intro Ao732 co732 w57 _ HO733
     refine nA (some 83) ?_
     refine o1 22 (some 84) (bz 26 0x7fffff) HT_ rfl (kC1 Tryz.func59 (spec_QcFirst.calls (w := _) (h := A52.out)) ?_); intro Ao737 co737 w58 _ HO738
     refine nA (some 84) ?_
     refine o1 23 (some 85) (bz 26 0xffffff) HT_ rfl (kC Tryz.func57 (impl_QcSame.calls (hr0_2 := rC HO733) (hc0_2 := rL HO733) (hr1_2 := rC HO738) (hc1_2 := rL HO738) (w := _) (h := A53.out)) ?_); intro w59 _
     refine nA (some 85) ?_
     refine pA 24 (some 86) (bz 26 0x1ffffff) HT_ ?_
     refine pA 25 (some 87) (bz 26 0x3ffffff) HT_ ?_
     refine done_ (done_of HT_.out (by kernel_rfl)) ?_
     go_upto_if 87 with fail
     have H := H'.out; clear H'
     by_cases c60 : t739 = true
     rotate_left
     ·
      replace c60 := Bool.eq_false_iff.mpr c60; subst c60
      rw [if_neg (show ¬ (false = true) by decide)] at H
      exact absurd (hrt.out.symm.trans (Option.some.inj H).symm) (by decide)
     subst c60
     rw [if_pos rfl] at H
     by_cases c61 : t697 = true
     ·
      subst c61
      rw [if_pos rfl] at H
      obtain ⟨t740, A62, H⟩ := oB H; (try dsimp only at H)
      by_cases c63 : t740 = true
      ·
       subst c63
       rw [if_pos rfl] at H
       by_cases c64 : (!(t679 == t688) || (!(t680 == t689))) = true
       ·
        rw [if_pos c64] at H
        have c64b0 : (!(t679 == t688) || (!(t680 == t689))) = true := c64
        clear c64
        (first | rw [c64b0] | (simp only [i64_w, i32_w]; rw [c64b0]) | skip)
        have H' := Aside0.mk H; clear H
        go_upto_if 110 with (first | (go_at_call 48; refine aC (impl_QcOk.calls (hr1_2 := rC HO694) (hc1_2 := rL HO694) (w := _) (h := A62.out)) ?_; intro w65 _))
        have H := H'.out; clear H'; obtain rfl := Option.some.inj H
        go_wp2
        go_ret
        exact ⟨y0_15, UpW.out⟩
       rw [if_neg c64] at H
       have c64b0 : (!(t679 == t688) || (!(t680 == t689))) = false := by simpa using c64
       clear c64
       (first | rw [c64b0] | (simp only [i64_w, i32_w]; rw [c64b0]) | skip)
       by_cases c66 : t682.toList = ([] : List UInt8)
       ·
        rw [if_pos c66] at H
        have c66b0 : (t682.toList == ([] : List UInt8)) = true := beq_iff_eq.mpr c66; have c66b1 : (t682.toList != ([] : List UInt8)) = false := bne_eq_false_iff_eq.mpr c66; clear c66; have H' := Aside0.mk H; clear H
        go_upto_if 110 with (first | (go_at_call 48; refine aC (impl_QcOk.calls (hr1_2 := rC HO694) (hc1_2 := rL HO694) (w := _) (h := A62.out)) ?_; intro w67 _))
        have H := H'.out; clear H'; obtain rfl := Option.some.inj H
        go_wp2
        go_ret
        exact ⟨y0_15, UpW.out⟩
       rw [if_neg c66] at H
       have c66b0 : (t682.toList == ([] : List UInt8)) = false := beq_eq_false_iff_ne.mpr c66; have c66b1 : (t682.toList != ([] : List UInt8)) = true := bne_iff_ne.mpr c66; have H' := Aside0.mk H; clear H
       go_upto_if 110 with (first | (go_at_call 48; refine aC (impl_QcOk.calls (hr1_2 := rC HO694) (hc1_2 := rL HO694) (w := _) (h := A62.out)) ?_; intro w68 _))
       have H := H'.out; clear H'
       by_cases c69 : t691.toList = ([] : List UInt8)
       ·
        rw [if_pos c69] at H
        have c69b0 : (t691.toList == ([] : List UInt8)) = true := beq_iff_eq.mpr c69; have c69b1 : (t691.toList != ([] : List UInt8)) = false := bne_eq_false_iff_eq.mpr c69; clear c69
        (first | rw [c69b0] | (simp only [i64_w, i32_w]; rw [c69b0]) | rw [show List.isEmpty (t691.toList) = true from by simpa using c69b0] | skip)
        obtain rfl := Option.some.inj H
        go_wp2
        go_ret
        exact ⟨y0_15, UpW.out⟩
       rw [if_neg c69] at H
       have c69b0 : (t691.toList == ([] : List UInt8)) = false := beq_eq_false_iff_ne.mpr c69; have c69b1 : (t691.toList != ([] : List UInt8)) = true := bne_iff_ne.mpr c69
       (first | rw [c69b0] | (simp only [i64_w, i32_w]; rw [c69b0]) | rw [show List.isEmpty (t691.toList) = false from by simpa using c69b0] | skip)
       obtain ⟨y741, hy741⟩ : ∃ y_ : List Int, y_ = (([] : List Int)) := ⟨_, rfl⟩
       replace H : ((impl_Faults.f t679 t680).bind fun t744 => (laws_FnQuorums.l0 k y741 t744 t679 t680 t681 t682 t683 t690 t691 t692)) = some r := by first | (rw [hy741]; with_reducible exact H) | (have H2_ := (Option.bind_some _ _).symm.trans H; rw [hy741]; with_reducible exact H2_) | (have H2_ := (Option.bind_some _ _).symm.trans H; with_reducible exact H2_) | with_reducible exact H | (rw [hy741]; exact H) | exact H
       have Ny741 := Aside0.mk hy741; clear hy741; obtain ⟨t744, A70, H⟩ := oB H; (try dsimp only at H); have H' := Aside0.mk H; clear H
       go_wp2_with (first | ((with_reducible refine gate_dst (N := 111) rfl ?_); refine lL 111 3 (Kd.int .i64) rfl Ny741 ?_; intro Ao742 co742 w71 _ HO743) | ((with_reducible refine gate_callee (f := 50) rfl ?_); refine gC (some 113) Tryz.func50 (impl_Faults.calls (w := _) (h := A70.out)) ?_; intro w72 _))
       refine wC ?_; intro w73 _
       go_loopg [11, 12] k (fun kq v11 v12 w' => ∃ (x11_1 : List Int) (x12_1 : Int) (Ao11_1 : Option Addr) (co11_1 : Nat), v11 = .slice Ao11_1 x11_1.length co11_1 ∧ v12 = .int .i64 x12_1 ∧ Aside0 (laws_FnQuorums.l0 kq x11_1 x12_1 t679 t680 t681 t682 t683 t690 t691 t692 = some r) ∧ Aside0 (kq ≤ k) ∧ Aside0 (Kd.R (Kd.int .i64) 3 w' w68.heap.size (iv w68 w') (.slice Ao11_1 x11_1.length co11_1) x11_1) ∧ KT w73 [] w68 _ (Kd.int .i64) 3 w' ∧ LB w w')
       case atStart => exact ⟨(y741), (t744), (Ao742), (co742), y0_15, y0_15, H', ⟨Nat.le_refl _⟩, ⟨rJ HO743⟩, ⟨UpT.out⟩, ⟨UpW.out⟩⟩
       case round =>
        clear H'; obtain ⟨x11_1, x12_1, Ao11_1, co11_1, rfl, rfl, HA, HK1, HO_11, _, _⟩ := hrel; have HO_688002 := HO685; have HO_697002 := HO694; have HO_716002 := HO709; have HO_717002 := HO714; have HO_723002 := HO721; have HO_111 := HO743; cases gk with
        | zero => exact absurd HA.out (by simp [laws_FnQuorums.l0])
        | succ k1 =>
         have H := HA.out; clear HA
         simp only [laws_FnQuorums.l0] at H
         replace HO685 := rT HO685; replace HO694 := rT HO694; replace HO721 := rT HO721; replace HO727 := rT HO727; replace HO733 := rT HO733; replace HO738 := rT HO738; replace HO_688002 := rT HO_688002; replace HO_697002 := rT HO_697002; replace HO_723002 := rT HO_723002; have H' := Aside0.mk H; clear H
         go_upto_if 117 with fail
         have H := H'.out; clear H'
         by_cases c74 : x12_1 < t679
         ·
          rw [if_pos c74] at H
          have c74b0 : decide (x12_1 < t679) = true := decide_eq_true c74; clear c74
          (first | rw [c74b0] | (simp only [i64_w, i32_w]; rw [c74b0]) | skip)
          by_cases c75 : x11_1.length < 17592186044416
          rotate_left
          ·
           rw [if_neg c75] at H
           exact absurd H (by simp)
          rw [if_pos c75] at H
          have LMc75 := Aside0.mk c75; clear c75; obtain ⟨y745, hy745⟩ : ∃ y_ : List Int, y_ = (x11_1 ++ [x12_1]) := ⟨_, rfl⟩
          replace H : (laws_FnQuorums.l0 k1 y745 (wrap64 (x12_1 + 1)) t679 t680 t681 t682 t683 t690 t691 t692) = some r := by first | (rw [hy745]; with_reducible exact H) | (have H2_ := (Option.bind_some _ _).symm.trans H; rw [hy745]; with_reducible exact H2_) | (have H2_ := (Option.bind_some _ _).symm.trans H; with_reducible exact H2_) | with_reducible exact H | (rw [hy745]; exact H) | exact H
          have Ny745 := Aside0.mk hy745; clear hy745; have H' := Aside0.mk H; clear H
          go_wp2_with (first | ((with_reducible refine gate_builtin (b := .append) (xs := #[.tmp 120, .tmp 122]) rfl ?_); at_builtin; refine gA (Kd.int .i64) (.tmp 120) (.tmp 122) 24 3 (.int .i64 0) 8 x12_1 [.int .i64 x12_1] w68 Ny745 HO_11 rfl (by have := LMc75.out; omega) ?_ (ht := Tryz.underlying24) (hinfo := info3); intro Ao746 co746 w76 _ _ HO747; replace HO685 := rG HO685; replace HO694 := rG HO694; replace HO721 := rG HO721; replace HO727 := rG HO727; replace HO733 := rG HO733; replace HO738 := rG HO738; replace HO_688002 := rG HO_688002; replace HO_697002 := rG HO_697002; replace HO_723002 := rG HO_723002))
          go_roundg k1
          case measure => have := HK1.out; omega
          case rel => exact ⟨(y745), (wrap64 (x12_1 + 1)), (Ao746), (co746), y0_15, y0_15, H', ⟨y0_17⟩, ⟨rJ HO747⟩, ⟨UpT.out⟩, ⟨UpW.out⟩⟩
         rw [if_neg c74] at H
         have c74b0 : decide (x12_1 < t679) = false := decide_eq_false c74; clear c74
         (first | rw [c74b0] | (simp only [i64_w, i32_w]; rw [c74b0]) | skip)
         obtain ⟨t748, A77, H⟩ := oB H; (try dsimp only at H); obtain ⟨t749, A78, H⟩ := oB H; (try dsimp only at H)
         by_cases c79 : t748 > t749
         rotate_left
         ·
          rw [if_neg c79] at H
          have c79b0 : decide (t749 < t748) = false := decide_eq_false c79; clear c79
          exact absurd (hrt.out.symm.trans (Option.some.inj H).symm) (by decide)
         rw [if_pos c79] at H
         have c79b0 : decide (t749 < t748) = true := decide_eq_true c79; clear c79; obtain ⟨t750, A80, H⟩ := oB H; (try dsimp only at H); obtain ⟨t751, A81, H⟩ := oB H; (try dsimp only at H)
         by_cases c82 : t750 > t751
         rotate_left
         ·
          rw [if_neg c82] at H
          have c82b0 : decide (t751 < t750) = false := decide_eq_false c82; clear c82
          exact absurd (hrt.out.symm.trans (Option.some.inj H).symm) (by decide)
         rw [if_pos c82] at H
         have c82b0 : decide (t751 < t750) = true := decide_eq_true c82; clear c82; obtain ⟨t752, A83, H⟩ := oB H; (try dsimp only at H); obtain ⟨t753, A84, H⟩ := oB H; (try dsimp only at H); obtain rfl := Option.some.inj H
         try go_wp2
         refine sB [] laws_FnQuorums.tab19 laws_FnQuorums.bits19 ?_; intro w85 _ HT_ HW_
         refine pA 0 (some 124) (bz 29 1) HT_ ?_
         refine tB 1 (some 125) (bz 29 3) HT_ HW_ ?_
         refine pA 2 (some 126) (bz 29 7) HT_ ?_
         refine tB 3 (some 127) (bz 29 15) HT_ HW_ ?_
         refine tB 5 (some 129) (bz 29 47) HT_ HW_ ?_
         refine o1 4 (some 128) (bz 29 63) HT_ rfl (kD Tryz.func60 (impl_Common.calls (hr0 := rC HO_688002) (hc0 := rL HO_688002) (hr1 := rC HO_697002) (hc1 := rL HO_697002) (w := _) (h := A77.out)) ?_); intro w86 _
         refine nA (some 128) ?_
         refine o1 6 (some 130) (bz 29 127) HT_ rfl (kC Tryz.func50 (impl_Faults.calls (w := _) (h := A78.out)) ?_); intro w87 _
         refine nA (some 130) ?_
         refine pA 7 (some 131) (bz 29 255) HT_ ?_
         refine pA 8 (some 132) (bz 29 511) HT_ ?_
         refine pA 9 (some 133) (bz 29 1023) HT_ ?_
         refine tB 10 (some 134) (bz 29 2047) HT_ HW_ ?_
         refine pA 11 (some 135) (bz 29 4095) HT_ ?_
         refine tB 13 (some 137) (bz 29 0x2fff) HT_ HW_ ?_
         refine o1 12 (some 136) (bz 29 0x3fff) HT_ rfl (kD Tryz.func60 (impl_Common.calls (hr0 := rC HO_688002) (hc0 := rL HO_688002) (hr1 := rC HO_11) (hc1 := rL HO_11) (w := _) (h := A80.out)) ?_); intro w88 _
         refine nA (some 136) ?_
         refine o1 14 (some 138) (bz 29 0x7fff) HT_ rfl (kC Tryz.func50 (impl_Faults.calls (w := _) (h := A81.out)) ?_); intro w89 _
         refine nA (some 138) ?_
         refine pA 15 (some 139) (bz 29 0xffff) HT_ ?_
         refine pA 16 (some 140) (bz 29 0x1ffff) HT_ ?_
         refine pA 17 (some 141) (bz 29 0x3ffff) HT_ ?_
         refine tB 18 (some 142) (bz 29 0x7ffff) HT_ HW_ ?_
         refine pA 21 (some 145) (bz 29 0x27ffff) HT_ ?_
         refine tB 22 (some 146) (bz 29 0x67ffff) HT_ HW_ ?_
         refine tB 24 (some 148) (bz 29 0x167ffff) HT_ HW_ ?_
         refine o1 19 (some 143) (bz 29 0x16fffff) HT_ rfl (kC Tryz.func52 (impl_Quorum.calls (w := _) (h := A83.out)) ?_); intro w90 _
         refine nA (some 143) ?_
         refine pA 20 (some 144) (bz 29 0x17fffff) HT_ ?_
         refine pA 23 (some 147) (bz 29 0x1ffffff) HT_ ?_
         refine o1 25 (some 149) (bz 29 0x3ffffff) HT_ rfl (kC Tryz.func50 (impl_Faults.calls (w := _) (h := A84.out)) ?_); intro w91 _
         refine nA (some 149) ?_
         refine pA 26 (some 150) (bz 29 0x7ffffff) HT_ ?_
         refine pA 27 (some 151) (bz 29 0xfffffff) HT_ ?_
         refine pA 28 (some 2) (bz 29 0x1fffffff) HT_ ?_
         refine done_ (done_of HT_.out (by kernel_rfl)) ?_
         try go_wp2
         go_ret
         exact ⟨y0_15, UpW.out⟩
      replace c63 := Bool.eq_false_iff.mpr c63; subst c63
      rw [if_neg (show ¬ (false = true) by decide)] at H
      have H' := Aside0.mk H; clear H
      go_upto_if 110 with (first | (go_at_call 48; refine aC (impl_QcOk.calls (hr1_2 := rC HO694) (hc1_2 := rL HO694) (w := _) (h := A62.out)) ?_; intro w92 _))
      have H := H'.out; clear H'; obtain rfl := Option.some.inj H
      go_wp2
      go_ret
      exact ⟨y0_15, UpW.out⟩
     replace c61 := Bool.eq_false_iff.mpr c61; subst c61
     rw [if_neg (show ¬ (false = true) by decide)] at H
     obtain rfl := Option.some.inj H
     go_wp2
     go_ret
     exact ⟨y0_15, UpW.out⟩
    rw [if_neg c46] at H
    have c46b0 : decide (t717 < t705) = false := decide_eq_false c46; clear c46
    (first | rw [c46b0] | (simp only [i64_w, i32_w]; rw [c46b0]) | skip)
    obtain ⟨⟨t754, t755, t756⟩, A93, H⟩ := oB H; (try dsimp only at H); obtain ⟨⟨t759, t760, t761⟩, A94, H⟩ := oB H; (try dsimp only at H); obtain ⟨t764, A95, H⟩ := oB H; (try dsimp only at H); have H' := Aside0.mk H; clear H
    try go_wp2
    refine sB [] laws_FnQuorums.tab10 laws_FnQuorums.bits10 ?_; intro w96 _ HT_ HW_
    refine tB 0 (some 62) (bz 26 1) HT_ HW_ ?_
    refine tB 1 (some 63) (bz 26 3) HT_ HW_ ?_
    refine tB 2 (some 64) (bz 26 7) HT_ HW_ ?_
    refine o1 3 (some 65) (bz 26 15) HT_ rfl (kC1 Tryz.func58 (spec_QcLater.calls (hr0_2 := rC HO709) (hc0_2 := rL HO709) (hr1_2 := rC HO714) (hc1_2 := rL HO714) (w := _) (h := A43.out)) ?_); intro Ao726 co726 w97 _ HO727
    refine nA (some 65) ?_
    refine o1 4 (some 66) (bz 26 31) HT_ rfl (kC Tryz.func57 (impl_QcSame.calls (hr0_2 := rC HO721) (hc0_2 := rL HO721) (hr1_2 := rC HO727) (hc1_2 := rL HO727) (w := _) (h := A44.out)) ?_); intro w98 _
    refine nA (some 66) ?_
    refine pA 5 (some 67) (bz 26 63) HT_ ?_
    refine pA 6 (some 68) (bz 26 127) HT_ ?_
    refine pA 7 (some 69) (bz 26 255) HT_ ?_
    refine tB 8 (some 70) (bz 26 511) HT_ HW_ ?_
    refine pA 9 (some 71) (bz 26 1023) HT_ ?_
    refine tB 10 (some 72) (bz 26 2047) HT_ HW_ ?_
    refine pA 11 (some 73) (bz 26 4095) HT_ ?_
    refine pA 12 (some 74) (bz 26 0x1fff) HT_ ?_
    refine pU 13 (some 75) (bz 26 0x3fff) HT_ ?_
    refine pU 14 (some 76) (bz 26 0x7fff) HT_ ?_
    refine pU 15 (some 77) (bz 26 0xffff) HT_ ?_
    refine pU 16 (some 78) (bz 26 0x1ffff) HT_ ?_
    refine pU 17 (some 79) (bz 26 0x3ffff) HT_ ?_
    refine pA 18 (some 80) (bz 26 0x7ffff) HT_ ?_
    refine pA 19 (some 81) (bz 26 0xfffff) HT_ ?_
    refine pA 20 (some 82) (bz 26 0x1fffff) HT_ ?_
    refine o1 21 (some 83) (bz 26 0x3fffff) HT_ rfl (kC1 Tryz.func39 (impl_QcFirst.calls (w := _) (h := A93.out)) ?_); intro Ao757 co757 w99 _ HO758
    refine nA (some 83) ?_
    refine o1 22 (some 84) (bz 26 0x7fffff) HT_ rfl (kC1 Tryz.func59 (spec_QcFirst.calls (w := _) (h := A94.out)) ?_); intro Ao762 co762 w100 _ HO763
    refine nA (some 84) ?_
    refine o1 23 (some 85) (bz 26 0xffffff) HT_ rfl (kC Tryz.func57 (impl_QcSame.calls (hr0_2 := rC HO758) (hc0_2 := rL HO758) (hr1_2 := rC HO763) (hc1_2 := rL HO763) (w := _) (h := A95.out)) ?_); intro w101 _
    refine nA (some 85) ?_
    refine pA 24 (some 86) (bz 26 0x1ffffff) HT_ ?_
    refine pA 25 (some 87) (bz 26 0x3ffffff) HT_ ?_
    refine done_ (done_of HT_.out (by kernel_rfl)) ?_
    go_upto_if 87 with fail
    have H := H'.out; clear H'
    by_cases c102 : t764 = true
    rotate_left
    ·
     replace c102 := Bool.eq_false_iff.mpr c102; subst c102
     rw [if_neg (show ¬ (false = true) by decide)] at H
     exact absurd (hrt.out.symm.trans (Option.some.inj H).symm) (by decide)
    subst c102
    rw [if_pos rfl] at H
    by_cases c103 : t697 = true
    ·
     subst c103
     rw [if_pos rfl] at H
     obtain ⟨t765, A104, H⟩ := oB H; (try dsimp only at H)
     by_cases c105 : t765 = true
     ·
      subst c105
      rw [if_pos rfl] at H
      by_cases c106 : (!(t679 == t688) || (!(t680 == t689))) = true
      ·
       rw [if_pos c106] at H
       have c106b0 : (!(t679 == t688) || (!(t680 == t689))) = true := c106
       clear c106
       (first | rw [c106b0] | (simp only [i64_w, i32_w]; rw [c106b0]) | skip)
       have H' := Aside0.mk H; clear H
       go_upto_if 110 with (first | (go_at_call 48; refine aC (impl_QcOk.calls (hr1_2 := rC HO694) (hc1_2 := rL HO694) (w := _) (h := A104.out)) ?_; intro w107 _))
       have H := H'.out; clear H'; obtain rfl := Option.some.inj H
       go_wp2
       go_ret
       exact ⟨y0_15, UpW.out⟩
      rw [if_neg c106] at H
      have c106b0 : (!(t679 == t688) || (!(t680 == t689))) = false := by simpa using c106
      clear c106
      (first | rw [c106b0] | (simp only [i64_w, i32_w]; rw [c106b0]) | skip)
      by_cases c108 : t682.toList = ([] : List UInt8)
      ·
       rw [if_pos c108] at H
       have c108b0 : (t682.toList == ([] : List UInt8)) = true := beq_iff_eq.mpr c108; have c108b1 : (t682.toList != ([] : List UInt8)) = false := bne_eq_false_iff_eq.mpr c108; clear c108; have H' := Aside0.mk H; clear H
       go_upto_if 110 with (first | (go_at_call 48; refine aC (impl_QcOk.calls (hr1_2 := rC HO694) (hc1_2 := rL HO694) (w := _) (h := A104.out)) ?_; intro w109 _))
       have H := H'.out; clear H'; obtain rfl := Option.some.inj H
       go_wp2
       go_ret
       exact ⟨y0_15, UpW.out⟩
      rw [if_neg c108] at H
      have c108b0 : (t682.toList == ([] : List UInt8)) = false := beq_eq_false_iff_ne.mpr c108; have c108b1 : (t682.toList != ([] : List UInt8)) = true := bne_iff_ne.mpr c108; have H' := Aside0.mk H; clear H
      go_upto_if 110 with (first | (go_at_call 48; refine aC (impl_QcOk.calls (hr1_2 := rC HO694) (hc1_2 := rL HO694) (w := _) (h := A104.out)) ?_; intro w110 _))
      have H := H'.out; clear H'
      by_cases c111 : t691.toList = ([] : List UInt8)
      ·
       rw [if_pos c111] at H
       have c111b0 : (t691.toList == ([] : List UInt8)) = true := beq_iff_eq.mpr c111; have c111b1 : (t691.toList != ([] : List UInt8)) = false := bne_eq_false_iff_eq.mpr c111; clear c111
       (first | rw [c111b0] | (simp only [i64_w, i32_w]; rw [c111b0]) | rw [show List.isEmpty (t691.toList) = true from by simpa using c111b0] | skip)
       obtain rfl := Option.some.inj H
       go_wp2
       go_ret
       exact ⟨y0_15, UpW.out⟩
      rw [if_neg c111] at H
      have c111b0 : (t691.toList == ([] : List UInt8)) = false := beq_eq_false_iff_ne.mpr c111; have c111b1 : (t691.toList != ([] : List UInt8)) = true := bne_iff_ne.mpr c111
      (first | rw [c111b0] | (simp only [i64_w, i32_w]; rw [c111b0]) | rw [show List.isEmpty (t691.toList) = false from by simpa using c111b0] | skip)
      obtain ⟨y766, hy766⟩ : ∃ y_ : List Int, y_ = (([] : List Int)) := ⟨_, rfl⟩
      replace H : ((impl_Faults.f t679 t680).bind fun t769 => (laws_FnQuorums.l0 k y766 t769 t679 t680 t681 t682 t683 t690 t691 t692)) = some r := by first | (rw [hy766]; with_reducible exact H) | (have H2_ := (Option.bind_some _ _).symm.trans H; rw [hy766]; with_reducible exact H2_) | (have H2_ := (Option.bind_some _ _).symm.trans H; with_reducible exact H2_) | with_reducible exact H | (rw [hy766]; exact H) | exact H
      have Ny766 := Aside0.mk hy766; clear hy766; obtain ⟨t769, A112, H⟩ := oB H; (try dsimp only at H); have H' := Aside0.mk H; clear H
      go_wp2_with (first | ((with_reducible refine gate_dst (N := 111) rfl ?_); refine lL 111 3 (Kd.int .i64) rfl Ny766 ?_; intro Ao767 co767 w113 _ HO768) | ((with_reducible refine gate_callee (f := 50) rfl ?_); refine gC (some 113) Tryz.func50 (impl_Faults.calls (w := _) (h := A112.out)) ?_; intro w114 _))
      refine wC ?_; intro w115 _
      go_loopg [11, 12] k (fun kq v11 v12 w' => ∃ (x11_1 : List Int) (x12_1 : Int) (Ao11_1 : Option Addr) (co11_1 : Nat), v11 = .slice Ao11_1 x11_1.length co11_1 ∧ v12 = .int .i64 x12_1 ∧ Aside0 (laws_FnQuorums.l0 kq x11_1 x12_1 t679 t680 t681 t682 t683 t690 t691 t692 = some r) ∧ Aside0 (kq ≤ k) ∧ Aside0 (Kd.R (Kd.int .i64) 3 w' w110.heap.size (iv w110 w') (.slice Ao11_1 x11_1.length co11_1) x11_1) ∧ KT w115 [] w110 _ (Kd.int .i64) 3 w' ∧ LB w w')
      case atStart => exact ⟨(y766), (t769), (Ao767), (co767), y0_15, y0_15, H', ⟨Nat.le_refl _⟩, ⟨rJ HO768⟩, ⟨UpT.out⟩, ⟨UpW.out⟩⟩
      case round =>
       clear H'; obtain ⟨x11_1, x12_1, Ao11_1, co11_1, rfl, rfl, HA, HK1, HO_11, _, _⟩ := hrel; have HO_688002 := HO685; have HO_697002 := HO694; have HO_716002 := HO709; have HO_717002 := HO714; have HO_723002 := HO721; have HO_111 := HO768; cases gk with
       | zero => exact absurd HA.out (by simp [laws_FnQuorums.l0])
       | succ k1 =>
        have H := HA.out; clear HA
        simp only [laws_FnQuorums.l0] at H
        replace HO685 := rT HO685; replace HO694 := rT HO694; replace HO721 := rT HO721; replace HO727 := rT HO727; replace HO758 := rT HO758; replace HO763 := rT HO763; replace HO_688002 := rT HO_688002; replace HO_697002 := rT HO_697002; replace HO_723002 := rT HO_723002; have H' := Aside0.mk H; clear H
        go_upto_if 117 with fail
        have H := H'.out; clear H'
        by_cases c116 : x12_1 < t679
        ·
         rw [if_pos c116] at H
         have c116b0 : decide (x12_1 < t679) = true := decide_eq_true c116; clear c116
         (first | rw [c116b0] | (simp only [i64_w, i32_w]; rw [c116b0]) | skip)
         by_cases c117 : x11_1.length < 17592186044416
         rotate_left
         ·
          rw [if_neg c117] at H
          exact absurd H (by simp)
         rw [if_pos c117] at H
         have LMc117 := Aside0.mk c117; clear c117; obtain ⟨y745, hy745⟩ : ∃ y_ : List Int, y_ = (x11_1 ++ [x12_1]) := ⟨_, rfl⟩
         replace H : (laws_FnQuorums.l0 k1 y745 (wrap64 (x12_1 + 1)) t679 t680 t681 t682 t683 t690 t691 t692) = some r := by first | (rw [hy745]; with_reducible exact H) | (have H2_ := (Option.bind_some _ _).symm.trans H; rw [hy745]; with_reducible exact H2_) | (have H2_ := (Option.bind_some _ _).symm.trans H; with_reducible exact H2_) | with_reducible exact H | (rw [hy745]; exact H) | exact H
         have Ny745 := Aside0.mk hy745; clear hy745; have H' := Aside0.mk H; clear H
         go_wp2_with (first | ((with_reducible refine gate_builtin (b := .append) (xs := #[.tmp 120, .tmp 122]) rfl ?_); at_builtin; refine gA (Kd.int .i64) (.tmp 120) (.tmp 122) 24 3 (.int .i64 0) 8 x12_1 [.int .i64 x12_1] w110 Ny745 HO_11 rfl (by have := LMc117.out; omega) ?_ (ht := Tryz.underlying24) (hinfo := info3); intro Ao746 co746 w118 _ _ HO747; replace HO685 := rG HO685; replace HO694 := rG HO694; replace HO721 := rG HO721; replace HO727 := rG HO727; replace HO758 := rG HO758; replace HO763 := rG HO763; replace HO_688002 := rG HO_688002; replace HO_697002 := rG HO_697002; replace HO_723002 := rG HO_723002))
         go_roundg k1
         case measure => have := HK1.out; omega
         case rel => exact ⟨(y745), (wrap64 (x12_1 + 1)), (Ao746), (co746), y0_15, y0_15, H', ⟨y0_17⟩, ⟨rJ HO747⟩, ⟨UpT.out⟩, ⟨UpW.out⟩⟩
        rw [if_neg c116] at H
        have c116b0 : decide (x12_1 < t679) = false := decide_eq_false c116; clear c116
        (first | rw [c116b0] | (simp only [i64_w, i32_w]; rw [c116b0]) | skip)
        obtain ⟨t748, A119, H⟩ := oB H; (try dsimp only at H); obtain ⟨t749, A120, H⟩ := oB H; (try dsimp only at H)
        by_cases c121 : t748 > t749
        rotate_left
        ·
         rw [if_neg c121] at H
         have c121b0 : decide (t749 < t748) = false := decide_eq_false c121; clear c121
         exact absurd (hrt.out.symm.trans (Option.some.inj H).symm) (by decide)
        rw [if_pos c121] at H
        have c121b0 : decide (t749 < t748) = true := decide_eq_true c121; clear c121; obtain ⟨t750, A122, H⟩ := oB H; (try dsimp only at H); obtain ⟨t751, A123, H⟩ := oB H; (try dsimp only at H)
        by_cases c124 : t750 > t751
        rotate_left
        ·
         rw [if_neg c124] at H
         have c124b0 : decide (t751 < t750) = false := decide_eq_false c124; clear c124
         exact absurd (hrt.out.symm.trans (Option.some.inj H).symm) (by decide)
        rw [if_pos c124] at H
        have c124b0 : decide (t751 < t750) = true := decide_eq_true c124; clear c124; obtain ⟨t752, A125, H⟩ := oB H; (try dsimp only at H); obtain ⟨t753, A126, H⟩ := oB H; (try dsimp only at H); obtain rfl := Option.some.inj H
        try go_wp2
        refine sB [] laws_FnQuorums.tab19 laws_FnQuorums.bits19 ?_; intro w127 _ HT_ HW_
        refine pA 0 (some 124) (bz 29 1) HT_ ?_
        refine tB 1 (some 125) (bz 29 3) HT_ HW_ ?_
        refine pA 2 (some 126) (bz 29 7) HT_ ?_
        refine tB 3 (some 127) (bz 29 15) HT_ HW_ ?_
        refine tB 5 (some 129) (bz 29 47) HT_ HW_ ?_
        refine o1 4 (some 128) (bz 29 63) HT_ rfl (kD Tryz.func60 (impl_Common.calls (hr0 := rC HO_688002) (hc0 := rL HO_688002) (hr1 := rC HO_697002) (hc1 := rL HO_697002) (w := _) (h := A119.out)) ?_); intro w128 _
        refine nA (some 128) ?_
        refine o1 6 (some 130) (bz 29 127) HT_ rfl (kC Tryz.func50 (impl_Faults.calls (w := _) (h := A120.out)) ?_); intro w129 _
        refine nA (some 130) ?_
        refine pA 7 (some 131) (bz 29 255) HT_ ?_
        refine pA 8 (some 132) (bz 29 511) HT_ ?_
        refine pA 9 (some 133) (bz 29 1023) HT_ ?_
        refine tB 10 (some 134) (bz 29 2047) HT_ HW_ ?_
        refine pA 11 (some 135) (bz 29 4095) HT_ ?_
        refine tB 13 (some 137) (bz 29 0x2fff) HT_ HW_ ?_
        refine o1 12 (some 136) (bz 29 0x3fff) HT_ rfl (kD Tryz.func60 (impl_Common.calls (hr0 := rC HO_688002) (hc0 := rL HO_688002) (hr1 := rC HO_11) (hc1 := rL HO_11) (w := _) (h := A122.out)) ?_); intro w130 _
        refine nA (some 136) ?_
        refine o1 14 (some 138) (bz 29 0x7fff) HT_ rfl (kC Tryz.func50 (impl_Faults.calls (w := _) (h := A123.out)) ?_); intro w131 _
        refine nA (some 138) ?_
        refine pA 15 (some 139) (bz 29 0xffff) HT_ ?_
        refine pA 16 (some 140) (bz 29 0x1ffff) HT_ ?_
        refine pA 17 (some 141) (bz 29 0x3ffff) HT_ ?_
        refine tB 18 (some 142) (bz 29 0x7ffff) HT_ HW_ ?_
        refine pA 21 (some 145) (bz 29 0x27ffff) HT_ ?_
        refine tB 22 (some 146) (bz 29 0x67ffff) HT_ HW_ ?_
        refine tB 24 (some 148) (bz 29 0x167ffff) HT_ HW_ ?_
        refine o1 19 (some 143) (bz 29 0x16fffff) HT_ rfl (kC Tryz.func52 (impl_Quorum.calls (w := _) (h := A125.out)) ?_); intro w132 _
        refine nA (some 143) ?_
        refine pA 20 (some 144) (bz 29 0x17fffff) HT_ ?_
        refine pA 23 (some 147) (bz 29 0x1ffffff) HT_ ?_
        refine o1 25 (some 149) (bz 29 0x3ffffff) HT_ rfl (kC Tryz.func50 (impl_Faults.calls (w := _) (h := A126.out)) ?_); intro w133 _
        refine nA (some 149) ?_
        refine pA 26 (some 150) (bz 29 0x7ffffff) HT_ ?_
        refine pA 27 (some 151) (bz 29 0xfffffff) HT_ ?_
        refine pA 28 (some 2) (bz 29 0x1fffffff) HT_ ?_
        refine done_ (done_of HT_.out (by kernel_rfl)) ?_
        try go_wp2
        go_ret
        exact ⟨y0_15, UpW.out⟩
     replace c105 := Bool.eq_false_iff.mpr c105; subst c105
     rw [if_neg (show ¬ (false = true) by decide)] at H
     have H' := Aside0.mk H; clear H
     go_upto_if 110 with (first | (go_at_call 48; refine aC (impl_QcOk.calls (hr1_2 := rC HO694) (hc1_2 := rL HO694) (w := _) (h := A104.out)) ?_; intro w134 _))
     have H := H'.out; clear H'; obtain rfl := Option.some.inj H
     go_wp2
     go_ret
     exact ⟨y0_15, UpW.out⟩
    replace c103 := Bool.eq_false_iff.mpr c103; subst c103
    rw [if_neg (show ¬ (false = true) by decide)] at H
    obtain rfl := Option.some.inj H
    go_wp2
    go_ret
    exact ⟨y0_15, UpW.out⟩
   replace c45 := Bool.eq_false_iff.mpr c45; subst c45
   rw [if_neg (show ¬ (false = true) by decide)] at H
   have H' := Aside0.mk H; clear H
   try go_wp2
   refine sB [] laws_FnQuorums.tab10 laws_FnQuorums.bits10 ?_; intro w135 _ HT_ HW_
   refine tB 0 (some 62) (bz 26 1) HT_ HW_ ?_
   refine tB 1 (some 63) (bz 26 3) HT_ HW_ ?_
   refine tB 2 (some 64) (bz 26 7) HT_ HW_ ?_
   refine o1 3 (some 65) (bz 26 15) HT_ rfl (kC1 Tryz.func58 (spec_QcLater.calls (hr0_2 := rC HO709) (hc0_2 := rL HO709) (hr1_2 := rC HO714) (hc1_2 := rL HO714) (w := _) (h := A43.out)) ?_); intro Ao726 co726 w136 _ HO727
   refine nA (some 65) ?_
   refine o1 4 (some 66) (bz 26 31) HT_ rfl (kC Tryz.func57 (impl_QcSame.calls (hr0_2 := rC HO721) (hc0_2 := rL HO721) (hr1_2 := rC HO727) (hc1_2 := rL HO727) (w := _) (h := A44.out)) ?_); intro w137 _
   refine nA (some 66) ?_
   refine pA 5 (some 67) (bz 26 63) HT_ ?_
   refine pA 6 (some 68) (bz 26 127) HT_ ?_
   refine pU 7 (some 69) (bz 26 255) HT_ ?_
   refine pU 8 (some 70) (bz 26 511) HT_ ?_
   refine pU 9 (some 71) (bz 26 1023) HT_ ?_
   refine pU 10 (some 72) (bz 26 2047) HT_ ?_
   refine pU 11 (some 73) (bz 26 4095) HT_ ?_
   refine pU 12 (some 74) (bz 26 0x1fff) HT_ ?_
   refine pU 13 (some 75) (bz 26 0x3fff) HT_ ?_
   refine pU 14 (some 76) (bz 26 0x7fff) HT_ ?_
   refine pU 15 (some 77) (bz 26 0xffff) HT_ ?_
   refine pU 16 (some 78) (bz 26 0x1ffff) HT_ ?_
   refine pU 17 (some 79) (bz 26 0x3ffff) HT_ ?_
   refine pU 18 (some 80) (bz 26 0x7ffff) HT_ ?_
   refine pA 19 (some 81) (bz 26 0xfffff) HT_ ?_
   refine pA 20 (some 82) (bz 26 0x1fffff) HT_ ?_
   refine pU 21 (some 83) (bz 26 0x3fffff) HT_ ?_
   refine pU 22 (some 84) (bz 26 0x7fffff) HT_ ?_
   refine pU 23 (some 85) (bz 26 0xffffff) HT_ ?_
   refine pU 24 (some 86) (bz 26 0x1ffffff) HT_ ?_
   refine pA 25 (some 87) (bz 26 0x3ffffff) HT_ ?_
   refine done_ (done_of HT_.out (by kernel_rfl)) ?_
   go_upto_if 87 with fail
   have H := H'.out; clear H'
   exact absurd (hrt.out.symm.trans (Option.some.inj H).symm) (by decide)
  rw [if_neg c24] at H
  have c24b0 : (t701 == t702) = false := beq_eq_false_iff_ne.mpr c24; have c24b1 : (t701 != t702) = true := bne_iff_ne.mpr c24; have H' := Aside0.mk H; clear H
  try go_wp2
  refine sB [] laws_FnQuorums.tab6 laws_FnQuorums.bits6 ?_; intro w138 _ HT_ HW_
  refine pA 0 (some 28) (bz 26 1) HT_ ?_
  refine tB 1 (some 29) (bz 26 3) HT_ HW_ ?_
  refine tB 2 (some 30) (bz 26 7) HT_ HW_ ?_
  refine o1 3 (some 31) (bz 26 15) HT_ rfl (kC Tryz.func49 (spec_QcOk.calls (hr1_2 := rC HO685) (hc1_2 := rL HO685) (w := _) (h := A15.out)) ?_); intro w139 _
  refine nA (some 31) ?_
  refine pA 4 (some 32) (bz 26 31) HT_ ?_
  refine pA 5 (some 33) (bz 26 63) HT_ ?_
  refine tB 6 (some 34) (bz 26 127) HT_ HW_ ?_
  refine tB 8 (some 36) (bz 26 383) HT_ HW_ ?_
  refine o1 7 (some 35) (bz 26 511) HT_ rfl (kC Tryz.func50 (impl_Faults.calls (w := _) (h := A19.out)) ?_); intro w140 _
  refine nA (some 35) ?_
  refine o1 9 (some 37) (bz 26 1023) HT_ rfl (kC Tryz.func51 (spec_Faults.calls (w := _) (h := A20.out)) ?_); intro w141 _
  refine nA (some 37) ?_
  refine pA 10 (some 38) (bz 26 2047) HT_ ?_
  refine pA 11 (some 39) (bz 26 4095) HT_ ?_
  refine pA 12 (some 40) (bz 26 0x1fff) HT_ ?_
  refine tB 13 (some 41) (bz 26 0x3fff) HT_ HW_ ?_
  refine tB 15 (some 43) (bz 26 0xbfff) HT_ HW_ ?_
  refine o1 14 (some 42) (bz 26 0xffff) HT_ rfl (kC Tryz.func52 (impl_Quorum.calls (w := _) (h := A22.out)) ?_); intro w142 _
  refine nA (some 42) ?_
  refine o1 16 (some 44) (bz 26 0x1ffff) HT_ rfl (kC Tryz.func53 (spec_Quorum.calls (w := _) (h := A23.out)) ?_); intro w143 _
  refine nA (some 44) ?_
  refine pA 17 (some 45) (bz 26 0x3ffff) HT_ ?_
  refine pA 18 (some 46) (bz 26 0x7ffff) HT_ ?_
  refine pA 19 (some 47) (bz 26 0xfffff) HT_ ?_
  refine pU 20 (some 48) (bz 26 0x1fffff) HT_ ?_
  refine pU 21 (some 49) (bz 26 0x3fffff) HT_ ?_
  refine pU 22 (some 50) (bz 26 0x7fffff) HT_ ?_
  refine pU 23 (some 51) (bz 26 0xffffff) HT_ ?_
  refine pU 24 (some 52) (bz 26 0x1ffffff) HT_ ?_
  refine pA 25 (some 53) (bz 26 0x3ffffff) HT_ ?_
  refine done_ (done_of HT_.out (by kernel_rfl)) ?_
  go_upto_if 53 with fail
  have H := H'.out; clear H'
  exact absurd (hrt.out.symm.trans (Option.some.inj H).symm) (by decide)
 rw [if_neg c21] at H
 have c21b0 : (t699 == t700) = false := beq_eq_false_iff_ne.mpr c21; have c21b1 : (t699 != t700) = true := bne_iff_ne.mpr c21; have H' := Aside0.mk H; clear H
 try go_wp2
 refine sB [] laws_FnQuorums.tab6 laws_FnQuorums.bits6 ?_; intro w144 _ HT_ HW_
 refine pA 0 (some 28) (bz 26 1) HT_ ?_
 refine tB 1 (some 29) (bz 26 3) HT_ HW_ ?_
 refine tB 2 (some 30) (bz 26 7) HT_ HW_ ?_
 refine o1 3 (some 31) (bz 26 15) HT_ rfl (kC Tryz.func49 (spec_QcOk.calls (hr1_2 := rC HO685) (hc1_2 := rL HO685) (w := _) (h := A15.out)) ?_); intro w145 _
 refine nA (some 31) ?_
 refine pA 4 (some 32) (bz 26 31) HT_ ?_
 refine pA 5 (some 33) (bz 26 63) HT_ ?_
 refine tB 6 (some 34) (bz 26 127) HT_ HW_ ?_
 refine tB 8 (some 36) (bz 26 383) HT_ HW_ ?_
 refine o1 7 (some 35) (bz 26 511) HT_ rfl (kC Tryz.func50 (impl_Faults.calls (w := _) (h := A19.out)) ?_); intro w146 _
 refine nA (some 35) ?_
 refine o1 9 (some 37) (bz 26 1023) HT_ rfl (kC Tryz.func51 (spec_Faults.calls (w := _) (h := A20.out)) ?_); intro w147 _
 refine nA (some 37) ?_
 refine pA 10 (some 38) (bz 26 2047) HT_ ?_
 refine pA 11 (some 39) (bz 26 4095) HT_ ?_
 refine pA 12 (some 40) (bz 26 0x1fff) HT_ ?_
 refine pU 13 (some 41) (bz 26 0x3fff) HT_ ?_
 refine pU 14 (some 42) (bz 26 0x7fff) HT_ ?_
 refine pU 15 (some 43) (bz 26 0xffff) HT_ ?_
 refine pU 16 (some 44) (bz 26 0x1ffff) HT_ ?_
 refine pU 17 (some 45) (bz 26 0x3ffff) HT_ ?_
 refine pA 18 (some 46) (bz 26 0x7ffff) HT_ ?_
 refine pA 19 (some 47) (bz 26 0xfffff) HT_ ?_
 refine pU 20 (some 48) (bz 26 0x1fffff) HT_ ?_
 refine pU 21 (some 49) (bz 26 0x3fffff) HT_ ?_
 refine pU 22 (some 50) (bz 26 0x7fffff) HT_ ?_
 refine pU 23 (some 51) (bz 26 0xffffff) HT_ ?_
 refine pU 24 (some 52) (bz 26 0x1ffffff) HT_ ?_
 refine pA 25 (some 53) (bz 26 0x3ffffff) HT_ ?_
 refine done_ (done_of HT_.out (by kernel_rfl)) ?_
 go_upto_if 53 with fail
 have H := H'.out; clear H'
 exact absurd (hrt.out.symm.trans (Option.some.inj H).symm) (by decide)


end Go.Proofs.YtemjmefacifdeaaGreatDoor.PFnQuorums
