-- By a program of this session, out of the translation (the print of the kit, with turns of its own). Lean checks it.
import Derived.Test.YtnpbopadajbopaaDoorPFnTooFewx0
import Derived.Test.YtnpbopadajbopaaDoorPFnTooFewx1
import Derived.Test.YtnpbopadajbopaaDoorPFnTooFewx3
import Derived.Test.YtnpbopadajbopaaDoorPFnTooFewx4
import Derived.Test.YtnpbopadajbopaaDoorPFnTooFewx5
import Derived.Test.YtnpbopadajbopaaDoorPFnTooFewx6
namespace Go.Proofs.YtnpbopadajbopaaDoor.PFnTooFew
open Go.RowKit Go.Proofs.YtnpbopadajbopaaDoorW.PrintWords Go.Proofs.YtnpbopadajbopaaDoorW.PrintLast Go.Proofs.YtnpbopadajbopaaDoorW.PrintMore
attribute [local go_sem] max2_int min2_int max_two min_two max_three min_three max_four min_four   -- for this text's walks alone
attribute [local go_sem] cell_in frozen_in
set_option synthInstance.maxSize 1000000
set_option synthInstance.maxHeartbeats 2000000
set_option linter.unusedVariables false
set_option linter.unusedSimpArgs false

/-! ### spec_l7Draw: function 28 -/
def spec_l7Draw.f (k : Nat) (s0_0 : List Int) (s0_1 : Int) (s0_2 : Int) (a1_0 : Int) (a1_1 : Int) : Option (Int × ByteArray × List Int × Int × Int) := (spec_l5DrawRight.f k s0_0 s0_1 s0_2).bind fun bt403 => ((spec_l7DrawOf.f k s0_0 bt403.2.1 bt403.2.2 a1_0 a1_1 bt403.1).bind fun bt406 => ((spec_l1Below.f s0_0 bt406.2.2.2.1 bt406.2.2.2.2 12).bind fun bt414 => (if bt414.1 = 0 then (some (wrap64 (bt406.1 + 1), bt406.2.1, bt406.2.2.1, bt414.2.1, bt414.2.2)) else (if bt414.1 = 1 then ((spec_l6DrawSet.f k s0_0 bt414.2.1 bt414.2.2 7).bind fun bt417 => (some (bt406.1, bt406.2.1, bt417.1, bt417.2.1, bt417.2.2))) else (if bt414.1 = 2 then ((spec_l5Draw.f k s0_0 bt414.2.1 bt414.2.2).bind fun bt422 => (some (bt406.1, bt422.1, bt406.2.2.1, bt422.2.1, bt422.2.2))) else (some (bt406.1, bt406.2.1, bt406.2.2.1, bt414.2.1, bt414.2.2)))))))
theorem spec_l7Draw.mono : ∀ a0 a1 a2 a3 a4 k, LeO (spec_l7Draw.f k a0 a1 a2 a3 a4) (spec_l7Draw.f (k + 1) a0 a1 a2 a3 a4) := by
 intro a0 a1 a2 a3 a4 k
 unfold spec_l7Draw.f
 repeat' first | (with_reducible exact spec_l5Draw.mono _ _ _ _) | (with_reducible exact spec_l5DrawRight.mono _ _ _ _) | (with_reducible exact spec_l6DrawSet.mono _ _ _ _ _) | (with_reducible exact spec_l7DrawOf.mono _ _ _ _ _ _ _) | (with_reducible exact LeO.refl _) | (with_reducible exact LeO.none _) | (with_reducible refine LeO.ite ?_ ?_) | (with_reducible refine LeO.bind ?_ (fun _ => ?_))
def spec_l7Draw.T1 : Bool × List (List Nat × List Nat) := (true, [([], []), ([], []), ([], []), ([2], [2]), ([0, 1, 3, 3], [0, 1, 3]), ([], []), ([5, 4, 4, 0, 1, 2, 3, 4, 5], [4, 5])])
def spec_l7Draw.B1 : List Nat := [0, 0, 0, 4, 15, 0, 63]
theorem spec_l7Draw.tab1 : rtab .any (opsOf Tryd.f28 1) = spec_l7Draw.T1 := by kernel_rfl
theorem spec_l7Draw.bits1 : waitsOk spec_l7Draw.T1.2 spec_l7Draw.B1 = true := by kernel_rfl
set_option maxHeartbeats 8000000 in
set_option maxRecDepth 100000 in
theorem spec_l7Draw.calls (k : Nat) (g : Nat) (s0_0 : List Int) (s0_1 : Int) (s0_2 : Int) (a1_0 : Int) (a1_1 : Int) (r1 : Int) (r2 : ByteArray) (r3 : List Int) (r4 : Int) (r5 : Int) (w0 w : World) (hI : IsS77 w0 w g s0_0 s0_1 s0_2) (hB : Below w0.heap.size w0 w) (h : spec_l7Draw.f k s0_0 s0_1 s0_2 a1_0 a1_1 = some (r1, r2, r3, r4, r5)) :
  Calls Tryd.prog 28 #[.pointer (some ⟨g, 0, none⟩), .agg #[.int .i64 a1_0, .int .i64 a1_1]] w fun e w' => ∃ v2_ : Value, e = .returned (.agg #[.int .i64 r1, .string r2, v2_]) ∧ Kd.R (Kd.int .i64) 3 w' w.heap.size (fun _ => True) v2_ r3 ∧ IsS77 w0 w' g s0_0 r4 r5 ∧ Below w0.heap.size w0 w' ∧ KeepBut w w' g none := by
 have hu25 := Tryd.underlying25; have hu32 := Tryd.underlying32; have HI0 := Aside0.mk hI; have HK := Aside0.mk (KeepBut.refl w g none); have HL := Aside0.mk hB.size; clear hI; have HW0 := Aside0.mk hB.size; have HB := Aside0.mk hB; clear hB
 have H := h; unfold spec_l7Draw.f at H
 clear h; obtain ⟨⟨t403, t404, t405⟩, A3, H⟩ := oB H; (try dsimp only at H); obtain ⟨⟨t406, t407, t408, t411, t412⟩, A4, H⟩ := oB H; (try dsimp only at H); obtain ⟨⟨t414, t415, t416⟩, A5, H⟩ := oB H; (try dsimp only at H); have i0_ := iB77 HI0; have i1_ : LB w0 w := ⟨HB.out⟩
 go_enter Tryd.func28, Tryd.ntmps28
 have H' := Aside0.mk H; clear H
 try go_wp2_with (first | ((with_reducible refine gd 3 ?_); refine bL 3 #[.int .i64 a1_0, .int .i64 a1_1] 25 ?_; intro gb401 w6 _ _ _) | ((with_reducible refine gd 4 ?_); refine bL 4 #[.int .i64 0, .string (⟨#[]⟩ : ByteArray), .slice none 0 0] 32 ?_; intro gb402 w7 _ _ _))
 refine sB [g] spec_l7Draw.tab1 spec_l7Draw.bits1 ?_; intro w8 _ HT_ HW_
 refine pA 0 (some 6) (bz 7 1) HT_ ?_
 refine tB 1 (some 7) (bz 7 3) HT_ HW_ ?_
 refine pA 2 (some 8) (bz 7 7) HT_ ?_
 refine join_ (σ := Option Addr × Nat × Nat) 1 (bz 7 63) (fun s_ => [(9, .string t403), (10, .agg #[.int .i64 t406, .string t407, .slice s_.1 t408.length s_.2.1]), (5, .pointer (some ⟨s_.2.2, 0, none⟩))]) (fun s_ w' => Aside0 (Kd.R (Kd.int .i64) 3 w' w8.heap.size (iv w8 w') (.slice s_.1 t408.length s_.2.1) t408) ∧ BkI (s_.2.2) w' #[.int .i64 0, .string (⟨#[]⟩ : ByteArray), .slice none 0 0] 32 ∧ BornI (s_.2.2) w8 ∧ StB g w' 77 ∧ Aside0 (IsS77 w0 w' g s0_0 t411 t412) ∧ KL w8 [g] w' ∧ LB w0 w' ∧ KS w g w') ?_ ?_
 rotate_left
 ·
  intro hCont
  refine o2 3 5 (some 9) (some 5) (bz 7 15) (bz 7 39) HT_ rfl rfl (kK Tryd.func49 (spec_l5DrawRight.calls (hI := iS77 HI0) (hB := UpW.out) (w := _) (h := A3.out)) ?_) (kB #[.int .i64 0, .string (⟨#[]⟩ : ByteArray), .slice none 0 0] 32 ?_)
  ·
   intro w9 _ _ _ HI10
   refine nA (some 9) ?_
   refine o2 4 5 (some 10) (some 5) (bz 7 31) (bz 7 47) HT_ rfl rfl (kK1 Tryd.func48 (spec_l7DrawOf.calls (hI := iS77 HI10) (hB := UpW.out) (w := _) (h := A4.out)) ?_) (kB #[.int .i64 0, .string (⟨#[]⟩ : ByteArray), .slice none 0 0] 32 ?_)
   ·
    intro Ao409 co409 w12 _ _ _ HI13 HO410
    refine nA (some 10) ?_
    refine o1 5 (some 5) (bz 7 63) HT_ rfl (kB #[.int .i64 0, .string (⟨#[]⟩ : ByteArray), .slice none 0 0] 32 ?_); intro gb413 w15 _ _ _
    refine nA (some 5) ?_
    exact hJ (hCont (Ao409, co409, gb413) _ ⟨⟨rJ HO410⟩, ⟨xB⟩, ⟨GeI.out⟩, iB77 ⟨iS77 HI13⟩, ⟨iS77 HI13⟩, ⟨UpL.out⟩, ⟨UpW.out⟩, ⟨UpB.out⟩⟩)
   intro gb413 w14 _ _ _
   refine nA (some 5) ?_
   refine o1 4 (some 10) (bz 7 63) HT_ rfl (kK1 Tryd.func48 (spec_l7DrawOf.calls (hI := iS77 HI10) (hB := UpW.out) (w := _) (h := A4.out)) ?_); intro Ao409 co409 w16 _ _ _ HI17 HO410
   refine nA (some 10) ?_
   exact hJ (hCont (Ao409, co409, gb413) _ ⟨⟨rJ HO410⟩, ⟨xB⟩, ⟨GeI.out⟩, iB77 ⟨iS77 HI17⟩, ⟨iS77 HI17⟩, ⟨UpL.out⟩, ⟨UpW.out⟩, ⟨UpB.out⟩⟩)
  intro gb413 w11 _ _ _
  refine nA (some 5) ?_
  refine o1 3 (some 9) (bz 7 47) HT_ rfl (kK Tryd.func49 (spec_l5DrawRight.calls (hI := iS77 HI0) (hB := UpW.out) (w := _) (h := A3.out)) ?_); intro w18 _ _ _ HI19
  refine nA (some 9) ?_
  refine o1 4 (some 10) (bz 7 63) HT_ rfl (kK1 Tryd.func48 (spec_l7DrawOf.calls (hI := iS77 HI19) (hB := UpW.out) (w := _) (h := A4.out)) ?_); intro Ao409 co409 w20 _ _ _ HI21 HO410
  refine nA (some 10) ?_
  exact hJ (hCont (Ao409, co409, gb413) _ ⟨⟨rJ HO410⟩, ⟨xB⟩, ⟨GeI.out⟩, iB77 ⟨iS77 HI21⟩, ⟨iS77 HI21⟩, ⟨UpL.out⟩, ⟨UpW.out⟩, ⟨UpB.out⟩⟩)
 rintro ⟨Ao409, co409, gb413⟩ w22 ⟨HO410, _, _, _, HI23, _, _, _⟩
 refine nP ?_
 refine o1 6 none (bz 7 127) HT_ rfl (kS ?_)
 refine done_ (done_of HT_.out (by kernel_rfl)) ?_
 go_upto_if 13 with (first | ((with_reducible refine gate_callee (f := 47) rfl ?_); refine gK (some 12) Tryd.func47 (spec_l1Below.calls (hI := iS77 HI23) (hB := UpW.out) (w := _) (h := A5.out)) ?_; intro w24 _ _ _ HI25))
 have H := H'.out; clear H'
 by_cases c26 : t414 = 0
 ·
  rw [if_pos c26] at H
  have c26b0 : (t414 == 0) = true := beq_iff_eq.mpr c26; have c26b1 : (t414 != 0) = false := bne_eq_false_iff_eq.mpr c26; clear c26
  (first | rw [c26b0] | (simp only [i64_w, i32_w]; rw [c26b0]) | skip)
  simp only [Option.some.injEq, Prod.mk.injEq] at H
  obtain ⟨rfl, rfl, rfl, rfl, rfl⟩ := H
  go_wp2
  refine bodyPost_ret (results_cell_row rfl _ _ gb402 32 #[.int .i64 (wrap64 (t406 + 1)), .string t407, .slice Ao409 t408.length co409] (0, 0) _ rfl xB Tryd.underlying32 rfl (by kernel_rfl)) rfl ?_
  exact ⟨_, y0_17, rR HO410, iS77 HI25, UpW.out, UpB.out⟩
 rw [if_neg c26] at H
 have c26b0 : (t414 == 0) = false := beq_eq_false_iff_ne.mpr c26; have c26b1 : (t414 != 0) = true := bne_iff_ne.mpr c26
 (first | rw [c26b0] | (simp only [i64_w, i32_w]; rw [c26b0]) | skip)
 by_cases c27 : t414 = 1
 ·
  rw [if_pos c27] at H
  have c27b0 : (t414 == 1) = true := beq_iff_eq.mpr c27; have c27b1 : (t414 != 1) = false := bne_eq_false_iff_eq.mpr c27; clear c27; obtain ⟨⟨t417, t420, t421⟩, A28, H⟩ := oB H; (try dsimp only at H)
  simp only [Option.some.injEq, Prod.mk.injEq] at H
  obtain ⟨rfl, rfl, rfl, rfl, rfl⟩ := H
  go_wp2_with (first | ((with_reducible refine gate_callee (f := 50) rfl ?_); refine gK1 (some 22) Tryd.func50 (spec_l6DrawSet.calls (hI := iS77 HI25) (hB := UpW.out) (w := _) (h := A28.out)) ?_; intro Ao418 co418 w29 _ _ _ HI30 HO419))
  refine bodyPost_ret (results_cell_row rfl _ _ gb402 32 #[.int .i64 t406, .string t407, .slice Ao418 t417.length co418] (0, 0) _ rfl xB Tryd.underlying32 rfl (by kernel_rfl)) rfl ?_
  exact ⟨_, y0_17, rR HO419, iS77 HI30, UpW.out, UpB.out⟩
 rw [if_neg c27] at H
 have c27b0 : (t414 == 1) = false := beq_eq_false_iff_ne.mpr c27; have c27b1 : (t414 != 1) = true := bne_iff_ne.mpr c27
 by_cases c31 : t414 = 2
 ·
  rw [if_pos c31] at H
  have c31b0 : (t414 == 2) = true := beq_iff_eq.mpr c31; have c31b1 : (t414 != 2) = false := bne_eq_false_iff_eq.mpr c31; clear c31; obtain ⟨⟨t422, t423, t424⟩, A32, H⟩ := oB H; (try dsimp only at H)
  simp only [Option.some.injEq, Prod.mk.injEq] at H
  obtain ⟨rfl, rfl, rfl, rfl, rfl⟩ := H
  go_wp2_with (first | ((with_reducible refine gate_callee (f := 51) rfl ?_); refine gK (some 27) Tryd.func51 (spec_l5Draw.calls (hI := iS77 HI25) (hB := UpW.out) (w := _) (h := A32.out)) ?_; intro w33 _ _ _ HI34))
  refine bodyPost_ret (results_cell_row rfl _ _ gb402 32 #[.int .i64 t406, .string t422, .slice Ao409 t408.length co409] (0, 0) _ rfl xB Tryd.underlying32 rfl (by kernel_rfl)) rfl ?_
  exact ⟨_, y0_17, rR HO410, iS77 HI34, UpW.out, UpB.out⟩
 rw [if_neg c31] at H
 have c31b0 : (t414 == 2) = false := beq_eq_false_iff_ne.mpr c31; have c31b1 : (t414 != 2) = true := bne_iff_ne.mpr c31
 simp only [Option.some.injEq, Prod.mk.injEq] at H
 obtain ⟨rfl, rfl, rfl, rfl, rfl⟩ := H
 go_wp2
 refine bodyPost_ret (results_cell_row rfl _ _ gb402 32 #[.int .i64 t406, .string t407, .slice Ao409 t408.length co409] (0, 0) _ rfl xB Tryd.underlying32 rfl (by kernel_rfl)) rfl ?_
 exact ⟨_, y0_17, rR HO410, iS77 HI25, UpW.out, UpB.out⟩

/-! ### spec_l1Max: function 77 -/
def spec_l1Max.f (a0 : Int) (a1 : Int) : Option (Int) := if a0 > a1 then (some a0) else (some a1)
set_option maxHeartbeats 8000000 in
set_option maxRecDepth 100000 in
theorem spec_l1Max.calls (a0 : Int) (a1 : Int) (r : Int) (w : World) (h : spec_l1Max.f a0 a1 = some r) :
  Calls Tryd.prog 77 #[.int .i64 a0, .int .i64 a1] w fun e w' => e = .returned (.int .i64 r) ∧ Drawn0 w w' := by
 have H := h; unfold spec_l1Max.f at H; clear h
 by_cases c3 : a0 > a1
 ·
  rw [if_pos c3] at H
  have c3b0 : decide (a1 < a0) = true := decide_eq_true c3; clear c3; obtain rfl := Option.some.inj H
  go_enter Tryd.func77, Tryd.ntmps77
  go_wp2
  go_ret
  exact ⟨y0_17, y0_15⟩
 rw [if_neg c3] at H
 have c3b0 : decide (a1 < a0) = false := decide_eq_false c3; clear c3; obtain rfl := Option.some.inj H
 go_enter Tryd.func77, Tryd.ntmps77
 go_wp2
 go_ret
 exact ⟨y0_17, y0_15⟩

/-! ### spec_l10DrawRight: function 52 -/
mutual
def spec_l10DrawRight.j0 : Nat → Bool → List Int → Int → Int → Int → Int → Int → ByteArray → Option (Int × ByteArray × List Int × Int × Int)
 | 0, _, _, _, _, _, _, _, _ => none
 | k + 1, x19, x1000, x1001, x1002, x426000, x426001, x432000, x432001 => if x19 = true then ((spec_l1Below.f x1000 x1001 x1002 4).bind fun bt435 => (spec_l10DrawRight.j1 k x1000 bt435.2.1 bt435.2.2 x426000 x426001 (wrap64 (1 + bt435.1)) (⟨#[]⟩ : ByteArray))) else (spec_l10DrawRight.j1 k x1000 x1001 x1002 x426000 x426001 x432000 x432001)
def spec_l10DrawRight.j1 : Nat → List Int → Int → Int → Int → Int → Int → ByteArray → Option (Int × ByteArray × List Int × Int × Int)
 | 0, _, _, _, _, _, _, _ => none
 | k + 1, x1000, x1001, x1002, x426000, x426001, x432000, x432001 => spec_l10DrawRight.l0 k 0 x1000 x1001 x1002 x426000 x426001 x432000 x432001 ([] : List Int)
def spec_l10DrawRight.l0 : Nat → Int → List Int → Int → Int → Int → Int → Int → ByteArray → List Int → Option (Int × ByteArray × List Int × Int × Int)
 | 0, _, _, _, _, _, _, _, _, _ => none
 | k + 1, x7, x1000, x1001, x1002, x426000, x426001, x432000, x432001, x432002 => (spec_l1Below.f x1000 x1001 x1002 7).bind fun bt438 => (if x7 < (wrap64 (1 + bt438.1)) then ((spec_l1Max.f x426000 4).bind fun t441 => ((spec_l1Below.f x1000 bt438.2.1 bt438.2.2 t441).bind fun bt442 => ((spec_SetAdd.f k x432002 bt442.1).bind fun t445 => (spec_l10DrawRight.l0 k (wrap64 (x7 + 1)) x1000 bt442.2.1 bt442.2.2 x426000 x426001 x432000 x432001 t445)))) else (some (x432000, x432001, x432002, bt438.2.1, bt438.2.2)))
end
def spec_l10DrawRight.f (k : Nat) (s0_0 : List Int) (s0_1 : Int) (s0_2 : Int) (a1_0 : Int) (a1_1 : Int) : Option (Int × ByteArray × List Int × Int × Int) := (spec_l5DrawRight.f k s0_0 s0_1 s0_2).bind fun bt427 => ((spec_ViewOf.f k bt427.1).bind fun t430 => ((spec_l1Once.f s0_0 bt427.2.1 bt427.2.2 4).bind fun bt432 => (if bt432.1 = true then (spec_l10DrawRight.j0 k true s0_0 bt432.2.1 bt432.2.2 a1_0 a1_1 t430 bt427.1) else (spec_l10DrawRight.j0 k (bt427.1.toList == ([] : List UInt8)) s0_0 bt432.2.1 bt432.2.2 a1_0 a1_1 t430 bt427.1))))
theorem spec_l10DrawRight.mono_l : ∀ k, (∀ y0 y1 y2 y3 y4 y5 y6 y7, LeO (spec_l10DrawRight.j0 k y0 y1 y2 y3 y4 y5 y6 y7) (spec_l10DrawRight.j0 (k + 1) y0 y1 y2 y3 y4 y5 y6 y7)) ∧ (∀ y0 y1 y2 y3 y4 y5 y6, LeO (spec_l10DrawRight.j1 k y0 y1 y2 y3 y4 y5 y6) (spec_l10DrawRight.j1 (k + 1) y0 y1 y2 y3 y4 y5 y6)) ∧ (∀ y0 y1 y2 y3 y4 y5 y6 y7 y8, LeO (spec_l10DrawRight.l0 k y0 y1 y2 y3 y4 y5 y6 y7 y8) (spec_l10DrawRight.l0 (k + 1) y0 y1 y2 y3 y4 y5 y6 y7 y8))
 | 0 => ⟨fun _ _ _ _ _ _ _ _ r h => by simp [spec_l10DrawRight.j0] at h, fun _ _ _ _ _ _ _ r h => by simp [spec_l10DrawRight.j1] at h, fun _ _ _ _ _ _ _ _ _ r h => by simp [spec_l10DrawRight.l0] at h⟩
 | k + 1 => by
  obtain ⟨ih0, ih1, ih2⟩ := spec_l10DrawRight.mono_l k
  refine ⟨?_, ?_, ?_⟩
  ·
   intro y0 y1 y2 y3 y4 y5 y6 y7
   unfold spec_l10DrawRight.j0
   repeat' first | (with_reducible exact ih0 _ _ _ _ _ _ _ _) | (with_reducible exact ih1 _ _ _ _ _ _ _) | (with_reducible exact ih2 _ _ _ _ _ _ _ _ _) | (with_reducible exact spec_SetAdd.mono _ _ _) | (with_reducible exact spec_ViewOf.mono _ _) | (with_reducible exact spec_l5DrawRight.mono _ _ _ _) | (with_reducible exact LeO.refl _) | (with_reducible exact LeO.none _) | (with_reducible refine LeO.ite ?_ ?_) | (with_reducible refine LeO.bind ?_ (fun _ => ?_))
  ·
   intro y0 y1 y2 y3 y4 y5 y6
   unfold spec_l10DrawRight.j1
   repeat' first | (with_reducible exact ih0 _ _ _ _ _ _ _ _) | (with_reducible exact ih1 _ _ _ _ _ _ _) | (with_reducible exact ih2 _ _ _ _ _ _ _ _ _) | (with_reducible exact spec_SetAdd.mono _ _ _) | (with_reducible exact spec_ViewOf.mono _ _) | (with_reducible exact spec_l5DrawRight.mono _ _ _ _) | (with_reducible exact LeO.refl _) | (with_reducible exact LeO.none _) | (with_reducible refine LeO.ite ?_ ?_) | (with_reducible refine LeO.bind ?_ (fun _ => ?_))
  intro y0 y1 y2 y3 y4 y5 y6 y7 y8
  unfold spec_l10DrawRight.l0
  repeat' first | (with_reducible exact ih0 _ _ _ _ _ _ _ _) | (with_reducible exact ih1 _ _ _ _ _ _ _) | (with_reducible exact ih2 _ _ _ _ _ _ _ _ _) | (with_reducible exact spec_SetAdd.mono _ _ _) | (with_reducible exact spec_ViewOf.mono _ _) | (with_reducible exact spec_l5DrawRight.mono _ _ _ _) | (with_reducible exact LeO.refl _) | (with_reducible exact LeO.none _) | (with_reducible refine LeO.ite ?_ ?_) | (with_reducible refine LeO.bind ?_ (fun _ => ?_))
theorem spec_l10DrawRight.mono : ∀ a0 a1 a2 a3 a4 k, LeO (spec_l10DrawRight.f k a0 a1 a2 a3 a4) (spec_l10DrawRight.f (k + 1) a0 a1 a2 a3 a4) := by
 intro a0 a1 a2 a3 a4 k
 obtain ⟨ih0, ih1, ih2⟩ := spec_l10DrawRight.mono_l k
 unfold spec_l10DrawRight.f
 repeat' first | (with_reducible exact ih0 _ _ _ _ _ _ _ _) | (with_reducible exact ih1 _ _ _ _ _ _ _) | (with_reducible exact ih2 _ _ _ _ _ _ _ _ _) | (with_reducible exact spec_SetAdd.mono _ _ _) | (with_reducible exact spec_ViewOf.mono _ _) | (with_reducible exact spec_l5DrawRight.mono _ _ _ _) | (with_reducible exact LeO.refl _) | (with_reducible exact LeO.none _) | (with_reducible refine LeO.ite ?_ ?_) | (with_reducible refine LeO.bind ?_ (fun _ => ?_))
def spec_l10DrawRight.T8 : Bool × List (List Nat × List Nat) := (true, [([], []), ([0], [0]), ([], []), ([], []), ([3], [3]), ([4], [4]), ([2, 5, 5], [2, 5]), ([1, 6, 6], [1, 6]), ([0, 1, 2, 3, 4, 5, 6, 7], []), ([8, 7, 7, 0, 1, 2, 3, 4, 5, 6, 7], [7, 8])])
def spec_l10DrawRight.B8 : List Nat := [0, 1, 0, 0, 8, 24, 60, 127, 255, 511]
theorem spec_l10DrawRight.tab8 : rtab .any (opsOf Tryd.f52 8) = spec_l10DrawRight.T8 := by kernel_rfl
theorem spec_l10DrawRight.bits8 : waitsOk spec_l10DrawRight.T8.2 spec_l10DrawRight.B8 = true := by kernel_rfl
set_option maxHeartbeats 8000000 in
set_option maxRecDepth 100000 in
theorem spec_l10DrawRight.calls (k : Nat) (g : Nat) (s0_0 : List Int) (s0_1 : Int) (s0_2 : Int) (a1_0 : Int) (a1_1 : Int) (r1 : Int) (r2 : ByteArray) (r3 : List Int) (r4 : Int) (r5 : Int) (w0 w : World) (hI : IsS77 w0 w g s0_0 s0_1 s0_2) (hB : Below w0.heap.size w0 w) (h : spec_l10DrawRight.f k s0_0 s0_1 s0_2 a1_0 a1_1 = some (r1, r2, r3, r4, r5)) :
  Calls Tryd.prog 52 #[.pointer (some ⟨g, 0, none⟩), .agg #[.int .i64 a1_0, .int .i64 a1_1]] w fun e w' => ∃ v2_ : Value, e = .returned (.agg #[.int .i64 r1, .string r2, v2_]) ∧ Kd.R (Kd.int .i64) 3 w' w.heap.size (fun _ => True) v2_ r3 ∧ IsS77 w0 w' g s0_0 r4 r5 ∧ Below w0.heap.size w0 w' ∧ KeepBut w w' g none := by
 have hu25 := Tryd.underlying25; have hu28 := Tryd.underlying28; have HI0 := Aside0.mk hI; have HK := Aside0.mk (KeepBut.refl w g none); have HL := Aside0.mk hB.size; clear hI; have HW0 := Aside0.mk hB.size; have HB := Aside0.mk hB; clear hB
 have H := h; unfold spec_l10DrawRight.f at H
 clear h; obtain ⟨⟨t427, t428, t429⟩, A3, H⟩ := oB H; (try dsimp only at H); obtain ⟨t430, A4, H⟩ := oB H; (try dsimp only at H); have HC5 := Aside0.mk H; clear H
 go_enter Tryd.func52, Tryd.ntmps52
 go_upto_region 3 with (first | ((with_reducible refine gd 3 ?_); refine bA 3 #[.int .i64 a1_0, .int .i64 a1_1] 25 ?_; intro gb425 hg w6 hbox hb; replace HB : Aside0 (Below w0.heap.size w0 _) := Aside0.mk (below_step y0_6 hb); have BK425 := Aside0.mk (hbox); have GW425 := bh hg HK; have GJ425 := gi GW425; have GE425 := Aside0.mk ((Nat.le_trans HW0.out (y0_14 : w.heap.size ≤ gb425) : w0.heap.size ≤ gb425)); have GI425 := gi GE425; replace HK := kb HK hb; have NB0_425 := Aside0.mk ((y0_2 : g ≠ gb425)); have NI0_425 := ni NB0_425; have NB425_0 := Aside0.mk ((y0_3 : gb425 ≠ g)); have NI425_0 := ni NB425_0; replace HI0 := Aside0.mk (IsS77.below y0_7 hb); clear hb hbox hg) | ((with_reducible refine gd 4 ?_); refine bA 4 #[.int .i64 0, .string (⟨#[]⟩ : ByteArray), .slice none 0 0] 28 ?_; intro gb426 hg w7 hbox hb; replace HB : Aside0 (Below w0.heap.size w0 _) := Aside0.mk (below_step y0_4 hb); have BK426 := Aside0.mk (hbox); have GW426 := bh hg HK; have GJ426 := gi GW426; have GE426 := Aside0.mk ((Nat.le_trans HW0.out (y0_14 : w.heap.size ≤ gb426) : w0.heap.size ≤ gb426)); have GI426 := gi GE426; replace HK := kb HK hb; have NB425_426 := b1 BK425 hg; have NI425_426 := ni NB425_426; have NB426_425 := b2 BK425 hg; have NI426_425 := ni NB426_425; replace BK425 := bk BK425 hb; have NB0_426 := Aside0.mk ((y0_0 : g ≠ gb426)); have NI0_426 := ni NB0_426; have NB426_0 := Aside0.mk ((y0_1 : gb426 ≠ g)); have NI426_0 := ni NB426_0; replace HI0 := Aside0.mk (IsS77.below y0_5 hb); clear hb hbox hg) | ((with_reducible refine gate_callee (f := 49) rfl ?_); refine gB (some 9) Tryd.func49 #[.pointer (some ⟨g, 0, none⟩)] ?_; (with_reducible refine (spec_l5DrawRight.calls k g s0_0 s0_1 s0_2 t427 t428 t429 w0 _ ?side1 ?side2 A3.out).mono ?_); (case side1 => repeat (first | (with_reducible first | exact HI0.out | apply IsS77.alloc | apply IsS77.drewN | apply IsS77.drew | apply IsS77.set_1 | apply IsS77.set_2 | refine IsS77.far ?_ NeI.out _) | exact HI0.out)); (case side2 => repeat (first | (with_reducible first | exact HB.out | apply below_alloc | apply pw_below_drewN | apply below_drew1 | refine below_set ?_ (IsS77.ge HI0.out) | refine below_set ?_ GeI.out) | exact HB.out)); rintro e w8 ⟨rfl, hi, hb, hk⟩; refine ⟨_, rfl, ?_⟩; replace BK425 := bq BK425 hk NB425_0; replace BK426 := bq BK426 hk NB426_0; replace HK := kt HK hk; replace HB := Aside0.mk (hb); replace HI0 := Aside0.mk (hi); (try clear hb); (try clear hb2); (try clear hk); (try clear hi)) | ((with_reducible refine gate_callee (f := 64) rfl ?_); refine gB (some 11) Tryd.func64 #[.string t427] ?_; (with_reducible refine (spec_ViewOf.calls k t427 t430 _ A4.out).mono ?_); rintro e w9 ⟨rfl, hb⟩; refine ⟨_, rfl, ?_⟩; replace BK425 := bk BK425 hb; replace BK426 := bk BK426 hb; replace HK := kb HK hb; replace HB : Aside0 (Below w0.heap.size w0 _) := Aside0.mk (below_step y0_4 hb); replace HI0 := Aside0.mk (IsS77.below y0_5 hb); (try clear hb); (try clear hb2); (try clear hk); (try clear hi)) | ((with_reducible refine gd 6 ?_); refine bA 6 #[.int .i64 0, .string (⟨#[]⟩ : ByteArray), .slice none 0 0] 28 ?_; intro gb431 hg w10 hbox hb; replace HB : Aside0 (Below w0.heap.size w0 _) := Aside0.mk (below_step y0_4 hb); have BK431 := Aside0.mk (hbox); have GW431 := bh hg HK; have GJ431 := gi GW431; have GE431 := Aside0.mk ((Nat.le_trans HW0.out (y0_14 : w.heap.size ≤ gb431) : w0.heap.size ≤ gb431)); have GI431 := gi GE431; replace HK := kb HK hb; have NB425_431 := b1 BK425 hg; have NI425_431 := ni NB425_431; have NB431_425 := b2 BK425 hg; have NI431_425 := ni NB431_425; replace BK425 := bk BK425 hb; have NB426_431 := b1 BK426 hg; have NI426_431 := ni NB426_431; have NB431_426 := b2 BK426 hg; have NI431_426 := ni NB431_426; replace BK426 := bk BK426 hb; have NB0_431 := Aside0.mk ((by rw [hg]; exact Nat.ne_of_lt (IsS77.lt (show IsS77 w0 _ g s0_0 t428 t429 from y0_5)) : g ≠ gb431)); have NI0_431 := ni NB0_431; have NB431_0 := Aside0.mk ((by rw [hg]; exact Nat.ne_of_gt (IsS77.lt (show IsS77 w0 _ g s0_0 t428 t429 from y0_5)) : gb431 ≠ g)); have NI431_0 := ni NB431_0; replace HI0 := Aside0.mk (IsS77.below y0_5 hb); clear hb hbox hg; have hnb11 := NB431_425.out; have hnc11 := NB425_431.out; have hnb12 := NB431_426.out; have hnc12 := NB426_431.out; have hnb13 := NB431_0.out; have hnc13 := NB0_431.out; obtain ⟨hcz14_0, hcz14_1, hcz14_2, hfz14_0, hfz14_1, hfz14_2⟩ := cs3 BK431))
 (try simp only [Act.put, List.setIfInBounds_toArray, List.set_cons_zero, List.set_cons_succ])
 go_cut [19] (fun v19 wc => ∃ (kq : Nat) (x19_4 : Bool) (x1001_4 : Int) (x1002_4 : Int), v19 = .bool x19_4 ∧ Aside0 (spec_l10DrawRight.j0 kq x19_4 s0_0 x1001_4 x1002_4 a1_0 a1_1 t430 t427 = some (r1, r2, r3, r4, r5)) ∧ Aside0 (kq ≤ k) ∧ Aside0 (wc.heap[gb425]? = some (.cells #[.int .i64 a1_0, .int .i64 a1_1] 25 (0, 0))) ∧ Aside0 (wc.heap[gb426]? = some (.cells #[.int .i64 0, .string (⟨#[]⟩ : ByteArray), (.slice none 0 0)] 28 (0, 0))) ∧ Aside0 (wc.heap[gb431]? = some (.cells #[.int .i64 t430, .string t427, (.slice none 0 0)] 28 (0, 0))) ∧ Aside0 (IsS77 w0 wc g s0_0 x1001_4 x1002_4) ∧ Aside0 (KeepBut w wc g none) ∧ Aside0 (Below w0.heap.size w0 wc))
 case first =>
  have H := HC5.out; clear HC5; obtain ⟨⟨t432, t433, t434⟩, A15, H⟩ := oB H; (try dsimp only at H)
  by_cases c16 : t432 = true
  ·
   subst c16
   rw [if_pos rfl] at H
   have H' := Aside0.mk H; clear H
   go_wp2_with (first | ((with_reducible refine gate_callee (f := 27) rfl ?_); refine gB (some 15) Tryd.func27 #[.pointer (some ⟨g, 0, none⟩), .int .i64 4] ?_; (with_reducible refine (spec_l1Once.calls g s0_0 t428 t429 4 true t433 t434 w0 _ ?side1 ?side2 A15.out).mono ?_); (case side1 => repeat (first | (with_reducible first | exact HI0.out | apply IsS77.alloc | apply IsS77.drewN | apply IsS77.drew | apply IsS77.set_1 | apply IsS77.set_2 | refine IsS77.far ?_ NeI.out _) | exact HI0.out)); (case side2 => repeat (first | (with_reducible first | exact HB.out | apply below_alloc | apply pw_below_drewN | apply below_drew1 | refine below_set ?_ (IsS77.ge HI0.out) | refine below_set ?_ GeI.out) | exact HB.out)); rintro e w17 ⟨rfl, hi, hb, hk⟩; refine ⟨_, rfl, ?_⟩; replace BK425 := Aside0.mk (KeepBut.blk hk (g' := gb425) (o := .cells #[.int .i64 a1_0, .int .i64 a1_1] 25 (0, 0)) (gI BK425.out) NB425_0.out (by simp)); replace BK426 := Aside0.mk (KeepBut.blk hk (g' := gb426) (o := .cells #[.int .i64 0, .string (⟨#[]⟩ : ByteArray), .slice none 0 0] 28 (0, 0)) (gI BK426.out) NB426_0.out (by simp)); replace BK431 := Aside0.mk (KeepBut.blk hk (g' := gb431) (o := .cells #[.int .i64 t430, .string t427, .slice none 0 0] 28 (0, 0)) (pI BK431) NB431_0.out (by simp)); replace HK := kt HK hk; replace HB := Aside0.mk (hb); replace HI0 := Aside0.mk (hi); (try clear hb); (try clear hb2); (try clear hk); (try clear hi)))
   go_meet
   case rel => exact ⟨_, (true), (t433), (t434), y0_17, H', ⟨y0_18⟩, ⟨gI BK425.out⟩, ⟨gI BK426.out⟩, ⟨gI BK431.out⟩, ⟨y0_5⟩, ⟨hI HK.out⟩, ⟨y0_4⟩⟩
  replace c16 := Bool.eq_false_iff.mpr c16; subst c16
  rw [if_neg (show ¬ (false = true) by decide)] at H
  have H' := Aside0.mk H; clear H
  go_wp2_with (first | ((with_reducible refine gate_callee (f := 27) rfl ?_); refine gB (some 15) Tryd.func27 #[.pointer (some ⟨g, 0, none⟩), .int .i64 4] ?_; (with_reducible refine (spec_l1Once.calls g s0_0 t428 t429 4 false t433 t434 w0 _ ?side1 ?side2 A15.out).mono ?_); (case side1 => repeat (first | (with_reducible first | exact HI0.out | apply IsS77.alloc | apply IsS77.drewN | apply IsS77.drew | apply IsS77.set_1 | apply IsS77.set_2 | refine IsS77.far ?_ NeI.out _) | exact HI0.out)); (case side2 => repeat (first | (with_reducible first | exact HB.out | apply below_alloc | apply pw_below_drewN | apply below_drew1 | refine below_set ?_ (IsS77.ge HI0.out) | refine below_set ?_ GeI.out) | exact HB.out)); rintro e w18 ⟨rfl, hi, hb, hk⟩; refine ⟨_, rfl, ?_⟩; replace BK425 := Aside0.mk (KeepBut.blk hk (g' := gb425) (o := .cells #[.int .i64 a1_0, .int .i64 a1_1] 25 (0, 0)) (gI BK425.out) NB425_0.out (by simp)); replace BK426 := Aside0.mk (KeepBut.blk hk (g' := gb426) (o := .cells #[.int .i64 0, .string (⟨#[]⟩ : ByteArray), .slice none 0 0] 28 (0, 0)) (gI BK426.out) NB426_0.out (by simp)); replace BK431 := Aside0.mk (KeepBut.blk hk (g' := gb431) (o := .cells #[.int .i64 t430, .string t427, .slice none 0 0] 28 (0, 0)) (pI BK431) NB431_0.out (by simp)); replace HK := kt HK hk; replace HB := Aside0.mk (hb); replace HI0 := Aside0.mk (hi); (try clear hb); (try clear hb2); (try clear hk); (try clear hi)))
  go_meet
  case rel => exact ⟨_, ((t427.toList == ([] : List UInt8))), (t433), (t434), y0_17, H', ⟨y0_18⟩, ⟨gI BK425.out⟩, ⟨gI BK426.out⟩, ⟨gI BK431.out⟩, ⟨y0_5⟩, ⟨hI HK.out⟩, ⟨y0_4⟩⟩
 case rest =>
  clear HC5
  try clear c1
  try clear c2
  try clear p2
  try clear c4
  try clear c5
  try clear c6
  try clear c11
  try clear c12
  try clear c13
  try clear c16
  try clear hcz14_0
  try clear hcz14_1
  try clear hcz14_2
  try clear hfz14_0
  try clear hfz14_1
  try clear hfz14_2
  obtain ⟨kq, x19_4, x1001_4, x1002_4, rfl, HA, HJ4, BK425, BK426, BK431, HI0, HK, HB⟩ := hcut; cases kq with
  | zero => exact absurd HA.out (by simp [spec_l10DrawRight.j0])
  | succ kj4 =>
   have H := HA.out; clear HA
   simp only [spec_l10DrawRight.j0] at H
   have HC19 := Aside0.mk H; clear H
   go_upto_if 19 with (fail)
   go_cut [] (fun wc => ∃ (kq : Nat) (x1001_18 : Int) (x1002_18 : Int) (x432000_18 : Int) (x432001_18 : ByteArray), Aside0 (spec_l10DrawRight.j1 kq s0_0 x1001_18 x1002_18 a1_0 a1_1 x432000_18 x432001_18 = some (r1, r2, r3, r4, r5)) ∧ Aside0 (kq ≤ kj4) ∧ Aside0 (wc.heap[gb425]? = some (.cells #[.int .i64 a1_0, .int .i64 a1_1] 25 (0, 0))) ∧ Aside0 (wc.heap[gb426]? = some (.cells #[.int .i64 0, .string (⟨#[]⟩ : ByteArray), (.slice none 0 0)] 28 (0, 0))) ∧ Aside0 (wc.heap[gb431]? = some (.cells #[.int .i64 x432000_18, .string x432001_18, (.slice none 0 0)] 28 (0, 0))) ∧ Aside0 (IsS77 w0 wc g s0_0 x1001_18 x1002_18) ∧ Aside0 (KeepBut w wc g none) ∧ Aside0 (Below w0.heap.size w0 wc))
   case first =>
    have H := HC19.out; clear HC19
    by_cases c20 : x19_4 = true
    ·
     subst c20
     rw [if_pos rfl] at H
     obtain ⟨⟨t435, t436, t437⟩, A21, H⟩ := oB H; (try dsimp only at H); have H' := Aside0.mk H; clear H
     go_wp2_with (first | ((with_reducible refine gate_callee (f := 47) rfl ?_); refine gB (some 21) Tryd.func47 #[.pointer (some ⟨g, 0, none⟩), .int .i64 4] ?_; (with_reducible refine (spec_l1Below.calls g s0_0 x1001_4 x1002_4 4 t435 t436 t437 w0 _ ?side1 ?side2 A21.out).mono ?_); (case side1 => repeat (first | (with_reducible first | exact HI0.out | apply IsS77.alloc | apply IsS77.drewN | apply IsS77.drew | apply IsS77.set_1 | apply IsS77.set_2 | refine IsS77.far ?_ NeI.out _) | exact HI0.out)); (case side2 => repeat (first | (with_reducible first | exact HB.out | apply below_alloc | apply pw_below_drewN | apply below_drew1 | refine below_set ?_ (IsS77.ge HI0.out) | refine below_set ?_ GeI.out) | exact HB.out)); rintro e w22 ⟨rfl, hi, hb, hk⟩; refine ⟨_, rfl, ?_⟩; replace BK425 := bq BK425 hk NB425_0; replace BK426 := bq BK426 hk NB426_0; replace BK431 := bq BK431 hk NB431_0; replace HK := kt HK hk; replace HB := Aside0.mk (hb); replace HI0 := Aside0.mk (hi); (try clear hb); (try clear hb2); (try clear hk); (try clear hi); have hnb23 := NB431_425.out; have hnc23 := NB425_431.out; have hnb24 := NB431_426.out; have hnc24 := NB426_431.out; have hnb25 := NB431_0.out; have hnc25 := NB0_431.out; obtain ⟨hcz26_0, hcz26_1, hcz26_2, hfz26_0, hfz26_1, hfz26_2⟩ := cs3 BK431))
     go_meet
     case rel => exact ⟨_, (t436), (t437), (wrap64 (1 + t435)), ((⟨#[]⟩ : ByteArray)), H', ⟨by have := HJ4.out; first | omega | exact Nat.le_refl _⟩, ⟨gI BK425.out⟩, ⟨gI BK426.out⟩, ⟨pI BK431⟩, ⟨y0_5⟩, ⟨hI HK.out⟩, ⟨y0_4⟩⟩
    replace c20 := Bool.eq_false_iff.mpr c20; subst c20
    rw [if_neg (show ¬ (false = true) by decide)] at H
    have H' := Aside0.mk H; clear H
    go_wp2
    go_meet
    case rel => exact ⟨_, (x1001_4), (x1002_4), (t430), (t427), H', ⟨by have := HJ4.out; first | omega | exact Nat.le_refl _⟩, ⟨gI BK425.out⟩, ⟨gI BK426.out⟩, ⟨gI BK431.out⟩, ⟨y0_5⟩, ⟨hI HK.out⟩, ⟨y0_4⟩⟩
   case rest =>
    clear HC19
    try clear c1
    try clear c2
    try clear p2
    try clear c4
    try clear c5
    try clear c6
    try clear p6
    try clear c11
    try clear c12
    try clear c13
    try clear c16
    try clear c20
    try clear c23
    try clear c24
    try clear c25
    try clear hcz14_0
    try clear hcz14_1
    try clear hcz14_2
    try clear hcz26_0
    try clear hcz26_1
    try clear hcz26_2
    try clear hfz14_0
    try clear hfz14_1
    try clear hfz14_2
    try clear hfz26_0
    try clear hfz26_1
    try clear hfz26_2
    try clear p2
    obtain ⟨kq, x1001_18, x1002_18, x432000_18, x432001_18, HA, HJ18, BK425, BK426, BK431, HI0, HK, HB⟩ := hcut; cases kq with
    | zero => exact absurd HA.out (by simp [spec_l10DrawRight.j1])
    | succ kj18 =>
     have H := HA.out; clear HA
     simp only [spec_l10DrawRight.j1] at H
     have H' := Aside0.mk H; clear H
     go_wp2
     go_loopg [7] kj18 (fun kq v7 w' => ∃ (x7_3 : Int) (x1001_3 : Int) (x1002_3 : Int) (x432002_3 : List Int) (u432002 : Value), v7 = .int .i64 x7_3 ∧ Aside0 (spec_l10DrawRight.l0 kq x7_3 s0_0 x1001_3 x1002_3 a1_0 a1_1 x432000_18 x432001_18 x432002_3 = some (r1, r2, r3, r4, r5)) ∧ Aside0 (kq ≤ kj18) ∧ Aside0 (Kd.R (Kd.int .i64) 3 w' w.heap.size (fun _ => True) u432002 x432002_3) ∧ Aside0 (w'.heap[gb425]? = some (.cells #[.int .i64 a1_0, .int .i64 a1_1] 25 (0, 0))) ∧ Aside0 (w'.heap[gb426]? = some (.cells #[.int .i64 0, .string (⟨#[]⟩ : ByteArray), (.slice none 0 0)] 28 (0, 0))) ∧ Aside0 (w'.heap[gb431]? = some (.cells #[.int .i64 x432000_18, .string x432001_18, u432002] 28 (0, 0))) ∧ Aside0 (IsS77 w0 w' g s0_0 x1001_3 x1002_3) ∧ Aside0 (KeepBut w w' g none) ∧ Aside0 (Below w0.heap.size w0 w'))
     case atStart => exact ⟨(0), (x1001_18), (x1002_18), (([] : List Int)), (.slice none 0 0), y0_17, H', ⟨Nat.le_refl _⟩, ⟨y0_10⟩, ⟨gI BK425.out⟩, ⟨gI BK426.out⟩, ⟨gI BK431.out⟩, ⟨y0_5⟩, ⟨hI HK.out⟩, ⟨y0_4⟩⟩
     case round =>
      clear H'
      try clear c1
      try clear c2
      try clear p2
      try clear c4
      try clear c5
      try clear c6
      try clear p6
      try clear c11
      try clear c12
      try clear c13
      try clear c16
      try clear c20
      try clear c23
      try clear c24
      try clear c25
      try clear hcz14_0
      try clear hcz14_1
      try clear hcz14_2
      try clear hcz26_0
      try clear hcz26_1
      try clear hcz26_2
      try clear hfz14_0
      try clear hfz14_1
      try clear hfz14_2
      try clear hfz26_0
      try clear hfz26_1
      try clear hfz26_2
      try clear p2
      try clear p6
      obtain ⟨x7_3, x1001_3, x1002_3, x432002_3, u432002, rfl, HA, HK3, HO_432002, BK425, BK426, BK431, HI0, HK, HB⟩ := hrel; cases gk with
      | zero => exact absurd HA.out (by simp [spec_l10DrawRight.l0])
      | succ k3 =>
       have H := HA.out; clear HA
       simp only [spec_l10DrawRight.l0] at H
       obtain ⟨⟨t438, t439, t440⟩, A27, H⟩ := oB H; (try dsimp only at H)
       by_cases c28 : x7_3 < (wrap64 (1 + t438))
       ·
        rw [if_pos c28] at H
        have c28b0 : decide (x7_3 < (wrap64 (1 + t438))) = true := decide_eq_true c28; clear c28; obtain ⟨t441, A29, H⟩ := oB H; (try dsimp only at H); obtain ⟨⟨t442, t443, t444⟩, A30, H⟩ := oB H; (try dsimp only at H); obtain ⟨t445, A31, H⟩ := oB H; (try dsimp only at H); have H' := Aside0.mk H; clear H
        try go_wp2_with (first | ((with_reducible refine gate_callee (f := 47) rfl ?_); refine gB (some 26) Tryd.func47 #[.pointer (some ⟨g, 0, none⟩), .int .i64 7] ?_; (with_reducible refine (spec_l1Below.calls g s0_0 x1001_3 x1002_3 7 t438 t439 t440 w0 _ ?side1 ?side2 A27.out).mono ?_); (case side1 => repeat (first | (with_reducible first | exact HI0.out | apply IsS77.alloc | apply IsS77.drewN | apply IsS77.drew | apply IsS77.set_1 | apply IsS77.set_2 | refine IsS77.far ?_ NeI.out _) | exact HI0.out)); (case side2 => repeat (first | (with_reducible first | exact HB.out | apply below_alloc | apply pw_below_drewN | apply below_drew1 | refine below_set ?_ (IsS77.ge HI0.out) | refine below_set ?_ GeI.out) | exact HB.out)); rintro e w32 ⟨rfl, hi, hb, hk⟩; refine ⟨_, rfl, ?_⟩; replace HO_432002 := Aside0.mk (Kd.R_mono (Kd.R_keep (IsS77.apart (show IsS77 w0 _ g s0_0 x1001_3 x1002_3 from y0_5) (rI HO_432002.out) (by decide)) hk (fun _ h => h.2)) (fun _ h => h.1)); replace BK425 := bq BK425 hk NB425_0; replace BK426 := bq BK426 hk NB426_0; replace BK431 := bq BK431 hk NB431_0; replace HK := kt HK hk; replace HB := Aside0.mk (hb); replace HI0 := Aside0.mk (hi); (try clear hb); (try clear hb2); (try clear hk); (try clear hi)))
        replace HO_432002 := Aside0.mk (Kd.R_drew HO_432002.out); replace BK425 := Aside0.mk (blk_drew BK425.out); replace BK426 := Aside0.mk (blk_drew BK426.out); replace BK431 := Aside0.mk (blk_drew BK431.out); replace HI0 := Aside0.mk (IsS77.drew HI0.out); replace HK := Aside0.mk (keep_drew HK.out); replace HB := Aside0.mk (below_drew1 HB.out)
        refine start_ (n := 10) (S := fun w' => w'.cell? ⟨gb431, 0, none⟩ = some (.int .i64 x432000_18) ∧ w'.cell? ⟨gb431, 1, none⟩ = some (.string x432001_18) ∧ w'.cell? ⟨gb431, 2, none⟩ = some (u432002) ∧ w'.cell? ⟨gb425, 0, none⟩ = some (.int .i64 a1_0) ∧ w'.cell? ⟨gb425, 1, none⟩ = some (.int .i64 a1_1)) (ds := [9]) #[false, false, false, false, false, false, false, false, false, false] (by kernel_rfl) rfl rfl ⟨bc0 BK431.out, bc1 BK431.out, bc2 BK431.out, bc0 BK425.out, bc1 BK425.out⟩ (fun hHeld => ?_); refine with_tabW spec_l10DrawRight.tab8 spec_l10DrawRight.bits8 (fun HT_ HW_ => ?_)
        generalize w32.drew = w33 at HO_432002 BK425 BK426 BK431 HI0 HK HB hHeld ⊢
        refine pA 0 (some 31) (bz 10 1) HT_ ?_
        refine pA 2 (some 33) (bz 10 5) HT_ ?_
        refine pA 3 (some 34) (bz 10 13) HT_ ?_
        refine tA 1 (some 32) (bz 10 15) HT_ HW_ hHeld ?_
        refine tA 4 (some 35) (bz 10 31) HT_ HW_ hHeld ?_
        refine oA 5 (some 36) (bz 10 63) HT_ (fun K hK => ?_)
        refine gA Tryd.func77 #[.int .i64 a1_0, .int .i64 4] ?_
        with_reducible refine (spec_l1Max.calls a1_0 4 t441 _ A29.out).mono ?_
        rintro e w' ⟨rfl, ⟨nd, rfl⟩⟩
        refine ⟨_, rfl, ?_⟩
        refine hK.out _ _ ⟨bc0 BK431.out, bc1 BK431.out, bc2 BK431.out, bc0 BK425.out, bc1 BK425.out⟩ (fun hHeld => ?_)
        clear hK K
        refine nA (some 36) ?_
        refine oA 6 (some 37) (bz 10 127) HT_ (fun K hK => ?_)
        refine gA Tryd.func47 #[.pointer (some ⟨g, 0, none⟩), .int .i64 t441] ?_
        with_reducible refine (spec_l1Below.calls g s0_0 t439 t440 t441 t442 t443 t444 w0 _ ?side1 ?side2 A30.out).mono ?_
        (case side1 => repeat (first | (with_reducible first | exact HI0.out | apply IsS77.alloc | apply IsS77.drewN | apply IsS77.drew | apply IsS77.set_1 | apply IsS77.set_2 | refine IsS77.far ?_ NeI.out _) | exact HI0.out))
        (case side2 => repeat (first | (with_reducible first | exact HB.out | apply below_alloc | apply pw_below_drewN | apply below_drew1 | refine below_set ?_ (IsS77.ge HI0.out) | refine below_set ?_ GeI.out) | exact HB.out))
        rintro e w34 ⟨rfl, hi, hb, hk⟩
        refine ⟨_, rfl, ?_⟩
        replace HO_432002 := Aside0.mk (Kd.R_mono (Kd.R_keep (IsS77.apart (show IsS77 w0 _ g s0_0 t439 t440 from y0_5) (rI HO_432002.out) (by decide)) hk (fun _ h => h.2)) (fun _ h => h.1))
        replace BK425 := bq BK425 hk NB425_0; replace BK426 := bq BK426 hk NB426_0; replace BK431 := bq BK431 hk NB431_0; replace HK := kt HK hk; replace HB := Aside0.mk (hb); replace HI0 := Aside0.mk (hi)
        (try clear hb)
        (try clear hb2)
        (try clear hk)
        (try clear hi)
        obtain ⟨Ao35, co35, eo35⟩ := Kd.R_slice HO_432002.out
        (first | subst eo35 | (injection eo35 with f1_ f2_ f3_; have f4_ := f1_.symm; have f5_ := f3_.symm; clear f1_ f2_ f3_; subst f4_; subst f5_))
        refine hK.out _ _ ⟨bc0 BK431.out, bc1 BK431.out, bc2 BK431.out, bc0 BK425.out, bc1 BK425.out⟩ (fun hHeld => ?_)
        clear hK K
        refine nA (some 37) ?_
        refine oA 7 (some 38) (bz 10 255) HT_ (fun K hK => ?_)
        refine gA Tryd.func74 #[.slice Ao35 x432002_3.length co35, .int .i64 t442] ?_
        with_reducible refine (spec_SetAdd.calls k3 _ _ x432002_3 t442 t445 _ ?side1 ?side2 A31.out).mono ?_
        (case side1 => repeat (first | exact (Kd.R_reads' HO_432002.out).2.2 | (with_reducible refine Kd.C_alloc ?_ _) | (with_reducible refine Kd.C_drewN ?_ _) | (with_reducible refine Kd.C_drew ?_)))
        (case side2 => exact (Kd.R_reads' HO_432002.out).2.1)
        rintro e w36 ⟨v446, rfl, ho0, hb⟩
        refine ⟨_, rfl, ?_⟩
        have HO447 := Aside0.mk (Kd.R_lower (Kd.R_new' ho0 (Kd.R_lt (rI HO_432002.out))) (keep_size (w := w) (g := g) (row := none) (hI HK.out))); replace HO_432002 := Aside0.mk (Kd.R_elder' (rI HO_432002.out) (Kd.R_base ho0) hb); replace BK425 := bk BK425 hb; replace BK426 := bk BK426 hb; replace BK431 := bk BK431 hb; replace HK := kb HK hb; replace HB : Aside0 (Below w0.heap.size w0 _) := Aside0.mk (below_step y0_4 hb); replace HI0 := Aside0.mk (IsS77.below y0_5 hb)
        (try clear hb)
        (try clear hb2)
        (try clear hk)
        (try clear hi)
        (try clear ho0)
        obtain ⟨Ao37, co37, eo37⟩ := Kd.R_slice HO447.out
        (first | subst eo37 | (injection eo37 with f1_ f2_ f3_; have f4_ := f1_.symm; have f5_ := f3_.symm; clear f1_ f2_ f3_; subst f4_; subst f5_))
        refine hK.out _ _ ⟨bc0 BK431.out, bc1 BK431.out, bc2 BK431.out, bc0 BK425.out, bc1 BK425.out⟩ (fun hHeld => ?_)
        clear hK K
        refine nA (some 38) ?_
        refine pA 8 (some 39) (bz 10 511) HT_ ?_
        refine last_ (i := 9) (N := none) #[true, true, true, true, true, true, true, true, true, true] rfl rfl (one_of HT_.out (by kernel_rfl)) (by decide) (fun K hK => ?_)
        have hs38 : w36.cell? ⟨gb431, 2, none⟩ = some (.slice Ao35 x432002_3.length co35) := bc2 BK431.out; have hfs38 := blk_frozen BK431.out 2; have hns38_0 := NB425_431.out; have hns38_1 := NB426_431.out; have hms38_0 := NB431_425.out; have hms38_1 := NB431_426.out
        refine skip_ (w1 := ?_) (by rfl) rfl ?_ ?_
        rotate_left
        ·
         go_simp
         rfl
        refine hK.out _ _ ?_
        clear hK K
        refine done_ (done_of HT_.out (by kernel_rfl)) ?_
        try go_wp2
        go_roundg k3
        case measure => have := HJ4.out; have := HJ18.out; have := HK3.out; omega
        case rel => exact ⟨(wrap64 (x7_3 + 1)), (t443), (t444), (t445), (.slice Ao37 t445.length co37), y0_17, H', ⟨by have := HJ4.out; have := HJ18.out; have := HK3.out; omega⟩, ⟨by (with_reducible repeat (first | apply Kd.R_alloc | apply Kd.R_drewN | apply Kd.R_drew)); exact Kd.R_mono (Kd.R_far (p := ⟨gb431, 2, none⟩) (Kd.R_types HO447.out BK431.out (by decide)) (fun _ hk => hk.2) (.slice Ao37 t445.length co37)) (fun _ hk => trivial)⟩, ⟨gI BK425.out⟩, ⟨gI BK426.out⟩, ⟨pI BK431⟩, ⟨y0_5⟩, ⟨hI HK.out⟩, ⟨y0_4⟩⟩
       rw [if_neg c28] at H
       have c28b0 : decide (x7_3 < (wrap64 (1 + t438))) = false := decide_eq_false c28; clear c28
       simp only [Option.some.injEq, Prod.mk.injEq] at H
       obtain ⟨rfl, rfl, rfl, rfl, rfl⟩ := H
       go_wp2_with (first | ((with_reducible refine gate_callee (f := 47) rfl ?_); refine gB (some 26) Tryd.func47 #[.pointer (some ⟨g, 0, none⟩), .int .i64 7] ?_; (with_reducible refine (spec_l1Below.calls g s0_0 x1001_3 x1002_3 7 t438 t439 t440 w0 _ ?side1 ?side2 A27.out).mono ?_); (case side1 => repeat (first | (with_reducible first | exact HI0.out | apply IsS77.alloc | apply IsS77.drewN | apply IsS77.drew | apply IsS77.set_1 | apply IsS77.set_2 | refine IsS77.far ?_ NeI.out _) | exact HI0.out)); (case side2 => repeat (first | (with_reducible first | exact HB.out | apply below_alloc | apply pw_below_drewN | apply below_drew1 | refine below_set ?_ (IsS77.ge HI0.out) | refine below_set ?_ GeI.out) | exact HB.out)); rintro e w39 ⟨rfl, hi, hb, hk⟩; refine ⟨_, rfl, ?_⟩; replace HO_432002 := Aside0.mk (Kd.R_mono (Kd.R_keep (IsS77.apart (show IsS77 w0 _ g s0_0 x1001_3 x1002_3 from y0_5) (rI HO_432002.out) (by decide)) hk (fun _ h => h.2)) (fun _ h => h.1)); replace BK425 := bq BK425 hk NB425_0; replace BK426 := bq BK426 hk NB426_0; replace BK431 := bq BK431 hk NB431_0; replace HK := kt HK hk; replace HB := Aside0.mk (hb); replace HI0 := Aside0.mk (hi); (try clear hb); (try clear hb2); (try clear hk); (try clear hi); have hnb40 := NB431_425.out; have hnc40 := NB425_431.out; have hnb41 := NB431_426.out; have hnc41 := NB426_431.out; have hnb42 := NB431_0.out; have hnc42 := NB0_431.out; obtain ⟨hcz43_0, hcz43_1, hcz43_2, hfz43_0, hfz43_1, hfz43_2⟩ := cs3 BK431; have hnb44 := NB426_425.out; have hnc44 := NB425_426.out; have hnb45 := NB426_0.out; have hnc45 := NB0_426.out; obtain ⟨hcz46_0, hcz46_1, hcz46_2, hfz46_0, hfz46_1, hfz46_2⟩ := cs3 BK426; obtain ⟨Ao47, co47, eo47⟩ := Kd.R_slice HO_432002.out; subst eo47))
       refine bodyPost_ret (results_cell_row rfl _ _ gb426 28 #[.int .i64 x432000_18, .string x432001_18, .slice Ao47 x432002_3.length co47] (0, 0) _ rfl (pI BK426) Tryd.underlying28 rfl (by kernel_rfl)) rfl ?_
       exact ⟨_, y0_13, by (with_reducible repeat (first | apply Kd.R_alloc | apply Kd.R_drewN | apply Kd.R_drew)); exact Kd.R_mono (Kd.R_far (p := ⟨gb426, 2, none⟩) (Kd.R_far (p := ⟨gb426, 1, none⟩) (Kd.R_far (p := ⟨gb426, 0, none⟩) (Kd.R_types HO_432002.out BK426.out (by decide)) (fun _ hk => hk.2) (.int .i64 x432000_18)) (fun _ hk => hk.2) (.string x432001_18)) (fun _ hk => hk.2) (.slice Ao47 x432002_3.length co47)) (fun _ hk => trivial), y0_5, y0_4, hI HK.out⟩

/-! ### spec_l10Draw: function 29 -/
def spec_l10Draw.f (k : Nat) (s0_0 : List Int) (s0_1 : Int) (s0_2 : Int) (a1_0 : Int) (a1_1 : Int) : Option (Int × ByteArray × List Int × Int × Int) := (spec_l10DrawRight.f k s0_0 s0_1 s0_2 a1_0 a1_1).bind fun bt450 => ((spec_l1Below.f s0_0 bt450.2.2.2.1 bt450.2.2.2.2 10).bind fun bt458 => (if bt458.1 = 0 then ((spec_l1PickInt.f s0_0 bt458.2.1 bt458.2.2 (([(-1), 0, 60, 61] : List Int))).bind fun bt464 => (some (bt464.1, bt450.2.1, bt450.2.2.1, bt464.2.1, bt464.2.2))) else (if bt458.1 = 1 then ((spec_l6DrawSet.f k s0_0 bt458.2.1 bt458.2.2 7).bind fun bt467 => (some (bt450.1, bt450.2.1, bt467.1, bt467.2.1, bt467.2.2))) else (if bt458.1 = 2 then ((spec_l5Draw.f k s0_0 bt458.2.1 bt458.2.2).bind fun bt472 => (some (bt450.1, bt472.1, bt450.2.2.1, bt472.2.1, bt472.2.2))) else (some (bt450.1, bt450.2.1, bt450.2.2.1, bt458.2.1, bt458.2.2))))))
theorem spec_l10Draw.mono : ∀ a0 a1 a2 a3 a4 k, LeO (spec_l10Draw.f k a0 a1 a2 a3 a4) (spec_l10Draw.f (k + 1) a0 a1 a2 a3 a4) := by
 intro a0 a1 a2 a3 a4 k
 unfold spec_l10Draw.f
 repeat' first | (with_reducible exact spec_l10DrawRight.mono _ _ _ _ _ _) | (with_reducible exact spec_l5Draw.mono _ _ _ _) | (with_reducible exact spec_l6DrawSet.mono _ _ _ _ _) | (with_reducible exact LeO.refl _) | (with_reducible exact LeO.none _) | (with_reducible refine LeO.ite ?_ ?_) | (with_reducible refine LeO.bind ?_ (fun _ => ?_))
set_option maxHeartbeats 8000000 in
set_option maxRecDepth 100000 in
theorem spec_l10Draw.calls (k : Nat) (g : Nat) (s0_0 : List Int) (s0_1 : Int) (s0_2 : Int) (a1_0 : Int) (a1_1 : Int) (r1 : Int) (r2 : ByteArray) (r3 : List Int) (r4 : Int) (r5 : Int) (w0 w : World) (hI : IsS77 w0 w g s0_0 s0_1 s0_2) (hB : Below w0.heap.size w0 w) (h : spec_l10Draw.f k s0_0 s0_1 s0_2 a1_0 a1_1 = some (r1, r2, r3, r4, r5)) :
  Calls Tryd.prog 29 #[.pointer (some ⟨g, 0, none⟩), .agg #[.int .i64 a1_0, .int .i64 a1_1]] w fun e w' => ∃ v2_ : Value, e = .returned (.agg #[.int .i64 r1, .string r2, v2_]) ∧ Kd.R (Kd.int .i64) 3 w' w.heap.size (fun _ => True) v2_ r3 ∧ IsS77 w0 w' g s0_0 r4 r5 ∧ Below w0.heap.size w0 w' ∧ KeepBut w w' g none := by
 have hu25 := Tryd.underlying25; have hu28 := Tryd.underlying28; have HI0 := Aside0.mk hI; have HK := Aside0.mk (KeepBut.refl w g none); have HL := Aside0.mk hB.size; clear hI; have HW0 := Aside0.mk hB.size; have HB := Aside0.mk hB; clear hB
 have H := h; unfold spec_l10Draw.f at H
 clear h; obtain ⟨⟨t450, t451, t452, t455, t456⟩, A3, H⟩ := oB H; (try dsimp only at H); obtain ⟨⟨t458, t459, t460⟩, A4, H⟩ := oB H; (try dsimp only at H); have i0_ := iB77 HI0; have i1_ : LB w0 w := ⟨HB.out⟩
 go_enter Tryd.func29, Tryd.ntmps29
 have H' := Aside0.mk H; clear H
 go_upto_if 11 with (first | ((with_reducible refine gd 3 ?_); refine bL 3 #[.int .i64 a1_0, .int .i64 a1_1] 25 ?_; intro gb448 w5 _ _ _) | ((with_reducible refine gd 4 ?_); refine bL 4 #[.int .i64 0, .string (⟨#[]⟩ : ByteArray), .slice none 0 0] 28 ?_; intro gb449 w6 _ _ _) | ((with_reducible refine gate_callee (f := 52) rfl ?_); refine gK1 (some 8) Tryd.func52 (spec_l10DrawRight.calls (hI := iS77 HI0) (hB := UpW.out) (w := _) (h := A3.out)) ?_; intro Ao453 co453 w7 _ _ _ HI8 HO454) | ((with_reducible refine gd 5 ?_); refine bL 5 #[.int .i64 0, .string (⟨#[]⟩ : ByteArray), .slice none 0 0] 28 ?_; intro gb457 w9 _ _ _) | ((with_reducible refine gate_callee (f := 47) rfl ?_); refine gK (some 10) Tryd.func47 (spec_l1Below.calls (hI := iS77 HI8) (hB := UpW.out) (w := _) (h := A4.out)) ?_; intro w10 _ _ _ HI11))
 have H := H'.out; clear H'
 by_cases c12 : t458 = 0
 ·
  rw [if_pos c12] at H
  have c12b0 : (t458 == 0) = true := beq_iff_eq.mpr c12; have c12b1 : (t458 != 0) = false := bne_eq_false_iff_eq.mpr c12; clear c12
  (first | rw [c12b0] | (simp only [i64_w, i32_w]; rw [c12b0]) | skip)
  obtain ⟨y461, hy461⟩ : ∃ y_ : List Int, y_ = (([(-1), 0, 60, 61] : List Int)) := ⟨_, rfl⟩
  replace H : ((spec_l1PickInt.f s0_0 t459 t460 y461).bind fun bt464 => (some (bt464.1, t451, t452, bt464.2.1, bt464.2.2))) = some (r1, r2, r3, r4, r5) := by first | (rw [hy461]; with_reducible exact H) | (have H2_ := (Option.bind_some _ _).symm.trans H; rw [hy461]; with_reducible exact H2_) | (have H2_ := (Option.bind_some _ _).symm.trans H; with_reducible exact H2_) | with_reducible exact H | (rw [hy461]; exact H) | exact H
  have Ny461 := Aside0.mk hy461; clear hy461; obtain ⟨⟨t464, t465, t466⟩, A13, H⟩ := oB H; (try dsimp only at H)
  simp only [Option.some.injEq, Prod.mk.injEq] at H
  obtain ⟨rfl, rfl, rfl, rfl, rfl⟩ := H
  go_wp2_with (first | ((with_reducible refine gate_dst (N := 14) rfl ?_); refine lL 14 3 (Kd.int .i64) rfl Ny461 ?_; intro Ao462 co462 w14 _ HO463) | ((with_reducible refine gate_callee (f := 53) rfl ?_); refine gK (some 15) Tryd.func53 (spec_l1PickInt.calls (hI := iS77 HI11) (hB := UpW.out) (hr1 := rC HO463) (hc1 := rL HO463) (hf1 := fS HO463) (w := _) (h := A13.out)) ?_; intro w15 _ _ _ HI16))
  refine bodyPost_ret (results_cell_row rfl _ _ gb449 28 #[.int .i64 t464, .string t451, .slice Ao453 t452.length co453] (0, 0) _ rfl xB Tryd.underlying28 rfl (by kernel_rfl)) rfl ?_
  exact ⟨_, y0_17, rR HO454, iS77 HI16, UpW.out, UpB.out⟩
 rw [if_neg c12] at H
 have c12b0 : (t458 == 0) = false := beq_eq_false_iff_ne.mpr c12; have c12b1 : (t458 != 0) = true := bne_iff_ne.mpr c12
 (first | rw [c12b0] | (simp only [i64_w, i32_w]; rw [c12b0]) | skip)
 by_cases c17 : t458 = 1
 ·
  rw [if_pos c17] at H
  have c17b0 : (t458 == 1) = true := beq_iff_eq.mpr c17; have c17b1 : (t458 != 1) = false := bne_eq_false_iff_eq.mpr c17; clear c17; obtain ⟨⟨t467, t470, t471⟩, A18, H⟩ := oB H; (try dsimp only at H)
  simp only [Option.some.injEq, Prod.mk.injEq] at H
  obtain ⟨rfl, rfl, rfl, rfl, rfl⟩ := H
  go_wp2_with (first | ((with_reducible refine gate_callee (f := 50) rfl ?_); refine gK1 (some 20) Tryd.func50 (spec_l6DrawSet.calls (hI := iS77 HI11) (hB := UpW.out) (w := _) (h := A18.out)) ?_; intro Ao468 co468 w19 _ _ _ HI20 HO469))
  refine bodyPost_ret (results_cell_row rfl _ _ gb449 28 #[.int .i64 t450, .string t451, .slice Ao468 t467.length co468] (0, 0) _ rfl xB Tryd.underlying28 rfl (by kernel_rfl)) rfl ?_
  exact ⟨_, y0_17, rR HO469, iS77 HI20, UpW.out, UpB.out⟩
 rw [if_neg c17] at H
 have c17b0 : (t458 == 1) = false := beq_eq_false_iff_ne.mpr c17; have c17b1 : (t458 != 1) = true := bne_iff_ne.mpr c17
 by_cases c21 : t458 = 2
 ·
  rw [if_pos c21] at H
  have c21b0 : (t458 == 2) = true := beq_iff_eq.mpr c21; have c21b1 : (t458 != 2) = false := bne_eq_false_iff_eq.mpr c21; clear c21; obtain ⟨⟨t472, t473, t474⟩, A22, H⟩ := oB H; (try dsimp only at H)
  simp only [Option.some.injEq, Prod.mk.injEq] at H
  obtain ⟨rfl, rfl, rfl, rfl, rfl⟩ := H
  go_wp2_with (first | ((with_reducible refine gate_callee (f := 51) rfl ?_); refine gK (some 25) Tryd.func51 (spec_l5Draw.calls (hI := iS77 HI11) (hB := UpW.out) (w := _) (h := A22.out)) ?_; intro w23 _ _ _ HI24))
  refine bodyPost_ret (results_cell_row rfl _ _ gb449 28 #[.int .i64 t450, .string t472, .slice Ao453 t452.length co453] (0, 0) _ rfl xB Tryd.underlying28 rfl (by kernel_rfl)) rfl ?_
  exact ⟨_, y0_17, rR HO454, iS77 HI24, UpW.out, UpB.out⟩
 rw [if_neg c21] at H
 have c21b0 : (t458 == 2) = false := beq_eq_false_iff_ne.mpr c21; have c21b1 : (t458 != 2) = true := bne_iff_ne.mpr c21
 simp only [Option.some.injEq, Prod.mk.injEq] at H
 obtain ⟨rfl, rfl, rfl, rfl, rfl⟩ := H
 go_wp2
 refine bodyPost_ret (results_cell_row rfl _ _ gb449 28 #[.int .i64 t450, .string t451, .slice Ao453 t452.length co453] (0, 0) _ rfl xB Tryd.underlying28 rfl (by kernel_rfl)) rfl ?_
 exact ⟨_, y0_17, rR HO454, iS77 HI11, UpW.out, UpB.out⟩

end Go.Proofs.YtnpbopadajbopaaDoor.PFnTooFew
