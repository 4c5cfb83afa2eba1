-- By a program of this session, out of the translation (the print of the kit, with turns of its own). Lean checks it.
import Derived.Test.YtagpeafaiofkjaaGreatDoorPFnQuorumsx0
import Derived.Test.YtagpeafaiofkjaaGreatDoorPFnQuorumsx2
import Derived.Test.YtagpeafaiofkjaaGreatDoorPFnQuorumsx5
import Derived.Test.YtagpeafaiofkjaaGreatDoorPFnQuorumsx6
import Derived.Test.YtagpeafaiofkjaaGreatDoorPFnQuorumsx7
namespace Go.Proofs.YtagpeafaiofkjaaGreatDoor.PFnQuorums
open Go.RowKit Go.Proofs.YtagpeafaiofkjaaGreatDoorW.PrintWords Go.Proofs.YtagpeafaiofkjaaGreatDoorW.PrintLast Go.Proofs.YtagpeafaiofkjaaGreatDoorW.PrintMore
attribute [local go_sem] max2_int min2_int max_two min_two max_three min_three max_four min_four   -- for this text's walks alone
attribute [local go_sem] cell_in frozen_in
set_option synthInstance.maxSize 1000000
set_option synthInstance.maxHeartbeats 2000000
set_option linter.unusedVariables false
set_option linter.unusedSimpArgs false

/-! ### spec_l7Draw: function 23 -/
def spec_l7Draw.f (k : Nat) (s0_0 : List Int) (s0_1 : Int) (s0_2 : Int) (a1_0 : Int) (a1_1 : Int) : Option (Int × ByteArray × List Int × Int × Int) := (spec_l5DrawRight.f k s0_0 s0_1 s0_2).bind fun bt403 => ((spec_l7DrawOf.f k s0_0 bt403.2.1 bt403.2.2 a1_0 a1_1 bt403.1).bind fun bt406 => ((spec_l1Below.f s0_0 bt406.2.2.2.1 bt406.2.2.2.2 12).bind fun bt414 => (if bt414.1 = 0 then (some (wrap64 (bt406.1 + 1), bt406.2.1, bt406.2.2.1, bt414.2.1, bt414.2.2)) else (if bt414.1 = 1 then ((spec_l6DrawSet.f k s0_0 bt414.2.1 bt414.2.2 7).bind fun bt417 => (some (bt406.1, bt406.2.1, bt417.1, bt417.2.1, bt417.2.2))) else (if bt414.1 = 2 then ((spec_l5Draw.f k s0_0 bt414.2.1 bt414.2.2).bind fun bt422 => (some (bt406.1, bt422.1, bt406.2.2.1, bt422.2.1, bt422.2.2))) else (some (bt406.1, bt406.2.1, bt406.2.2.1, bt414.2.1, bt414.2.2)))))))
theorem spec_l7Draw.mono : ∀ a0 a1 a2 a3 a4 k, LeO (spec_l7Draw.f k a0 a1 a2 a3 a4) (spec_l7Draw.f (k + 1) a0 a1 a2 a3 a4) := by
 intro a0 a1 a2 a3 a4 k
 unfold spec_l7Draw.f
 repeat' first | (with_reducible exact spec_l5Draw.mono _ _ _ _) | (with_reducible exact spec_l5DrawRight.mono _ _ _ _) | (with_reducible exact spec_l6DrawSet.mono _ _ _ _ _) | (with_reducible exact spec_l7DrawOf.mono _ _ _ _ _ _ _) | (with_reducible exact LeO.refl _) | (with_reducible exact LeO.none _) | (with_reducible refine LeO.ite ?_ ?_) | (with_reducible refine LeO.bind ?_ (fun _ => ?_))
def spec_l7Draw.T1 : Bool × List (List Nat × List Nat) := (true, [([], []), ([], []), ([], []), ([2], [2]), ([0, 1, 3, 3], [0, 1, 3]), ([], []), ([5, 4, 4, 0, 1, 2, 3, 4, 5], [4, 5])])
def spec_l7Draw.B1 : List Nat := [0, 0, 0, 4, 15, 0, 63]
theorem spec_l7Draw.tab1 : rtab .any (opsOf Tryz.f23 1) = spec_l7Draw.T1 := by kernel_rfl
theorem spec_l7Draw.bits1 : waitsOk spec_l7Draw.T1.2 spec_l7Draw.B1 = true := by kernel_rfl
set_option maxHeartbeats 8000000 in
set_option maxRecDepth 100000 in
theorem spec_l7Draw.calls (k : Nat) (g : Nat) (s0_0 : List Int) (s0_1 : Int) (s0_2 : Int) (a1_0 : Int) (a1_1 : Int) (r1 : Int) (r2 : ByteArray) (r3 : List Int) (r4 : Int) (r5 : Int) (w0 w : World) (hI : IsS53 w0 w g s0_0 s0_1 s0_2) (hB : Below w0.heap.size w0 w) (h : spec_l7Draw.f k s0_0 s0_1 s0_2 a1_0 a1_1 = some (r1, r2, r3, r4, r5)) :
  Calls Tryz.prog 23 #[.pointer (some ⟨g, 0, none⟩), .agg #[.int .i64 a1_0, .int .i64 a1_1]] w fun e w' => ∃ v2_ : Value, e = .returned (.agg #[.int .i64 r1, .string r2, v2_]) ∧ Kd.R (Kd.int .i64) 3 w' w.heap.size (fun _ => True) v2_ r3 ∧ IsS53 w0 w' g s0_0 r4 r5 ∧ Below w0.heap.size w0 w' ∧ KeepBut w w' g none := by
 have hu25 := Tryz.underlying25; have hu28 := Tryz.underlying28; have HI0 := Aside0.mk hI; have HK := Aside0.mk (KeepBut.refl w g none); have HL := Aside0.mk hB.size; clear hI; have HW0 := Aside0.mk hB.size; have HB := Aside0.mk hB; clear hB
 have H := h; unfold spec_l7Draw.f at H
 clear h; obtain ⟨⟨t403, t404, t405⟩, A3, H⟩ := oB H; (try dsimp only at H); obtain ⟨⟨t406, t407, t408, t411, t412⟩, A4, H⟩ := oB H; (try dsimp only at H); obtain ⟨⟨t414, t415, t416⟩, A5, H⟩ := oB H; (try dsimp only at H); have i0_ := iB53 HI0; have i1_ : LB w0 w := ⟨HB.out⟩
 go_enter Tryz.func23, Tryz.ntmps23
 have H' := Aside0.mk H; clear H
 try go_wp2_with (first | ((with_reducible refine gd 3 ?_); refine bL 3 #[.int .i64 a1_0, .int .i64 a1_1] 25 ?_; intro gb401 w6 _ _ _) | ((with_reducible refine gd 4 ?_); refine bL 4 #[.int .i64 0, .string (⟨#[]⟩ : ByteArray), .slice none 0 0] 28 ?_; intro gb402 w7 _ _ _))
 refine sB [g] spec_l7Draw.tab1 spec_l7Draw.bits1 ?_; intro w8 _ HT_ HW_
 refine pA 0 (some 6) (bz 7 1) HT_ ?_
 refine tB 1 (some 7) (bz 7 3) HT_ HW_ ?_
 refine pA 2 (some 8) (bz 7 7) HT_ ?_
 refine join_ (σ := Option Addr × Nat × Nat) 1 (bz 7 63) (fun s_ => [(9, .string t403), (10, .agg #[.int .i64 t406, .string t407, .slice s_.1 t408.length s_.2.1]), (5, .pointer (some ⟨s_.2.2, 0, none⟩))]) (fun s_ w' => Aside0 (Kd.R (Kd.int .i64) 3 w' w8.heap.size (iv w8 w') (.slice s_.1 t408.length s_.2.1) t408) ∧ BkI (s_.2.2) w' #[.int .i64 0, .string (⟨#[]⟩ : ByteArray), .slice none 0 0] 28 ∧ BornI (s_.2.2) w8 ∧ StB g w' 53 ∧ Aside0 (IsS53 w0 w' g s0_0 t411 t412) ∧ KL w8 [g] w' ∧ LB w0 w' ∧ KS w g w') ?_ ?_
 rotate_left
 ·
  intro hCont
  refine o2 3 5 (some 9) (some 5) (bz 7 15) (bz 7 39) HT_ rfl rfl (kK Tryz.func41 (spec_l5DrawRight.calls (hI := iS53 HI0) (hB := UpW.out) (w := _) (h := A3.out)) ?_) (kB #[.int .i64 0, .string (⟨#[]⟩ : ByteArray), .slice none 0 0] 28 ?_)
  ·
   intro w9 _ _ _ HI10
   refine nA (some 9) ?_
   refine o2 4 5 (some 10) (some 5) (bz 7 31) (bz 7 47) HT_ rfl rfl (kK1 Tryz.func40 (spec_l7DrawOf.calls (hI := iS53 HI10) (hB := UpW.out) (w := _) (h := A4.out)) ?_) (kB #[.int .i64 0, .string (⟨#[]⟩ : ByteArray), .slice none 0 0] 28 ?_)
   ·
    intro Ao409 co409 w12 _ _ _ HI13 HO410
    refine nA (some 10) ?_
    refine o1 5 (some 5) (bz 7 63) HT_ rfl (kB #[.int .i64 0, .string (⟨#[]⟩ : ByteArray), .slice none 0 0] 28 ?_); intro gb413 w15 _ _ _
    refine nA (some 5) ?_
    exact hJ (hCont (Ao409, co409, gb413) _ ⟨⟨rJ HO410⟩, ⟨xB⟩, ⟨GeI.out⟩, iB53 ⟨iS53 HI13⟩, ⟨iS53 HI13⟩, ⟨UpL.out⟩, ⟨UpW.out⟩, ⟨UpB.out⟩⟩)
   intro gb413 w14 _ _ _
   refine nA (some 5) ?_
   refine o1 4 (some 10) (bz 7 63) HT_ rfl (kK1 Tryz.func40 (spec_l7DrawOf.calls (hI := iS53 HI10) (hB := UpW.out) (w := _) (h := A4.out)) ?_); intro Ao409 co409 w16 _ _ _ HI17 HO410
   refine nA (some 10) ?_
   exact hJ (hCont (Ao409, co409, gb413) _ ⟨⟨rJ HO410⟩, ⟨xB⟩, ⟨GeI.out⟩, iB53 ⟨iS53 HI17⟩, ⟨iS53 HI17⟩, ⟨UpL.out⟩, ⟨UpW.out⟩, ⟨UpB.out⟩⟩)
  intro gb413 w11 _ _ _
  refine nA (some 5) ?_
  refine o1 3 (some 9) (bz 7 47) HT_ rfl (kK Tryz.func41 (spec_l5DrawRight.calls (hI := iS53 HI0) (hB := UpW.out) (w := _) (h := A3.out)) ?_); intro w18 _ _ _ HI19
  refine nA (some 9) ?_
  refine o1 4 (some 10) (bz 7 63) HT_ rfl (kK1 Tryz.func40 (spec_l7DrawOf.calls (hI := iS53 HI19) (hB := UpW.out) (w := _) (h := A4.out)) ?_); intro Ao409 co409 w20 _ _ _ HI21 HO410
  refine nA (some 10) ?_
  exact hJ (hCont (Ao409, co409, gb413) _ ⟨⟨rJ HO410⟩, ⟨xB⟩, ⟨GeI.out⟩, iB53 ⟨iS53 HI21⟩, ⟨iS53 HI21⟩, ⟨UpL.out⟩, ⟨UpW.out⟩, ⟨UpB.out⟩⟩)
 rintro ⟨Ao409, co409, gb413⟩ w22 ⟨HO410, _, _, _, HI23, _, _, _⟩
 refine nP ?_
 refine o1 6 none (bz 7 127) HT_ rfl (kS ?_)
 refine done_ (done_of HT_.out (by kernel_rfl)) ?_
 go_upto_if 13 with (first | ((with_reducible refine gate_callee (f := 39) rfl ?_); refine gK (some 12) Tryz.func39 (spec_l1Below.calls (hI := iS53 HI23) (hB := UpW.out) (w := _) (h := A5.out)) ?_; intro w24 _ _ _ HI25))
 have H := H'.out; clear H'
 by_cases c26 : t414 = 0
 ·
  rw [if_pos c26] at H
  have c26b0 : (t414 == 0) = true := beq_iff_eq.mpr c26; have c26b1 : (t414 != 0) = false := bne_eq_false_iff_eq.mpr c26; clear c26
  (first | rw [c26b0] | (simp only [i64_w, i32_w]; rw [c26b0]) | skip)
  simp only [Option.some.injEq, Prod.mk.injEq] at H
  obtain ⟨rfl, rfl, rfl, rfl, rfl⟩ := H
  go_wp2
  refine bodyPost_ret (results_cell_row rfl _ _ gb402 28 #[.int .i64 (wrap64 (t406 + 1)), .string t407, .slice Ao409 t408.length co409] (0, 0) _ rfl xB Tryz.underlying28 rfl (by kernel_rfl)) rfl ?_
  exact ⟨_, y0_15, rR HO410, iS53 HI25, UpW.out, UpB.out⟩
 rw [if_neg c26] at H
 have c26b0 : (t414 == 0) = false := beq_eq_false_iff_ne.mpr c26; have c26b1 : (t414 != 0) = true := bne_iff_ne.mpr c26
 (first | rw [c26b0] | (simp only [i64_w, i32_w]; rw [c26b0]) | skip)
 by_cases c27 : t414 = 1
 ·
  rw [if_pos c27] at H
  have c27b0 : (t414 == 1) = true := beq_iff_eq.mpr c27; have c27b1 : (t414 != 1) = false := bne_eq_false_iff_eq.mpr c27; clear c27; obtain ⟨⟨t417, t420, t421⟩, A28, H⟩ := oB H; (try dsimp only at H)
  simp only [Option.some.injEq, Prod.mk.injEq] at H
  obtain ⟨rfl, rfl, rfl, rfl, rfl⟩ := H
  go_wp2_with (first | ((with_reducible refine gate_callee (f := 42) rfl ?_); refine gK1 (some 22) Tryz.func42 (spec_l6DrawSet.calls (hI := iS53 HI25) (hB := UpW.out) (w := _) (h := A28.out)) ?_; intro Ao418 co418 w29 _ _ _ HI30 HO419))
  refine bodyPost_ret (results_cell_row rfl _ _ gb402 28 #[.int .i64 t406, .string t407, .slice Ao418 t417.length co418] (0, 0) _ rfl xB Tryz.underlying28 rfl (by kernel_rfl)) rfl ?_
  exact ⟨_, y0_15, rR HO419, iS53 HI30, UpW.out, UpB.out⟩
 rw [if_neg c27] at H
 have c27b0 : (t414 == 1) = false := beq_eq_false_iff_ne.mpr c27; have c27b1 : (t414 != 1) = true := bne_iff_ne.mpr c27
 by_cases c31 : t414 = 2
 ·
  rw [if_pos c31] at H
  have c31b0 : (t414 == 2) = true := beq_iff_eq.mpr c31; have c31b1 : (t414 != 2) = false := bne_eq_false_iff_eq.mpr c31; clear c31; obtain ⟨⟨t422, t423, t424⟩, A32, H⟩ := oB H; (try dsimp only at H)
  simp only [Option.some.injEq, Prod.mk.injEq] at H
  obtain ⟨rfl, rfl, rfl, rfl, rfl⟩ := H
  go_wp2_with (first | ((with_reducible refine gate_callee (f := 43) rfl ?_); refine gK (some 27) Tryz.func43 (spec_l5Draw.calls (hI := iS53 HI25) (hB := UpW.out) (w := _) (h := A32.out)) ?_; intro w33 _ _ _ HI34))
  refine bodyPost_ret (results_cell_row rfl _ _ gb402 28 #[.int .i64 t406, .string t422, .slice Ao409 t408.length co409] (0, 0) _ rfl xB Tryz.underlying28 rfl (by kernel_rfl)) rfl ?_
  exact ⟨_, y0_15, rR HO410, iS53 HI34, UpW.out, UpB.out⟩
 rw [if_neg c31] at H
 have c31b0 : (t414 == 2) = false := beq_eq_false_iff_ne.mpr c31; have c31b1 : (t414 != 2) = true := bne_iff_ne.mpr c31
 simp only [Option.some.injEq, Prod.mk.injEq] at H
 obtain ⟨rfl, rfl, rfl, rfl, rfl⟩ := H
 go_wp2
 refine bodyPost_ret (results_cell_row rfl _ _ gb402 28 #[.int .i64 t406, .string t407, .slice Ao409 t408.length co409] (0, 0) _ rfl xB Tryz.underlying28 rfl (by kernel_rfl)) rfl ?_
 exact ⟨_, y0_15, rR HO410, iS53 HI25, UpW.out, UpB.out⟩

/-! ### spec_l7DrawBent: function 25 -/
def spec_l7DrawBent.f (s0_0 : List Int) (s0_1 : Int) (s0_2 : Int) : Option (Int × Int × Int × Int) := (spec_l7DrawConf.f s0_0 s0_1 s0_2).bind fun bt426 => ((spec_l1Below.f s0_0 bt426.2.2.1 bt426.2.2.2 12).bind fun bt431 => (if bt431.1 = 0 then ((spec_l1PickInt.f s0_0 bt431.2.1 bt431.2.2 (([0, 3, 8, (-1)] : List Int))).bind fun bt437 => (some (bt437.1, bt426.2.1, bt437.2.1, bt437.2.2))) else (if bt431.1 = 1 then ((spec_l1PickInt.f s0_0 bt431.2.1 bt431.2.2 (([0, 6, 7] : List Int))).bind fun bt443 => (some (bt426.1, bt443.1, bt443.2.1, bt443.2.2))) else (some (bt426.1, bt426.2.1, bt431.2.1, bt431.2.2)))))
set_option maxHeartbeats 8000000 in
set_option maxRecDepth 100000 in
theorem spec_l7DrawBent.calls (g : Nat) (s0_0 : List Int) (s0_1 : Int) (s0_2 : Int) (r1 : Int) (r2 : Int) (r3 : Int) (r4 : Int) (w0 w : World) (hI : IsS53 w0 w g s0_0 s0_1 s0_2) (hB : Below w0.heap.size w0 w) (h : spec_l7DrawBent.f s0_0 s0_1 s0_2 = some (r1, r2, r3, r4)) :
  Calls Tryz.prog 25 #[.pointer (some ⟨g, 0, none⟩)] w fun e w' => e = .returned (.agg #[.int .i64 r1, .int .i64 r2]) ∧ IsS53 w0 w' g s0_0 r3 r4 ∧ Below w0.heap.size w0 w' ∧ KeepBut w w' g none := by
 have hu25 := Tryz.underlying25; have HI0 := Aside0.mk hI; have HK := Aside0.mk (KeepBut.refl w g none); have HL := Aside0.mk hB.size; clear hI; have HW0 := Aside0.mk hB.size; have HB := Aside0.mk hB; clear hB
 have H := h; unfold spec_l7DrawBent.f at H
 clear h; obtain ⟨⟨t426, t427, t428, t429⟩, A2, H⟩ := oB H; (try dsimp only at H); obtain ⟨⟨t431, t432, t433⟩, A3, H⟩ := oB H; (try dsimp only at H); have i0_ := iB53 HI0; have i1_ : LB w0 w := ⟨HB.out⟩
 go_enter Tryz.func25, Tryz.ntmps25
 have H' := Aside0.mk H; clear H
 go_upto_if 8 with (first | ((with_reducible refine gd 2 ?_); refine bL 2 #[.int .i64 0, .int .i64 0] 25 ?_; intro gb425 w4 _ _ _) | ((with_reducible refine gate_callee (f := 22) rfl ?_); refine gK (some 5) Tryz.func22 (spec_l7DrawConf.calls (hI := iS53 HI0) (hB := UpW.out) (w := _) (h := A2.out)) ?_; intro w5 _ _ _ HI6) | ((with_reducible refine gd 3 ?_); refine bL 3 #[.int .i64 0, .int .i64 0] 25 ?_; intro gb430 w7 _ _ _) | ((with_reducible refine gate_callee (f := 39) rfl ?_); refine gK (some 7) Tryz.func39 (spec_l1Below.calls (hI := iS53 HI6) (hB := UpW.out) (w := _) (h := A3.out)) ?_; intro w8 _ _ _ HI9))
 have H := H'.out; clear H'
 by_cases c10 : t431 = 0
 ·
  rw [if_pos c10] at H
  have c10b0 : (t431 == 0) = true := beq_iff_eq.mpr c10; have c10b1 : (t431 != 0) = false := bne_eq_false_iff_eq.mpr c10; clear c10
  (first | rw [c10b0] | (simp only [i64_w, i32_w]; rw [c10b0]) | skip)
  obtain ⟨y434, hy434⟩ : ∃ y_ : List Int, y_ = (([0, 3, 8, (-1)] : List Int)) := ⟨_, rfl⟩
  replace H : ((spec_l1PickInt.f s0_0 t432 t433 y434).bind fun bt437 => (some (bt437.1, t427, bt437.2.1, bt437.2.2))) = some (r1, r2, r3, r4) := by first | (rw [hy434]; with_reducible exact H) | (have H2_ := (Option.bind_some _ _).symm.trans H; rw [hy434]; with_reducible exact H2_) | (have H2_ := (Option.bind_some _ _).symm.trans H; with_reducible exact H2_) | with_reducible exact H | (rw [hy434]; exact H) | exact H
  have Ny434 := Aside0.mk hy434; clear hy434; obtain ⟨⟨t437, t438, t439⟩, A11, H⟩ := oB H; (try dsimp only at H)
  simp only [Option.some.injEq, Prod.mk.injEq] at H
  obtain ⟨rfl, rfl, rfl, rfl⟩ := H
  go_wp2_with (first | ((with_reducible refine gate_dst (N := 11) rfl ?_); refine lL 11 3 (Kd.int .i64) rfl Ny434 ?_; intro Ao435 co435 w12 _ HO436) | ((with_reducible refine gate_callee (f := 44) rfl ?_); refine gK (some 12) Tryz.func44 (spec_l1PickInt.calls (hI := iS53 HI9) (hB := UpW.out) (hr1 := rC HO436) (hc1 := rL HO436) (hf1 := fS HO436) (w := _) (h := A11.out)) ?_; intro w13 _ _ _ HI14))
  refine bodyPost_ret (results_cell_row rfl _ _ gb425 25 #[.int .i64 t437, .int .i64 t427] (0, 0) _ rfl xB Tryz.underlying25 rfl (by kernel_rfl)) rfl ?_
  exact ⟨y0_15, iS53 HI14, UpW.out, UpB.out⟩
 rw [if_neg c10] at H
 have c10b0 : (t431 == 0) = false := beq_eq_false_iff_ne.mpr c10; have c10b1 : (t431 != 0) = true := bne_iff_ne.mpr c10
 (first | rw [c10b0] | (simp only [i64_w, i32_w]; rw [c10b0]) | skip)
 by_cases c15 : t431 = 1
 ·
  rw [if_pos c15] at H
  have c15b0 : (t431 == 1) = true := beq_iff_eq.mpr c15; have c15b1 : (t431 != 1) = false := bne_eq_false_iff_eq.mpr c15; clear c15; obtain ⟨y440, hy440⟩ : ∃ y_ : List Int, y_ = (([0, 6, 7] : List Int)) := ⟨_, rfl⟩
  replace H : ((spec_l1PickInt.f s0_0 t432 t433 y440).bind fun bt443 => (some (t426, bt443.1, bt443.2.1, bt443.2.2))) = some (r1, r2, r3, r4) := by first | (rw [hy440]; with_reducible exact H) | (have H2_ := (Option.bind_some _ _).symm.trans H; rw [hy440]; with_reducible exact H2_) | (have H2_ := (Option.bind_some _ _).symm.trans H; with_reducible exact H2_) | with_reducible exact H | (rw [hy440]; exact H) | exact H
  have Ny440 := Aside0.mk hy440; clear hy440; obtain ⟨⟨t443, t444, t445⟩, A16, H⟩ := oB H; (try dsimp only at H)
  simp only [Option.some.injEq, Prod.mk.injEq] at H
  obtain ⟨rfl, rfl, rfl, rfl⟩ := H
  go_wp2_with (first | ((with_reducible refine gate_dst (N := 17) rfl ?_); refine lL 17 3 (Kd.int .i64) rfl Ny440 ?_; intro Ao441 co441 w17 _ HO442) | ((with_reducible refine gate_callee (f := 44) rfl ?_); refine gK (some 18) Tryz.func44 (spec_l1PickInt.calls (hI := iS53 HI9) (hB := UpW.out) (hr1 := rC HO442) (hc1 := rL HO442) (hf1 := fS HO442) (w := _) (h := A16.out)) ?_; intro w18 _ _ _ HI19))
  refine bodyPost_ret (results_cell_row rfl _ _ gb425 25 #[.int .i64 t426, .int .i64 t443] (0, 0) _ rfl xB Tryz.underlying25 rfl (by kernel_rfl)) rfl ?_
  exact ⟨y0_15, iS53 HI19, UpW.out, UpB.out⟩
 rw [if_neg c15] at H
 have c15b0 : (t431 == 1) = false := beq_eq_false_iff_ne.mpr c15; have c15b1 : (t431 != 1) = true := bne_iff_ne.mpr c15
 simp only [Option.some.injEq, Prod.mk.injEq] at H
 obtain ⟨rfl, rfl, rfl, rfl⟩ := H
 go_wp2
 refine bodyPost_ret (results_cell_row rfl _ _ gb425 25 #[.int .i64 t426, .int .i64 t427] (0, 0) _ rfl xB Tryz.underlying25 rfl (by kernel_rfl)) rfl ?_
 exact ⟨y0_15, iS53 HI9, UpW.out, UpB.out⟩

/-! ### spec_DrawQcOk: function 5 -/
def spec_DrawQcOk.f (k : Nat) (l0 : List Int) : Option (Int × Int × Int × ByteArray × List Int) := (spec_l1New.f k l0).bind fun bt448 => ((spec_l7DrawConf.f bt448.1 bt448.2.1 bt448.2.2).bind fun bt452 => ((spec_l7Draw.f k bt448.1 bt452.2.2.1 bt452.2.2.2 bt452.1 bt452.2.1).bind fun bt457 => ((spec_l1Once.f bt448.1 bt457.2.2.2.1 bt457.2.2.2.2 10).bind fun bt465 => (if bt465.1 = true then ((spec_l7DrawBent.f bt448.1 bt465.2.1 bt465.2.2).bind fun bt468 => (some (bt468.1, bt468.2.1, bt457.1, bt457.2.1, bt457.2.2.1))) else (some (bt452.1, bt452.2.1, bt457.1, bt457.2.1, bt457.2.2.1))))))
theorem spec_DrawQcOk.mono : ∀ a0 k, LeO (spec_DrawQcOk.f k a0) (spec_DrawQcOk.f (k + 1) a0) := by
 intro a0 k
 unfold spec_DrawQcOk.f
 repeat' first | (with_reducible exact spec_l1New.mono _ _) | (with_reducible exact spec_l7Draw.mono _ _ _ _ _ _) | (with_reducible exact LeO.refl _) | (with_reducible exact LeO.none _) | (with_reducible refine LeO.ite ?_ ?_) | (with_reducible refine LeO.bind ?_ (fun _ => ?_))
def spec_DrawQcOk.T6 : Bool × List (List Nat × List Nat) := (true, [([], []), ([], []), ([0, 0], [0]), ([1, 2, 0, 1, 2], [1])])
def spec_DrawQcOk.B6 : List Nat := [0, 0, 1, 7]
theorem spec_DrawQcOk.tab6 : rtab .any (opsOf Tryz.f5 6) = spec_DrawQcOk.T6 := by kernel_rfl
theorem spec_DrawQcOk.bits6 : waitsOk spec_DrawQcOk.T6.2 spec_DrawQcOk.B6 = true := by kernel_rfl
set_option maxHeartbeats 8000000 in
set_option maxRecDepth 100000 in
theorem spec_DrawQcOk.calls (k : Nat) (A0 : Option Addr) (c0 : Nat) (l0 : List Int) (r1 : Int) (r2 : Int) (r3 : Int) (r4 : ByteArray) (r5 : List Int) (w : World) (hr0 : Kd.C (Kd.int .u8) w A0 l0.length l0) (hc0 : l0.length ≤ c0) (h : spec_DrawQcOk.f k l0 = some (r1, r2, r3, r4, r5)) :
  Calls Tryz.prog 5 #[.slice A0 l0.length c0] w fun e w' => ∃ v4_ : Value, e = .returned (.tuple #[.agg #[.int .i64 r1, .int .i64 r2], .agg #[.int .i64 r3, .string r4, v4_]]) ∧ Kd.R (Kd.int .i64) 3 w' w.heap.size (fun _ => True) v4_ r5 ∧ Below w.heap.size w w' := by
 have hu25 := Tryz.underlying25; have hu28 := Tryz.underlying28; have HR0 := Aside0.mk hr0; have HC0 := Aside0.mk hc0; clear hr0 hc0; have HB := Aside0.mk (Below.refl w.heap.size w)
 have H := h; unfold spec_DrawQcOk.f at H
 clear h; obtain ⟨⟨t448, t449, t450⟩, A2, H⟩ := oB H; (try dsimp only at H); obtain ⟨⟨t452, t453, t454, t455⟩, A3, H⟩ := oB H; (try dsimp only at H); obtain ⟨⟨t457, t458, t459, t462, t463⟩, A4, H⟩ := oB H; (try dsimp only at H); obtain ⟨⟨t465, t466, t467⟩, A5, H⟩ := oB H; (try dsimp only at H)
 go_enter Tryz.func5, Tryz.ntmps5
 have H' := Aside0.mk H; clear H
 go_upto_if 15 with (first | ((with_reducible refine gd 2 ?_); refine bL 2 #[.int .i64 0, .int .i64 0] 25 ?_; intro gb446 w6 _ _ _) | ((with_reducible refine gd 3 ?_); refine bL 3 #[.int .i64 0, .string (⟨#[]⟩ : ByteArray), .slice none 0 0] 28 ?_; intro gb447 w7 _ _ _) | ((with_reducible refine gate_callee (f := 21) rfl ?_); refine wL ?_; intro w8 _; refine gN (some 8) Tryz.func21 (spec_l1New.calls (hB := Below.refl _ _) (hr0 := pC HR0) (hc0 := HC0.out) (w := _) (h := A2.out)) ?_; intro g451 w9 _ _ _ HI10) | ((with_reducible refine gate_callee (f := 22) rfl ?_); refine gK (some 10) Tryz.func22 (spec_l7DrawConf.calls (hI := iS53 HI10) (hB := UpW.out) (w := _) (h := A3.out)) ?_; intro w11 _ _ _ HI12) | ((with_reducible refine gd 5 ?_); refine bL 5 #[.int .i64 0, .int .i64 0] 25 ?_; intro gb456 w13 _ _ _) | ((with_reducible refine gate_callee (f := 23) rfl ?_); refine gK1 (some 13) Tryz.func23 (spec_l7Draw.calls (hI := iS53 HI12) (hB := UpW.out) (w := _) (h := A4.out)) ?_; intro Ao460 co460 w14 _ _ _ HI15 HO461) | ((with_reducible refine gd 6 ?_); refine bL 6 #[.int .i64 0, .string (⟨#[]⟩ : ByteArray), .slice none 0 0] 28 ?_; intro gb464 w16 _ _ _) | ((with_reducible refine gate_callee (f := 24) rfl ?_); refine gK (some 15) Tryz.func24 (spec_l1Once.calls (hI := iS53 HI15) (hB := UpW.out) (w := _) (h := A5.out)) ?_; intro w17 _ _ _ HI18))
 have H := H'.out; clear H'
 by_cases c19 : t465 = true
 ·
  subst c19
  rw [if_pos rfl] at H
  obtain ⟨⟨t468, t469, t470, t471⟩, A20, H⟩ := oB H; (try dsimp only at H)
  simp only [Option.some.injEq, Prod.mk.injEq] at H
  obtain ⟨rfl, rfl, rfl, rfl, rfl⟩ := H
  try go_wp2_with (first | ((with_reducible refine gate_callee (f := 25) rfl ?_); refine gK (some 17) Tryz.func25 (spec_l7DrawBent.calls (hI := iS53 HI18) (hB := UpW.out) (w := _) (h := A20.out)) ?_; intro w21 _ _ _ HI22))
  refine sB [gb446, gb447] spec_DrawQcOk.tab6 spec_DrawQcOk.bits6 ?_; intro w23 _ HT_ HW_
  refine tB 0 (some 18) (bz 4 1) HT_ HW_ ?_
  refine tB 1 (some 19) (bz 4 3) HT_ HW_ ?_
  refine o1 2 none (bz 4 7) HT_ rfl (kS ?_)
  refine o1 3 none (bz 4 15) HT_ rfl (kS ?_)
  refine done_ (done_of HT_.out (by kernel_rfl)) ?_
  try go_wp2
  refine bodyPost_ret (results_cc rfl _ _ gb446 gb447 25 28 #[.int .i64 t468, .int .i64 t469] #[.int .i64 t457, .string t458, .slice Ao460 t459.length co460] (0, 0) (0, 0) _ _ rfl xB Tryz.underlying25 rfl (by kernel_rfl) rfl xB Tryz.underlying28 rfl (by kernel_rfl)) rfl ?_
  exact ⟨_, y0_15, rR HO461, UpW.out⟩
 replace c19 := Bool.eq_false_iff.mpr c19; subst c19
 rw [if_neg (show ¬ (false = true) by decide)] at H
 simp only [Option.some.injEq, Prod.mk.injEq] at H
 obtain ⟨rfl, rfl, rfl, rfl, rfl⟩ := H
 try go_wp2
 refine sB [gb446, gb447] spec_DrawQcOk.tab6 spec_DrawQcOk.bits6 ?_; intro w24 _ HT_ HW_
 refine tB 0 (some 18) (bz 4 1) HT_ HW_ ?_
 refine tB 1 (some 19) (bz 4 3) HT_ HW_ ?_
 refine o1 2 none (bz 4 7) HT_ rfl (kS ?_)
 refine o1 3 none (bz 4 15) HT_ rfl (kS ?_)
 refine done_ (done_of HT_.out (by kernel_rfl)) ?_
 try go_wp2
 refine bodyPost_ret (results_cc rfl _ _ gb446 gb447 25 28 #[.int .i64 t452, .int .i64 t453] #[.int .i64 t457, .string t458, .slice Ao460 t459.length co460] (0, 0) (0, 0) _ _ rfl xB Tryz.underlying25 rfl (by kernel_rfl) rfl xB Tryz.underlying28 rfl (by kernel_rfl)) rfl ?_
 exact ⟨_, y0_15, rR HO461, UpW.out⟩

/-! ### impl_within: function 32 -/
def impl_within.f (a0 : Int) (a1 : Int) (a2 : Int) : Option (Bool) := if a0 ≥ a1 then (some (decide (a0 ≤ a2))) else (some false)
set_option maxHeartbeats 8000000 in
set_option maxRecDepth 100000 in
theorem impl_within.calls (a0 : Int) (a1 : Int) (a2 : Int) (r : Bool) (w : World) (h : impl_within.f a0 a1 a2 = some r) :
  Calls Tryz.prog 32 #[.int .i64 a0, .int .i64 a1, .int .i64 a2] w fun e w' => e = .returned (.bool r) ∧ Drawn0 w w' := by
 have H := h; unfold impl_within.f at H; clear h
 by_cases c4 : a0 ≥ a1
 ·
  rw [if_pos c4] at H
  have c4b0 : decide (a1 ≤ a0) = true := decide_eq_true c4; clear c4; obtain rfl := Option.some.inj H
  go_enter Tryz.func32, Tryz.ntmps32
  go_wp2
  go_ret
  exact ⟨y0_15, y0_13⟩
 rw [if_neg c4] at H
 have c4b0 : decide (a1 ≤ a0) = false := decide_eq_false c4; clear c4; obtain rfl := Option.some.inj H
 go_enter Tryz.func32, Tryz.ntmps32
 go_wp2
 go_ret
 exact ⟨y0_15, y0_13⟩

/-! ### impl_ConfOk: function 12 -/
def impl_ConfOk.f (a0_0 : Int) (a0_1 : Int) : Option (Bool) := (impl_within.f a0_0 4 7).bind fun t473 => (if t473 = true then ((impl_within.f a0_1 1 6).bind fun t474 => (some t474)) else (some false))
set_option maxHeartbeats 8000000 in
set_option maxRecDepth 100000 in
theorem impl_ConfOk.calls (a0_0 : Int) (a0_1 : Int) (r : Bool) (w : World) (h : impl_ConfOk.f a0_0 a0_1 = some r) :
  Calls Tryz.prog 12 #[.agg #[.int .i64 a0_0, .int .i64 a0_1]] w fun e w' => e = .returned (.bool r) ∧ Below w.heap.size w w' := by
 have hu25 := Tryz.underlying25; have HB := Aside0.mk (Below.refl w.heap.size w)
 have H := h; unfold impl_ConfOk.f at H
 clear h
 go_enter Tryz.func12, Tryz.ntmps12
 have H' := Aside0.mk H; clear H
 go_upto_region 1 with (first | ((with_reducible refine gd 1 ?_); refine bL 1 #[.int .i64 a0_0, .int .i64 a0_1] 25 ?_; intro gb472 w2 _ _ _))
 have H := H'.out; clear H'; obtain ⟨t473, A3, H⟩ := oB H; (try dsimp only at H)
 by_cases c4 : t473 = true
 ·
  subst c4
  rw [if_pos rfl] at H
  obtain ⟨t474, A5, H⟩ := oB H; (try dsimp only at H); obtain rfl := Option.some.inj H
  go_wp2_with (first | ((with_reducible refine gate_callee (f := 32) rfl ?_); refine gD (some 5) Tryz.func32 (impl_within.calls (w := _) (h := A3.out)) ?_; intro w6 _) | (go_at_call 32; refine aD (impl_within.calls (w := _) (h := A5.out)) ?_; intro w7 _))
  go_ret
  exact ⟨y0_15, UpW.out⟩
 replace c4 := Bool.eq_false_iff.mpr c4; subst c4
 rw [if_neg (show ¬ (false = true) by decide)] at H
 obtain rfl := Option.some.inj H
 go_wp2_with (first | ((with_reducible refine gate_callee (f := 32) rfl ?_); refine gD (some 5) Tryz.func32 (impl_within.calls (w := _) (h := A3.out)) ?_; intro w8 _))
 go_ret
 exact ⟨y0_15, UpW.out⟩

/-! ### impl_Faults: function 8 -/
def impl_Faults.f (a0_0 : Int) (a0_1 : Int) : Option (Int) := (impl_ConfOk.f a0_0 a0_1).bind fun t476 => (if t476 = true then (some (wrap64 (Int.tdiv (wrap64 (a0_0 - 1)) 3))) else (some 0))
set_option maxHeartbeats 8000000 in
set_option maxRecDepth 100000 in
theorem impl_Faults.calls (a0_0 : Int) (a0_1 : Int) (r : Int) (w : World) (h : impl_Faults.f a0_0 a0_1 = some r) :
  Calls Tryz.prog 8 #[.agg #[.int .i64 a0_0, .int .i64 a0_1]] w fun e w' => e = .returned (.int .i64 r) ∧ Below w.heap.size w w' := by
 have hu25 := Tryz.underlying25; have HB := Aside0.mk (Below.refl w.heap.size w)
 have H := h; unfold impl_Faults.f at H
 clear h; obtain ⟨t476, A2, H⟩ := oB H; (try dsimp only at H)
 go_enter Tryz.func8, Tryz.ntmps8
 have H' := Aside0.mk H; clear H
 go_upto_if 5 with (first | ((with_reducible refine gd 1 ?_); refine bL 1 #[.int .i64 a0_0, .int .i64 a0_1] 25 ?_; intro gb475 w3 _ _ _) | ((with_reducible refine gate_callee (f := 12) rfl ?_); refine gC (some 4) Tryz.func12 (impl_ConfOk.calls (w := _) (h := A2.out)) ?_; intro w4 _))
 have H := H'.out; clear H'
 by_cases c5 : t476 = true
 ·
  subst c5
  rw [if_pos rfl] at H
  obtain rfl := Option.some.inj H
  go_wp2
  go_ret
  exact ⟨y0_15, UpW.out⟩
 replace c5 := Bool.eq_false_iff.mpr c5; subst c5
 rw [if_neg (show ¬ (false = true) by decide)] at H
 obtain rfl := Option.some.inj H
 go_wp2
 go_ret
 exact ⟨y0_15, UpW.out⟩

/-! ### impl_Quorum: function 10 -/
def impl_Quorum.f (a0_0 : Int) (a0_1 : Int) : Option (Int) := (impl_ConfOk.f a0_0 a0_1).bind fun t478 => (if t478 = true then ((impl_Faults.f a0_0 a0_1).bind fun t479 => (some (wrap64 (a0_0 - t479)))) else (some 0))
def impl_Quorum.T3 : Bool × List (List Nat × List Nat) := (true, [([], []), ([0], [0]), ([], []), ([2], [2]), ([1, 3], [1, 3]), ([4, 3, 0, 1, 2, 3, 4], [4])])
def impl_Quorum.B3 : List Nat := [0, 1, 0, 4, 15, 31]
theorem impl_Quorum.tab3 : rtab .any (opsOf Tryz.f10 3) = impl_Quorum.T3 := by kernel_rfl
theorem impl_Quorum.bits3 : waitsOk impl_Quorum.T3.2 impl_Quorum.B3 = true := by kernel_rfl
set_option maxHeartbeats 8000000 in
set_option maxRecDepth 100000 in
theorem impl_Quorum.calls (a0_0 : Int) (a0_1 : Int) (r : Int) (w : World) (h : impl_Quorum.f a0_0 a0_1 = some r) :
  Calls Tryz.prog 10 #[.agg #[.int .i64 a0_0, .int .i64 a0_1]] w fun e w' => e = .returned (.int .i64 r) ∧ Below w.heap.size w w' := by
 have hu25 := Tryz.underlying25; have HB := Aside0.mk (Below.refl w.heap.size w)
 have H := h; unfold impl_Quorum.f at H
 clear h; obtain ⟨t478, A2, H⟩ := oB H; (try dsimp only at H)
 go_enter Tryz.func10, Tryz.ntmps10
 have H' := Aside0.mk H; clear H
 go_upto_if 5 with (first | ((with_reducible refine gd 1 ?_); refine bL 1 #[.int .i64 a0_0, .int .i64 a0_1] 25 ?_; intro gb477 w3 _ _ _) | ((with_reducible refine gate_callee (f := 12) rfl ?_); refine gC (some 4) Tryz.func12 (impl_ConfOk.calls (w := _) (h := A2.out)) ?_; intro w4 _))
 have H := H'.out; clear H'
 by_cases c5 : t478 = true
 ·
  subst c5
  rw [if_pos rfl] at H
  obtain ⟨t479, A6, H⟩ := oB H; (try dsimp only at H); obtain rfl := Option.some.inj H
  try go_wp2
  refine sB [] impl_Quorum.tab3 impl_Quorum.bits3 ?_; intro w7 _ HT_ HW_
  refine pA 0 (some 6) (bz 6 1) HT_ ?_
  refine tB 1 (some 7) (bz 6 3) HT_ HW_ ?_
  refine tB 2 (some 8) (bz 6 7) HT_ HW_ ?_
  refine o1 3 (some 9) (bz 6 15) HT_ rfl (kC Tryz.func8 (impl_Faults.calls (w := _) (h := A6.out)) ?_); intro w8 _
  refine nA (some 9) ?_
  refine pA 4 (some 10) (bz 6 31) HT_ ?_
  refine pA 5 (some 2) (bz 6 63) HT_ ?_
  refine done_ (done_of HT_.out (by kernel_rfl)) ?_
  try go_wp2
  go_ret
  exact ⟨y0_15, UpW.out⟩
 replace c5 := Bool.eq_false_iff.mpr c5; subst c5
 rw [if_neg (show ¬ (false = true) by decide)] at H
 obtain rfl := Option.some.inj H
 go_wp2
 go_ret
 exact ⟨y0_15, UpW.out⟩

/-! ### slices_Equal_int_int: function 36 -/
def slices_Equal_int_int.l0 : Nat → List Int → List Int → Int → Int → Option (Bool)
 | 0, _, _, _, _ => none
 | k + 1, x0, x1, x12, x13 => if x13 < x12 then (if 0 ≤ x13 then (if x13 < (x0.length : Int) then (if x13 < (x1.length : Int) then (if (rd x0 x13) = (rd x1 x13) then (slices_Equal_int_int.l0 k x0 x1 x12 (wrap64 (x13 + 1))) else (some false)) else (none)) else (none)) else (none)) else (some true)
def slices_Equal_int_int.f (k : Nat) (l0 : List Int) (l1 : List Int) : Option (Bool) := if (l0.length : Int) = (l1.length : Int) then (slices_Equal_int_int.l0 k l0 l1 (l0.length : Int) 0) else (some false)
theorem slices_Equal_int_int.mono_l : ∀ k, (∀ y0 y1 y2 y3, LeO (slices_Equal_int_int.l0 k y0 y1 y2 y3) (slices_Equal_int_int.l0 (k + 1) y0 y1 y2 y3))
 | 0 => fun _ _ _ _ r h => by simp [slices_Equal_int_int.l0] at h
 | k + 1 => by
  have ih0 := slices_Equal_int_int.mono_l k
  intro y0 y1 y2 y3
  unfold slices_Equal_int_int.l0
  repeat' first | (with_reducible exact ih0 _ _ _ _) | (with_reducible exact LeO.refl _) | (with_reducible exact LeO.none _) | (with_reducible refine LeO.ite ?_ ?_) | (with_reducible refine LeO.bind ?_ (fun _ => ?_))
theorem slices_Equal_int_int.mono : ∀ a0 a1 k, LeO (slices_Equal_int_int.f k a0 a1) (slices_Equal_int_int.f (k + 1) a0 a1) := by
 intro a0 a1 k
 have ih0 := slices_Equal_int_int.mono_l k
 unfold slices_Equal_int_int.f
 repeat' first | (with_reducible exact ih0 _ _ _ _) | (with_reducible exact LeO.refl _) | (with_reducible exact LeO.none _) | (with_reducible refine LeO.ite ?_ ?_) | (with_reducible refine LeO.bind ?_ (fun _ => ?_))
set_option maxHeartbeats 8000000 in
set_option maxRecDepth 100000 in
theorem slices_Equal_int_int.calls (k : Nat) (A0 : Option Addr) (c0 : Nat) (l0 : List Int) (A1 : Option Addr) (c1 : Nat) (l1 : List Int) (r : Bool) (w : World) (hr0 : Kd.C (Kd.int .i64) w A0 l0.length l0) (hc0 : l0.length ≤ c0) (hr1 : Kd.C (Kd.int .i64) w A1 l1.length l1) (hc1 : l1.length ≤ c1) (h : slices_Equal_int_int.f k l0 l1 = some r) :
  Calls Tryz.prog 36 #[.slice A0 l0.length c0, .slice A1 l1.length c1] w fun e w' => e = .returned (.bool r) ∧ Drawn0 w w' := by
 have HR0 := Aside0.mk hr0; have HC0 := Aside0.mk hc0; clear hr0 hc0; have HR1 := Aside0.mk hr1; have HC1 := Aside0.mk hc1; clear hr1 hc1; have H := h; unfold slices_Equal_int_int.f at H; clear h
 by_cases c3 : (l0.length : Int) = (l1.length : Int)
 ·
  rw [if_pos c3] at H
  have c3b0 : ((l0.length : Int) == (l1.length : Int)) = true := beq_iff_eq.mpr c3; have c3b1 : ((l0.length : Int) != (l1.length : Int)) = false := bne_eq_false_iff_eq.mpr c3
  have c3b2 : (l0.length == l1.length) = true := by first | simpa using c3 | (simp at c3 ⊢; omega)
  clear c3; have H' := Aside0.mk H; clear H
  go_enter Tryz.func36, Tryz.ntmps36
  go_wp2
  repeat (go_quiet (fail); try go_wp2)
  go_loopg [13] k (fun kq v13 w' => ∃ (x13_1 : Int), v13 = .int .i64 x13_1 ∧ Aside0 (slices_Equal_int_int.l0 kq l0 l1 (l0.length : Int) x13_1 = some r) ∧ Aside0 (kq ≤ k) ∧ Drawn0 w w')
  case atStart => exact ⟨(0), y0_15, H', ⟨Nat.le_refl _⟩, y0_13⟩
  case round =>
   clear H'
   try clear c1
   try clear p2
   try clear c3
   try clear c3b0
   try clear c3b1
   try clear c3b2
   obtain ⟨x13_1, rfl, HA, HK1, ⟨m1, rfl⟩⟩ := hrel; cases gk with
   | zero => exact absurd HA.out (by simp [slices_Equal_int_int.l0])
   | succ k1 =>
    have H := HA.out; clear HA
    simp only [slices_Equal_int_int.l0] at H
    by_cases c4 : x13_1 < (l0.length : Int)
    ·
     rw [if_pos c4] at H
     have c4b0 : decide (x13_1 < (l0.length : Int)) = true := decide_eq_true c4; clear c4
     by_cases c5 : 0 ≤ x13_1
     rotate_left
     ·
      rw [if_neg c5] at H
      exact absurd H (by simp)
     rw [if_pos c5] at H
     have c5b0 : decide (0 ≤ x13_1) = true := decide_eq_true c5; clear c5
     by_cases c6 : x13_1 < (l0.length : Int)
     rotate_left
     ·
      rw [if_neg c6] at H
      exact absurd H (by simp)
     rw [if_pos c6] at H
     have c6b0 : decide (x13_1 < (l0.length : Int)) = true := decide_eq_true c6; clear c6
     by_cases c7 : x13_1 < (l1.length : Int)
     rotate_left
     ·
      rw [if_neg c7] at H
      exact absurd H (by simp)
     rw [if_pos c7] at H
     have c7b0 : decide (x13_1 < (l1.length : Int)) = true := decide_eq_true c7; clear c7
     by_cases c8 : (rd l0 x13_1) = (rd l1 x13_1)
     ·
      rw [if_pos c8] at H
      have c8b0 : ((rd l0 x13_1) == (rd l1 x13_1)) = true := beq_iff_eq.mpr c8; have c8b1 : ((rd l0 x13_1) != (rd l1 x13_1)) = false := bne_eq_false_iff_eq.mpr c8; clear c8; have H' := Aside0.mk H; clear H; have p480 : 0 ≤ (x13_1 : Int) := of_decide_eq_true y0_14; have q480 : x13_1 < (l0.length : Int) := of_decide_eq_true y0_14; obtain ⟨ad480, e480, hx480_0⟩ := Kd.at_int HR0.out x13_1 p480 q480; cases e480; replace p480 := eq_true p480; replace q480 := eq_true q480; have p481 : 0 ≤ (x13_1 : Int) := of_decide_eq_true y0_14; have q481 : x13_1 < (l1.length : Int) := of_decide_eq_true y0_14; obtain ⟨ad481, e481, hx481_0⟩ := Kd.at_int HR1.out x13_1 p481 q481; cases e481; replace p481 := eq_true p481; replace q481 := eq_true q481
      go_wp2
      repeat (go_quiet (fail); try go_wp2)
      go_roundg k1
      case measure => have := HK1.out; omega
      case rel => exact ⟨(wrap64 (x13_1 + 1)), y0_15, H', ⟨y0_17⟩, y0_13⟩
     rw [if_neg c8] at H
     have c8b0 : ((rd l0 x13_1) == (rd l1 x13_1)) = false := beq_eq_false_iff_ne.mpr c8; have c8b1 : ((rd l0 x13_1) != (rd l1 x13_1)) = true := bne_iff_ne.mpr c8; obtain rfl := Option.some.inj H; have p480 : 0 ≤ (x13_1 : Int) := of_decide_eq_true y0_14; have q480 : x13_1 < (l0.length : Int) := of_decide_eq_true y0_14; obtain ⟨ad480, e480, hx480_0⟩ := Kd.at_int HR0.out x13_1 p480 q480; cases e480; replace p480 := eq_true p480; replace q480 := eq_true q480; have p481 : 0 ≤ (x13_1 : Int) := of_decide_eq_true y0_14; have q481 : x13_1 < (l1.length : Int) := of_decide_eq_true y0_14; obtain ⟨ad481, e481, hx481_0⟩ := Kd.at_int HR1.out x13_1 p481 q481; cases e481; replace p481 := eq_true p481; replace q481 := eq_true q481
     go_wp2
     repeat (go_quiet (fail); try go_wp2)
     go_ret
     exact ⟨y0_15, y0_13⟩
    rw [if_neg c4] at H
    have c4b0 : decide (x13_1 < (l0.length : Int)) = false := decide_eq_false c4; clear c4; obtain rfl := Option.some.inj H
    go_wp2
    repeat (go_quiet (fail); try go_wp2)
    go_ret
    exact ⟨y0_15, y0_13⟩
 rw [if_neg c3] at H
 have c3b0 : ((l0.length : Int) == (l1.length : Int)) = false := beq_eq_false_iff_ne.mpr c3; have c3b1 : ((l0.length : Int) != (l1.length : Int)) = true := bne_iff_ne.mpr c3
 have c3b2 : (l0.length == l1.length) = false := by first | simpa using c3 | (simp at c3 ⊢; omega)
 obtain rfl := Option.some.inj H
 go_enter Tryz.func36, Tryz.ntmps36
 go_wp2
 repeat (go_quiet (fail); try go_wp2)
 go_ret
 exact ⟨y0_15, y0_13⟩

/-! ### impl_QcSame: function 16 -/
def impl_QcSame.f (k : Nat) (a0_0 : Int) (a0_1 : ByteArray) (l0_2 : List Int) (a1_0 : Int) (a1_1 : ByteArray) (l1_2 : List Int) : Option (Bool) := if a0_0 = a1_0 then (if a0_1.toList = a1_1.toList then ((slices_Equal_int_int.f k l0_2 l1_2).bind fun t484 => (some t484)) else (some false)) else (some false)
theorem impl_QcSame.mono : ∀ a0 a1 a2 a3 a4 a5 k, LeO (impl_QcSame.f k a0 a1 a2 a3 a4 a5) (impl_QcSame.f (k + 1) a0 a1 a2 a3 a4 a5) := by
 intro a0 a1 a2 a3 a4 a5 k
 unfold impl_QcSame.f
 repeat' first | (with_reducible exact slices_Equal_int_int.mono _ _ _) | (with_reducible exact LeO.refl _) | (with_reducible exact LeO.none _) | (with_reducible refine LeO.ite ?_ ?_) | (with_reducible refine LeO.bind ?_ (fun _ => ?_))
set_option maxHeartbeats 8000000 in
set_option maxRecDepth 100000 in
theorem impl_QcSame.calls (k : Nat) (a0_0 : Int) (a0_1 : ByteArray) (A0_2 : Option Addr) (c0_2 : Nat) (l0_2 : List Int) (a1_0 : Int) (a1_1 : ByteArray) (A1_2 : Option Addr) (c1_2 : Nat) (l1_2 : List Int) (r : Bool) (w : World) (hr0_2 : Kd.C (Kd.int .i64) w A0_2 l0_2.length l0_2) (hc0_2 : l0_2.length ≤ c0_2) (hr1_2 : Kd.C (Kd.int .i64) w A1_2 l1_2.length l1_2) (hc1_2 : l1_2.length ≤ c1_2) (h : impl_QcSame.f k a0_0 a0_1 l0_2 a1_0 a1_1 l1_2 = some r) :
  Calls Tryz.prog 16 #[.agg #[.int .i64 a0_0, .string a0_1, .slice A0_2 l0_2.length c0_2], .agg #[.int .i64 a1_0, .string a1_1, .slice A1_2 l1_2.length c1_2]] w fun e w' => e = .returned (.bool r) ∧ Below w.heap.size w w' := by
 have hu28 := Tryz.underlying28; have HR0_2 := Aside0.mk hr0_2; have HC0_2 := Aside0.mk hc0_2; clear hr0_2 hc0_2; have HR1_2 := Aside0.mk hr1_2; have HC1_2 := Aside0.mk hc1_2; clear hr1_2 hc1_2; have HB := Aside0.mk (Below.refl w.heap.size w)
 have H := h; unfold impl_QcSame.f at H
 clear h
 go_enter Tryz.func16, Tryz.ntmps16
 have H' := Aside0.mk H; clear H
 go_upto_region 1 with (first | ((with_reducible refine gd 2 ?_); refine bL 2 #[.int .i64 a0_0, .string a0_1, .slice A0_2 l0_2.length c0_2] 28 ?_; intro gb482 w3 _ _ _) | ((with_reducible refine gd 3 ?_); refine bL 3 #[.int .i64 a1_0, .string a1_1, .slice A1_2 l1_2.length c1_2] 28 ?_; intro gb483 w4 _ _ _))
 have H := H'.out; clear H'
 by_cases c5 : a0_0 = a1_0
 ·
  rw [if_pos c5] at H
  have c5b0 : (a0_0 == a1_0) = true := beq_iff_eq.mpr c5; have c5b1 : (a0_0 != a1_0) = false := bne_eq_false_iff_eq.mpr c5; clear c5
  (first | rw [c5b0] | (simp only [i64_w, i32_w]; rw [c5b0]) | skip)
  by_cases c6 : a0_1.toList = a1_1.toList
  ·
   rw [if_pos c6] at H
   have c6b0 : (a0_1.toList == a1_1.toList) = true := beq_iff_eq.mpr c6; have c6b1 : (a0_1.toList != a1_1.toList) = false := bne_eq_false_iff_eq.mpr c6; clear c6; obtain ⟨t484, A7, H⟩ := oB H; (try dsimp only at H); obtain rfl := Option.some.inj H
   go_wp2_with (first | (go_at_call 36; refine aD (slices_Equal_int_int.calls (hr0 := pC HR0_2) (hc0 := HC0_2.out) (hr1 := pC HR1_2) (hc1 := HC1_2.out) (w := _) (h := A7.out)) ?_; intro w8 _))
   go_ret
   exact ⟨y0_15, UpW.out⟩
  rw [if_neg c6] at H
  have c6b0 : (a0_1.toList == a1_1.toList) = false := beq_eq_false_iff_ne.mpr c6; have c6b1 : (a0_1.toList != a1_1.toList) = true := bne_iff_ne.mpr c6; obtain rfl := Option.some.inj H
  go_wp2
  go_ret
  exact ⟨y0_15, UpW.out⟩
 rw [if_neg c5] at H
 have c5b0 : (a0_0 == a1_0) = false := beq_eq_false_iff_ne.mpr c5; have c5b1 : (a0_0 != a1_0) = true := bne_iff_ne.mpr c5
 (first | rw [c5b0] | (simp only [i64_w, i32_w]; rw [c5b0]) | skip)
 obtain rfl := Option.some.inj H
 go_wp2
 go_ret
 exact ⟨y0_15, UpW.out⟩

/-! ### impl_QcFirst: function 18 -/
def impl_QcFirst.f  : Option (Int × ByteArray × List Int) := some (0, (⟨#[]⟩ : ByteArray), ([] : List Int))
set_option maxHeartbeats 8000000 in
set_option maxRecDepth 100000 in
theorem impl_QcFirst.calls  (r1 : Int) (r2 : ByteArray) (r3 : List Int) (w : World) (h : impl_QcFirst.f  = some (r1, r2, r3)) :
  Calls Tryz.prog 18 #[] w fun e w' => ∃ v2_ : Value, e = .returned (.agg #[.int .i64 r1, .string r2, v2_]) ∧ Kd.R (Kd.int .i64) 3 w' w.heap.size (fun _ => True) v2_ r3 ∧ Below w.heap.size w w' := by
 have hu28 := Tryz.underlying28; have HB := Aside0.mk (Below.refl w.heap.size w); have H := h; unfold impl_QcFirst.f at H; clear h
 simp only [Option.some.injEq, Prod.mk.injEq] at H
 obtain ⟨rfl, rfl, rfl⟩ := H
 go_enter Tryz.func18, Tryz.ntmps18
 go_wp2_with (first | ((with_reducible refine gd 0 ?_); refine bL 0 #[.int .i64 0, .string (⟨#[]⟩ : ByteArray), .slice none 0 0] 28 ?_; intro gb485 w1 _ _ _))
 refine bodyPost_ret (results_cell_row rfl _ _ gb485 28 #[.int .i64 0, .string (⟨#[]⟩ : ByteArray), .slice none 0 0] (0, 0) _ rfl xB Tryz.underlying28 rfl (by kernel_rfl)) rfl ?_
 exact ⟨_, y0_15, Kd.R_nil _ _ _ _ _, UpW.out⟩

/-! ### strings_Split: function 68 -/

/-! ### impl_Split: function 55 -/
def impl_Split.f (a0 : ByteArray) (a1 : Int) : Option (List ByteArray) := (strings_Split.f a0 (strOfNums (([a1] : List Int)))).bind fun t489 => (some t489)
set_option maxHeartbeats 8000000 in
set_option maxRecDepth 100000 in
theorem impl_Split.calls (a0 : ByteArray) (a1 : Int) (r : List ByteArray) (w : World) (h : impl_Split.f a0 a1 = some r) (hG : Glob w := by exact gG HG HB) :
  Calls Tryz.prog 55 #[.string a0, .int .u8 a1] w fun e w' => ∃ v0_ : Value, e = .returned (v0_) ∧ Kd.R Kd.string 9 w' w.heap.size (fun _ => True) v0_ r ∧ Below w.heap.size w w' := by
 have HG := Aside0.mk hG; clear hG; have HB := Aside0.mk (Below.refl w.heap.size w)
 have H := h; unfold impl_Split.f at H
 clear h; obtain ⟨y486, hy486⟩ : ∃ y_ : List Int, y_ = (([a1] : List Int)) := ⟨_, rfl⟩
 replace H : ((strings_Split.f a0 (strOfNums y486)).bind fun t489 => (some t489)) = some r := by first | (rw [hy486]; with_reducible exact H) | (have H2_ := (Option.bind_some _ _).symm.trans H; rw [hy486]; with_reducible exact H2_) | (have H2_ := (Option.bind_some _ _).symm.trans H; with_reducible exact H2_) | with_reducible exact H | (rw [hy486]; exact H) | exact H
 have Ny486 := Aside0.mk hy486; clear hy486; obtain ⟨t489, A3, H⟩ := oB H; (try dsimp only at H); obtain rfl := Option.some.inj H
 go_enter Tryz.func55, Tryz.ntmps55
 go_wp2_with (first | ((with_reducible refine gate_dst (N := 7) rfl ?_); refine Kd.R_lit (Kd.int .u8) _ 5 ?hg (N := 7) ?hd (xs := ([a1] : List Int)) (inner := [.int .u8 a1]) (ok := fun _ => True) (okp := fun _ => True) ?hr ?hp (fun _ hk => hk) trivial (Below.refl _ _) (Nat.le_refl _) (by simp) ?_; (case hd => rfl); (case hg => rfl); (case hr => first | (go_simp; done) | (go_simp; rfl)); (case hp => exact (Reps.one (show Kd.M (Kd.int .u8) _ _ _ a1 [.int .u8 a1] from rfl) (Reps.none _ _))); intro v487 w4 ho5 hb hg_ hnew_; clear hg_ hnew_; (first | rw [← Ny486.out] at ho5 | (simp only [Int.reduceToNat] at ho5; rw [← Ny486.out] at ho5)); have HO488 := Aside0.mk (Kd.R_lower ho5 (below_size (bI HB.out))); replace HB := bs HB hb; clear hb ho5; have hcv6 := own_string (P := Tryz.prog) Tryz.underlying22 Tryz.underlying5 Tryz.underlying9 (Kd.own_of_R HO488.out)) | ((with_reducible refine gate_callee (f := 68) rfl ?_); refine gB (some 9) Tryz.func68 #[.string a0, .string (strOfNums y486)] ?_; (with_reducible refine (strings_Split.calls a0 (strOfNums y486) t489 _ A3.out).mono ?_); rintro e w7 ⟨v490, rfl, ho0, hb⟩; refine ⟨_, rfl, ?_⟩; replace HO488 := rb HO488 hb; have HO491 := Aside0.mk (Kd.R_lower ho0 (below_size (bI HB.out))); replace HB := bs HB hb; (try clear hb); (try clear ho0)))
 go_ret
 exact ⟨_, y0_11, by (with_reducible repeat (first | apply Kd.R_alloc | apply Kd.R_drewN | apply Kd.R_drew)); exact HO491.out, bI HB.out⟩

/-! ### strings_Cut: function 56 -/

/-! ### strconv_Itoa_76: function 76 -/

/-! ### impl_Digits: function 70 -/
def impl_Digits.f (a0 : Int) : Option (ByteArray) := (strconv_Itoa_76.f a0).bind fun t492 => (some t492)
set_option maxHeartbeats 8000000 in
set_option maxRecDepth 100000 in
theorem impl_Digits.calls (a0 : Int) (r : ByteArray) (w : World) (h : impl_Digits.f a0 = some r) (hG : Glob w := by exact gG HG HB) :
  Calls Tryz.prog 70 #[.int .i64 a0] w fun e w' => e = .returned (.string r) ∧ Below w.heap.size w w' := by
 have HG := Aside0.mk hG; clear hG; have HB := Aside0.mk (Below.refl w.heap.size w)
 have H := h; unfold impl_Digits.f at H
 clear h; obtain ⟨t492, A2, H⟩ := oB H; (try dsimp only at H); obtain rfl := Option.some.inj H
 go_enter Tryz.func70, Tryz.ntmps70
 go_wp2_with (first | ((with_reducible refine gate_callee (f := 76) rfl ?_); refine gC (some 4) Tryz.func76 (strconv_Itoa_76.calls (w := _) (h := A2.out)) ?_; intro w3 _))
 go_ret
 exact ⟨y0_15, UpW.out⟩

end Go.Proofs.YtagpeafaiofkjaaGreatDoor.PFnQuorums
