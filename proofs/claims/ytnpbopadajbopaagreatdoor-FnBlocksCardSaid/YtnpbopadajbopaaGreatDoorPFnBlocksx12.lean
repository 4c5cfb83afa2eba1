-- By a program of this session, out of the translation (the print of the kit, with turns of its own). Lean checks it.
import Derived.Test.YtnpbopadajbopaaGreatDoorPFnBlocksx0
import Derived.Test.YtnpbopadajbopaaGreatDoorPFnBlocksx3
import Derived.Test.YtnpbopadajbopaaGreatDoorPFnBlocksx6
import Derived.Test.YtnpbopadajbopaaGreatDoorPFnBlocksx8
import Derived.Test.YtnpbopadajbopaaGreatDoorPFnBlocksx11
namespace Go.Proofs.YtnpbopadajbopaaGreatDoor.PFnBlocks
open Go.RowKit Go.Proofs.YtnpbopadajbopaaGreatDoorW.PrintWords Go.Proofs.YtnpbopadajbopaaGreatDoorW.PrintLast Go.Proofs.YtnpbopadajbopaaGreatDoorW.PrintMore
attribute [local go_sem] max2_int min2_int max_two min_two max_three min_three max_four min_four   -- for this text's walks alone
attribute [local go_sem] cell_in frozen_in
set_option synthInstance.maxSize 1000000
set_option synthInstance.maxHeartbeats 2000000
set_option linter.unusedVariables false
set_option linter.unusedSimpArgs false

/-! ### spec_l8Draw: function 159 -/
def spec_l8Draw.f (k : Nat) (s0_0 : List Int) (s0_1 : Int) (s0_2 : Int) (a1_0 : Int) (a1_1 : Int) : Option (ByteArray × Int × ByteArray × List Int × Int × Int) := (spec_l8DrawRight.f k s0_0 s0_1 s0_2 a1_0 a1_1).bind fun bt597 => ((spec_l1Below.f s0_0 bt597.2.2.2.2.1 bt597.2.2.2.2.2 10).bind fun bt606 => (if bt606.1 = 0 then ((spec_l5Draw.f k s0_0 bt606.2.1 bt606.2.2).bind fun bt609 => (some (bt609.1, bt597.2.1, bt597.2.2.1, bt597.2.2.2.1, bt609.2.1, bt609.2.2))) else (if bt606.1 = 1 then ((spec_l7Draw.f k s0_0 bt606.2.1 bt606.2.2 a1_0 a1_1).bind fun bt612 => (some (bt597.1, bt612.1, bt612.2.1, bt612.2.2.1, bt612.2.2.2.1, bt612.2.2.2.2))) else (some (bt597.1, bt597.2.1, bt597.2.2.1, bt597.2.2.2.1, bt606.2.1, bt606.2.2)))))
theorem spec_l8Draw.mono : ∀ a0 a1 a2 a3 a4 k, LeO (spec_l8Draw.f k a0 a1 a2 a3 a4) (spec_l8Draw.f (k + 1) a0 a1 a2 a3 a4) := by
 intro a0 a1 a2 a3 a4 k
 unfold spec_l8Draw.f
 repeat' first | (with_reducible exact spec_l5Draw.mono _ _ _ _) | (with_reducible exact spec_l7Draw.mono _ _ _ _ _ _) | (with_reducible exact spec_l8DrawRight.mono _ _ _ _ _ _) | (with_reducible exact LeO.refl _) | (with_reducible exact LeO.none _) | (with_reducible refine LeO.ite ?_ ?_) | (with_reducible refine LeO.bind ?_ (fun _ => ?_))
set_option maxHeartbeats 8000000 in
set_option maxRecDepth 100000 in
theorem spec_l8Draw.calls (k : Nat) (g : Nat) (s0_0 : List Int) (s0_1 : Int) (s0_2 : Int) (a1_0 : Int) (a1_1 : Int) (r1 : ByteArray) (r2 : Int) (r3 : ByteArray) (r4 : List Int) (r5 : Int) (r6 : Int) (w0 w : World) (hI : IsS188 w0 w g s0_0 s0_1 s0_2) (hB : Below w0.heap.size w0 w) (h : spec_l8Draw.f k s0_0 s0_1 s0_2 a1_0 a1_1 = some (r1, r2, r3, r4, r5, r6)) :
  Calls Tryz.prog 159 #[.pointer (some ⟨g, 0, none⟩), .agg #[.int .i64 a1_0, .int .i64 a1_1]] w fun e w' => ∃ v3_ : Value, e = .returned (.agg #[.string r1, .int .i64 r2, .string r3, v3_]) ∧ Kd.R (Kd.int .i64) 3 w' w.heap.size (fun _ => True) v3_ r4 ∧ IsS188 w0 w' g s0_0 r5 r6 ∧ Below w0.heap.size w0 w' ∧ KeepBut w w' g none := by
 have hu32 := Tryz.underlying32; have hu60 := Tryz.underlying60; have hu27 := Tryz.underlying27; have HI0 := Aside0.mk hI; have HK := Aside0.mk (KeepBut.refl w g none); have HL := Aside0.mk hB.size; clear hI; have HW0 := Aside0.mk hB.size; have HB := Aside0.mk hB; clear hB
 have H : ((spec_l8DrawRight.f k s0_0 s0_1 s0_2 a1_0 a1_1).bind fun bt597 => ((spec_l1Below.f s0_0 bt597.2.2.2.2.1 bt597.2.2.2.2.2 10).bind fun bt606 => (if bt606.1 = 0 then ((spec_l5Draw.f k s0_0 bt606.2.1 bt606.2.2).bind fun bt609 => (some (bt609.1, bt597.2.1, bt597.2.2.1, bt597.2.2.2.1, bt609.2.1, bt609.2.2))) else (if bt606.1 = 1 then ((spec_l7Draw.f k s0_0 bt606.2.1 bt606.2.2 a1_0 a1_1).bind fun bt612 => (some (bt597.1, bt612.1, bt612.2.1, bt612.2.2.1, bt612.2.2.2.1, bt612.2.2.2.2))) else (some (bt597.1, bt597.2.1, bt597.2.2.1, bt597.2.2.2.1, bt606.2.1, bt606.2.2)))))) = some (r1, r2, r3, r4, r5, r6) := h
 clear h; obtain ⟨⟨t597, t598, t599, t600, t603, t604⟩, A30, H⟩ := Option.bind_eq_some_iff.mp H
 try dsimp only at H
 have A3 := Aside0.mk A30; clear A30; obtain ⟨⟨t606, t607, t608⟩, A40, H⟩ := Option.bind_eq_some_iff.mp H
 try dsimp only at H
 have A4 := Aside0.mk A40; clear A40
 by_cases c5 : t606 = 0
 ·
  rw [if_pos c5] at H
  have c5b0 : (t606 == 0) = true := beq_iff_eq.mpr c5; have c5b1 : (t606 != 0) = false := bne_eq_false_iff_eq.mpr c5; clear c5; obtain ⟨⟨t609, t610, t611⟩, A60, H⟩ := Option.bind_eq_some_iff.mp H
  try dsimp only at H
  have A6 := Aside0.mk A60; clear A60
  simp only [Option.some.injEq, Prod.mk.injEq] at H
  obtain ⟨rfl, rfl, rfl, rfl, rfl, rfl⟩ := H; have i0_ := iB188 HI0; have i1_ : LB w0 w := ⟨HB.out⟩
  go_enter Tryz.func159, Tryz.ntmps159
  go_wp2_with (first | ((with_reducible refine gd 3 ?_); refine bL 3 #[.int .i64 a1_0, .int .i64 a1_1] 32 ?_; intro gb595 w7 _ _ _) | ((with_reducible refine gd 4 ?_); refine bL 4 #[.string (⟨#[]⟩ : ByteArray), .int .i64 0, .string (⟨#[]⟩ : ByteArray), .slice none 0 0] 60 ?_; intro gb596 w8 _ _ _) | ((with_reducible refine gate_callee (f := 211) rfl ?_); refine gK1 (some 8) Tryz.func211 (spec_l8DrawRight.calls (hI := iS188 HI0) (hB := UpW.out) (w := _) (h := A3.out)) ?_; intro Ao601 co601 w9 _ _ _ HI10 HO602) | ((with_reducible refine gd 5 ?_); refine bL 5 #[.string (⟨#[]⟩ : ByteArray), .int .i64 0, .string (⟨#[]⟩ : ByteArray), .slice none 0 0] 60 ?_; intro gb605 w11 _ _ _) | ((with_reducible refine gate_callee (f := 150) rfl ?_); refine gK (some 10) Tryz.func150 (spec_l1Below.calls (hI := iS188 HI10) (hB := UpW.out) (w := _) (h := A4.out)) ?_; intro w12 _ _ _ HI13) | ((with_reducible refine gate_callee (f := 129) rfl ?_); refine gK (some 14) Tryz.func129 (spec_l5Draw.calls (hI := iS188 HI13) (hB := UpW.out) (w := _) (h := A6.out)) ?_; intro w14 _ _ _ HI15))
  refine bodyPost_ret (results_cell_row rfl _ _ gb596 60 #[.string t609, .int .i64 t598, .string t599, .slice Ao601 t600.length co601] (0, 0) _ rfl xB Tryz.underlying60 rfl (by kernel_rfl)) rfl ?_
  exact ⟨_, y0_18, rR HO602, iS188 HI15, UpW.out, UpB.out⟩
 rw [if_neg c5] at H
 have c5b0 : (t606 == 0) = false := beq_eq_false_iff_ne.mpr c5; have c5b1 : (t606 != 0) = true := bne_iff_ne.mpr c5
 by_cases c16 : t606 = 1
 ·
  rw [if_pos c16] at H
  have c16b0 : (t606 == 1) = true := beq_iff_eq.mpr c16; have c16b1 : (t606 != 1) = false := bne_eq_false_iff_eq.mpr c16; clear c16; obtain ⟨⟨t612, t613, t614, t617, t618⟩, A170, H⟩ := Option.bind_eq_some_iff.mp H
  try dsimp only at H
  have A17 := Aside0.mk A170; clear A170
  simp only [Option.some.injEq, Prod.mk.injEq] at H
  obtain ⟨rfl, rfl, rfl, rfl, rfl, rfl⟩ := H; have i0_ := iB188 HI0; have i1_ : LB w0 w := ⟨HB.out⟩
  go_enter Tryz.func159, Tryz.ntmps159
  go_wp2_with (first | ((with_reducible refine gd 3 ?_); refine bL 3 #[.int .i64 a1_0, .int .i64 a1_1] 32 ?_; intro gb595 w18 _ _ _) | ((with_reducible refine gd 4 ?_); refine bL 4 #[.string (⟨#[]⟩ : ByteArray), .int .i64 0, .string (⟨#[]⟩ : ByteArray), .slice none 0 0] 60 ?_; intro gb596 w19 _ _ _) | ((with_reducible refine gate_callee (f := 211) rfl ?_); refine gK1 (some 8) Tryz.func211 (spec_l8DrawRight.calls (hI := iS188 HI0) (hB := UpW.out) (w := _) (h := A3.out)) ?_; intro Ao601 co601 w20 _ _ _ HI21 HO602) | ((with_reducible refine gd 5 ?_); refine bL 5 #[.string (⟨#[]⟩ : ByteArray), .int .i64 0, .string (⟨#[]⟩ : ByteArray), .slice none 0 0] 60 ?_; intro gb605 w22 _ _ _) | ((with_reducible refine gate_callee (f := 150) rfl ?_); refine gK (some 10) Tryz.func150 (spec_l1Below.calls (hI := iS188 HI21) (hB := UpW.out) (w := _) (h := A4.out)) ?_; intro w23 _ _ _ HI24) | ((with_reducible refine gate_callee (f := 121) rfl ?_); refine gK1 (some 20) Tryz.func121 (spec_l7Draw.calls (hI := iS188 HI24) (hB := UpW.out) (w := _) (h := A17.out)) ?_; intro Ao615 co615 w25 _ _ _ HI26 HO616))
  refine bodyPost_ret (results_cell_row rfl _ _ gb596 60 #[.string t597, .int .i64 t612, .string t613, .slice Ao615 t614.length co615] (0, 0) _ rfl xB Tryz.underlying60 rfl (by kernel_rfl)) rfl ?_
  exact ⟨_, y0_18, rR HO616, iS188 HI26, UpW.out, UpB.out⟩
 rw [if_neg c16] at H
 have c16b0 : (t606 == 1) = false := beq_eq_false_iff_ne.mpr c16; have c16b1 : (t606 != 1) = true := bne_iff_ne.mpr c16
 simp only [Option.some.injEq, Prod.mk.injEq] at H
 obtain ⟨rfl, rfl, rfl, rfl, rfl, rfl⟩ := H; have i0_ := iB188 HI0; have i1_ : LB w0 w := ⟨HB.out⟩
 go_enter Tryz.func159, Tryz.ntmps159
 go_wp2_with (first | ((with_reducible refine gd 3 ?_); refine bL 3 #[.int .i64 a1_0, .int .i64 a1_1] 32 ?_; intro gb595 w27 _ _ _) | ((with_reducible refine gd 4 ?_); refine bL 4 #[.string (⟨#[]⟩ : ByteArray), .int .i64 0, .string (⟨#[]⟩ : ByteArray), .slice none 0 0] 60 ?_; intro gb596 w28 _ _ _) | ((with_reducible refine gate_callee (f := 211) rfl ?_); refine gK1 (some 8) Tryz.func211 (spec_l8DrawRight.calls (hI := iS188 HI0) (hB := UpW.out) (w := _) (h := A3.out)) ?_; intro Ao601 co601 w29 _ _ _ HI30 HO602) | ((with_reducible refine gd 5 ?_); refine bL 5 #[.string (⟨#[]⟩ : ByteArray), .int .i64 0, .string (⟨#[]⟩ : ByteArray), .slice none 0 0] 60 ?_; intro gb605 w31 _ _ _) | ((with_reducible refine gate_callee (f := 150) rfl ?_); refine gK (some 10) Tryz.func150 (spec_l1Below.calls (hI := iS188 HI30) (hB := UpW.out) (w := _) (h := A4.out)) ?_; intro w32 _ _ _ HI33))
 refine bodyPost_ret (results_cell_row rfl _ _ gb596 60 #[.string t597, .int .i64 t598, .string t599, .slice Ao601 t600.length co601] (0, 0) _ rfl xB Tryz.underlying60 rfl (by kernel_rfl)) rfl ?_
 exact ⟨_, y0_18, rR HO602, iS188 HI33, UpW.out, UpB.out⟩

/-! ### spec_DrawBlockOk: function 74 -/
def spec_DrawBlockOk.f (k : Nat) (l0 : List Int) : Option (Int × Int × ByteArray × Int × ByteArray × List Int) := (spec_l1New.f k l0).bind fun bt621 => ((spec_l7DrawConf.f bt621.1 bt621.2.1 bt621.2.2).bind fun bt625 => ((spec_l8Draw.f k bt621.1 bt625.2.2.1 bt625.2.2.2 bt625.1 bt625.2.1).bind fun bt630 => ((spec_l1Once.f bt621.1 bt630.2.2.2.2.1 bt630.2.2.2.2.2 10).bind fun bt639 => (if bt639.1 = true then ((spec_l7DrawBent.f bt621.1 bt639.2.1 bt639.2.2).bind fun bt642 => (some (bt642.1, bt642.2.1, bt630.1, bt630.2.1, bt630.2.2.1, bt630.2.2.2.1))) else (some (bt625.1, bt625.2.1, bt630.1, bt630.2.1, bt630.2.2.1, bt630.2.2.2.1))))))
theorem spec_DrawBlockOk.mono : ∀ a0 k, LeO (spec_DrawBlockOk.f k a0) (spec_DrawBlockOk.f (k + 1) a0) := by
 intro a0 k
 unfold spec_DrawBlockOk.f
 repeat' first | (with_reducible exact spec_l1New.mono _ _) | (with_reducible exact spec_l8Draw.mono _ _ _ _ _ _) | (with_reducible exact LeO.refl _) | (with_reducible exact LeO.none _) | (with_reducible refine LeO.ite ?_ ?_) | (with_reducible refine LeO.bind ?_ (fun _ => ?_))
def spec_DrawBlockOk.T6 : Bool × List (List Nat × List Nat) := (true, [([], []), ([], []), ([0, 0], [0]), ([1, 2, 0, 1, 2], [1])])
def spec_DrawBlockOk.B6 : List Nat := [0, 0, 1, 7]
theorem spec_DrawBlockOk.tab6 : rtab .any (opsOf Tryz.f74 6) = spec_DrawBlockOk.T6 := by kernel_rfl
theorem spec_DrawBlockOk.bits6 : waitsOk spec_DrawBlockOk.T6.2 spec_DrawBlockOk.B6 = true := by kernel_rfl
set_option maxHeartbeats 8000000 in
set_option maxRecDepth 100000 in
theorem spec_DrawBlockOk.calls (k : Nat) (A0 : Option Addr) (c0 : Nat) (l0 : List Int) (r1 : Int) (r2 : Int) (r3 : ByteArray) (r4 : Int) (r5 : ByteArray) (r6 : List Int) (w : World) (hr0 : Kd.C (Kd.int .u8) w A0 l0.length l0) (hc0 : l0.length ≤ c0) (h : spec_DrawBlockOk.f k l0 = some (r1, r2, r3, r4, r5, r6)) :
  Calls Tryz.prog 74 #[.slice A0 l0.length c0] w fun e w' => ∃ v5_ : Value, e = .returned (.tuple #[.agg #[.int .i64 r1, .int .i64 r2], .agg #[.string r3, .int .i64 r4, .string r5, v5_]]) ∧ Kd.R (Kd.int .i64) 3 w' w.heap.size (fun _ => True) v5_ r6 ∧ Below w.heap.size w w' := by
 have hu32 := Tryz.underlying32; have hu60 := Tryz.underlying60; have HR0 := Aside0.mk hr0; have HC0 := Aside0.mk hc0; clear hr0 hc0; have HB := Aside0.mk (Below.refl w.heap.size w)
 have H : ((spec_l1New.f k l0).bind fun bt621 => ((spec_l7DrawConf.f bt621.1 bt621.2.1 bt621.2.2).bind fun bt625 => ((spec_l8Draw.f k bt621.1 bt625.2.2.1 bt625.2.2.2 bt625.1 bt625.2.1).bind fun bt630 => ((spec_l1Once.f bt621.1 bt630.2.2.2.2.1 bt630.2.2.2.2.2 10).bind fun bt639 => (if bt639.1 = true then ((spec_l7DrawBent.f bt621.1 bt639.2.1 bt639.2.2).bind fun bt642 => (some (bt642.1, bt642.2.1, bt630.1, bt630.2.1, bt630.2.2.1, bt630.2.2.2.1))) else (some (bt625.1, bt625.2.1, bt630.1, bt630.2.1, bt630.2.2.1, bt630.2.2.2.1))))))) = some (r1, r2, r3, r4, r5, r6) := h
 clear h; obtain ⟨⟨t621, t622, t623⟩, A20, H⟩ := Option.bind_eq_some_iff.mp H
 try dsimp only at H
 have A2 := Aside0.mk A20; clear A20; obtain ⟨⟨t625, t626, t627, t628⟩, A30, H⟩ := Option.bind_eq_some_iff.mp H
 try dsimp only at H
 have A3 := Aside0.mk A30; clear A30; obtain ⟨⟨t630, t631, t632, t633, t636, t637⟩, A40, H⟩ := Option.bind_eq_some_iff.mp H
 try dsimp only at H
 have A4 := Aside0.mk A40; clear A40; obtain ⟨⟨t639, t640, t641⟩, A50, H⟩ := Option.bind_eq_some_iff.mp H
 try dsimp only at H
 have A5 := Aside0.mk A50; clear A50
 by_cases c6 : t639 = true
 ·
  subst c6
  rw [if_pos rfl] at H
  obtain ⟨⟨t642, t643, t644, t645⟩, A70, H⟩ := Option.bind_eq_some_iff.mp H
  try dsimp only at H
  have A7 := Aside0.mk A70; clear A70
  simp only [Option.some.injEq, Prod.mk.injEq] at H
  obtain ⟨rfl, rfl, rfl, rfl, rfl, rfl⟩ := H
  go_enter Tryz.func74, Tryz.ntmps74
  try go_wp2_with (first | ((with_reducible refine gd 2 ?_); refine bL 2 #[.int .i64 0, .int .i64 0] 32 ?_; intro gb619 w8 _ _ _) | ((with_reducible refine gd 3 ?_); refine bL 3 #[.string (⟨#[]⟩ : ByteArray), .int .i64 0, .string (⟨#[]⟩ : ByteArray), .slice none 0 0] 60 ?_; intro gb620 w9 _ _ _) | ((with_reducible refine gate_callee (f := 118) rfl ?_); refine wL ?_; intro w10 _; refine gN (some 8) Tryz.func118 (spec_l1New.calls (hB := Below.refl _ _) (hr0 := pC HR0) (hc0 := HC0.out) (w := _) (h := A2.out)) ?_; intro g624 w11 _ _ _ HI12) | ((with_reducible refine gate_callee (f := 119) rfl ?_); refine gK (some 10) Tryz.func119 (spec_l7DrawConf.calls (hI := iS188 HI12) (hB := UpW.out) (w := _) (h := A3.out)) ?_; intro w13 _ _ _ HI14) | ((with_reducible refine gd 5 ?_); refine bL 5 #[.int .i64 0, .int .i64 0] 32 ?_; intro gb629 w15 _ _ _) | ((with_reducible refine gate_callee (f := 159) rfl ?_); refine gK1 (some 13) Tryz.func159 (spec_l8Draw.calls (hI := iS188 HI14) (hB := UpW.out) (w := _) (h := A4.out)) ?_; intro Ao634 co634 w16 _ _ _ HI17 HO635) | ((with_reducible refine gd 6 ?_); refine bL 6 #[.string (⟨#[]⟩ : ByteArray), .int .i64 0, .string (⟨#[]⟩ : ByteArray), .slice none 0 0] 60 ?_; intro gb638 w18 _ _ _) | ((with_reducible refine gate_callee (f := 128) rfl ?_); refine gK (some 15) Tryz.func128 (spec_l1Once.calls (hI := iS188 HI17) (hB := UpW.out) (w := _) (h := A5.out)) ?_; intro w19 _ _ _ HI20) | ((with_reducible refine gate_callee (f := 153) rfl ?_); refine gK (some 17) Tryz.func153 (spec_l7DrawBent.calls (hI := iS188 HI20) (hB := UpW.out) (w := _) (h := A7.out)) ?_; intro w21 _ _ _ HI22))
  refine sB [gb619, gb620] spec_DrawBlockOk.tab6 spec_DrawBlockOk.bits6 ?_; intro w23 _ HT_ HW_
  refine tB 0 (some 18) (bz 4 1) HT_ HW_ ?_
  refine tB 1 (some 19) (bz 4 3) HT_ HW_ ?_
  refine o1 2 none (bz 4 7) HT_ rfl (kS ?_)
  refine o1 3 none (bz 4 15) HT_ rfl (kS ?_)
  refine done_ (done_of HT_.out (by kernel_rfl)) ?_
  try go_wp2
  refine bodyPost_ret (results_cc rfl _ _ gb619 gb620 32 60 #[.int .i64 t642, .int .i64 t643] #[.string t630, .int .i64 t631, .string t632, .slice Ao634 t633.length co634] (0, 0) (0, 0) _ _ rfl xB Tryz.underlying32 rfl (by kernel_rfl) rfl xB Tryz.underlying60 rfl (by kernel_rfl)) rfl ?_
  exact ⟨_, y0_18, rR HO635, UpW.out⟩
 replace c6 := Bool.eq_false_iff.mpr c6; subst c6
 rw [if_neg (show ¬ (false = true) by decide)] at H
 simp only [Option.some.injEq, Prod.mk.injEq] at H
 obtain ⟨rfl, rfl, rfl, rfl, rfl, rfl⟩ := H
 go_enter Tryz.func74, Tryz.ntmps74
 try go_wp2_with (first | ((with_reducible refine gd 2 ?_); refine bL 2 #[.int .i64 0, .int .i64 0] 32 ?_; intro gb619 w24 _ _ _) | ((with_reducible refine gd 3 ?_); refine bL 3 #[.string (⟨#[]⟩ : ByteArray), .int .i64 0, .string (⟨#[]⟩ : ByteArray), .slice none 0 0] 60 ?_; intro gb620 w25 _ _ _) | ((with_reducible refine gate_callee (f := 118) rfl ?_); refine wL ?_; intro w26 _; refine gN (some 8) Tryz.func118 (spec_l1New.calls (hB := Below.refl _ _) (hr0 := pC HR0) (hc0 := HC0.out) (w := _) (h := A2.out)) ?_; intro g624 w27 _ _ _ HI28) | ((with_reducible refine gate_callee (f := 119) rfl ?_); refine gK (some 10) Tryz.func119 (spec_l7DrawConf.calls (hI := iS188 HI28) (hB := UpW.out) (w := _) (h := A3.out)) ?_; intro w29 _ _ _ HI30) | ((with_reducible refine gd 5 ?_); refine bL 5 #[.int .i64 0, .int .i64 0] 32 ?_; intro gb629 w31 _ _ _) | ((with_reducible refine gate_callee (f := 159) rfl ?_); refine gK1 (some 13) Tryz.func159 (spec_l8Draw.calls (hI := iS188 HI30) (hB := UpW.out) (w := _) (h := A4.out)) ?_; intro Ao634 co634 w32 _ _ _ HI33 HO635) | ((with_reducible refine gd 6 ?_); refine bL 6 #[.string (⟨#[]⟩ : ByteArray), .int .i64 0, .string (⟨#[]⟩ : ByteArray), .slice none 0 0] 60 ?_; intro gb638 w34 _ _ _) | ((with_reducible refine gate_callee (f := 128) rfl ?_); refine gK (some 15) Tryz.func128 (spec_l1Once.calls (hI := iS188 HI33) (hB := UpW.out) (w := _) (h := A5.out)) ?_; intro w35 _ _ _ HI36))
 refine sB [gb619, gb620] spec_DrawBlockOk.tab6 spec_DrawBlockOk.bits6 ?_; intro w37 _ HT_ HW_
 refine tB 0 (some 18) (bz 4 1) HT_ HW_ ?_
 refine tB 1 (some 19) (bz 4 3) HT_ HW_ ?_
 refine o1 2 none (bz 4 7) HT_ rfl (kS ?_)
 refine o1 3 none (bz 4 15) HT_ rfl (kS ?_)
 refine done_ (done_of HT_.out (by kernel_rfl)) ?_
 try go_wp2
 refine bodyPost_ret (results_cc rfl _ _ gb619 gb620 32 60 #[.int .i64 t625, .int .i64 t626] #[.string t630, .int .i64 t631, .string t632, .slice Ao634 t633.length co634] (0, 0) (0, 0) _ _ rfl xB Tryz.underlying32 rfl (by kernel_rfl) rfl xB Tryz.underlying60 rfl (by kernel_rfl)) rfl ?_
 exact ⟨_, y0_18, rR HO635, UpW.out⟩

/-! ### spec_l2Draw: function 212 -/
def spec_l2Draw.f (s0_0 : List Int) (s0_1 : Int) (s0_2 : Int) : Option (Int × Int × Int × Int × Int × Int) := (spec_l2DrawRight.f s0_0 s0_1 s0_2).bind fun bt647 => ((spec_l1Below.f s0_0 bt647.2.2.2.2.1 bt647.2.2.2.2.2 12).bind fun bt654 => (if bt654.1 = 0 then ((spec_l1PickInt.f s0_0 bt654.2.1 bt654.2.2 (([(-1), 4] : List Int))).bind fun bt660 => (some (bt660.1, bt647.2.1, bt647.2.2.1, bt647.2.2.2.1, bt660.2.1, bt660.2.2))) else (if bt654.1 = 1 then ((spec_l1PickInt.f s0_0 bt654.2.1 bt654.2.2 (([(-1), 4] : List Int))).bind fun bt666 => (some (bt647.1, bt666.1, bt647.2.2.1, bt647.2.2.2.1, bt666.2.1, bt666.2.2))) else (if bt654.1 = 2 then ((spec_l1PickInt.f s0_0 bt654.2.1 bt654.2.2 (([(-1), 1001] : List Int))).bind fun bt672 => (some (bt647.1, bt647.2.1, bt672.1, bt647.2.2.2.1, bt672.2.1, bt672.2.2))) else (if bt654.1 = 3 then ((spec_l1PickInt.f s0_0 bt654.2.1 bt654.2.2 (([(-1), 99, 100] : List Int))).bind fun bt678 => (some (bt647.1, bt647.2.1, bt647.2.2.1, bt678.1, bt678.2.1, bt678.2.2))) else (some (bt647.1, bt647.2.1, bt647.2.2.1, bt647.2.2.2.1, bt654.2.1, bt654.2.2)))))))
set_option maxHeartbeats 8000000 in
set_option maxRecDepth 100000 in
theorem spec_l2Draw.calls (g : Nat) (s0_0 : List Int) (s0_1 : Int) (s0_2 : Int) (r1 : Int) (r2 : Int) (r3 : Int) (r4 : Int) (r5 : Int) (r6 : Int) (w0 w : World) (hI : IsS188 w0 w g s0_0 s0_1 s0_2) (hB : Below w0.heap.size w0 w) (h : spec_l2Draw.f s0_0 s0_1 s0_2 = some (r1, r2, r3, r4, r5, r6)) :
  Calls Tryz.prog 212 #[.pointer (some ⟨g, 0, none⟩)] w fun e w' => e = .returned (.agg #[.int .i64 r1, .int .i64 r2, .int .i64 r3, .int .i64 r4]) ∧ IsS188 w0 w' g s0_0 r5 r6 ∧ Below w0.heap.size w0 w' ∧ KeepBut w w' g none := by
 have hu204 := Tryz.underlying204; have HI0 := Aside0.mk hI; have HK := Aside0.mk (KeepBut.refl w g none); have HL := Aside0.mk hB.size; clear hI; have HW0 := Aside0.mk hB.size; have HB := Aside0.mk hB; clear hB
 have H : ((spec_l2DrawRight.f s0_0 s0_1 s0_2).bind fun bt647 => ((spec_l1Below.f s0_0 bt647.2.2.2.2.1 bt647.2.2.2.2.2 12).bind fun bt654 => (if bt654.1 = 0 then ((spec_l1PickInt.f s0_0 bt654.2.1 bt654.2.2 (([(-1), 4] : List Int))).bind fun bt660 => (some (bt660.1, bt647.2.1, bt647.2.2.1, bt647.2.2.2.1, bt660.2.1, bt660.2.2))) else (if bt654.1 = 1 then ((spec_l1PickInt.f s0_0 bt654.2.1 bt654.2.2 (([(-1), 4] : List Int))).bind fun bt666 => (some (bt647.1, bt666.1, bt647.2.2.1, bt647.2.2.2.1, bt666.2.1, bt666.2.2))) else (if bt654.1 = 2 then ((spec_l1PickInt.f s0_0 bt654.2.1 bt654.2.2 (([(-1), 1001] : List Int))).bind fun bt672 => (some (bt647.1, bt647.2.1, bt672.1, bt647.2.2.2.1, bt672.2.1, bt672.2.2))) else (if bt654.1 = 3 then ((spec_l1PickInt.f s0_0 bt654.2.1 bt654.2.2 (([(-1), 99, 100] : List Int))).bind fun bt678 => (some (bt647.1, bt647.2.1, bt647.2.2.1, bt678.1, bt678.2.1, bt678.2.2))) else (some (bt647.1, bt647.2.1, bt647.2.2.1, bt647.2.2.2.1, bt654.2.1, bt654.2.2)))))))) = some (r1, r2, r3, r4, r5, r6) := h
 clear h; obtain ⟨⟨t647, t648, t649, t650, t651, t652⟩, A20, H⟩ := Option.bind_eq_some_iff.mp H
 try dsimp only at H
 have A2 := Aside0.mk A20; clear A20; obtain ⟨⟨t654, t655, t656⟩, A30, H⟩ := Option.bind_eq_some_iff.mp H
 try dsimp only at H
 have A3 := Aside0.mk A30; clear A30
 by_cases c4 : t654 = 0
 ·
  rw [if_pos c4] at H
  have c4b0 : (t654 == 0) = true := beq_iff_eq.mpr c4; have c4b1 : (t654 != 0) = false := bne_eq_false_iff_eq.mpr c4; clear c4; obtain ⟨y657, hy657⟩ : ∃ y_ : List Int, y_ = (([(-1), 4] : List Int)) := ⟨_, rfl⟩
  replace H : ((spec_l1PickInt.f s0_0 t655 t656 y657).bind fun bt660 => (some (bt660.1, t648, t649, t650, bt660.2.1, bt660.2.2))) = some (r1, r2, r3, r4, r5, r6) := by first | (rw [hy657]; with_reducible exact H) | (have H2_ := (Option.bind_some _ _).symm.trans H; rw [hy657]; with_reducible exact H2_) | (have H2_ := (Option.bind_some _ _).symm.trans H; with_reducible exact H2_) | with_reducible exact H | (rw [hy657]; exact H) | exact H
  have Ny657 := Aside0.mk hy657; clear hy657; obtain ⟨⟨t660, t661, t662⟩, A50, H⟩ := Option.bind_eq_some_iff.mp H
  try dsimp only at H
  have A5 := Aside0.mk A50; clear A50
  simp only [Option.some.injEq, Prod.mk.injEq] at H
  obtain ⟨rfl, rfl, rfl, rfl, rfl, rfl⟩ := H; have i0_ := iB188 HI0; have i1_ : LB w0 w := ⟨HB.out⟩
  go_enter Tryz.func212, Tryz.ntmps212
  go_wp2_with (first | ((with_reducible refine gd 2 ?_); refine bL 2 #[.int .i64 0, .int .i64 0, .int .i64 0, .int .i64 0] 204 ?_; intro gb646 w6 _ _ _) | ((with_reducible refine gate_callee (f := 209) rfl ?_); refine gK (some 5) Tryz.func209 (spec_l2DrawRight.calls (hI := iS188 HI0) (hB := UpW.out) (w := _) (h := A2.out)) ?_; intro w7 _ _ _ HI8) | ((with_reducible refine gd 3 ?_); refine bL 3 #[.int .i64 0, .int .i64 0, .int .i64 0, .int .i64 0] 204 ?_; intro gb653 w9 _ _ _) | ((with_reducible refine gate_callee (f := 150) rfl ?_); refine gK (some 7) Tryz.func150 (spec_l1Below.calls (hI := iS188 HI8) (hB := UpW.out) (w := _) (h := A3.out)) ?_; intro w10 _ _ _ HI11) | ((with_reducible refine gate_dst (N := 11) rfl ?_); refine lL 11 3 (Kd.int .i64) rfl Ny657 ?_; intro Ao658 co658 w12 _ HO659) | ((with_reducible refine gate_callee (f := 160) rfl ?_); refine gK (some 12) Tryz.func160 (spec_l1PickInt.calls (hI := iS188 HI11) (hB := UpW.out) (hr1 := rC HO659) (hc1 := rL HO659) (hf1 := fS HO659) (w := _) (h := A5.out)) ?_; intro w13 _ _ _ HI14))
  refine bodyPost_ret (results_cell_row rfl _ _ gb646 204 #[.int .i64 t660, .int .i64 t648, .int .i64 t649, .int .i64 t650] (0, 0) _ rfl xB Tryz.underlying204 rfl (by kernel_rfl)) rfl ?_
  exact ⟨y0_18, iS188 HI14, UpW.out, UpB.out⟩
 rw [if_neg c4] at H
 have c4b0 : (t654 == 0) = false := beq_eq_false_iff_ne.mpr c4; have c4b1 : (t654 != 0) = true := bne_iff_ne.mpr c4
 by_cases c15 : t654 = 1
 ·
  rw [if_pos c15] at H
  have c15b0 : (t654 == 1) = true := beq_iff_eq.mpr c15; have c15b1 : (t654 != 1) = false := bne_eq_false_iff_eq.mpr c15; clear c15; obtain ⟨y663, hy663⟩ : ∃ y_ : List Int, y_ = (([(-1), 4] : List Int)) := ⟨_, rfl⟩
  replace H : ((spec_l1PickInt.f s0_0 t655 t656 y663).bind fun bt666 => (some (t647, bt666.1, t649, t650, bt666.2.1, bt666.2.2))) = some (r1, r2, r3, r4, r5, r6) := by first | (rw [hy663]; with_reducible exact H) | (have H2_ := (Option.bind_some _ _).symm.trans H; rw [hy663]; with_reducible exact H2_) | (have H2_ := (Option.bind_some _ _).symm.trans H; with_reducible exact H2_) | with_reducible exact H | (rw [hy663]; exact H) | exact H
  have Ny663 := Aside0.mk hy663; clear hy663; obtain ⟨⟨t666, t667, t668⟩, A160, H⟩ := Option.bind_eq_some_iff.mp H
  try dsimp only at H
  have A16 := Aside0.mk A160; clear A160
  simp only [Option.some.injEq, Prod.mk.injEq] at H
  obtain ⟨rfl, rfl, rfl, rfl, rfl, rfl⟩ := H; have i0_ := iB188 HI0; have i1_ : LB w0 w := ⟨HB.out⟩
  go_enter Tryz.func212, Tryz.ntmps212
  go_wp2_with (first | ((with_reducible refine gd 2 ?_); refine bL 2 #[.int .i64 0, .int .i64 0, .int .i64 0, .int .i64 0] 204 ?_; intro gb646 w17 _ _ _) | ((with_reducible refine gate_callee (f := 209) rfl ?_); refine gK (some 5) Tryz.func209 (spec_l2DrawRight.calls (hI := iS188 HI0) (hB := UpW.out) (w := _) (h := A2.out)) ?_; intro w18 _ _ _ HI19) | ((with_reducible refine gd 3 ?_); refine bL 3 #[.int .i64 0, .int .i64 0, .int .i64 0, .int .i64 0] 204 ?_; intro gb653 w20 _ _ _) | ((with_reducible refine gate_callee (f := 150) rfl ?_); refine gK (some 7) Tryz.func150 (spec_l1Below.calls (hI := iS188 HI19) (hB := UpW.out) (w := _) (h := A3.out)) ?_; intro w21 _ _ _ HI22) | ((with_reducible refine gate_dst (N := 17) rfl ?_); refine lL 17 3 (Kd.int .i64) rfl Ny663 ?_; intro Ao664 co664 w23 _ HO665) | ((with_reducible refine gate_callee (f := 160) rfl ?_); refine gK (some 18) Tryz.func160 (spec_l1PickInt.calls (hI := iS188 HI22) (hB := UpW.out) (hr1 := rC HO665) (hc1 := rL HO665) (hf1 := fS HO665) (w := _) (h := A16.out)) ?_; intro w24 _ _ _ HI25))
  refine bodyPost_ret (results_cell_row rfl _ _ gb646 204 #[.int .i64 t647, .int .i64 t666, .int .i64 t649, .int .i64 t650] (0, 0) _ rfl xB Tryz.underlying204 rfl (by kernel_rfl)) rfl ?_
  exact ⟨y0_18, iS188 HI25, UpW.out, UpB.out⟩
 rw [if_neg c15] at H
 have c15b0 : (t654 == 1) = false := beq_eq_false_iff_ne.mpr c15; have c15b1 : (t654 != 1) = true := bne_iff_ne.mpr c15
 by_cases c26 : t654 = 2
 ·
  rw [if_pos c26] at H
  have c26b0 : (t654 == 2) = true := beq_iff_eq.mpr c26; have c26b1 : (t654 != 2) = false := bne_eq_false_iff_eq.mpr c26; clear c26; obtain ⟨y669, hy669⟩ : ∃ y_ : List Int, y_ = (([(-1), 1001] : List Int)) := ⟨_, rfl⟩
  replace H : ((spec_l1PickInt.f s0_0 t655 t656 y669).bind fun bt672 => (some (t647, t648, bt672.1, t650, bt672.2.1, bt672.2.2))) = some (r1, r2, r3, r4, r5, r6) := by first | (rw [hy669]; with_reducible exact H) | (have H2_ := (Option.bind_some _ _).symm.trans H; rw [hy669]; with_reducible exact H2_) | (have H2_ := (Option.bind_some _ _).symm.trans H; with_reducible exact H2_) | with_reducible exact H | (rw [hy669]; exact H) | exact H
  have Ny669 := Aside0.mk hy669; clear hy669; obtain ⟨⟨t672, t673, t674⟩, A270, H⟩ := Option.bind_eq_some_iff.mp H
  try dsimp only at H
  have A27 := Aside0.mk A270; clear A270
  simp only [Option.some.injEq, Prod.mk.injEq] at H
  obtain ⟨rfl, rfl, rfl, rfl, rfl, rfl⟩ := H; have i0_ := iB188 HI0; have i1_ : LB w0 w := ⟨HB.out⟩
  go_enter Tryz.func212, Tryz.ntmps212
  go_wp2_with (first | ((with_reducible refine gd 2 ?_); refine bL 2 #[.int .i64 0, .int .i64 0, .int .i64 0, .int .i64 0] 204 ?_; intro gb646 w28 _ _ _) | ((with_reducible refine gate_callee (f := 209) rfl ?_); refine gK (some 5) Tryz.func209 (spec_l2DrawRight.calls (hI := iS188 HI0) (hB := UpW.out) (w := _) (h := A2.out)) ?_; intro w29 _ _ _ HI30) | ((with_reducible refine gd 3 ?_); refine bL 3 #[.int .i64 0, .int .i64 0, .int .i64 0, .int .i64 0] 204 ?_; intro gb653 w31 _ _ _) | ((with_reducible refine gate_callee (f := 150) rfl ?_); refine gK (some 7) Tryz.func150 (spec_l1Below.calls (hI := iS188 HI30) (hB := UpW.out) (w := _) (h := A3.out)) ?_; intro w32 _ _ _ HI33) | ((with_reducible refine gate_dst (N := 23) rfl ?_); refine lL 23 3 (Kd.int .i64) rfl Ny669 ?_; intro Ao670 co670 w34 _ HO671) | ((with_reducible refine gate_callee (f := 160) rfl ?_); refine gK (some 24) Tryz.func160 (spec_l1PickInt.calls (hI := iS188 HI33) (hB := UpW.out) (hr1 := rC HO671) (hc1 := rL HO671) (hf1 := fS HO671) (w := _) (h := A27.out)) ?_; intro w35 _ _ _ HI36))
  refine bodyPost_ret (results_cell_row rfl _ _ gb646 204 #[.int .i64 t647, .int .i64 t648, .int .i64 t672, .int .i64 t650] (0, 0) _ rfl xB Tryz.underlying204 rfl (by kernel_rfl)) rfl ?_
  exact ⟨y0_18, iS188 HI36, UpW.out, UpB.out⟩
 rw [if_neg c26] at H
 have c26b0 : (t654 == 2) = false := beq_eq_false_iff_ne.mpr c26; have c26b1 : (t654 != 2) = true := bne_iff_ne.mpr c26
 by_cases c37 : t654 = 3
 ·
  rw [if_pos c37] at H
  have c37b0 : (t654 == 3) = true := beq_iff_eq.mpr c37; have c37b1 : (t654 != 3) = false := bne_eq_false_iff_eq.mpr c37; clear c37; obtain ⟨y675, hy675⟩ : ∃ y_ : List Int, y_ = (([(-1), 99, 100] : List Int)) := ⟨_, rfl⟩
  replace H : ((spec_l1PickInt.f s0_0 t655 t656 y675).bind fun bt678 => (some (t647, t648, t649, bt678.1, bt678.2.1, bt678.2.2))) = some (r1, r2, r3, r4, r5, r6) := by first | (rw [hy675]; with_reducible exact H) | (have H2_ := (Option.bind_some _ _).symm.trans H; rw [hy675]; with_reducible exact H2_) | (have H2_ := (Option.bind_some _ _).symm.trans H; with_reducible exact H2_) | with_reducible exact H | (rw [hy675]; exact H) | exact H
  have Ny675 := Aside0.mk hy675; clear hy675; obtain ⟨⟨t678, t679, t680⟩, A380, H⟩ := Option.bind_eq_some_iff.mp H
  try dsimp only at H
  have A38 := Aside0.mk A380; clear A380
  simp only [Option.some.injEq, Prod.mk.injEq] at H
  obtain ⟨rfl, rfl, rfl, rfl, rfl, rfl⟩ := H; have i0_ := iB188 HI0; have i1_ : LB w0 w := ⟨HB.out⟩
  go_enter Tryz.func212, Tryz.ntmps212
  go_wp2_with (first | ((with_reducible refine gd 2 ?_); refine bL 2 #[.int .i64 0, .int .i64 0, .int .i64 0, .int .i64 0] 204 ?_; intro gb646 w39 _ _ _) | ((with_reducible refine gate_callee (f := 209) rfl ?_); refine gK (some 5) Tryz.func209 (spec_l2DrawRight.calls (hI := iS188 HI0) (hB := UpW.out) (w := _) (h := A2.out)) ?_; intro w40 _ _ _ HI41) | ((with_reducible refine gd 3 ?_); refine bL 3 #[.int .i64 0, .int .i64 0, .int .i64 0, .int .i64 0] 204 ?_; intro gb653 w42 _ _ _) | ((with_reducible refine gate_callee (f := 150) rfl ?_); refine gK (some 7) Tryz.func150 (spec_l1Below.calls (hI := iS188 HI41) (hB := UpW.out) (w := _) (h := A3.out)) ?_; intro w43 _ _ _ HI44) | ((with_reducible refine gate_dst (N := 29) rfl ?_); refine lL 29 3 (Kd.int .i64) rfl Ny675 ?_; intro Ao676 co676 w45 _ HO677) | ((with_reducible refine gate_callee (f := 160) rfl ?_); refine gK (some 30) Tryz.func160 (spec_l1PickInt.calls (hI := iS188 HI44) (hB := UpW.out) (hr1 := rC HO677) (hc1 := rL HO677) (hf1 := fS HO677) (w := _) (h := A38.out)) ?_; intro w46 _ _ _ HI47))
  refine bodyPost_ret (results_cell_row rfl _ _ gb646 204 #[.int .i64 t647, .int .i64 t648, .int .i64 t649, .int .i64 t678] (0, 0) _ rfl xB Tryz.underlying204 rfl (by kernel_rfl)) rfl ?_
  exact ⟨y0_18, iS188 HI47, UpW.out, UpB.out⟩
 rw [if_neg c37] at H
 have c37b0 : (t654 == 3) = false := beq_eq_false_iff_ne.mpr c37; have c37b1 : (t654 != 3) = true := bne_iff_ne.mpr c37
 simp only [Option.some.injEq, Prod.mk.injEq] at H
 obtain ⟨rfl, rfl, rfl, rfl, rfl, rfl⟩ := H; have i0_ := iB188 HI0; have i1_ : LB w0 w := ⟨HB.out⟩
 go_enter Tryz.func212, Tryz.ntmps212
 go_wp2_with (first | ((with_reducible refine gd 2 ?_); refine bL 2 #[.int .i64 0, .int .i64 0, .int .i64 0, .int .i64 0] 204 ?_; intro gb646 w48 _ _ _) | ((with_reducible refine gate_callee (f := 209) rfl ?_); refine gK (some 5) Tryz.func209 (spec_l2DrawRight.calls (hI := iS188 HI0) (hB := UpW.out) (w := _) (h := A2.out)) ?_; intro w49 _ _ _ HI50) | ((with_reducible refine gd 3 ?_); refine bL 3 #[.int .i64 0, .int .i64 0, .int .i64 0, .int .i64 0] 204 ?_; intro gb653 w51 _ _ _) | ((with_reducible refine gate_callee (f := 150) rfl ?_); refine gK (some 7) Tryz.func150 (spec_l1Below.calls (hI := iS188 HI50) (hB := UpW.out) (w := _) (h := A3.out)) ?_; intro w52 _ _ _ HI53))
 refine bodyPost_ret (results_cell_row rfl _ _ gb646 204 #[.int .i64 t647, .int .i64 t648, .int .i64 t649, .int .i64 t650] (0, 0) _ rfl xB Tryz.underlying204 rfl (by kernel_rfl)) rfl ?_
 exact ⟨y0_18, iS188 HI53, UpW.out, UpB.out⟩

/-! ### spec_l2DrawList: function 161 -/
def spec_l2DrawList.l0 : Nat → List (S204) → Int → List Int → Int → Int → Option ((List (S204)) × Int × Int)
 | 0, _, _, _, _, _ => none
 | k + 1, x3, x4, x1000, x1001, x1002 => (spec_l1Below.f x1000 x1001 x1002 5).bind fun bt684 => (if x4 < bt684.1 then ((spec_l2Draw.f x1000 bt684.2.1 bt684.2.2).bind fun bt687 => (if x3.length < 4398046511104 then (spec_l2DrawList.l0 k (x3 ++ [(⟨bt687.1, bt687.2.1, bt687.2.2.1, bt687.2.2.2.1⟩ : S204)]) (wrap64 (x4 + 1)) x1000 bt687.2.2.2.2.1 bt687.2.2.2.2.2) else (none))) else (some (x3, bt684.2.1, bt684.2.2)))
def spec_l2DrawList.f (k : Nat) (s0_0 : List Int) (s0_1 : Int) (s0_2 : Int) : Option ((List (S204)) × Int × Int) := spec_l2DrawList.l0 k (([] : List (S204))) 0 s0_0 s0_1 s0_2
theorem spec_l2DrawList.mono_l : ∀ k, (∀ y0 y1 y2 y3 y4, LeO (spec_l2DrawList.l0 k y0 y1 y2 y3 y4) (spec_l2DrawList.l0 (k + 1) y0 y1 y2 y3 y4))
 | 0 => fun _ _ _ _ _ r h => by simp [spec_l2DrawList.l0] at h
 | k + 1 => by
  have ih0 := spec_l2DrawList.mono_l k
  intro y0 y1 y2 y3 y4
  unfold spec_l2DrawList.l0
  repeat' first | (with_reducible exact ih0 _ _ _ _ _) | (with_reducible exact LeO.refl _) | (with_reducible exact LeO.none _) | (with_reducible refine LeO.ite ?_ ?_) | (with_reducible refine LeO.bind ?_ (fun _ => ?_))
theorem spec_l2DrawList.mono : ∀ a0 a1 a2 k, LeO (spec_l2DrawList.f k a0 a1 a2) (spec_l2DrawList.f (k + 1) a0 a1 a2) := by
 intro a0 a1 a2 k
 have ih0 := spec_l2DrawList.mono_l k
 unfold spec_l2DrawList.f
 repeat' first | (with_reducible exact ih0 _ _ _ _ _) | (with_reducible exact LeO.refl _) | (with_reducible exact LeO.none _) | (with_reducible refine LeO.ite ?_ ?_) | (with_reducible refine LeO.bind ?_ (fun _ => ?_))
set_option maxHeartbeats 8000000 in
set_option maxRecDepth 100000 in
theorem spec_l2DrawList.calls (k : Nat) (g : Nat) (s0_0 : List Int) (s0_1 : Int) (s0_2 : Int) (r1 : List (S204)) (r2 : Int) (r3 : Int) (w0 w : World) (hI : IsS188 w0 w g s0_0 s0_1 s0_2) (hB : Below w0.heap.size w0 w) (h : spec_l2DrawList.f k s0_0 s0_1 s0_2 = some (r1, r2, r3)) :
  Calls Tryz.prog 161 #[.pointer (some ⟨g, 0, none⟩)] w fun e w' => ∃ v0_ : Value, e = .returned (v0_) ∧ Kd.R k204 204 w' w.heap.size (fun _ => True) v0_ r1 ∧ IsS188 w0 w' g s0_0 r2 r3 ∧ Below w0.heap.size w0 w' ∧ KeepBut w w' g none := by
 have HI0 := Aside0.mk hI; have HK := Aside0.mk (KeepBut.refl w g none); have HL := Aside0.mk hB.size; clear hI; have HW0 := Aside0.mk hB.size; have HB := Aside0.mk hB; clear hB; have H : (spec_l2DrawList.l0 k (([] : List (S204))) 0 s0_0 s0_1 s0_2) = some (r1, r2, r3) := h; clear h; obtain ⟨y681, hy681⟩ : ∃ y_ : List (S204), y_ = (([] : List (S204))) := ⟨_, rfl⟩
 replace H : (spec_l2DrawList.l0 k y681 0 s0_0 s0_1 s0_2) = some (r1, r2, r3) := by first | (rw [hy681]; with_reducible exact H) | (have H2_ := (Option.bind_some _ _).symm.trans H; rw [hy681]; with_reducible exact H2_) | (have H2_ := (Option.bind_some _ _).symm.trans H; with_reducible exact H2_) | with_reducible exact H | (rw [hy681]; exact H) | exact H
 have Ny681 := Aside0.mk hy681; clear hy681; have H' := Aside0.mk H; clear H
 go_enter Tryz.func161, Tryz.ntmps161
 go_wp2_with (first | ((with_reducible refine gate_dst (N := 5) rfl ?_); refine Kd.R_lit k204 _ 204 ?hg (N := 5) ?hd (xs := ([] : List (S204))) (inner := []) (ok := fun _ => True) (okp := fun _ => True) ?hr ?hp (fun _ hk => hk) trivial (Below.refl _ _) (Nat.le_refl _) (by simp) ?_; (case hd => rfl); (case hg => rfl); (case hr => first | (go_simp; done) | (go_simp; rfl)); (case hp => exact (Reps.none _ _)); intro v682 w2 ho3 hb hg_ hnew_; clear hg_ hnew_; (first | rw [← Ny681.out] at ho3 | (simp only [Int.reduceToNat] at ho3; rw [← Ny681.out] at ho3)); have HO683 := Aside0.mk (Kd.R_lower ho3 (keep_size (w := w) (g := g) (row := none) (hI HK.out))); replace HK := kb HK hb; replace HB : Aside0 (Below w0.heap.size w0 _) := Aside0.mk (below_step y0_7 hb); replace HI0 := Aside0.mk (IsS188.below y0_6 hb); clear hb ho3))
 go_loopg [3, 4] k (fun kq v3 v4 w' => ∃ (x3_1 : List (S204)) (x4_1 : Int) (x1001_1 : Int) (x1002_1 : Int), v4 = .int .i64 x4_1 ∧ Aside0 (spec_l2DrawList.l0 kq x3_1 x4_1 s0_0 x1001_1 x1002_1 = some (r1, r2, r3)) ∧ Aside0 (kq ≤ k) ∧ Aside0 (Kd.R k204 204 w' w.heap.size (fun _ => True) v3 x3_1) ∧ Aside0 (IsS188 w0 w' g s0_0 x1001_1 x1002_1) ∧ Aside0 (KeepBut w w' g none) ∧ Aside0 (Below w0.heap.size w0 w'))
 case atStart => exact ⟨(y681), (0), (s0_1), (s0_2), y0_18, H', ⟨Nat.le_refl _⟩, ⟨by (with_reducible repeat (first | apply Kd.R_alloc | apply Kd.R_drewN | apply Kd.R_drew)); exact HO683.out⟩, ⟨y0_6⟩, ⟨hI HK.out⟩, ⟨y0_7⟩⟩
 case round =>
  clear H'
  try clear c1
  try clear p2
  obtain ⟨x3_1, x4_1, x1001_1, x1002_1, rfl, HA, HK1, HO_3, HI0, HK, HB⟩ := hrel; cases gk with
  | zero => exact absurd HA.out (by simp [spec_l2DrawList.l0])
  | succ k1 =>
   have H := HA.out; clear HA
   simp only [spec_l2DrawList.l0] at H
   obtain ⟨⟨t684, t685, t686⟩, A40, H⟩ := Option.bind_eq_some_iff.mp H
   try dsimp only at H
   have A4 := Aside0.mk A40; clear A40
   by_cases c5 : x4_1 < t684
   ·
    rw [if_pos c5] at H
    have c5b0 : decide (x4_1 < t684) = true := decide_eq_true c5; clear c5; obtain ⟨⟨t687, t688, t689, t690, t691, t692⟩, A60, H⟩ := Option.bind_eq_some_iff.mp H
    try dsimp only at H
    have A6 := Aside0.mk A60; clear A60
    by_cases c7 : x3_1.length < 4398046511104
    rotate_left
    ·
     rw [if_neg c7] at H
     exact absurd H (by simp)
    rw [if_pos c7] at H
    have LMc7 := Aside0.mk c7; clear c7; obtain ⟨y693, hy693⟩ : ∃ y_ : List (S204), y_ = (x3_1 ++ [(⟨t687, t688, t689, t690⟩ : S204)]) := ⟨_, rfl⟩
    replace H : (spec_l2DrawList.l0 k1 y693 (wrap64 (x4_1 + 1)) s0_0 t691 t692) = some (r1, r2, r3) := by first | (rw [hy693]; with_reducible exact H) | (have H2_ := (Option.bind_some _ _).symm.trans H; rw [hy693]; with_reducible exact H2_) | (have H2_ := (Option.bind_some _ _).symm.trans H; with_reducible exact H2_) | with_reducible exact H | (rw [hy693]; exact H) | exact H
    have Ny693 := Aside0.mk hy693; clear hy693; have H' := Aside0.mk H; clear H
    go_wp2_with (first | ((with_reducible refine gate_callee (f := 150) rfl ?_); refine gB (some 8) Tryz.func150 #[.pointer (some ⟨g, 0, none⟩), .int .i64 5] ?_; (with_reducible refine (spec_l1Below.calls g s0_0 x1001_1 x1002_1 5 t684 t685 t686 w0 _ ?side1 ?side2 A4.out).mono ?_); (case side1 => repeat (first | (with_reducible first | exact HI0.out | apply IsS188.alloc | apply IsS188.drewN | apply IsS188.drew | apply IsS188.set_1 | apply IsS188.set_2) | exact HI0.out)); (case side2 => repeat (first | (with_reducible first | exact HB.out | apply below_alloc | apply pw_below_drewN | apply below_drew1 | refine below_set ?_ (IsS188.ge HI0.out)) | exact HB.out)); rintro e w8 ⟨rfl, hi, hb, hk⟩; refine ⟨_, rfl, ?_⟩; replace HO_3 := Aside0.mk (Kd.R_mono (Kd.R_keep (IsS188.apart (show IsS188 w0 _ g s0_0 x1001_1 x1002_1 from y0_6) (rI HO_3.out) (by decide)) hk (fun _ h => h.2)) (fun _ h => h.1)); replace HK := kt HK hk; replace HB := Aside0.mk (hb); replace HI0 := Aside0.mk (hi); (try clear hb); (try clear hb2); (try clear hk); (try clear hi)) | ((with_reducible refine gate_callee (f := 212) rfl ?_); refine gB (some 14) Tryz.func212 #[.pointer (some ⟨g, 0, none⟩)] ?_; (with_reducible refine (spec_l2Draw.calls g s0_0 t685 t686 t687 t688 t689 t690 t691 t692 w0 _ ?side1 ?side2 A6.out).mono ?_); (case side1 => repeat (first | (with_reducible first | exact HI0.out | apply IsS188.alloc | apply IsS188.drewN | apply IsS188.drew | apply IsS188.set_1 | apply IsS188.set_2) | exact HI0.out)); (case side2 => repeat (first | (with_reducible first | exact HB.out | apply below_alloc | apply pw_below_drewN | apply below_drew1 | refine below_set ?_ (IsS188.ge HI0.out)) | exact HB.out)); rintro e w9 ⟨rfl, hi, hb, hk⟩; refine ⟨_, rfl, ?_⟩; replace HO_3 := Aside0.mk (Kd.R_mono (Kd.R_keep (IsS188.apart (show IsS188 w0 _ g s0_0 t685 t686 from y0_6) (rI HO_3.out) (by decide)) hk (fun _ h => h.2)) (fun _ h => h.1)); replace HK := kt HK hk; replace HB := Aside0.mk (hb); replace HI0 := Aside0.mk (hi); (try clear hb); (try clear hb2); (try clear hk); (try clear hi)) | ((with_reducible refine gate_builtin (b := .append) (xs := #[.tmp 12, .tmp 15]) rfl ?_); at_builtin; refine Kd.R_append k204 w.heap.size rfl (.tmp 12) (.tmp 15) 101 204 (.agg #[(.int .i64 0), (.int .i64 0), (.int .i64 0), (.int .i64 0)]) 32 rfl Tryz.underlying101 info204 rfl (by decide) (by omega) u3 x3_1 (⟨t687, t688, t689, t690⟩ : S204) [.int .i64 t687, .int .i64 t688, .int .i64 t689, .int .i64 t690] (fun _ => True) (fun _ => False) rfl rfl ?aP (fun _ hk => hk.elim) ?aF ?aO (Below.refl _ _) ?aS ?aL ?_; (case aP => exact k204_mkM _ _ _ (⟨t687, t688, t689, t690⟩ : S204)); (case aF => exact (fun _ _ => trivial)); (case aO => exact (rI HO_3.out)); (case aS => exact (keep_size (w := w) (g := g) (row := none) (hI HK.out))); (case aL => have := LMc7.out; omega); intro v694 w10 ho hb hg hat; rw [← Ny693.out] at ho; have n0_ := Aside0.mk (IsS188.grown y0_6 hg (IsS188.own_ne HI0.out HO_3.out (by decide))); have n1_ := Aside0.mk (below_weaken y0_7 HL.out hb); have n2_ := Aside0.mk (KeepBut.trans (hI HK.out) (KeepBut.of_grown hg g) (Kd.R_base2 HO_3.out)); have n3_ := Aside0.mk (ho); clear HI0; clear HB; clear HK; clear HO_3; have HI0 := n0_; have HB := n1_; have HK := n2_; have HO695 := n3_; clear n0_ n1_ n2_ n3_; clear ho hb hg hat))
    go_roundg k1
    case measure => have := HK1.out; omega
    case rel => exact ⟨(y693), (wrap64 (x4_1 + 1)), (t691), (t692), y0_18, H', ⟨y0_21⟩, ⟨by (with_reducible repeat (first | apply Kd.R_alloc | apply Kd.R_drewN | apply Kd.R_drew)); exact HO695.out⟩, ⟨y0_6⟩, ⟨hI HK.out⟩, ⟨y0_7⟩⟩
   rw [if_neg c5] at H
   have c5b0 : decide (x4_1 < t684) = false := decide_eq_false c5; clear c5
   simp only [Option.some.injEq, Prod.mk.injEq] at H
   obtain ⟨rfl, rfl, rfl⟩ := H
   go_wp2_with (first | ((with_reducible refine gate_callee (f := 150) rfl ?_); refine gB (some 8) Tryz.func150 #[.pointer (some ⟨g, 0, none⟩), .int .i64 5] ?_; (with_reducible refine (spec_l1Below.calls g s0_0 x1001_1 x1002_1 5 t684 t685 t686 w0 _ ?side1 ?side2 A4.out).mono ?_); (case side1 => repeat (first | (with_reducible first | exact HI0.out | apply IsS188.alloc | apply IsS188.drewN | apply IsS188.drew | apply IsS188.set_1 | apply IsS188.set_2) | exact HI0.out)); (case side2 => repeat (first | (with_reducible first | exact HB.out | apply below_alloc | apply pw_below_drewN | apply below_drew1 | refine below_set ?_ (IsS188.ge HI0.out)) | exact HB.out)); rintro e w11 ⟨rfl, hi, hb, hk⟩; refine ⟨_, rfl, ?_⟩; replace HO_3 := Aside0.mk (Kd.R_mono (Kd.R_keep (IsS188.apart (show IsS188 w0 _ g s0_0 x1001_1 x1002_1 from y0_6) (rI HO_3.out) (by decide)) hk (fun _ h => h.2)) (fun _ h => h.1)); replace HK := kt HK hk; replace HB := Aside0.mk (hb); replace HI0 := Aside0.mk (hi); (try clear hb); (try clear hb2); (try clear hk); (try clear hi)))
   go_ret
   exact ⟨_, y0_14, by (with_reducible repeat (first | apply Kd.R_alloc | apply Kd.R_drewN | apply Kd.R_drew)); exact HO_3.out, y0_6, y0_7, hI HK.out⟩

/-! ### spec_DrawBlockNew: function 75 -/
def spec_DrawBlockNew.f (k : Nat) (l0 : List Int) : Option (Int × Int × Int × ByteArray × List Int × Int × (List (S204))) := (spec_l1New.f k l0).bind fun bt698 => ((spec_l7DrawConf.f bt698.1 bt698.2.1 bt698.2.2).bind fun bt702 => ((spec_l7Draw.f k bt698.1 bt702.2.2.1 bt702.2.2.2 bt702.1 bt702.2.1).bind fun bt707 => ((spec_l1PickInt.f bt698.1 bt707.2.2.2.1 bt707.2.2.2.2 (([wrap64 (bt707.1 + 1), wrap64 (bt707.1 + 1), bt707.1, 60, 61, (-1)] : List Int))).bind fun bt718 => ((spec_l2DrawList.f k bt698.1 bt718.2.1 bt718.2.2).bind fun bt721 => (if (bt721.1.length : Int) > 2 then (if 2 ≤ (bt721.1.length : Int) then (some (bt702.1, bt702.2.1, bt707.1, bt707.2.1, bt707.2.2.1, bt718.1, (bt721.1.take (2 : Int).toNat))) else (none)) else (some (bt702.1, bt702.2.1, bt707.1, bt707.2.1, bt707.2.2.1, bt718.1, bt721.1)))))))
theorem spec_DrawBlockNew.mono : ∀ a0 k, LeO (spec_DrawBlockNew.f k a0) (spec_DrawBlockNew.f (k + 1) a0) := by
 intro a0 k
 unfold spec_DrawBlockNew.f
 repeat' first | (with_reducible exact spec_l1New.mono _ _) | (with_reducible exact spec_l2DrawList.mono _ _ _ _) | (with_reducible exact spec_l7Draw.mono _ _ _ _ _ _) | (with_reducible exact LeO.refl _) | (with_reducible exact LeO.none _) | (with_reducible refine LeO.ite ?_ ?_) | (with_reducible refine LeO.bind ?_ (fun _ => ?_))
def spec_DrawBlockNew.T8 : Bool × List (List Nat × List Nat) := (true, [([], []), ([], []), ([], []), ([], []), ([0, 0], [0]), ([1, 4, 0, 1, 4], [1]), ([2, 5, 0, 1, 2, 4, 5], [2]), ([3, 6, 0, 1, 2, 3, 4, 5, 6], [3])])
def spec_DrawBlockNew.B8 : List Nat := [0, 0, 0, 0, 1, 19, 55, 127]
theorem spec_DrawBlockNew.tab8 : rtab .any (opsOf Tryz.f75 8) = spec_DrawBlockNew.T8 := by kernel_rfl
theorem spec_DrawBlockNew.bits8 : waitsOk spec_DrawBlockNew.T8.2 spec_DrawBlockNew.B8 = true := by kernel_rfl
set_option maxHeartbeats 8000000 in
set_option maxRecDepth 100000 in
theorem spec_DrawBlockNew.calls (k : Nat) (A0 : Option Addr) (c0 : Nat) (l0 : List Int) (r1 : Int) (r2 : Int) (r3 : Int) (r4 : ByteArray) (r5 : List Int) (r6 : Int) (r7 : List (S204)) (w : World) (hr0 : Kd.C (Kd.int .u8) w A0 l0.length l0) (hc0 : l0.length ≤ c0) (h : spec_DrawBlockNew.f k l0 = some (r1, r2, r3, r4, r5, r6, r7)) :
  Calls Tryz.prog 75 #[.slice A0 l0.length c0] w fun e w' => ∃ v4_ v6_ : Value, e = .returned (.tuple #[.agg #[.int .i64 r1, .int .i64 r2], .agg #[.int .i64 r3, .string r4, v4_], .int .i64 r6, v6_]) ∧ Kd.R (Kd.int .i64) 3 w' w.heap.size (fun _ => True) v4_ r5 ∧ Kd.R k204 204 w' w.heap.size (fun _ => True) v6_ r7 ∧ Below w.heap.size w w' := by
 have hu32 := Tryz.underlying32; have hu27 := Tryz.underlying27; have HR0 := Aside0.mk hr0; have HC0 := Aside0.mk hc0; clear hr0 hc0; have HB := Aside0.mk (Below.refl w.heap.size w)
 have H : ((spec_l1New.f k l0).bind fun bt698 => ((spec_l7DrawConf.f bt698.1 bt698.2.1 bt698.2.2).bind fun bt702 => ((spec_l7Draw.f k bt698.1 bt702.2.2.1 bt702.2.2.2 bt702.1 bt702.2.1).bind fun bt707 => ((spec_l1PickInt.f bt698.1 bt707.2.2.2.1 bt707.2.2.2.2 (([wrap64 (bt707.1 + 1), wrap64 (bt707.1 + 1), bt707.1, 60, 61, (-1)] : List Int))).bind fun bt718 => ((spec_l2DrawList.f k bt698.1 bt718.2.1 bt718.2.2).bind fun bt721 => (if (bt721.1.length : Int) > 2 then (if 2 ≤ (bt721.1.length : Int) then (some (bt702.1, bt702.2.1, bt707.1, bt707.2.1, bt707.2.2.1, bt718.1, (bt721.1.take (2 : Int).toNat))) else (none)) else (some (bt702.1, bt702.2.1, bt707.1, bt707.2.1, bt707.2.2.1, bt718.1, bt721.1)))))))) = some (r1, r2, r3, r4, r5, r6, r7) := h
 clear h; obtain ⟨⟨t698, t699, t700⟩, A20, H⟩ := Option.bind_eq_some_iff.mp H
 try dsimp only at H
 have A2 := Aside0.mk A20; clear A20; obtain ⟨⟨t702, t703, t704, t705⟩, A30, H⟩ := Option.bind_eq_some_iff.mp H
 try dsimp only at H
 have A3 := Aside0.mk A30; clear A30; obtain ⟨⟨t707, t708, t709, t712, t713⟩, A40, H⟩ := Option.bind_eq_some_iff.mp H
 try dsimp only at H
 have A4 := Aside0.mk A40; clear A40; obtain ⟨y715, hy715⟩ : ∃ y_ : List Int, y_ = (([wrap64 (t707 + 1), wrap64 (t707 + 1), t707, 60, 61, (-1)] : List Int)) := ⟨_, rfl⟩
 replace H : ((spec_l1PickInt.f t698 t712 t713 y715).bind fun bt718 => ((spec_l2DrawList.f k t698 bt718.2.1 bt718.2.2).bind fun bt721 => (if (bt721.1.length : Int) > 2 then (if 2 ≤ (bt721.1.length : Int) then (some (t702, t703, t707, t708, t709, bt718.1, (bt721.1.take (2 : Int).toNat))) else (none)) else (some (t702, t703, t707, t708, t709, bt718.1, bt721.1))))) = some (r1, r2, r3, r4, r5, r6, r7) := by first | (rw [hy715]; with_reducible exact H) | (have H2_ := (Option.bind_some _ _).symm.trans H; rw [hy715]; with_reducible exact H2_) | (have H2_ := (Option.bind_some _ _).symm.trans H; with_reducible exact H2_) | with_reducible exact H | (rw [hy715]; exact H) | exact H
 have Ny715 := Aside0.mk hy715; clear hy715; obtain ⟨⟨t718, t719, t720⟩, A50, H⟩ := Option.bind_eq_some_iff.mp H
 try dsimp only at H
 have A5 := Aside0.mk A50; clear A50; obtain ⟨⟨t721, t724, t725⟩, A60, H⟩ := Option.bind_eq_some_iff.mp H
 try dsimp only at H
 have A6 := Aside0.mk A60; clear A60
 by_cases c7 : (t721.length : Int) > 2
 ·
  rw [if_pos c7] at H
  have c7b0 : decide (2 < (t721.length : Int)) = true := decide_eq_true c7
  have c7b1 : decide (2 < t721.length) = true := decide_eq_true (by omega)
  clear c7
  by_cases c8 : 2 ≤ (t721.length : Int)
  rotate_left
  ·
   rw [if_neg c8] at H
   exact absurd H (by simp)
  rw [if_pos c8] at H
  have c8b0 := eq_true c8; have c8b1 : decide (2 ≤ (t721.length : Int)) = true := decide_eq_true c8; clear c8; obtain ⟨y726, hy726⟩ : ∃ y_ : List (S204), y_ = (t721.take (2 : Int).toNat) := ⟨_, rfl⟩
  replace H : (some (t702, t703, t707, t708, t709, t718, y726)) = some (r1, r2, r3, r4, r5, r6, r7) := by first | (rw [hy726]; with_reducible exact H) | (have H2_ := (Option.bind_some _ _).symm.trans H; rw [hy726]; with_reducible exact H2_) | (have H2_ := (Option.bind_some _ _).symm.trans H; with_reducible exact H2_) | with_reducible exact H | (rw [hy726]; exact H) | exact H
  have Ny726 := Aside0.mk hy726; clear hy726
  simp only [Option.some.injEq, Prod.mk.injEq] at H
  obtain ⟨rfl, rfl, rfl, rfl, rfl, rfl, rfl⟩ := H
  go_enter Tryz.func75, Tryz.ntmps75
  try go_wp2_with (first | ((with_reducible refine gd 2 ?_); refine bL 2 #[.int .i64 0, .int .i64 0] 32 ?_; intro gb696 w9 _ _ _) | ((with_reducible refine gd 3 ?_); refine bL 3 #[.int .i64 0, .string (⟨#[]⟩ : ByteArray), .slice none 0 0] 27 ?_; intro gb697 w10 _ _ _) | ((with_reducible refine gate_callee (f := 118) rfl ?_); refine wL ?_; intro w11 _; refine gN (some 12) Tryz.func118 (spec_l1New.calls (hB := Below.refl _ _) (hr0 := pC HR0) (hc0 := HC0.out) (w := _) (h := A2.out)) ?_; intro g701 w12 _ _ _ HI13) | ((with_reducible refine gate_callee (f := 119) rfl ?_); refine gK (some 14) Tryz.func119 (spec_l7DrawConf.calls (hI := iS188 HI13) (hB := UpW.out) (w := _) (h := A3.out)) ?_; intro w14 _ _ _ HI15) | ((with_reducible refine gd 7 ?_); refine bL 7 #[.int .i64 0, .int .i64 0] 32 ?_; intro gb706 w16 _ _ _) | ((with_reducible refine gate_callee (f := 121) rfl ?_); refine gK1 (some 17) Tryz.func121 (spec_l7Draw.calls (hI := iS188 HI15) (hB := UpW.out) (w := _) (h := A4.out)) ?_; intro Ao710 co710 w17 _ _ _ HI18 HO711) | ((with_reducible refine gd 8 ?_); refine bL 8 #[.int .i64 0, .string (⟨#[]⟩ : ByteArray), .slice none 0 0] 27 ?_; intro gb714 w19 _ _ _) | ((with_reducible refine gate_dst (N := 27) rfl ?_); refine lL 27 3 (Kd.int .i64) rfl Ny715 ?_; intro Ao716 co716 w20 _ HO717) | ((with_reducible refine gate_callee (f := 160) rfl ?_); refine gK (some 28) Tryz.func160 (spec_l1PickInt.calls (hI := iS188 HI18) (hB := UpW.out) (hr1 := rC HO717) (hc1 := rL HO717) (hf1 := fS HO717) (w := _) (h := A5.out)) ?_; intro w21 _ _ _ HI22) | ((with_reducible refine gate_callee (f := 161) rfl ?_); refine gK1 (some 30) Tryz.func161 (spec_l2DrawList.calls (hI := iS188 HI22) (hB := UpW.out) (w := _) (h := A6.out)) ?_; intro Ao722 co722 w23 _ _ _ HI24 HO723; have q25 : (2 : Int) ≤ (t721.length : Int) := of_decide_eq_true y0_17; obtain ⟨i025, hi025, _, hsz25, _⟩ := info_parts info204; have hcut25 := cut_to (P := Tryz.prog) 101 204 .i64 Tryz.underlying101 hi025 Ao722 t721.length co722 2 (by omega) q25 (rL HO723); have hr25 := Kd.R_take (m := (2 : Int).toNat) HO723.out (by omega); have hy25 : y726.length = (2 : Int).toNat := (by rw [Ny726.out, List.length_take]; omega); rw [← Ny726.out] at hr25; rw [← hy25] at hr25 hcut25; have HO728 := Aside0.mk hr25; clear hy25 hi025 hsz25 hr25; replace q25 := eq_true q25))
  refine sB [gb696, gb697] spec_DrawBlockNew.tab8 spec_DrawBlockNew.bits8 ?_; intro w26 _ HT_ HW_
  refine tB 0 (some 36) (bz 8 1) HT_ HW_ ?_
  refine tB 1 (some 37) (bz 8 3) HT_ HW_ ?_
  refine pA 2 (some 38) (bz 8 7) HT_ ?_
  refine pA 3 (some 39) (bz 8 15) HT_ ?_
  refine o1 4 none (bz 8 31) HT_ rfl (kS ?_)
  refine o1 5 none (bz 8 63) HT_ rfl (kS ?_)
  refine pA 6 (some 4) (bz 8 127) HT_ ?_
  refine pA 7 (some 5) (bz 8 255) HT_ ?_
  refine done_ (done_of HT_.out (by kernel_rfl)) ?_
  try go_wp2
  refine bodyPost_ret (results_list (rs := [.cell 2 32, .cell 3 27, .tmp 4, .tmp 5]) rfl (by simp) (.cell gb696 32 #[.int .i64 t702, .int .i64 t703] (0, 0) _ rfl xB Tryz.underlying32 rfl (by kernel_rfl) (.cell gb697 27 #[.int .i64 t707, .string t708, .slice Ao710 t709.length co710] (0, 0) _ rfl xB Tryz.underlying27 rfl (by kernel_rfl) (.tmp (.tmp .nil))))) rfl ?_
  exact ⟨_, _, y0_18, rR HO711, rR HO728, UpW.out⟩
 rw [if_neg c7] at H
 have c7b0 : decide (2 < (t721.length : Int)) = false := decide_eq_false c7
 have c7b1 : decide (2 < t721.length) = false := decide_eq_false (by omega)
 clear c7
 simp only [Option.some.injEq, Prod.mk.injEq] at H
 obtain ⟨rfl, rfl, rfl, rfl, rfl, rfl, rfl⟩ := H
 go_enter Tryz.func75, Tryz.ntmps75
 try go_wp2_with (first | ((with_reducible refine gd 2 ?_); refine bL 2 #[.int .i64 0, .int .i64 0] 32 ?_; intro gb696 w27 _ _ _) | ((with_reducible refine gd 3 ?_); refine bL 3 #[.int .i64 0, .string (⟨#[]⟩ : ByteArray), .slice none 0 0] 27 ?_; intro gb697 w28 _ _ _) | ((with_reducible refine gate_callee (f := 118) rfl ?_); refine wL ?_; intro w29 _; refine gN (some 12) Tryz.func118 (spec_l1New.calls (hB := Below.refl _ _) (hr0 := pC HR0) (hc0 := HC0.out) (w := _) (h := A2.out)) ?_; intro g701 w30 _ _ _ HI31) | ((with_reducible refine gate_callee (f := 119) rfl ?_); refine gK (some 14) Tryz.func119 (spec_l7DrawConf.calls (hI := iS188 HI31) (hB := UpW.out) (w := _) (h := A3.out)) ?_; intro w32 _ _ _ HI33) | ((with_reducible refine gd 7 ?_); refine bL 7 #[.int .i64 0, .int .i64 0] 32 ?_; intro gb706 w34 _ _ _) | ((with_reducible refine gate_callee (f := 121) rfl ?_); refine gK1 (some 17) Tryz.func121 (spec_l7Draw.calls (hI := iS188 HI33) (hB := UpW.out) (w := _) (h := A4.out)) ?_; intro Ao710 co710 w35 _ _ _ HI36 HO711) | ((with_reducible refine gd 8 ?_); refine bL 8 #[.int .i64 0, .string (⟨#[]⟩ : ByteArray), .slice none 0 0] 27 ?_; intro gb714 w37 _ _ _) | ((with_reducible refine gate_dst (N := 27) rfl ?_); refine lL 27 3 (Kd.int .i64) rfl Ny715 ?_; intro Ao716 co716 w38 _ HO717) | ((with_reducible refine gate_callee (f := 160) rfl ?_); refine gK (some 28) Tryz.func160 (spec_l1PickInt.calls (hI := iS188 HI36) (hB := UpW.out) (hr1 := rC HO717) (hc1 := rL HO717) (hf1 := fS HO717) (w := _) (h := A5.out)) ?_; intro w39 _ _ _ HI40) | ((with_reducible refine gate_callee (f := 161) rfl ?_); refine gK1 (some 30) Tryz.func161 (spec_l2DrawList.calls (hI := iS188 HI40) (hB := UpW.out) (w := _) (h := A6.out)) ?_; intro Ao722 co722 w41 _ _ _ HI42 HO723))
 refine sB [gb696, gb697] spec_DrawBlockNew.tab8 spec_DrawBlockNew.bits8 ?_; intro w43 _ HT_ HW_
 refine tB 0 (some 36) (bz 8 1) HT_ HW_ ?_
 refine tB 1 (some 37) (bz 8 3) HT_ HW_ ?_
 refine pA 2 (some 38) (bz 8 7) HT_ ?_
 refine pA 3 (some 39) (bz 8 15) HT_ ?_
 refine o1 4 none (bz 8 31) HT_ rfl (kS ?_)
 refine o1 5 none (bz 8 63) HT_ rfl (kS ?_)
 refine pA 6 (some 4) (bz 8 127) HT_ ?_
 refine pA 7 (some 5) (bz 8 255) HT_ ?_
 refine done_ (done_of HT_.out (by kernel_rfl)) ?_
 try go_wp2
 refine bodyPost_ret (results_list (rs := [.cell 2 32, .cell 3 27, .tmp 4, .tmp 5]) rfl (by simp) (.cell gb696 32 #[.int .i64 t702, .int .i64 t703] (0, 0) _ rfl xB Tryz.underlying32 rfl (by kernel_rfl) (.cell gb697 27 #[.int .i64 t707, .string t708, .slice Ao710 t709.length co710] (0, 0) _ rfl xB Tryz.underlying27 rfl (by kernel_rfl) (.tmp (.tmp .nil))))) rfl ?_
 exact ⟨_, _, y0_18, rR HO711, rR HO723, UpW.out⟩

/-! ### slices_Equal_int_int: function 155 -/
def slices_Equal_int_int.l0 : Nat → List Int → List Int → Int → Int → Option (Bool)
 | 0, _, _, _, _ => none
 | k + 1, x0, x1, x12, x13 => if x13 < x12 then (if 0 ≤ x13 then (if x13 < (x0.length : Int) then (if x13 < (x1.length : Int) then (if (rd x0 x13) = (rd x1 x13) then (slices_Equal_int_int.l0 k x0 x1 x12 (wrap64 (x13 + 1))) else (some false)) else (none)) else (none)) else (none)) else (some true)
def slices_Equal_int_int.f (k : Nat) (l0 : List Int) (l1 : List Int) : Option (Bool) := if (l0.length : Int) = (l1.length : Int) then (slices_Equal_int_int.l0 k l0 l1 (l0.length : Int) 0) else (some false)
theorem slices_Equal_int_int.mono_l : ∀ k, (∀ y0 y1 y2 y3, LeO (slices_Equal_int_int.l0 k y0 y1 y2 y3) (slices_Equal_int_int.l0 (k + 1) y0 y1 y2 y3))
 | 0 => fun _ _ _ _ r h => by simp [slices_Equal_int_int.l0] at h
 | k + 1 => by
  have ih0 := slices_Equal_int_int.mono_l k
  intro y0 y1 y2 y3
  unfold slices_Equal_int_int.l0
  repeat' first | (with_reducible exact ih0 _ _ _ _) | (with_reducible exact LeO.refl _) | (with_reducible exact LeO.none _) | (with_reducible refine LeO.ite ?_ ?_) | (with_reducible refine LeO.bind ?_ (fun _ => ?_))
theorem slices_Equal_int_int.mono : ∀ a0 a1 k, LeO (slices_Equal_int_int.f k a0 a1) (slices_Equal_int_int.f (k + 1) a0 a1) := by
 intro a0 a1 k
 have ih0 := slices_Equal_int_int.mono_l k
 unfold slices_Equal_int_int.f
 repeat' first | (with_reducible exact ih0 _ _ _ _) | (with_reducible exact LeO.refl _) | (with_reducible exact LeO.none _) | (with_reducible refine LeO.ite ?_ ?_) | (with_reducible refine LeO.bind ?_ (fun _ => ?_))
set_option maxHeartbeats 8000000 in
set_option maxRecDepth 100000 in
theorem slices_Equal_int_int.calls (k : Nat) (A0 : Option Addr) (c0 : Nat) (l0 : List Int) (A1 : Option Addr) (c1 : Nat) (l1 : List Int) (r : Bool) (w : World) (hr0 : Kd.C (Kd.int .i64) w A0 l0.length l0) (hc0 : l0.length ≤ c0) (hr1 : Kd.C (Kd.int .i64) w A1 l1.length l1) (hc1 : l1.length ≤ c1) (h : slices_Equal_int_int.f k l0 l1 = some r) :
  Calls Tryz.prog 155 #[.slice A0 l0.length c0, .slice A1 l1.length c1] w fun e w' => e = .returned (.bool r) ∧ Drawn0 w w' := by
 have HR0 := Aside0.mk hr0; have HC0 := Aside0.mk hc0; clear hr0 hc0; have HR1 := Aside0.mk hr1; have HC1 := Aside0.mk hc1; clear hr1 hc1; have H : (if (l0.length : Int) = (l1.length : Int) then (slices_Equal_int_int.l0 k l0 l1 (l0.length : Int) 0) else (some false)) = some r := h; clear h
 by_cases c3 : (l0.length : Int) = (l1.length : Int)
 ·
  rw [if_pos c3] at H
  have c3b0 : ((l0.length : Int) == (l1.length : Int)) = true := beq_iff_eq.mpr c3; have c3b1 : ((l0.length : Int) != (l1.length : Int)) = false := bne_eq_false_iff_eq.mpr c3
  have c3b2 : (l0.length == l1.length) = true := by first | simpa using c3 | (simp at c3 ⊢; omega)
  clear c3; have H' := Aside0.mk H; clear H
  go_enter Tryz.func155, Tryz.ntmps155
  go_wp2
  repeat (go_quiet (fail); try go_wp2)
  go_loopg [13] k (fun kq v13 w' => ∃ (x13_1 : Int), v13 = .int .i64 x13_1 ∧ Aside0 (slices_Equal_int_int.l0 kq l0 l1 (l0.length : Int) x13_1 = some r) ∧ Aside0 (kq ≤ k) ∧ Drawn0 w w')
  case atStart => exact ⟨(0), y0_18, H', ⟨Nat.le_refl _⟩, y0_16⟩
  case round =>
   clear H'
   try clear c1
   try clear p2
   try clear c3
   try clear c3b0
   try clear c3b1
   try clear c3b2
   obtain ⟨x13_1, rfl, HA, HK1, ⟨m1, rfl⟩⟩ := hrel; cases gk with
   | zero => exact absurd HA.out (by simp [slices_Equal_int_int.l0])
   | succ k1 =>
    have H := HA.out; clear HA
    simp only [slices_Equal_int_int.l0] at H
    by_cases c4 : x13_1 < (l0.length : Int)
    ·
     rw [if_pos c4] at H
     have c4b0 : decide (x13_1 < (l0.length : Int)) = true := decide_eq_true c4; clear c4
     by_cases c5 : 0 ≤ x13_1
     rotate_left
     ·
      rw [if_neg c5] at H
      exact absurd H (by simp)
     rw [if_pos c5] at H
     have c5b0 : decide (0 ≤ x13_1) = true := decide_eq_true c5; clear c5
     by_cases c6 : x13_1 < (l0.length : Int)
     rotate_left
     ·
      rw [if_neg c6] at H
      exact absurd H (by simp)
     rw [if_pos c6] at H
     have c6b0 : decide (x13_1 < (l0.length : Int)) = true := decide_eq_true c6; clear c6
     by_cases c7 : x13_1 < (l1.length : Int)
     rotate_left
     ·
      rw [if_neg c7] at H
      exact absurd H (by simp)
     rw [if_pos c7] at H
     have c7b0 : decide (x13_1 < (l1.length : Int)) = true := decide_eq_true c7; clear c7
     by_cases c8 : (rd l0 x13_1) = (rd l1 x13_1)
     ·
      rw [if_pos c8] at H
      have c8b0 : ((rd l0 x13_1) == (rd l1 x13_1)) = true := beq_iff_eq.mpr c8; have c8b1 : ((rd l0 x13_1) != (rd l1 x13_1)) = false := bne_eq_false_iff_eq.mpr c8; clear c8; have H' := Aside0.mk H; clear H; have p729 : 0 ≤ (x13_1 : Int) := of_decide_eq_true y0_17; have q729 : x13_1 < (l0.length : Int) := of_decide_eq_true y0_17; obtain ⟨ad729, e729, hx729_0⟩ := Kd.at_int HR0.out x13_1 p729 q729; cases e729; replace p729 := eq_true p729; replace q729 := eq_true q729; have p730 : 0 ≤ (x13_1 : Int) := of_decide_eq_true y0_17; have q730 : x13_1 < (l1.length : Int) := of_decide_eq_true y0_17; obtain ⟨ad730, e730, hx730_0⟩ := Kd.at_int HR1.out x13_1 p730 q730; cases e730; replace p730 := eq_true p730; replace q730 := eq_true q730
      go_wp2
      repeat (go_quiet (fail); try go_wp2)
      go_roundg k1
      case measure => have := HK1.out; omega
      case rel => exact ⟨(wrap64 (x13_1 + 1)), y0_18, H', ⟨y0_21⟩, y0_16⟩
     rw [if_neg c8] at H
     have c8b0 : ((rd l0 x13_1) == (rd l1 x13_1)) = false := beq_eq_false_iff_ne.mpr c8; have c8b1 : ((rd l0 x13_1) != (rd l1 x13_1)) = true := bne_iff_ne.mpr c8; obtain rfl := Option.some.inj H; have p729 : 0 ≤ (x13_1 : Int) := of_decide_eq_true y0_17; have q729 : x13_1 < (l0.length : Int) := of_decide_eq_true y0_17; obtain ⟨ad729, e729, hx729_0⟩ := Kd.at_int HR0.out x13_1 p729 q729; cases e729; replace p729 := eq_true p729; replace q729 := eq_true q729; have p730 : 0 ≤ (x13_1 : Int) := of_decide_eq_true y0_17; have q730 : x13_1 < (l1.length : Int) := of_decide_eq_true y0_17; obtain ⟨ad730, e730, hx730_0⟩ := Kd.at_int HR1.out x13_1 p730 q730; cases e730; replace p730 := eq_true p730; replace q730 := eq_true q730
     go_wp2
     repeat (go_quiet (fail); try go_wp2)
     go_ret
     exact ⟨y0_18, y0_16⟩
    rw [if_neg c4] at H
    have c4b0 : decide (x13_1 < (l0.length : Int)) = false := decide_eq_false c4; clear c4; obtain rfl := Option.some.inj H
    go_wp2
    repeat (go_quiet (fail); try go_wp2)
    go_ret
    exact ⟨y0_18, y0_16⟩
 rw [if_neg c3] at H
 have c3b0 : ((l0.length : Int) == (l1.length : Int)) = false := beq_eq_false_iff_ne.mpr c3; have c3b1 : ((l0.length : Int) != (l1.length : Int)) = true := bne_iff_ne.mpr c3
 have c3b2 : (l0.length == l1.length) = false := by first | simpa using c3 | (simp at c3 ⊢; omega)
 obtain rfl := Option.some.inj H
 go_enter Tryz.func155, Tryz.ntmps155
 go_wp2
 repeat (go_quiet (fail); try go_wp2)
 go_ret
 exact ⟨y0_18, y0_16⟩

/-! ### impl_QcSame: function 63 -/
def impl_QcSame.f (k : Nat) (a0_0 : Int) (a0_1 : ByteArray) (l0_2 : List Int) (a1_0 : Int) (a1_1 : ByteArray) (l1_2 : List Int) : Option (Bool) := if a0_0 = a1_0 then (if a0_1.toList = a1_1.toList then ((slices_Equal_int_int.f k l0_2 l1_2).bind fun t733 => (some t733)) else (some false)) else (some false)
theorem impl_QcSame.mono : ∀ a0 a1 a2 a3 a4 a5 k, LeO (impl_QcSame.f k a0 a1 a2 a3 a4 a5) (impl_QcSame.f (k + 1) a0 a1 a2 a3 a4 a5) := by
 intro a0 a1 a2 a3 a4 a5 k
 unfold impl_QcSame.f
 repeat' first | (with_reducible exact slices_Equal_int_int.mono _ _ _) | (with_reducible exact LeO.refl _) | (with_reducible exact LeO.none _) | (with_reducible refine LeO.ite ?_ ?_) | (with_reducible refine LeO.bind ?_ (fun _ => ?_))
set_option maxHeartbeats 8000000 in
set_option maxRecDepth 100000 in
theorem impl_QcSame.calls (k : Nat) (a0_0 : Int) (a0_1 : ByteArray) (A0_2 : Option Addr) (c0_2 : Nat) (l0_2 : List Int) (a1_0 : Int) (a1_1 : ByteArray) (A1_2 : Option Addr) (c1_2 : Nat) (l1_2 : List Int) (r : Bool) (w : World) (hr0_2 : Kd.C (Kd.int .i64) w A0_2 l0_2.length l0_2) (hc0_2 : l0_2.length ≤ c0_2) (hr1_2 : Kd.C (Kd.int .i64) w A1_2 l1_2.length l1_2) (hc1_2 : l1_2.length ≤ c1_2) (h : impl_QcSame.f k a0_0 a0_1 l0_2 a1_0 a1_1 l1_2 = some r) :
  Calls Tryz.prog 63 #[.agg #[.int .i64 a0_0, .string a0_1, .slice A0_2 l0_2.length c0_2], .agg #[.int .i64 a1_0, .string a1_1, .slice A1_2 l1_2.length c1_2]] w fun e w' => e = .returned (.bool r) ∧ Below w.heap.size w w' := by
 have hu27 := Tryz.underlying27; have HR0_2 := Aside0.mk hr0_2; have HC0_2 := Aside0.mk hc0_2; clear hr0_2 hc0_2; have HR1_2 := Aside0.mk hr1_2; have HC1_2 := Aside0.mk hc1_2; clear hr1_2 hc1_2; have HB := Aside0.mk (Below.refl w.heap.size w)
 have H : (if a0_0 = a1_0 then (if a0_1.toList = a1_1.toList then ((slices_Equal_int_int.f k l0_2 l1_2).bind fun t733 => (some t733)) else (some false)) else (some false)) = some r := h
 clear h
 by_cases c3 : a0_0 = a1_0
 ·
  rw [if_pos c3] at H
  have c3b0 : (a0_0 == a1_0) = true := beq_iff_eq.mpr c3; have c3b1 : (a0_0 != a1_0) = false := bne_eq_false_iff_eq.mpr c3; clear c3
  by_cases c4 : a0_1.toList = a1_1.toList
  ·
   rw [if_pos c4] at H
   have c4b0 : (a0_1.toList == a1_1.toList) = true := beq_iff_eq.mpr c4; have c4b1 : (a0_1.toList != a1_1.toList) = false := bne_eq_false_iff_eq.mpr c4; clear c4; obtain ⟨t733, A50, H⟩ := Option.bind_eq_some_iff.mp H
   try dsimp only at H
   have A5 := Aside0.mk A50; clear A50; obtain rfl := Option.some.inj H
   go_enter Tryz.func63, Tryz.ntmps63
   go_wp2_with (first | ((with_reducible refine gd 2 ?_); refine bL 2 #[.int .i64 a0_0, .string a0_1, .slice A0_2 l0_2.length c0_2] 27 ?_; intro gb731 w6 _ _ _) | ((with_reducible refine gd 3 ?_); refine bL 3 #[.int .i64 a1_0, .string a1_1, .slice A1_2 l1_2.length c1_2] 27 ?_; intro gb732 w7 _ _ _) | (go_at_call 155; refine aD (slices_Equal_int_int.calls (hr0 := pC HR0_2) (hc0 := HC0_2.out) (hr1 := pC HR1_2) (hc1 := HC1_2.out) (w := _) (h := A5.out)) ?_; intro w8 _))
   go_ret
   exact ⟨y0_18, UpW.out⟩
  rw [if_neg c4] at H
  have c4b0 : (a0_1.toList == a1_1.toList) = false := beq_eq_false_iff_ne.mpr c4; have c4b1 : (a0_1.toList != a1_1.toList) = true := bne_iff_ne.mpr c4; obtain rfl := Option.some.inj H
  go_enter Tryz.func63, Tryz.ntmps63
  go_wp2_with (first | ((with_reducible refine gd 2 ?_); refine bL 2 #[.int .i64 a0_0, .string a0_1, .slice A0_2 l0_2.length c0_2] 27 ?_; intro gb731 w9 _ _ _) | ((with_reducible refine gd 3 ?_); refine bL 3 #[.int .i64 a1_0, .string a1_1, .slice A1_2 l1_2.length c1_2] 27 ?_; intro gb732 w10 _ _ _))
  go_ret
  exact ⟨y0_18, UpW.out⟩
 rw [if_neg c3] at H
 have c3b0 : (a0_0 == a1_0) = false := beq_eq_false_iff_ne.mpr c3; have c3b1 : (a0_0 != a1_0) = true := bne_iff_ne.mpr c3; obtain rfl := Option.some.inj H
 go_enter Tryz.func63, Tryz.ntmps63
 go_wp2_with (first | ((with_reducible refine gd 2 ?_); refine bL 2 #[.int .i64 a0_0, .string a0_1, .slice A0_2 l0_2.length c0_2] 27 ?_; intro gb731 w11 _ _ _) | ((with_reducible refine gd 3 ?_); refine bL 3 #[.int .i64 a1_0, .string a1_1, .slice A1_2 l1_2.length c1_2] 27 ?_; intro gb732 w12 _ _ _))
 go_ret
 exact ⟨y0_18, UpW.out⟩

end Go.Proofs.YtnpbopadajbopaaGreatDoor.PFnBlocks
