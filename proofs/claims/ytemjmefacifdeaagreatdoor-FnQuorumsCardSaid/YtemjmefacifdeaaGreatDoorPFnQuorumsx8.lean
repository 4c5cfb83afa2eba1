-- By a program of this session, out of the translation (the print of the kit, with turns of its own). Lean checks it.
import Derived.Test.YtemjmefacifdeaaGreatDoorPFnQuorumsx0
import Derived.Test.YtemjmefacifdeaaGreatDoorPFnQuorumsx2
import Derived.Test.YtemjmefacifdeaaGreatDoorPFnQuorumsx5
import Derived.Test.YtemjmefacifdeaaGreatDoorPFnQuorumsx7
namespace Go.Proofs.YtemjmefacifdeaaGreatDoor.PFnQuorums
open Go.RowKit Go.Proofs.YtemjmefacifdeaaGreatDoorW.PrintWords Go.Proofs.YtemjmefacifdeaaGreatDoorW.PrintLast Go.Proofs.YtemjmefacifdeaaGreatDoorW.PrintMore
attribute [local go_sem] max2_int min2_int max_two min_two max_three min_three max_four min_four   -- for this text's walks alone
attribute [local go_sem] cell_in frozen_in
set_option synthInstance.maxSize 1000000
set_option synthInstance.maxHeartbeats 2000000
set_option linter.unusedVariables false
set_option linter.unusedSimpArgs false

/-! ### spec_l7DrawBent: function 94 -/
def spec_l7DrawBent.f (s0_0 : List Int) (s0_1 : Int) (s0_2 : Int) : Option (Int × Int × Int × Int) := (spec_l7DrawConf.f s0_0 s0_1 s0_2).bind fun bt483 => ((spec_l1Below.f s0_0 bt483.2.2.1 bt483.2.2.2 12).bind fun bt488 => (if bt488.1 = 0 then ((spec_l1PickInt.f s0_0 bt488.2.1 bt488.2.2 (([0, 3, 8, (-1)] : List Int))).bind fun bt494 => (some (bt494.1, bt483.2.1, bt494.2.1, bt494.2.2))) else (if bt488.1 = 1 then ((spec_l1PickInt.f s0_0 bt488.2.1 bt488.2.2 (([0, 6, 7] : List Int))).bind fun bt500 => (some (bt483.1, bt500.1, bt500.2.1, bt500.2.2))) else (some (bt483.1, bt483.2.1, bt488.2.1, bt488.2.2)))))
set_option maxHeartbeats 8000000 in
set_option maxRecDepth 100000 in
theorem spec_l7DrawBent.calls (g : Nat) (s0_0 : List Int) (s0_1 : Int) (s0_2 : Int) (r1 : Int) (r2 : Int) (r3 : Int) (r4 : Int) (w0 w : World) (hI : IsS124 w0 w g s0_0 s0_1 s0_2) (hB : Below w0.heap.size w0 w) (h : spec_l7DrawBent.f s0_0 s0_1 s0_2 = some (r1, r2, r3, r4)) :
  Calls Tryz.prog 94 #[.pointer (some ⟨g, 0, none⟩)] w fun e w' => e = .returned (.agg #[.int .i64 r1, .int .i64 r2]) ∧ IsS124 w0 w' g s0_0 r3 r4 ∧ Below w0.heap.size w0 w' ∧ KeepBut w w' g none := by
 have hu38 := Tryz.underlying38; have HI0 := Aside0.mk hI; have HK := Aside0.mk (KeepBut.refl w g none); have HL := Aside0.mk hB.size; clear hI; have HW0 := Aside0.mk hB.size; have HB := Aside0.mk hB; clear hB
 have H := h; unfold spec_l7DrawBent.f at H
 clear h; obtain ⟨⟨t483, t484, t485, t486⟩, A2, H⟩ := oB H; (try dsimp only at H); obtain ⟨⟨t488, t489, t490⟩, A3, H⟩ := oB H; (try dsimp only at H); have i0_ := iB124 HI0; have i1_ : LB w0 w := ⟨HB.out⟩
 go_enter Tryz.func94, Tryz.ntmps94
 have H' := Aside0.mk H; clear H
 go_upto_if 8 with (first | ((with_reducible refine gd 2 ?_); refine bL 2 #[.int .i64 0, .int .i64 0] 38 ?_; intro gb482 w4 _ _ _) | ((with_reducible refine gate_callee (f := 87) rfl ?_); refine gK (some 5) Tryz.func87 (spec_l7DrawConf.calls (hI := iS124 HI0) (hB := UpW.out) (w := _) (h := A2.out)) ?_; intro w5 _ _ _ HI6) | ((with_reducible refine gd 3 ?_); refine bL 3 #[.int .i64 0, .int .i64 0] 38 ?_; intro gb487 w7 _ _ _) | ((with_reducible refine gate_callee (f := 114) rfl ?_); refine gK (some 7) Tryz.func114 (spec_l1Below.calls (hI := iS124 HI6) (hB := UpW.out) (w := _) (h := A3.out)) ?_; intro w8 _ _ _ HI9))
 have H := H'.out; clear H'
 by_cases c10 : t488 = 0
 ·
  rw [if_pos c10] at H
  have c10b0 : (t488 == 0) = true := beq_iff_eq.mpr c10; have c10b1 : (t488 != 0) = false := bne_eq_false_iff_eq.mpr c10; clear c10
  (first | rw [c10b0] | (simp only [i64_w, i32_w]; rw [c10b0]) | skip)
  obtain ⟨y491, hy491⟩ : ∃ y_ : List Int, y_ = (([0, 3, 8, (-1)] : List Int)) := ⟨_, rfl⟩
  replace H : ((spec_l1PickInt.f s0_0 t489 t490 y491).bind fun bt494 => (some (bt494.1, t484, bt494.2.1, bt494.2.2))) = some (r1, r2, r3, r4) := by first | (rw [hy491]; with_reducible exact H) | (have H2_ := (Option.bind_some _ _).symm.trans H; rw [hy491]; with_reducible exact H2_) | (have H2_ := (Option.bind_some _ _).symm.trans H; with_reducible exact H2_) | with_reducible exact H | (rw [hy491]; exact H) | exact H
  have Ny491 := Aside0.mk hy491; clear hy491; obtain ⟨⟨t494, t495, t496⟩, A11, H⟩ := oB H; (try dsimp only at H)
  simp only [Option.some.injEq, Prod.mk.injEq] at H
  obtain ⟨rfl, rfl, rfl, rfl⟩ := H
  go_wp2_with (first | ((with_reducible refine gate_dst (N := 11) rfl ?_); refine lL 11 3 (Kd.int .i64) rfl Ny491 ?_; intro Ao492 co492 w12 _ HO493) | ((with_reducible refine gate_callee (f := 116) rfl ?_); refine gK (some 12) Tryz.func116 (spec_l1PickInt.calls (hI := iS124 HI9) (hB := UpW.out) (hr1 := rC HO493) (hc1 := rL HO493) (hf1 := fS HO493) (w := _) (h := A11.out)) ?_; intro w13 _ _ _ HI14))
  refine bodyPost_ret (results_cell_row rfl _ _ gb482 38 #[.int .i64 t494, .int .i64 t484] (0, 0) _ rfl xB Tryz.underlying38 rfl (by kernel_rfl)) rfl ?_
  exact ⟨y0_15, iS124 HI14, UpW.out, UpB.out⟩
 rw [if_neg c10] at H
 have c10b0 : (t488 == 0) = false := beq_eq_false_iff_ne.mpr c10; have c10b1 : (t488 != 0) = true := bne_iff_ne.mpr c10
 (first | rw [c10b0] | (simp only [i64_w, i32_w]; rw [c10b0]) | skip)
 by_cases c15 : t488 = 1
 ·
  rw [if_pos c15] at H
  have c15b0 : (t488 == 1) = true := beq_iff_eq.mpr c15; have c15b1 : (t488 != 1) = false := bne_eq_false_iff_eq.mpr c15; clear c15; obtain ⟨y497, hy497⟩ : ∃ y_ : List Int, y_ = (([0, 6, 7] : List Int)) := ⟨_, rfl⟩
  replace H : ((spec_l1PickInt.f s0_0 t489 t490 y497).bind fun bt500 => (some (t483, bt500.1, bt500.2.1, bt500.2.2))) = some (r1, r2, r3, r4) := by first | (rw [hy497]; with_reducible exact H) | (have H2_ := (Option.bind_some _ _).symm.trans H; rw [hy497]; with_reducible exact H2_) | (have H2_ := (Option.bind_some _ _).symm.trans H; with_reducible exact H2_) | with_reducible exact H | (rw [hy497]; exact H) | exact H
  have Ny497 := Aside0.mk hy497; clear hy497; obtain ⟨⟨t500, t501, t502⟩, A16, H⟩ := oB H; (try dsimp only at H)
  simp only [Option.some.injEq, Prod.mk.injEq] at H
  obtain ⟨rfl, rfl, rfl, rfl⟩ := H
  go_wp2_with (first | ((with_reducible refine gate_dst (N := 17) rfl ?_); refine lL 17 3 (Kd.int .i64) rfl Ny497 ?_; intro Ao498 co498 w17 _ HO499) | ((with_reducible refine gate_callee (f := 116) rfl ?_); refine gK (some 18) Tryz.func116 (spec_l1PickInt.calls (hI := iS124 HI9) (hB := UpW.out) (hr1 := rC HO499) (hc1 := rL HO499) (hf1 := fS HO499) (w := _) (h := A16.out)) ?_; intro w18 _ _ _ HI19))
  refine bodyPost_ret (results_cell_row rfl _ _ gb482 38 #[.int .i64 t483, .int .i64 t500] (0, 0) _ rfl xB Tryz.underlying38 rfl (by kernel_rfl)) rfl ?_
  exact ⟨y0_15, iS124 HI19, UpW.out, UpB.out⟩
 rw [if_neg c15] at H
 have c15b0 : (t488 == 1) = false := beq_eq_false_iff_ne.mpr c15; have c15b1 : (t488 != 1) = true := bne_iff_ne.mpr c15
 simp only [Option.some.injEq, Prod.mk.injEq] at H
 obtain ⟨rfl, rfl, rfl, rfl⟩ := H
 go_wp2
 refine bodyPost_ret (results_cell_row rfl _ _ gb482 38 #[.int .i64 t483, .int .i64 t484] (0, 0) _ rfl xB Tryz.underlying38 rfl (by kernel_rfl)) rfl ?_
 exact ⟨y0_15, iS124 HI9, UpW.out, UpB.out⟩

/-! ### spec_DrawQcOk: function 47 -/
def spec_DrawQcOk.f (k : Nat) (l0 : List Int) : Option (Int × Int × Int × ByteArray × List Int) := (spec_l1New.f k l0).bind fun bt505 => ((spec_l7DrawConf.f bt505.1 bt505.2.1 bt505.2.2).bind fun bt509 => ((spec_l7Draw.f k bt505.1 bt509.2.2.1 bt509.2.2.2 bt509.1 bt509.2.1).bind fun bt514 => ((spec_l1Once.f bt505.1 bt514.2.2.2.1 bt514.2.2.2.2 10).bind fun bt522 => (if bt522.1 = true then ((spec_l7DrawBent.f bt505.1 bt522.2.1 bt522.2.2).bind fun bt525 => (some (bt525.1, bt525.2.1, bt514.1, bt514.2.1, bt514.2.2.1))) else (some (bt509.1, bt509.2.1, bt514.1, bt514.2.1, bt514.2.2.1))))))
theorem spec_DrawQcOk.mono : ∀ a0 k, LeO (spec_DrawQcOk.f k a0) (spec_DrawQcOk.f (k + 1) a0) := by
 intro a0 k
 unfold spec_DrawQcOk.f
 repeat' first | (with_reducible exact spec_l1New.mono _ _) | (with_reducible exact spec_l7Draw.mono _ _ _ _ _ _) | (with_reducible exact LeO.refl _) | (with_reducible exact LeO.none _) | (with_reducible refine LeO.ite ?_ ?_) | (with_reducible refine LeO.bind ?_ (fun _ => ?_))
def spec_DrawQcOk.T6 : Bool × List (List Nat × List Nat) := (true, [([], []), ([], []), ([0, 0], [0]), ([1, 2, 0, 1, 2], [1])])
def spec_DrawQcOk.B6 : List Nat := [0, 0, 1, 7]
theorem spec_DrawQcOk.tab6 : rtab .any (opsOf Tryz.f47 6) = spec_DrawQcOk.T6 := by kernel_rfl
theorem spec_DrawQcOk.bits6 : waitsOk spec_DrawQcOk.T6.2 spec_DrawQcOk.B6 = true := by kernel_rfl
set_option maxHeartbeats 8000000 in
set_option maxRecDepth 100000 in
theorem spec_DrawQcOk.calls (k : Nat) (A0 : Option Addr) (c0 : Nat) (l0 : List Int) (r1 : Int) (r2 : Int) (r3 : Int) (r4 : ByteArray) (r5 : List Int) (w : World) (hr0 : Kd.C (Kd.int .u8) w A0 l0.length l0) (hc0 : l0.length ≤ c0) (h : spec_DrawQcOk.f k l0 = some (r1, r2, r3, r4, r5)) :
  Calls Tryz.prog 47 #[.slice A0 l0.length c0] w fun e w' => ∃ v4_ : Value, e = .returned (.tuple #[.agg #[.int .i64 r1, .int .i64 r2], .agg #[.int .i64 r3, .string r4, v4_]]) ∧ Kd.R (Kd.int .i64) 3 w' w.heap.size (fun _ => True) v4_ r5 ∧ Below w.heap.size w w' := by
 have hu38 := Tryz.underlying38; have hu33 := Tryz.underlying33; have HR0 := Aside0.mk hr0; have HC0 := Aside0.mk hc0; clear hr0 hc0; have HB := Aside0.mk (Below.refl w.heap.size w)
 have H := h; unfold spec_DrawQcOk.f at H
 clear h; obtain ⟨⟨t505, t506, t507⟩, A2, H⟩ := oB H; (try dsimp only at H); obtain ⟨⟨t509, t510, t511, t512⟩, A3, H⟩ := oB H; (try dsimp only at H); obtain ⟨⟨t514, t515, t516, t519, t520⟩, A4, H⟩ := oB H; (try dsimp only at H); obtain ⟨⟨t522, t523, t524⟩, A5, H⟩ := oB H; (try dsimp only at H)
 go_enter Tryz.func47, Tryz.ntmps47
 have H' := Aside0.mk H; clear H
 go_upto_if 15 with (first | ((with_reducible refine gd 2 ?_); refine bL 2 #[.int .i64 0, .int .i64 0] 38 ?_; intro gb503 w6 _ _ _) | ((with_reducible refine gd 3 ?_); refine bL 3 #[.int .i64 0, .string (⟨#[]⟩ : ByteArray), .slice none 0 0] 33 ?_; intro gb504 w7 _ _ _) | ((with_reducible refine gate_callee (f := 86) rfl ?_); refine wL ?_; intro w8 _; refine gN (some 8) Tryz.func86 (spec_l1New.calls (hB := Below.refl _ _) (hr0 := pC HR0) (hc0 := HC0.out) (w := _) (h := A2.out)) ?_; intro g508 w9 _ _ _ HI10) | ((with_reducible refine gate_callee (f := 87) rfl ?_); refine gK (some 10) Tryz.func87 (spec_l7DrawConf.calls (hI := iS124 HI10) (hB := UpW.out) (w := _) (h := A3.out)) ?_; intro w11 _ _ _ HI12) | ((with_reducible refine gd 5 ?_); refine bL 5 #[.int .i64 0, .int .i64 0] 38 ?_; intro gb513 w13 _ _ _) | ((with_reducible refine gate_callee (f := 91) rfl ?_); refine gK1 (some 13) Tryz.func91 (spec_l7Draw.calls (hI := iS124 HI12) (hB := UpW.out) (w := _) (h := A4.out)) ?_; intro Ao517 co517 w14 _ _ _ HI15 HO518) | ((with_reducible refine gd 6 ?_); refine bL 6 #[.int .i64 0, .string (⟨#[]⟩ : ByteArray), .slice none 0 0] 33 ?_; intro gb521 w16 _ _ _) | ((with_reducible refine gate_callee (f := 93) rfl ?_); refine gK (some 15) Tryz.func93 (spec_l1Once.calls (hI := iS124 HI15) (hB := UpW.out) (w := _) (h := A5.out)) ?_; intro w17 _ _ _ HI18))
 have H := H'.out; clear H'
 by_cases c19 : t522 = true
 ·
  subst c19
  rw [if_pos rfl] at H
  obtain ⟨⟨t525, t526, t527, t528⟩, A20, H⟩ := oB H; (try dsimp only at H)
  simp only [Option.some.injEq, Prod.mk.injEq] at H
  obtain ⟨rfl, rfl, rfl, rfl, rfl⟩ := H
  try go_wp2_with (first | ((with_reducible refine gate_callee (f := 94) rfl ?_); refine gK (some 17) Tryz.func94 (spec_l7DrawBent.calls (hI := iS124 HI18) (hB := UpW.out) (w := _) (h := A20.out)) ?_; intro w21 _ _ _ HI22))
  refine sB [gb503, gb504] spec_DrawQcOk.tab6 spec_DrawQcOk.bits6 ?_; intro w23 _ HT_ HW_
  refine tB 0 (some 18) (bz 4 1) HT_ HW_ ?_
  refine tB 1 (some 19) (bz 4 3) HT_ HW_ ?_
  refine o1 2 none (bz 4 7) HT_ rfl (kS ?_)
  refine o1 3 none (bz 4 15) HT_ rfl (kS ?_)
  refine done_ (done_of HT_.out (by kernel_rfl)) ?_
  try go_wp2
  refine bodyPost_ret (results_cc rfl _ _ gb503 gb504 38 33 #[.int .i64 t525, .int .i64 t526] #[.int .i64 t514, .string t515, .slice Ao517 t516.length co517] (0, 0) (0, 0) _ _ rfl xB Tryz.underlying38 rfl (by kernel_rfl) rfl xB Tryz.underlying33 rfl (by kernel_rfl)) rfl ?_
  exact ⟨_, y0_15, rR HO518, UpW.out⟩
 replace c19 := Bool.eq_false_iff.mpr c19; subst c19
 rw [if_neg (show ¬ (false = true) by decide)] at H
 simp only [Option.some.injEq, Prod.mk.injEq] at H
 obtain ⟨rfl, rfl, rfl, rfl, rfl⟩ := H
 try go_wp2
 refine sB [gb503, gb504] spec_DrawQcOk.tab6 spec_DrawQcOk.bits6 ?_; intro w24 _ HT_ HW_
 refine tB 0 (some 18) (bz 4 1) HT_ HW_ ?_
 refine tB 1 (some 19) (bz 4 3) HT_ HW_ ?_
 refine o1 2 none (bz 4 7) HT_ rfl (kS ?_)
 refine o1 3 none (bz 4 15) HT_ rfl (kS ?_)
 refine done_ (done_of HT_.out (by kernel_rfl)) ?_
 try go_wp2
 refine bodyPost_ret (results_cc rfl _ _ gb503 gb504 38 33 #[.int .i64 t509, .int .i64 t510] #[.int .i64 t514, .string t515, .slice Ao517 t516.length co517] (0, 0) (0, 0) _ _ rfl xB Tryz.underlying38 rfl (by kernel_rfl) rfl xB Tryz.underlying33 rfl (by kernel_rfl)) rfl ?_
 exact ⟨_, y0_15, rR HO518, UpW.out⟩

/-! ### impl_within: function 99 -/
def impl_within.f (a0 : Int) (a1 : Int) (a2 : Int) : Option (Bool) := if a0 ≥ a1 then (some (decide (a0 ≤ a2))) else (some false)
set_option maxHeartbeats 8000000 in
set_option maxRecDepth 100000 in
theorem impl_within.calls (a0 : Int) (a1 : Int) (a2 : Int) (r : Bool) (w : World) (h : impl_within.f a0 a1 a2 = some r) :
  Calls Tryz.prog 99 #[.int .i64 a0, .int .i64 a1, .int .i64 a2] w fun e w' => e = .returned (.bool r) ∧ Drawn0 w w' := by
 have H := h; unfold impl_within.f at H; clear h
 by_cases c4 : a0 ≥ a1
 ·
  rw [if_pos c4] at H
  have c4b0 : decide (a1 ≤ a0) = true := decide_eq_true c4; clear c4; obtain rfl := Option.some.inj H
  go_enter Tryz.func99, Tryz.ntmps99
  go_wp2
  go_ret
  exact ⟨y0_15, y0_13⟩
 rw [if_neg c4] at H
 have c4b0 : decide (a1 ≤ a0) = false := decide_eq_false c4; clear c4; obtain rfl := Option.some.inj H
 go_enter Tryz.func99, Tryz.ntmps99
 go_wp2
 go_ret
 exact ⟨y0_15, y0_13⟩

/-! ### strings_Split: function 141 -/

/-! ### impl_Split: function 119 -/
def impl_Split.f (a0 : ByteArray) (a1 : Int) : Option (List ByteArray) := (strings_Split.f a0 (strOfNums (([a1] : List Int)))).bind fun t532 => (some t532)
set_option maxHeartbeats 8000000 in
set_option maxRecDepth 100000 in
theorem impl_Split.calls (a0 : ByteArray) (a1 : Int) (r : List ByteArray) (w : World) (h : impl_Split.f a0 a1 = some r) (hG : Glob w := by exact gG HG HB) :
  Calls Tryz.prog 119 #[.string a0, .int .u8 a1] w fun e w' => ∃ v0_ : Value, e = .returned (v0_) ∧ Kd.R Kd.string 9 w' w.heap.size (fun _ => True) v0_ r ∧ Below w.heap.size w w' := by
 have HG := Aside0.mk hG; clear hG; have HB := Aside0.mk (Below.refl w.heap.size w)
 have H := h; unfold impl_Split.f at H
 clear h; obtain ⟨y529, hy529⟩ : ∃ y_ : List Int, y_ = (([a1] : List Int)) := ⟨_, rfl⟩
 replace H : ((strings_Split.f a0 (strOfNums y529)).bind fun t532 => (some t532)) = some r := by first | (rw [hy529]; with_reducible exact H) | (have H2_ := (Option.bind_some _ _).symm.trans H; rw [hy529]; with_reducible exact H2_) | (have H2_ := (Option.bind_some _ _).symm.trans H; with_reducible exact H2_) | with_reducible exact H | (rw [hy529]; exact H) | exact H
 have Ny529 := Aside0.mk hy529; clear hy529; obtain ⟨t532, A3, H⟩ := oB H; (try dsimp only at H); obtain rfl := Option.some.inj H
 go_enter Tryz.func119, Tryz.ntmps119
 go_wp2_with (first | ((with_reducible refine gate_dst (N := 7) rfl ?_); refine Kd.R_lit (Kd.int .u8) _ 5 ?hg (N := 7) ?hd (xs := ([a1] : List Int)) (inner := [.int .u8 a1]) (ok := fun _ => True) (okp := fun _ => True) ?hr ?hp (fun _ hk => hk) trivial (Below.refl _ _) (Nat.le_refl _) (by simp) ?_; (case hd => rfl); (case hg => rfl); (case hr => first | (go_simp; done) | (go_simp; rfl)); (case hp => exact (Reps.one (show Kd.M (Kd.int .u8) _ _ _ a1 [.int .u8 a1] from rfl) (Reps.none _ _))); intro v530 w4 ho5 hb hg_ hnew_; clear hg_ hnew_; (first | rw [← Ny529.out] at ho5 | (simp only [Int.reduceToNat] at ho5; rw [← Ny529.out] at ho5)); have HO531 := Aside0.mk (Kd.R_lower ho5 (below_size (bI HB.out))); replace HB := bs HB hb; clear hb ho5; have hcv6 := own_string (P := Tryz.prog) Tryz.underlying64 Tryz.underlying5 Tryz.underlying9 (Kd.own_of_R HO531.out)) | ((with_reducible refine gate_callee (f := 141) rfl ?_); refine gB (some 9) Tryz.func141 #[.string a0, .string (strOfNums y529)] ?_; (with_reducible refine (strings_Split.calls a0 (strOfNums y529) t532 _ A3.out).mono ?_); rintro e w7 ⟨v533, rfl, ho0, hb⟩; refine ⟨_, rfl, ?_⟩; replace HO531 := rb HO531 hb; have HO534 := Aside0.mk (Kd.R_lower ho0 (below_size (bI HB.out))); replace HB := bs HB hb; (try clear hb); (try clear ho0)))
 go_ret
 exact ⟨_, y0_11, by (with_reducible repeat (first | apply Kd.R_alloc | apply Kd.R_drewN | apply Kd.R_drew)); exact HO534.out, bI HB.out⟩

/-! ### strings_Cut: function 120 -/

/-! ### strconv_Itoa_134: function 134 -/

/-! ### impl_Digits: function 111 -/
def impl_Digits.f (a0 : Int) : Option (ByteArray) := (strconv_Itoa_134.f a0).bind fun t535 => (some t535)
set_option maxHeartbeats 8000000 in
set_option maxRecDepth 100000 in
theorem impl_Digits.calls (a0 : Int) (r : ByteArray) (w : World) (h : impl_Digits.f a0 = some r) (hG : Glob w := by exact gG HG HB) :
  Calls Tryz.prog 111 #[.int .i64 a0] w fun e w' => e = .returned (.string r) ∧ Below w.heap.size w w' := by
 have HG := Aside0.mk hG; clear hG; have HB := Aside0.mk (Below.refl w.heap.size w)
 have H := h; unfold impl_Digits.f at H
 clear h; obtain ⟨t535, A2, H⟩ := oB H; (try dsimp only at H); obtain rfl := Option.some.inj H
 go_enter Tryz.func111, Tryz.ntmps111
 go_wp2_with (first | ((with_reducible refine gate_callee (f := 134) rfl ?_); refine gC (some 4) Tryz.func134 (strconv_Itoa_134.calls (w := _) (h := A2.out)) ?_; intro w3 _))
 go_ret
 exact ⟨y0_15, UpW.out⟩

/-! ### impl_Number: function 121 -/
mutual
def impl_Number.j0 : Nat → ByteArray → Bool → Option (Int × Bool)
 | 0, _, _ => none
 | k + 1, x0, x13 => if x13 = true then (some (0, false)) else (impl_Number.l0 k x0 0 0)
def impl_Number.l0 : Nat → ByteArray → Int → Int → Option (Int × Bool)
 | 0, _, _, _ => none
 | k + 1, x0, x4, x5 => if x5 < (x0.size : Int) then (if 0 ≤ x5 then (if (bt x0 x5) < 48 then (some (0, false)) else (if (bt x0 x5) > 57 then (some (0, false)) else (impl_Number.l0 k x0 (wrap64 ((wrap64 (10 * x4)) + (((bt x0 x5) - 48) % 256))) (wrap64 (x5 + 1))))) else (none)) else ((impl_Digits.f x4).bind fun t536 => (if t536.toList = x0.toList then (some (x4, true)) else (some (0, false))))
end
def impl_Number.f (k : Nat) (a0 : ByteArray) : Option (Int × Bool) := if (a0.size : Int) < 1 then (impl_Number.j0 k a0 true) else (impl_Number.j0 k a0 (decide ((a0.size : Int) > 6)))
theorem impl_Number.mono_l : ∀ k, (∀ y0 y1, LeO (impl_Number.j0 k y0 y1) (impl_Number.j0 (k + 1) y0 y1)) ∧ (∀ y0 y1 y2, LeO (impl_Number.l0 k y0 y1 y2) (impl_Number.l0 (k + 1) y0 y1 y2))
 | 0 => ⟨fun _ _ r h => by simp [impl_Number.j0] at h, fun _ _ _ r h => by simp [impl_Number.l0] at h⟩
 | k + 1 => by
  obtain ⟨ih0, ih1⟩ := impl_Number.mono_l k
  refine ⟨?_, ?_⟩
  ·
   intro y0 y1
   unfold impl_Number.j0
   repeat' first | (with_reducible exact ih0 _ _) | (with_reducible exact ih1 _ _ _) | (with_reducible exact LeO.refl _) | (with_reducible exact LeO.none _) | (with_reducible refine LeO.ite ?_ ?_) | (with_reducible refine LeO.bind ?_ (fun _ => ?_))
  intro y0 y1 y2
  unfold impl_Number.l0
  repeat' first | (with_reducible exact ih0 _ _) | (with_reducible exact ih1 _ _ _) | (with_reducible exact LeO.refl _) | (with_reducible exact LeO.none _) | (with_reducible refine LeO.ite ?_ ?_) | (with_reducible refine LeO.bind ?_ (fun _ => ?_))
theorem impl_Number.mono : ∀ a0 k, LeO (impl_Number.f k a0) (impl_Number.f (k + 1) a0) := by
 intro a0 k
 obtain ⟨ih0, ih1⟩ := impl_Number.mono_l k
 unfold impl_Number.f
 repeat' first | (with_reducible exact ih0 _ _) | (with_reducible exact ih1 _ _ _) | (with_reducible exact LeO.refl _) | (with_reducible exact LeO.none _) | (with_reducible refine LeO.ite ?_ ?_) | (with_reducible refine LeO.bind ?_ (fun _ => ?_))
set_option maxHeartbeats 8000000 in
set_option maxRecDepth 100000 in
theorem impl_Number.calls (k : Nat) (a0 : ByteArray) (r1 : Int) (r2 : Bool) (w : World) (h : impl_Number.f k a0 = some (r1, r2)) (hG : Glob w := by exact gG HG HB) :
  Calls Tryz.prog 121 #[.string a0] w fun e w' => e = .returned (.tuple #[.int .i64 r1, .bool r2]) ∧ Below w.heap.size w w' := by
 have HG := Aside0.mk hG; clear hG; have HB := Aside0.mk (Below.refl w.heap.size w); have H := h; unfold impl_Number.f at H; clear h; have HC2 := Aside0.mk H; clear H
 go_enter Tryz.func121, Tryz.ntmps121
 go_upto_region 1 with (fail)
 go_cut [13] (fun v13 wc => ∃ (kq : Nat) (x13_1 : Bool), v13 = .bool x13_1 ∧ Aside0 (impl_Number.j0 kq a0 x13_1 = some (r1, r2)) ∧ Aside0 (kq ≤ k) ∧ Aside0 (Below w.heap.size w wc))
 case first =>
  have H := HC2.out; clear HC2
  by_cases c3 : (a0.size : Int) < 1
  ·
   rw [if_pos c3] at H
   have c3b0 : decide ((a0.size : Int) < 1) = true := decide_eq_true c3
   have c3b1 : decide (a0.size < 1) = true := decide_eq_true (by omega)
   clear c3
   (first | rw [c3b0] | (simp only [i64_w, i32_w]; rw [c3b0]) | skip)
   have H' := Aside0.mk H; clear H
   go_wp2
   go_meet
   case rel => exact ⟨_, (true), y0_15, H', ⟨y0_16⟩, ⟨bI HB.out⟩⟩
  rw [if_neg c3] at H
  have c3b0 : decide ((a0.size : Int) < 1) = false := decide_eq_false c3
  have c3b1 : decide (a0.size < 1) = false := decide_eq_false (by omega)
  clear c3
  (first | rw [c3b0] | (simp only [i64_w, i32_w]; rw [c3b0]) | skip)
  have H' := Aside0.mk H; clear H
  go_wp2
  go_meet
  case rel => exact ⟨_, (decide ((a0.size : Int) > 6)), y0_15, H', ⟨y0_16⟩, ⟨bI HB.out⟩⟩
 case rest =>
  clear HC2
  try clear c1
  try clear p2
  try clear c3
  try clear c3b0
  try clear c3b1
  obtain ⟨kq, x13_1, rfl, HA, HJ1, HB⟩ := hcut; cases kq with
  | zero => exact absurd HA.out (by simp [impl_Number.j0])
  | succ kj1 =>
   have H := HA.out; clear HA
   simp only [impl_Number.j0] at H
   by_cases c4 : x13_1 = true
   ·
    subst c4
    rw [if_pos rfl] at H
    simp only [Option.some.injEq, Prod.mk.injEq] at H
    obtain ⟨rfl, rfl⟩ := H
    go_wp2
    go_ret2
    exact ⟨y0_11, bI HB.out⟩
   replace c4 := Bool.eq_false_iff.mpr c4; subst c4
   rw [if_neg (show ¬ (false = true) by decide)] at H
   have H' := Aside0.mk H; clear H
   go_wp2
   go_loopg [4, 5] kj1 (fun kq v4 v5 w' => ∃ (x4_2 : Int) (x5_2 : Int), v4 = .int .i64 x4_2 ∧ v5 = .int .i64 x5_2 ∧ Aside0 (impl_Number.l0 kq a0 x4_2 x5_2 = some (r1, r2)) ∧ Aside0 (kq ≤ kj1) ∧ Aside0 (Below w.heap.size w w'))
   case atStart => exact ⟨(0), (0), y0_15, y0_15, H', ⟨Nat.le_refl _⟩, ⟨bI HB.out⟩⟩
   case round =>
    clear H'
    try clear c1
    try clear p2
    try clear c3
    try clear c3b0
    try clear c3b1
    try clear c4
    try clear p2
    obtain ⟨x4_2, x5_2, rfl, rfl, HA, HK2, HB⟩ := hrel; cases gk with
    | zero => exact absurd HA.out (by simp [impl_Number.l0])
    | succ k2 =>
     have H := HA.out; clear HA
     simp only [impl_Number.l0] at H
     by_cases c5 : x5_2 < (a0.size : Int)
     ·
      rw [if_pos c5] at H
      have c5b0 : decide (x5_2 < (a0.size : Int)) = true := decide_eq_true c5; clear c5
      by_cases c6 : 0 ≤ x5_2
      rotate_left
      ·
       rw [if_neg c6] at H
       exact absurd H (by simp)
      rw [if_pos c6] at H
      have c6b0 : decide (0 ≤ x5_2) = true := decide_eq_true c6; clear c6
      by_cases c8 : (bt a0 x5_2) < 48
      ·
       rw [if_pos c8] at H
       have c8b0 : decide ((bt a0 x5_2) < 48) = true := decide_eq_true c8; clear c8
       simp only [Option.some.injEq, Prod.mk.injEq] at H
       obtain ⟨rfl, rfl⟩ := H; have p7 : 0 ≤ (x5_2 : Int) := of_decide_eq_true y0_14; have q7 : x5_2 < (a0.size : Int) := of_decide_eq_true y0_14; have hx7 := bt_at a0 x5_2; replace p7 := eq_true p7; replace q7 := eq_true q7
       go_wp2
       go_ret2
       exact ⟨y0_11, bI HB.out⟩
      rw [if_neg c8] at H
      have c8b0 : decide ((bt a0 x5_2) < 48) = false := decide_eq_false c8; clear c8
      by_cases c10 : (bt a0 x5_2) > 57
      ·
       rw [if_pos c10] at H
       have c10b0 : decide (57 < (bt a0 x5_2)) = true := decide_eq_true c10; clear c10
       simp only [Option.some.injEq, Prod.mk.injEq] at H
       obtain ⟨rfl, rfl⟩ := H; have p7 : 0 ≤ (x5_2 : Int) := of_decide_eq_true y0_14; have q7 : x5_2 < (a0.size : Int) := of_decide_eq_true y0_14; have hx7 := bt_at a0 x5_2; replace p7 := eq_true p7; replace q7 := eq_true q7; have p9 : 0 ≤ (x5_2 : Int) := of_decide_eq_true y0_14; have q9 : x5_2 < (a0.size : Int) := of_decide_eq_true y0_14; have hx9 := bt_at a0 x5_2; replace p9 := eq_true p9; replace q9 := eq_true q9
       go_wp2
       go_ret2
       exact ⟨y0_11, bI HB.out⟩
      rw [if_neg c10] at H
      have c10b0 : decide (57 < (bt a0 x5_2)) = false := decide_eq_false c10; clear c10; have H' := Aside0.mk H; clear H; have p7 : 0 ≤ (x5_2 : Int) := of_decide_eq_true y0_14; have q7 : x5_2 < (a0.size : Int) := of_decide_eq_true y0_14; have hx7 := bt_at a0 x5_2; replace p7 := eq_true p7; replace q7 := eq_true q7; have p9 : 0 ≤ (x5_2 : Int) := of_decide_eq_true y0_14; have q9 : x5_2 < (a0.size : Int) := of_decide_eq_true y0_14; have hx9 := bt_at a0 x5_2; replace p9 := eq_true p9; replace q9 := eq_true q9; have p11 : 0 ≤ (x5_2 : Int) := of_decide_eq_true y0_14; have q11 : x5_2 < (a0.size : Int) := of_decide_eq_true y0_14; have hx11 := bt_at a0 x5_2; replace p11 := eq_true p11; replace q11 := eq_true q11
      go_wp2
      go_roundg k2
      case measure => have := HJ1.out; have := HK2.out; omega
      case rel => exact ⟨(wrap64 ((wrap64 (10 * x4_2)) + (((bt a0 x5_2) - 48) % 256))), (wrap64 (x5_2 + 1)), y0_15, y0_15, H', ⟨by have := HJ1.out; have := HK2.out; omega⟩, ⟨bI HB.out⟩⟩
     rw [if_neg c5] at H
     have c5b0 : decide (x5_2 < (a0.size : Int)) = false := decide_eq_false c5; clear c5; obtain ⟨t536, A12, H⟩ := oB H; (try dsimp only at H)
     by_cases c13 : t536.toList = a0.toList
     ·
      rw [if_pos c13] at H
      have c13b0 : (t536.toList == a0.toList) = true := beq_iff_eq.mpr c13; have c13b1 : (t536.toList != a0.toList) = false := bne_eq_false_iff_eq.mpr c13; clear c13
      simp only [Option.some.injEq, Prod.mk.injEq] at H
      obtain ⟨rfl, rfl⟩ := H
      go_wp2_with (first | ((with_reducible refine gate_callee (f := 111) rfl ?_); refine gB (some 39) Tryz.func111 #[.int .i64 x4_2] ?_; (with_reducible refine (impl_Digits.calls x4_2 t536 _ A12.out).mono ?_); rintro e w14 ⟨rfl, hb⟩; refine ⟨_, rfl, ?_⟩; replace HB := bs HB hb; (try clear hb); (try clear hb2); (try clear hk); (try clear hi)))
      go_ret2
      exact ⟨y0_11, bI HB.out⟩
     rw [if_neg c13] at H
     have c13b0 : (t536.toList == a0.toList) = false := beq_eq_false_iff_ne.mpr c13; have c13b1 : (t536.toList != a0.toList) = true := bne_iff_ne.mpr c13
     simp only [Option.some.injEq, Prod.mk.injEq] at H
     obtain ⟨rfl, rfl⟩ := H
     go_wp2_with (first | ((with_reducible refine gate_callee (f := 111) rfl ?_); refine gB (some 39) Tryz.func111 #[.int .i64 x4_2] ?_; (with_reducible refine (impl_Digits.calls x4_2 t536 _ A12.out).mono ?_); rintro e w15 ⟨rfl, hb⟩; refine ⟨_, rfl, ?_⟩; replace HB := bs HB hb; (try clear hb); (try clear hb2); (try clear hk); (try clear hi)))
     go_ret2
     exact ⟨y0_11, bI HB.out⟩

/-! ### impl_TxOk: function 110 -/
def impl_TxOk.f (a0_0 : Int) (a0_1 : Int) (a0_2 : Int) (a0_3 : Int) : Option (Bool) := (impl_within.f a0_0 0 3).bind fun t538 => (if t538 = true then ((impl_within.f a0_1 0 3).bind fun t539 => (if t539 = true then ((impl_within.f a0_2 0 1000).bind fun t540 => (if t540 = true then ((impl_within.f a0_3 0 99).bind fun t541 => (some t541)) else (some false))) else (some false))) else (some false))
set_option maxHeartbeats 8000000 in
set_option maxRecDepth 100000 in
theorem impl_TxOk.calls (a0_0 : Int) (a0_1 : Int) (a0_2 : Int) (a0_3 : Int) (r : Bool) (w : World) (h : impl_TxOk.f a0_0 a0_1 a0_2 a0_3 = some r) :
  Calls Tryz.prog 110 #[.agg #[.int .i64 a0_0, .int .i64 a0_1, .int .i64 a0_2, .int .i64 a0_3]] w fun e w' => e = .returned (.bool r) ∧ Below w.heap.size w w' := by
 have hu99 := Tryz.underlying99; have HB := Aside0.mk (Below.refl w.heap.size w)
 have H := h; unfold impl_TxOk.f at H
 clear h
 go_enter Tryz.func110, Tryz.ntmps110
 have H' := Aside0.mk H; clear H
 go_upto_region 1 with (first | ((with_reducible refine gd 1 ?_); refine bL 1 #[.int .i64 a0_0, .int .i64 a0_1, .int .i64 a0_2, .int .i64 a0_3] 99 ?_; intro gb537 w2 _ _ _))
 have H := H'.out; clear H'; obtain ⟨t538, A3, H⟩ := oB H; (try dsimp only at H)
 by_cases c4 : t538 = true
 ·
  subst c4
  rw [if_pos rfl] at H
  obtain ⟨t539, A5, H⟩ := oB H; (try dsimp only at H)
  by_cases c6 : t539 = true
  ·
   subst c6
   rw [if_pos rfl] at H
   obtain ⟨t540, A7, H⟩ := oB H; (try dsimp only at H)
   by_cases c8 : t540 = true
   ·
    subst c8
    rw [if_pos rfl] at H
    obtain ⟨t541, A9, H⟩ := oB H; (try dsimp only at H); obtain rfl := Option.some.inj H
    go_wp2_with (first | ((with_reducible refine gate_callee (f := 99) rfl ?_); refine gD (some 5) Tryz.func99 (impl_within.calls (w := _) (h := A3.out)) ?_; intro w10 _) | (go_at_call 99; refine aD (impl_within.calls (w := _) (h := A5.out)) ?_; intro w11 _) | (go_at_call 99; refine aD (impl_within.calls (w := _) (h := A7.out)) ?_; intro w12 _) | (go_at_call 99; refine aD (impl_within.calls (w := _) (h := A9.out)) ?_; intro w13 _))
    go_ret
    exact ⟨y0_15, UpW.out⟩
   replace c8 := Bool.eq_false_iff.mpr c8; subst c8
   rw [if_neg (show ¬ (false = true) by decide)] at H
   obtain rfl := Option.some.inj H
   go_wp2_with (first | ((with_reducible refine gate_callee (f := 99) rfl ?_); refine gD (some 5) Tryz.func99 (impl_within.calls (w := _) (h := A3.out)) ?_; intro w14 _) | (go_at_call 99; refine aD (impl_within.calls (w := _) (h := A5.out)) ?_; intro w15 _) | (go_at_call 99; refine aD (impl_within.calls (w := _) (h := A7.out)) ?_; intro w16 _))
   go_ret
   exact ⟨y0_15, UpW.out⟩
  replace c6 := Bool.eq_false_iff.mpr c6; subst c6
  rw [if_neg (show ¬ (false = true) by decide)] at H
  obtain rfl := Option.some.inj H
  go_wp2_with (first | ((with_reducible refine gate_callee (f := 99) rfl ?_); refine gD (some 5) Tryz.func99 (impl_within.calls (w := _) (h := A3.out)) ?_; intro w17 _) | (go_at_call 99; refine aD (impl_within.calls (w := _) (h := A5.out)) ?_; intro w18 _))
  go_ret
  exact ⟨y0_15, UpW.out⟩
 replace c4 := Bool.eq_false_iff.mpr c4; subst c4
 rw [if_neg (show ¬ (false = true) by decide)] at H
 obtain rfl := Option.some.inj H
 go_wp2_with (first | ((with_reducible refine gate_callee (f := 99) rfl ?_); refine gD (some 5) Tryz.func99 (impl_within.calls (w := _) (h := A3.out)) ?_; intro w19 _))
 go_ret
 exact ⟨y0_15, UpW.out⟩

/-! ### impl_TxText: function 135 -/
def impl_TxText.f (a0_0 : Int) (a0_1 : Int) (a0_2 : Int) (a0_3 : Int) : Option (ByteArray) := (impl_TxOk.f a0_0 a0_1 a0_2 a0_3).bind fun t543 => (if t543 = true then ((impl_Digits.f a0_0).bind fun t544 => (if t544.size + 1 ≤ 9223372036854775807 then ((impl_Digits.f a0_1).bind fun t545 => (if (t544 ++ (⟨#[62]⟩ : ByteArray)).size + t545.size ≤ 9223372036854775807 then (if ((t544 ++ (⟨#[62]⟩ : ByteArray)) ++ t545).size + 1 ≤ 9223372036854775807 then ((impl_Digits.f a0_2).bind fun t546 => (if (((t544 ++ (⟨#[62]⟩ : ByteArray)) ++ t545) ++ (⟨#[58]⟩ : ByteArray)).size + t546.size ≤ 9223372036854775807 then (if ((((t544 ++ (⟨#[62]⟩ : ByteArray)) ++ t545) ++ (⟨#[58]⟩ : ByteArray)) ++ t546).size + 1 ≤ 9223372036854775807 then ((impl_Digits.f a0_3).bind fun t547 => (if (((((t544 ++ (⟨#[62]⟩ : ByteArray)) ++ t545) ++ (⟨#[58]⟩ : ByteArray)) ++ t546) ++ (⟨#[35]⟩ : ByteArray)).size + t547.size ≤ 9223372036854775807 then (some ((((((t544 ++ (⟨#[62]⟩ : ByteArray)) ++ t545) ++ (⟨#[58]⟩ : ByteArray)) ++ t546) ++ (⟨#[35]⟩ : ByteArray)) ++ t547)) else (none))) else (none)) else (none))) else (none)) else (none))) else (none))) else (some (⟨#[]⟩ : ByteArray)))
def impl_TxText.T3 : Bool × List (List Nat × List Nat) := (true, [([], []), ([0], [0]), ([1], [1]), ([2], [2]), ([], []), ([4], [4]), ([5, 2], [5]), ([3, 6], [3, 6]), ([7], [7]), ([], []), ([9], [9]), ([10, 6], [10]), ([8, 11], [8, 11]), ([12], [12]), ([], []), ([14], [14]), ([15, 11], [15]), ([13, 16], [13, 16]), ([17, 16, 0, 1, 2, 3, 4, 5, 6, 7, 8, 9, 10, 11, 12, 13, 14, 15, 16, 17], [17])])
def impl_TxText.B3 : List Nat := [0, 1, 3, 7, 0, 16, 55, 127, 255, 0, 512, 1655, 4095, 8191, 0, 16384, 52855, 131071, 262143]
theorem impl_TxText.tab3 : rtab .any (opsOf Tryz.f135 3) = impl_TxText.T3 := by kernel_rfl
theorem impl_TxText.bits3 : waitsOk impl_TxText.T3.2 impl_TxText.B3 = true := by kernel_rfl
set_option maxHeartbeats 8000000 in
set_option maxRecDepth 100000 in
theorem impl_TxText.calls (a0_0 : Int) (a0_1 : Int) (a0_2 : Int) (a0_3 : Int) (r : ByteArray) (w : World) (h : impl_TxText.f a0_0 a0_1 a0_2 a0_3 = some r) (hG : Glob w := by exact gG HG HB) :
  Calls Tryz.prog 135 #[.agg #[.int .i64 a0_0, .int .i64 a0_1, .int .i64 a0_2, .int .i64 a0_3]] w fun e w' => e = .returned (.string r) ∧ Below w.heap.size w w' := by
 have HG := Aside0.mk hG; clear hG; have hu99 := Tryz.underlying99; have HB := Aside0.mk (Below.refl w.heap.size w)
 have H := h; unfold impl_TxText.f at H
 clear h; obtain ⟨t543, A2, H⟩ := oB H; (try dsimp only at H)
 go_enter Tryz.func135, Tryz.ntmps135
 have H' := Aside0.mk H; clear H
 go_upto_if 5 with (first | ((with_reducible refine gd 1 ?_); refine bL 1 #[.int .i64 a0_0, .int .i64 a0_1, .int .i64 a0_2, .int .i64 a0_3] 99 ?_; intro gb542 w3 _ _ _) | ((with_reducible refine gate_callee (f := 110) rfl ?_); refine gC (some 4) Tryz.func110 (impl_TxOk.calls (w := _) (h := A2.out)) ?_; intro w4 _))
 have H := H'.out; clear H'
 by_cases c5 : t543 = true
 ·
  subst c5
  rw [if_pos rfl] at H
  obtain ⟨t544, A6, H⟩ := oB H; (try dsimp only at H)
  by_cases c7 : t544.size + 1 ≤ 9223372036854775807
  rotate_left
  ·
   rw [if_neg c7] at H
   exact absurd H (by simp)
  rw [if_pos c7] at H
  have c7b0 := eq_true c7; have c7b1 : decide (t544.size + 1 ≤ 9223372036854775807) = true := decide_eq_true c7
  try have c7b2 : (9223372036854775807 < t544.size + 1) = False := eq_false (Nat.not_lt.2 c7)
  obtain ⟨t545, A8, H⟩ := oB H; (try dsimp only at H)
  by_cases c9 : (t544 ++ (⟨#[62]⟩ : ByteArray)).size + t545.size ≤ 9223372036854775807
  rotate_left
  ·
   rw [if_neg c9] at H
   exact absurd H (by simp)
  rw [if_pos c9] at H
  have c9b0 := eq_true c9; have c9b1 : decide ((t544 ++ (⟨#[62]⟩ : ByteArray)).size + t545.size ≤ 9223372036854775807) = true := decide_eq_true c9
  try have c9b2 : (9223372036854775807 < (t544 ++ (⟨#[62]⟩ : ByteArray)).size + t545.size) = False := eq_false (Nat.not_lt.2 c9)
  (try have c9b3 : (9223372036854775807 < t544.size + 1 + t545.size) = False := eq_false (by have h_ := c9; simp only [ByteArray.size_append, ByteArray.size_extract, show (⟨#[62]⟩ : ByteArray).size = 1 from rfl] at h_; omega))
  by_cases c10 : ((t544 ++ (⟨#[62]⟩ : ByteArray)) ++ t545).size + 1 ≤ 9223372036854775807
  rotate_left
  ·
   rw [if_neg c10] at H
   exact absurd H (by simp)
  rw [if_pos c10] at H
  have c10b0 := eq_true c10; have c10b1 : decide (((t544 ++ (⟨#[62]⟩ : ByteArray)) ++ t545).size + 1 ≤ 9223372036854775807) = true := decide_eq_true c10
  try have c10b2 : (9223372036854775807 < ((t544 ++ (⟨#[62]⟩ : ByteArray)) ++ t545).size + 1) = False := eq_false (Nat.not_lt.2 c10)
  (try have c10b3 : (9223372036854775807 < t544.size + 1 + t545.size + 1) = False := eq_false (by have h_ := c10; simp only [ByteArray.size_append, ByteArray.size_extract, show (⟨#[62]⟩ : ByteArray).size = 1 from rfl] at h_; omega))
  obtain ⟨t546, A11, H⟩ := oB H; (try dsimp only at H)
  by_cases c12 : (((t544 ++ (⟨#[62]⟩ : ByteArray)) ++ t545) ++ (⟨#[58]⟩ : ByteArray)).size + t546.size ≤ 9223372036854775807
  rotate_left
  ·
   rw [if_neg c12] at H
   exact absurd H (by simp)
  rw [if_pos c12] at H
  have c12b0 := eq_true c12; have c12b1 : decide ((((t544 ++ (⟨#[62]⟩ : ByteArray)) ++ t545) ++ (⟨#[58]⟩ : ByteArray)).size + t546.size ≤ 9223372036854775807) = true := decide_eq_true c12
  try have c12b2 : (9223372036854775807 < (((t544 ++ (⟨#[62]⟩ : ByteArray)) ++ t545) ++ (⟨#[58]⟩ : ByteArray)).size + t546.size) = False := eq_false (Nat.not_lt.2 c12)
  (try have c12b3 : (9223372036854775807 < t544.size + 1 + t545.size + 1 + t546.size) = False := eq_false (by have h_ := c12; simp only [ByteArray.size_append, ByteArray.size_extract, show (⟨#[58]⟩ : ByteArray).size = 1 from rfl, show (⟨#[62]⟩ : ByteArray).size = 1 from rfl] at h_; omega))
  by_cases c13 : ((((t544 ++ (⟨#[62]⟩ : ByteArray)) ++ t545) ++ (⟨#[58]⟩ : ByteArray)) ++ t546).size + 1 ≤ 9223372036854775807
  rotate_left
  ·
   rw [if_neg c13] at H
   exact absurd H (by simp)
  rw [if_pos c13] at H
  have c13b0 := eq_true c13; have c13b1 : decide (((((t544 ++ (⟨#[62]⟩ : ByteArray)) ++ t545) ++ (⟨#[58]⟩ : ByteArray)) ++ t546).size + 1 ≤ 9223372036854775807) = true := decide_eq_true c13
  try have c13b2 : (9223372036854775807 < ((((t544 ++ (⟨#[62]⟩ : ByteArray)) ++ t545) ++ (⟨#[58]⟩ : ByteArray)) ++ t546).size + 1) = False := eq_false (Nat.not_lt.2 c13)
  (try have c13b3 : (9223372036854775807 < t544.size + 1 + t545.size + 1 + t546.size + 1) = False := eq_false (by have h_ := c13; simp only [ByteArray.size_append, ByteArray.size_extract, show (⟨#[58]⟩ : ByteArray).size = 1 from rfl, show (⟨#[62]⟩ : ByteArray).size = 1 from rfl] at h_; omega))
  obtain ⟨t547, A14, H⟩ := oB H; (try dsimp only at H)
  by_cases c15 : (((((t544 ++ (⟨#[62]⟩ : ByteArray)) ++ t545) ++ (⟨#[58]⟩ : ByteArray)) ++ t546) ++ (⟨#[35]⟩ : ByteArray)).size + t547.size ≤ 9223372036854775807
  rotate_left
  ·
   rw [if_neg c15] at H
   exact absurd H (by simp)
  rw [if_pos c15] at H
  have c15b0 := eq_true c15; have c15b1 : decide ((((((t544 ++ (⟨#[62]⟩ : ByteArray)) ++ t545) ++ (⟨#[58]⟩ : ByteArray)) ++ t546) ++ (⟨#[35]⟩ : ByteArray)).size + t547.size ≤ 9223372036854775807) = true := decide_eq_true c15
  try have c15b2 : (9223372036854775807 < (((((t544 ++ (⟨#[62]⟩ : ByteArray)) ++ t545) ++ (⟨#[58]⟩ : ByteArray)) ++ t546) ++ (⟨#[35]⟩ : ByteArray)).size + t547.size) = False := eq_false (Nat.not_lt.2 c15)
  (try have c15b3 : (9223372036854775807 < t544.size + 1 + t545.size + 1 + t546.size + 1 + t547.size) = False := eq_false (by have h_ := c15; simp only [ByteArray.size_append, ByteArray.size_extract, show (⟨#[35]⟩ : ByteArray).size = 1 from rfl, show (⟨#[58]⟩ : ByteArray).size = 1 from rfl, show (⟨#[62]⟩ : ByteArray).size = 1 from rfl] at h_; omega))
  obtain rfl := Option.some.inj H
  try go_wp2
  refine sB [] impl_TxText.tab3 impl_TxText.bits3 ?_; intro w16 _ HT_ HW_
  refine pA 0 (some 6) (bz 19 1) HT_ ?_
  refine tB 1 (some 7) (bz 19 3) HT_ HW_ ?_
  refine pA 4 (some 10) (bz 19 19) HT_ ?_
  refine tB 5 (some 11) (bz 19 51) HT_ HW_ ?_
  refine pA 9 (some 15) (bz 19 563) HT_ ?_
  refine tB 10 (some 16) (bz 19 1587) HT_ HW_ ?_
  refine pA 14 (some 20) (bz 19 0x4633) HT_ ?_
  refine tB 15 (some 21) (bz 19 0xc633) HT_ HW_ ?_
  refine o1 2 (some 8) (bz 19 0xc637) HT_ rfl (kC Tryz.func111 (impl_Digits.calls (w := _) (h := A6.out)) ?_); intro w17 _
  refine nA (some 8) ?_
  refine pA 3 (some 9) (bz 19 0xc63f) HT_ ?_
  refine o1 6 (some 12) (bz 19 0xc67f) HT_ rfl (kC Tryz.func111 (impl_Digits.calls (w := _) (h := A8.out)) ?_); intro w18 _
  refine nA (some 12) ?_
  refine pA 7 (some 13) (bz 19 0xc6ff) HT_ ?_
  refine pA 8 (some 14) (bz 19 0xc7ff) HT_ ?_
  refine o1 11 (some 17) (bz 19 0xcfff) HT_ rfl (kC Tryz.func111 (impl_Digits.calls (w := _) (h := A11.out)) ?_); intro w19 _
  refine nA (some 17) ?_
  refine pA 12 (some 18) (bz 19 0xdfff) HT_ ?_
  refine pA 13 (some 19) (bz 19 0xffff) HT_ ?_
  refine o1 16 (some 22) (bz 19 0x1ffff) HT_ rfl (kC Tryz.func111 (impl_Digits.calls (w := _) (h := A14.out)) ?_); intro w20 _
  refine nA (some 22) ?_
  refine pA 17 (some 23) (bz 19 0x3ffff) HT_ ?_
  refine pA 18 (some 2) (bz 19 0x7ffff) HT_ ?_
  refine done_ (done_of HT_.out (by kernel_rfl)) ?_
  try go_wp2
  go_ret
  exact ⟨y0_15, UpW.out⟩
 replace c5 := Bool.eq_false_iff.mpr c5; subst c5
 rw [if_neg (show ¬ (false = true) by decide)] at H
 obtain rfl := Option.some.inj H
 go_wp2
 go_ret
 exact ⟨y0_15, UpW.out⟩

/-! ### impl_TxOf: function 143 -/
def impl_TxOf.f (k : Nat) (a0 : ByteArray) : Option (Int × Int × Int × Int × Bool) := (strings_Cut.f a0 (⟨#[62]⟩ : ByteArray)).bind fun c1 => (strings_Cut.f c1.2.1 (⟨#[58]⟩ : ByteArray)).bind fun c2 => (strings_Cut.f c2.2.1 (⟨#[35]⟩ : ByteArray)).bind fun c3 => (impl_Number.f k c1.1).bind fun n0 => (impl_Number.f k c2.1).bind fun n1 => (impl_Number.f k c3.1).bind fun n2 => (impl_Number.f k c3.2.1).bind fun n3 => (impl_TxOk.f n0.1 n1.1 n2.1 n3.1).bind fun b => (if b = true then ((impl_TxText.f n0.1 n1.1 n2.1 n3.1).bind fun t => (if t.toList = a0.toList then (some (n0.1, n1.1, n2.1, n3.1, true)) else (some (0, 0, 0, 0, false)))) else (some (0, 0, 0, 0, false)))
theorem impl_TxOf.mono : ∀ a0 k, LeO (impl_TxOf.f k a0) (impl_TxOf.f (k + 1) a0) := by
 intro a0 k
 unfold impl_TxOf.f
 repeat' first | (with_reducible exact impl_Number.mono _ _) | (with_reducible exact LeO.refl _) | (with_reducible exact LeO.none _) | (with_reducible refine LeO.ite ?_ ?_) | (with_reducible refine LeO.bind ?_ (fun _ => ?_))
section
variable {P : Program} {ops : Array Oper} {rest : List Oper} {o : Oper} {a : Act} {Q : Exit → Act → World → Prop}
/-- A literal row, its block told. -/
theorem impl_TxOf.lit {W : World} (n : Nat) (cs : Array Value) (t : TypeId)
  (h : ∀ g, g = W.heap.size → ∀ w1, w1.heap[g]? = some (.cells cs t (0, 0)) → Below W.heap.size W w1 → wpList P ops Q rest (a.put o.dst (.slice (some ⟨g, 0, none⟩) n n)) w1)
  (hgd : o.guard = none := by rfl) (hrun : (execOp a.eval o).run P W = .ok (.value (.slice (some ⟨W.heap.size, 0, none⟩) n n)) (W.alloc (.cells cs t (0, 0))) := by first | (go_simp; done) | (go_simp; rfl) | rfl) : wpList P ops Q (o :: rest) a W :=
 Kd.event_run hgd hrun (h _ rfl _ (blk_new W _) (below_alloc (Below.refl _ _) _))
end
def impl_TxOf.arr (a b c d : Int) : Nat → Array Value
 | 0 => #[.int .i64 0, .int .i64 0, .int .i64 0, .int .i64 0]
 | 1 => #[.int .i64 a, .int .i64 0, .int .i64 0, .int .i64 0]
 | 2 => #[.int .i64 a, .int .i64 b, .int .i64 0, .int .i64 0]
 | 3 => #[.int .i64 a, .int .i64 b, .int .i64 c, .int .i64 0]
 | _ => #[.int .i64 a, .int .i64 b, .int .i64 c, .int .i64 d]
set_option maxHeartbeats 8000000 in
set_option maxRecDepth 100000 in
theorem impl_TxOf.calls (k : Nat) (a0 : ByteArray) (r1 : Int) (r2 : Int) (r3 : Int) (r4 : Int) (r5 : Bool) (w : World) (h : impl_TxOf.f k a0 = some (r1, r2, r3, r4, r5)) (hG : Glob w := by exact gG HG HB) :
  Calls Tryz.prog 143 #[.string a0] w fun e w' => e = .returned (.tuple #[.agg #[.int .i64 r1, .int .i64 r2, .int .i64 r3, .int .i64 r4], .bool r5]) ∧ Below w.heap.size w w' := by
 have HG := Aside0.mk hG; clear hG; have huT := Tryz.underlying99; have HB := Aside0.mk (Below.refl w.heap.size w); have H := h
 unfold impl_TxOf.f at H
 clear h; obtain ⟨⟨s1, s2, s3⟩, A10, H⟩ := Option.bind_eq_some_iff.mp H; obtain ⟨⟨s4, s5, s6⟩, A20, H⟩ := Option.bind_eq_some_iff.mp H; obtain ⟨⟨s7, s8, s9⟩, A30, H⟩ := Option.bind_eq_some_iff.mp H; obtain ⟨⟨n0, m0⟩, A40, H⟩ := Option.bind_eq_some_iff.mp H; obtain ⟨⟨n1, m1⟩, A50, H⟩ := Option.bind_eq_some_iff.mp H; obtain ⟨⟨n2, m2⟩, A60, H⟩ := Option.bind_eq_some_iff.mp H; obtain ⟨⟨n3, m3⟩, A70, H⟩ := Option.bind_eq_some_iff.mp H; obtain ⟨bk_, A80, H⟩ := Option.bind_eq_some_iff.mp H
 dsimp only at A10 A20 A30 A40 A50 A60 A70 A80 H
 have HH := Aside0.mk H; clear H; have A1 := Aside0.mk A10; clear A10; have A2 := Aside0.mk A20; clear A20; have A3 := Aside0.mk A30; clear A30; have A4 := Aside0.mk A40; clear A40; have A5 := Aside0.mk A50; clear A50; have A6 := Aside0.mk A60; clear A60; have A7 := Aside0.mk A70; clear A70; have A8 := Aside0.mk A80; clear A80
 go_enter Tryz.func143, Tryz.ntmps143
 go_wp2_with (first | ((with_reducible refine gd 2 ?_); refine bA 2 #[.int .i64 0, .int .i64 0, .int .i64 0, .int .i64 0] 99 ?_; intro gx hg w' hbox hb; have Kgx := Aside0.mk hbox; have GWgx := bg hg HB; have GJgx := gi GWgx; skip; replace HB := bs HB hb; clear hb hbox hg) | ((with_reducible refine gate_callee (f := 120) rfl ?_); refine gB (some 18) Tryz.func120 #[.string a0, .string (⟨#[62]⟩ : ByteArray)] ?_; (with_reducible refine (strings_Cut.calls a0 (⟨#[62]⟩ : ByteArray) s1 s2 s3 _ A1.out).mono ?_); rintro e w' ⟨rfl, hb⟩; refine ⟨_, rfl, ?_⟩; replace Kgx := bk Kgx hb; replace HB := bs HB hb; clear hb) | ((with_reducible refine gate_callee (f := 120) rfl ?_); refine gB (some 24) Tryz.func120 #[.string s2, .string (⟨#[58]⟩ : ByteArray)] ?_; (with_reducible refine (strings_Cut.calls s2 (⟨#[58]⟩ : ByteArray) s4 s5 s6 _ A2.out).mono ?_); rintro e w' ⟨rfl, hb⟩; refine ⟨_, rfl, ?_⟩; replace Kgx := bk Kgx hb; replace HB := bs HB hb; clear hb) | ((with_reducible refine gate_callee (f := 120) rfl ?_); refine gB (some 30) Tryz.func120 #[.string s5, .string (⟨#[35]⟩ : ByteArray)] ?_; (with_reducible refine (strings_Cut.calls s5 (⟨#[35]⟩ : ByteArray) s7 s8 s9 _ A3.out).mono ?_); rintro e w' ⟨rfl, hb⟩; refine ⟨_, rfl, ?_⟩; replace Kgx := bk Kgx hb; replace HB := bs HB hb; clear hb) | ((with_reducible refine gd 12 ?_); refine bA 12 #[.int .i64 0, .int .i64 0, .int .i64 0, .int .i64 0] 160 ?_; intro ga hg w' hbox hb; have Kga := Aside0.mk hbox; have GWga := bg hg HB; have GJga := gi GWga; have Ngxga := b1 Kgx hg; have NIgxga := ni Ngxga; have Ngagx := b2 Kgx hg; have NIgagx := ni Ngagx; replace Kgx := bk Kgx hb; replace HB := bs HB hb; clear hb hbox hg) | ((with_reducible refine gd 38 ?_); refine impl_TxOf.lit 4 #[.string s1, .string s4, .string s7, .string s8] 9 ?_; intro gl hg w' hbox hb; have Kgl := Aside0.mk hbox; have GWgl := bg hg HB; have GJgl := gi GWgl; have Ngxgl := b1 Kgx hg; have NIgxgl := ni Ngxgl; have Nglgx := b2 Kgx hg; have NIglgx := ni Nglgx; replace Kgx := bk Kgx hb; have Ngagl := b1 Kga hg; have NIgagl := ni Ngagl; have Nglga := b2 Kga hg; have NIglga := ni Nglga; replace Kga := bk Kga hb; replace HB := bs HB hb; clear hb hbox hg))
 go_loopg [40] 5 (fun kq v40 w' => ∃ (i_ : Nat), v40 = .int .i64 (i_ : Int) ∧ Aside0 (kq + i_ = 5 ∧ i_ ≤ 4) ∧ Aside0 (w'.heap[gx]? = some (.cells #[.int .i64 0, .int .i64 0, .int .i64 0, .int .i64 0] 99 (0, 0))) ∧ Aside0 (w'.heap[ga]? = some (.cells (impl_TxOf.arr n0 n1 n2 n3 i_) 160 (0, 0))) ∧ Aside0 (w'.heap[gl]? = some (.cells #[.string s1, .string s4, .string s7, .string s8] 9 (0, 0))) ∧ Aside0 (Below w.heap.size w w'))
 case atStart => exact ⟨0, rfl, ⟨by omega⟩, Kgx, ⟨kI Kga.out⟩, ⟨kI Kgl.out⟩, ⟨bI HB.out⟩⟩
 case round =>
  obtain ⟨i_, rfl, HI_, Kgx, Kga, Kgl, HB⟩ := hrel
  have hi5 : i_ = 0 ∨ i_ = 1 ∨ i_ = 2 ∨ i_ = 3 ∨ i_ = 4 := by have := HI_.out; omega
  rcases hi5 with rfl | rfl | rfl | rfl | rfl
  ·
   replace Kga : Aside0 (wr.heap[ga]? = some (.cells #[.int .i64 0, .int .i64 0, .int .i64 0, .int .i64 0] 160 (0, 0))) := Kga; obtain ⟨gk, rfl⟩ : ∃ q, gk = q + 1 := ⟨gk - 1, y0_18⟩; have hcs := bc0 Kgl.out; have hfs := blk_frozen Kgl.out 0; have hfa := blk_frozen Kga.out 0
   go_wp2_with (first | ((with_reducible refine gate_callee (f := 121) rfl ?_); refine gB (some 48) Tryz.func121 #[.string s1] ?_; (with_reducible refine (impl_Number.calls k s1 n0 m0 _ A4.out).mono ?_); rintro e w' ⟨rfl, hb⟩; refine ⟨_, rfl, ?_⟩; replace Kgx := bk Kgx hb; replace Kgl := bk Kgl hb; replace Kga := bk Kga hb; replace HB := bs HB hb; clear hb hfa; have hfa := blk_frozen Kga.out 0; have hca := bc0 Kga.out))
   go_roundg gk
   case measure => omega
   case rel => exact ⟨1, by first | rfl | (simp; done), ⟨y0_18⟩, ⟨gI Kgx.out⟩, ⟨pI Kga⟩, ⟨gI Kgl.out⟩, ⟨bI HB.out⟩⟩
  ·
   replace Kga : Aside0 (wr.heap[ga]? = some (.cells #[.int .i64 n0, .int .i64 0, .int .i64 0, .int .i64 0] 160 (0, 0))) := Kga; obtain ⟨gk, rfl⟩ : ∃ q, gk = q + 1 := ⟨gk - 1, y0_18⟩; have hcs := bc1 Kgl.out; have hfs := blk_frozen Kgl.out 1; have hfa := blk_frozen Kga.out 1
   go_wp2_with (first | ((with_reducible refine gate_callee (f := 121) rfl ?_); refine gB (some 48) Tryz.func121 #[.string s4] ?_; (with_reducible refine (impl_Number.calls k s4 n1 m1 _ A5.out).mono ?_); rintro e w' ⟨rfl, hb⟩; refine ⟨_, rfl, ?_⟩; replace Kgx := bk Kgx hb; replace Kgl := bk Kgl hb; replace Kga := bk Kga hb; replace HB := bs HB hb; clear hb hfa; have hfa := blk_frozen Kga.out 1; have hca := bc1 Kga.out))
   go_roundg gk
   case measure => omega
   case rel => exact ⟨2, by first | rfl | (simp; done), ⟨y0_18⟩, ⟨gI Kgx.out⟩, ⟨pI Kga⟩, ⟨gI Kgl.out⟩, ⟨bI HB.out⟩⟩
  ·
   replace Kga : Aside0 (wr.heap[ga]? = some (.cells #[.int .i64 n0, .int .i64 n1, .int .i64 0, .int .i64 0] 160 (0, 0))) := Kga; obtain ⟨gk, rfl⟩ : ∃ q, gk = q + 1 := ⟨gk - 1, y0_18⟩; have hcs := bc2 Kgl.out; have hfs := blk_frozen Kgl.out 2; have hfa := blk_frozen Kga.out 2
   go_wp2_with (first | ((with_reducible refine gate_callee (f := 121) rfl ?_); refine gB (some 48) Tryz.func121 #[.string s7] ?_; (with_reducible refine (impl_Number.calls k s7 n2 m2 _ A6.out).mono ?_); rintro e w' ⟨rfl, hb⟩; refine ⟨_, rfl, ?_⟩; replace Kgx := bk Kgx hb; replace Kgl := bk Kgl hb; replace Kga := bk Kga hb; replace HB := bs HB hb; clear hb hfa; have hfa := blk_frozen Kga.out 2; have hca := bc2 Kga.out))
   go_roundg gk
   case measure => omega
   case rel => exact ⟨3, by first | rfl | (simp; done), ⟨y0_18⟩, ⟨gI Kgx.out⟩, ⟨pI Kga⟩, ⟨gI Kgl.out⟩, ⟨bI HB.out⟩⟩
  ·
   replace Kga : Aside0 (wr.heap[ga]? = some (.cells #[.int .i64 n0, .int .i64 n1, .int .i64 n2, .int .i64 0] 160 (0, 0))) := Kga; obtain ⟨gk, rfl⟩ : ∃ q, gk = q + 1 := ⟨gk - 1, y0_18⟩; have hcs := bc3 Kgl.out; have hfs := blk_frozen Kgl.out 3; have hfa := blk_frozen Kga.out 3
   go_wp2_with (first | ((with_reducible refine gate_callee (f := 121) rfl ?_); refine gB (some 48) Tryz.func121 #[.string s8] ?_; (with_reducible refine (impl_Number.calls k s8 n3 m3 _ A7.out).mono ?_); rintro e w' ⟨rfl, hb⟩; refine ⟨_, rfl, ?_⟩; replace Kgx := bk Kgx hb; replace Kgl := bk Kgl hb; replace Kga := bk Kga hb; replace HB := bs HB hb; clear hb hfa; have hfa := blk_frozen Kga.out 3; have hca := bc3 Kga.out))
   go_roundg gk
   case measure => omega
   case rel => exact ⟨4, by first | rfl | (simp; done), ⟨y0_18⟩, ⟨gI Kgx.out⟩, ⟨pI Kga⟩, ⟨gI Kgl.out⟩, ⟨bI HB.out⟩⟩
  replace Kga : Aside0 (wr.heap[ga]? = some (.cells #[.int .i64 n0, .int .i64 n1, .int .i64 n2, .int .i64 n3] 160 (0, 0))) := Kga; have H := HH.out; clear HH; obtain ⟨hca0, hca1, hca2, hca3, hfa0, hfa1, hfa2, hfa3⟩ := cs4 Kga; obtain ⟨hcx0, hcx1, hcx2, hcx3, hfx0, hfx1, hfx2, hfx3⟩ := cs4 Kgx
  by_cases cb : bk_ = true
  ·
   subst cb
   rw [if_pos rfl] at H
   obtain ⟨t_, A90, H⟩ := Option.bind_eq_some_iff.mp H; have A9 := Aside0.mk A90; clear A90
   by_cases ct : t_.toList = a0.toList
   ·
    rw [if_pos ct] at H
    have ctb0 : (t_.toList == a0.toList) = true := beq_iff_eq.mpr ct; have ctb1 : (t_.toList != a0.toList) = false := bne_eq_false_iff_eq.mpr ct; clear ct
    simp only [Option.some.injEq, Prod.mk.injEq] at H
    obtain ⟨rfl, rfl, rfl, rfl, rfl⟩ := H
    go_wp2_with (first | ((with_reducible refine gd 15 ?_); refine bA 15 #[.int .i64 0, .int .i64 0, .int .i64 0, .int .i64 0] 99 ?_; intro gv hg w' hbox hb; have Kgv := Aside0.mk hbox; have GWgv := bg hg HB; have GJgv := gi GWgv; have Ngxgv := b1 Kgx hg; have NIgxgv := ni Ngxgv; have Ngvgx := b2 Kgx hg; have NIgvgx := ni Ngvgx; replace Kgx := bk Kgx hb; have Ngagv := b1 Kga hg; have NIgagv := ni Ngagv; have Ngvga := b2 Kga hg; have NIgvga := ni Ngvga; replace Kga := bk Kga hb; replace HB := bs HB hb; clear hb hbox hg; obtain ⟨hcv0, hcv1, hcv2, hcv3, hfv0, hfv1, hfv2, hfv3⟩ := cs4 Kgv; have hn1 := Ngxgv.out; have hn2 := Ngvgx.out) | (go_at_call 110; (with_reducible refine (impl_TxOk.calls n0 n1 n2 n3 true _ A8.out).mono ?_); rintro e w' ⟨rfl, hb⟩; replace Kgx := Aside0.mk (blk_below (gI Kgx.out) hb); replace Kgv := bp Kgv hb #[.int .i64 n0, .int .i64 n1, .int .i64 n2, .int .i64 n3]; replace HB := bs HB hb; clear hb; obtain ⟨hcx0, hcx1, hcx2, hcx3, hfx0, hfx1, hfx2, hfx3⟩ := cs4 Kgx; obtain ⟨hcv0, hcv1, hcv2, hcv3, hfv0, hfv1, hfv2, hfv3⟩ := cs4 Kgv) | (go_at_call 135; (with_reducible refine (impl_TxText.calls n0 n1 n2 n3 t_ _ A9.out).mono ?_); rintro e w' ⟨rfl, hb⟩; replace Kgx := Aside0.mk (blk_below (gI Kgx.out) hb); replace Kgv := bp Kgv hb #[.int .i64 n0, .int .i64 n1, .int .i64 n2, .int .i64 n3]; replace HB := bs HB hb; clear hb; obtain ⟨hcx0, hcx1, hcx2, hcx3, hfx0, hfx1, hfx2, hfx3⟩ := cs4 Kgx; obtain ⟨hcv0, hcv1, hcv2, hcv3, hfv0, hfv1, hfv2, hfv3⟩ := cs4 Kgv))
    refine bodyPost_ret (results_ct rfl _ _ gx 99 #[.int .i64 n0, .int .i64 n1, .int .i64 n2, .int .i64 n3] (0, 0) _ rfl (pI Kgx) Tryz.underlying99 rfl (by kernel_rfl)) rfl ?_
    exact ⟨y0_15, bI HB.out⟩
   rw [if_neg ct] at H
   have ctb0 : (t_.toList == a0.toList) = false := beq_eq_false_iff_ne.mpr ct; have ctb1 : (t_.toList != a0.toList) = true := bne_iff_ne.mpr ct
   simp only [Option.some.injEq, Prod.mk.injEq] at H
   obtain ⟨rfl, rfl, rfl, rfl, rfl⟩ := H
   go_wp2_with (first | ((with_reducible refine gd 15 ?_); refine bA 15 #[.int .i64 0, .int .i64 0, .int .i64 0, .int .i64 0] 99 ?_; intro gv hg w' hbox hb; have Kgv := Aside0.mk hbox; have GWgv := bg hg HB; have GJgv := gi GWgv; have Ngxgv := b1 Kgx hg; have NIgxgv := ni Ngxgv; have Ngvgx := b2 Kgx hg; have NIgvgx := ni Ngvgx; replace Kgx := bk Kgx hb; have Ngagv := b1 Kga hg; have NIgagv := ni Ngagv; have Ngvga := b2 Kga hg; have NIgvga := ni Ngvga; replace Kga := bk Kga hb; replace HB := bs HB hb; clear hb hbox hg; obtain ⟨hcv0, hcv1, hcv2, hcv3, hfv0, hfv1, hfv2, hfv3⟩ := cs4 Kgv; have hn1 := Ngxgv.out; have hn2 := Ngvgx.out) | (go_at_call 110; (with_reducible refine (impl_TxOk.calls n0 n1 n2 n3 true _ A8.out).mono ?_); rintro e w' ⟨rfl, hb⟩; replace Kgx := Aside0.mk (blk_below (gI Kgx.out) hb); replace Kgv := bp Kgv hb #[.int .i64 n0, .int .i64 n1, .int .i64 n2, .int .i64 n3]; replace HB := bs HB hb; clear hb; obtain ⟨hcx0, hcx1, hcx2, hcx3, hfx0, hfx1, hfx2, hfx3⟩ := cs4 Kgx; obtain ⟨hcv0, hcv1, hcv2, hcv3, hfv0, hfv1, hfv2, hfv3⟩ := cs4 Kgv) | (go_at_call 135; (with_reducible refine (impl_TxText.calls n0 n1 n2 n3 t_ _ A9.out).mono ?_); rintro e w' ⟨rfl, hb⟩; replace Kgx := Aside0.mk (blk_below (gI Kgx.out) hb); replace Kgv := bp Kgv hb #[.int .i64 n0, .int .i64 n1, .int .i64 n2, .int .i64 n3]; replace HB := bs HB hb; clear hb; obtain ⟨hcx0, hcx1, hcx2, hcx3, hfx0, hfx1, hfx2, hfx3⟩ := cs4 Kgx; obtain ⟨hcv0, hcv1, hcv2, hcv3, hfv0, hfv1, hfv2, hfv3⟩ := cs4 Kgv))
   refine bodyPost_ret (results_ct rfl _ _ gx 99 #[.int .i64 0, .int .i64 0, .int .i64 0, .int .i64 0] (0, 0) _ rfl (pI Kgx) Tryz.underlying99 rfl (by kernel_rfl)) rfl ?_
   exact ⟨y0_15, bI HB.out⟩
  replace cb := Bool.eq_false_iff.mpr cb; subst cb
  rw [if_neg (show ¬ (false = true) by decide)] at H
  simp only [Option.some.injEq, Prod.mk.injEq] at H
  obtain ⟨rfl, rfl, rfl, rfl, rfl⟩ := H
  go_wp2_with (first | ((with_reducible refine gd 15 ?_); refine bA 15 #[.int .i64 0, .int .i64 0, .int .i64 0, .int .i64 0] 99 ?_; intro gv hg w' hbox hb; have Kgv := Aside0.mk hbox; have GWgv := bg hg HB; have GJgv := gi GWgv; have Ngxgv := b1 Kgx hg; have NIgxgv := ni Ngxgv; have Ngvgx := b2 Kgx hg; have NIgvgx := ni Ngvgx; replace Kgx := bk Kgx hb; have Ngagv := b1 Kga hg; have NIgagv := ni Ngagv; have Ngvga := b2 Kga hg; have NIgvga := ni Ngvga; replace Kga := bk Kga hb; replace HB := bs HB hb; clear hb hbox hg; obtain ⟨hcv0, hcv1, hcv2, hcv3, hfv0, hfv1, hfv2, hfv3⟩ := cs4 Kgv; have hn1 := Ngxgv.out; have hn2 := Ngvgx.out) | (go_at_call 110; (with_reducible refine (impl_TxOk.calls n0 n1 n2 n3 false _ A8.out).mono ?_); rintro e w' ⟨rfl, hb⟩; replace Kgx := Aside0.mk (blk_below (gI Kgx.out) hb); replace Kgv := bp Kgv hb #[.int .i64 n0, .int .i64 n1, .int .i64 n2, .int .i64 n3]; replace HB := bs HB hb; clear hb; obtain ⟨hcx0, hcx1, hcx2, hcx3, hfx0, hfx1, hfx2, hfx3⟩ := cs4 Kgx; obtain ⟨hcv0, hcv1, hcv2, hcv3, hfv0, hfv1, hfv2, hfv3⟩ := cs4 Kgv))
  refine bodyPost_ret (results_ct rfl _ _ gx 99 #[.int .i64 0, .int .i64 0, .int .i64 0, .int .i64 0] (0, 0) _ rfl (pI Kgx) Tryz.underlying99 rfl (by kernel_rfl)) rfl ?_
  exact ⟨y0_15, bI HB.out⟩

end Go.Proofs.YtemjmefacifdeaaGreatDoor.PFnQuorums
