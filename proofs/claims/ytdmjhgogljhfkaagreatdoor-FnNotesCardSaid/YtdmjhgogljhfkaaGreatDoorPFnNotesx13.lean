import Derived.Test.YtdmjhgogljhfkaaGreatDoorPFnNotesx0
import Derived.Test.YtdmjhgogljhfkaaGreatDoorPFnNotesx1
import Derived.Test.YtdmjhgogljhfkaaGreatDoorPFnNotesx4
import Derived.Test.YtdmjhgogljhfkaaGreatDoorPFnNotesx10
namespace Go.Proofs.YtdmjhgogljhfkaaGreatDoor.PFnNotes
open Go.RowKit Go.Proofs.YtdmjhgogljhfkaaGreatDoorW.PrintWords Go.Proofs.YtdmjhgogljhfkaaGreatDoorW.PrintLast Go.Proofs.YtdmjhgogljhfkaaGreatDoorW.PrintMore
attribute [local go_sem] max2_int min2_int max_two min_two max_three min_three max_four min_four
attribute [local go_sem] cell_in frozen_in cell_g cell_p cell_r cell_q
set_option synthInstance.maxSize 1000000
set_option synthInstance.maxHeartbeats 2000000
set_option linter.unusedVariables false
set_option linter.unusedSimpArgs false
set_option maxHeartbeats 8000000
set_option maxRecDepth 100000
def spec_l6DrawSet.l0 : Nat → Int → List Int → Int → List Int → Int → Int → Option (List Int × Int × Int)
 | 0, _, _, _, _, _, _ => none
 | k + 1, x1, x5, x6, x1000, x1001, x1002 => (spec_l1Below.f x1000 x1001 x1002 8).bind fun bt627 => (if x6 < bt627.1 then ((spec_l1Below.f x1000 bt627.2.1 bt627.2.2 x1).bind fun bt630 => ((spec_SetAdd.f k x5 bt630.1).bind fun t633 => (spec_l6DrawSet.l0 k x1 t633 (wrap64 (x6 + 1)) x1000 bt630.2.1 bt630.2.2))) else ((spec_l1Once.f x1000 bt627.2.1 bt627.2.2 12).bind fun bt636 => (if bt636.1 = true then ((spec_l1PickInt.f x1000 bt636.2.1 bt636.2.2 (([(-1), 0, 3, 9] : List Int))).bind fun bt642 => (if x5.length < 17592186044416 then (some ((x5 ++ [bt642.1]), bt642.2.1, bt642.2.2)) else (none))) else (some (x5, bt636.2.1, bt636.2.2)))))
def spec_l6DrawSet.f (k : Nat) (s0_0 : List Int) (s0_1 : Int) (s0_2 : Int) (a1 : Int) : Option (List Int × Int × Int) := spec_l6DrawSet.l0 k a1 (([] : List Int)) 0 s0_0 s0_1 s0_2
theorem spec_l6DrawSet.calls (k : Nat) (g : Nat) (s0_0 : List Int) (s0_1 : Int) (s0_2 : Int) (a1 : Int) (r1 : List Int) (r2 : Int) (r3 : Int) (w0 w : World) (hI : IsS149 w0 w g s0_0 s0_1 s0_2) (hB : Below w0.heap.size w0 w) (h : spec_l6DrawSet.f k s0_0 s0_1 s0_2 a1 = some (r1, r2, r3)) :
  Calls Tryz.prog 142 #[.pointer (some ⟨g, 0, none⟩), .int .i64 a1] w fun e w' => ∃ v0_ : Value, e = .returned (v0_) ∧ Kd.R (Kd.int .i64) 3 w' w.heap.size (fun _ => True) v0_ r1 ∧ IsS149 w0 w' g s0_0 r2 r3 ∧ Below w0.heap.size w0 w' ∧ KeepBut w w' g none := by
 have HI0 := Aside0.mk hI; have HK := Aside0.mk (KeepBut.refl w g none); have HL := Aside0.mk hB.size; clear hI; have HW0 := Aside0.mk hB.size; have HB := Aside0.mk hB; clear hB; have H := h; unfold spec_l6DrawSet.f at H; clear h; obtain ⟨y624, hy624⟩ : ∃ y_ : List Int, y_ = (([] : List Int)) := ⟨_, rfl⟩
 replace H : (spec_l6DrawSet.l0 k a1 y624 0 s0_0 s0_1 s0_2) = some (r1, r2, r3) := by first | (rw [hy624]; with_reducible exact H) | (rw [hy624]; with_reducible exact (Option.bind_some _ _).symm.trans H) | (rw [hy624]; exact H) | exact H
 have Ny624 := Aside0.mk hy624; clear hy624; have i0_ := iB149 HI0; have i1_ : LB w0 w := ⟨HB.out⟩
 go_enter Tryz.func142, Tryz.ntmps142
 have H' := Aside0.mk H; clear H
 go_wp2_with (first | ((with_reducible refine gate_dst (N := 7) rfl ?_); refine lL 7 3 (Kd.int .i64) rfl Ny624 ?_; intro Ao625 co625 w3 _ HO626))
 refine wC ?_; intro w4 _
 go_loopg [5, 6] k (fun kq v5 v6 w' => ∃ (x5_1 : List Int) (x6_1 : Int) (x1001_1 : Int) (x1002_1 : Int) (Ao5_1 : Option Addr) (co5_1 : Nat), v5 = .slice Ao5_1 x5_1.length co5_1 ∧ v6 = .int .i64 x6_1 ∧ Aside0 (spec_l6DrawSet.l0 kq a1 x5_1 x6_1 s0_0 x1001_1 x1002_1 = some (r1, r2, r3)) ∧ Aside0 (kq ≤ k) ∧ Aside0 (Kd.R (Kd.int .i64) 3 w' w.heap.size (iv w w') (.slice Ao5_1 x5_1.length co5_1) x5_1) ∧ StB g w' 149 ∧ Aside0 (IsS149 w0 w' g s0_0 x1001_1 x1002_1) ∧ KT w4 [g] w _ (Kd.int .i64) 3 w' ∧ LB w0 w' ∧ KS w g w')
 case atStart => exact ⟨(y624), (0), (s0_1), (s0_2), (Ao625), (co625), y0_8, y0_8, H', ⟨Nat.le_refl _⟩, ⟨rJ HO626⟩, iB149 ⟨iS149 HI0⟩, ⟨iS149 HI0⟩, ⟨UpT.out⟩, ⟨UpW.out⟩, ⟨UpB.out⟩⟩
 case round =>
  clear H'; obtain ⟨x5_1, x6_1, x1001_1, x1002_1, Ao5_1, co5_1, rfl, rfl, HA, HK1, HO_5, _, HI5, _, _, _⟩ := hrel; have HO_7 := HO626; cases gk with
  | zero => exact absurd HA.out (by simp [spec_l6DrawSet.l0])
  | succ k1 =>
   have H := HA.out; clear HA
   simp only [spec_l6DrawSet.l0] at H
   obtain ⟨⟨t627, t628, t629⟩, A6, H⟩ := oB H; (try dsimp only at H); have H' := Aside0.mk H; clear H
   go_upto_if 11 with (first | ((with_reducible refine gate_callee (f := 97) rfl ?_); refine gK (some 10) Tryz.func97 (spec_l1Below.calls (hI := iS149 HI5) (hB := UpW.out) (w := _) (h := A6.out)) ?_; intro w7 _ _ _ HI8))
   have H := H'.out; clear H'
   by_cases c9 : x6_1 < t627
   ·
    rw [if_pos c9] at H
    have c9b0 : decide (x6_1 < t627) = true := decide_eq_true c9; clear c9
    (first | rw [c9b0] | (simp only [i64_w, i32_w]; rw [c9b0]) | skip)
    obtain ⟨⟨t630, t631, t632⟩, A10, H⟩ := oB H; (try dsimp only at H); obtain ⟨t633, A11, H⟩ := oB H; (try dsimp only at H); have H' := Aside0.mk H; clear H
    go_wp2_with (first | ((with_reducible refine gate_callee (f := 97) rfl ?_); refine gK (some 17) Tryz.func97 (spec_l1Below.calls (hI := iS149 HI8) (hB := UpW.out) (w := _) (h := A10.out)) ?_; intro w12 _ _ _ HI13) | ((with_reducible refine gate_callee (f := 145) rfl ?_); refine gC1 (some 18) Tryz.func145 (spec_SetAdd.calls (hr0 := rC HO_5) (hc0 := rL HO_5) (w := _) (h := A11.out)) ?_; intro Ao634 co634 w14 _ HO635))
    go_roundg k1
    case measure => have := HK1.out; omega
    case rel => exact ⟨(t633), (wrap64 (x6_1 + 1)), (t631), (t632), (Ao634), (co634), y0_8, y0_8, H', ⟨y0_11⟩, ⟨rJ HO635⟩, iB149 ⟨iS149 HI13⟩, ⟨iS149 HI13⟩, ⟨UpT.out⟩, ⟨UpW.out⟩, ⟨UpB.out⟩⟩
   rw [if_neg c9] at H
   have c9b0 : decide (x6_1 < t627) = false := decide_eq_false c9; clear c9
   (first | rw [c9b0] | (simp only [i64_w, i32_w]; rw [c9b0]) | skip)
   obtain ⟨⟨t636, t637, t638⟩, A15, H⟩ := oB H; (try dsimp only at H); have H' := Aside0.mk H; clear H
   go_upto_if 20 with (first | ((with_reducible refine gate_callee (f := 93) rfl ?_); refine gK (some 20) Tryz.func93 (spec_l1Once.calls (hI := iS149 HI8) (hB := UpW.out) (w := _) (h := A15.out)) ?_; intro w16 _ _ _ HI17))
   have H := H'.out; clear H'
   by_cases c18 : t636 = true
   ·
    subst c18
    rw [if_pos rfl] at H
    obtain ⟨y639, hy639⟩ : ∃ y_ : List Int, y_ = (([(-1), 0, 3, 9] : List Int)) := ⟨_, rfl⟩
    replace H : ((spec_l1PickInt.f s0_0 t637 t638 y639).bind fun bt642 => (if x5_1.length < 17592186044416 then (some ((x5_1 ++ [bt642.1]), bt642.2.1, bt642.2.2)) else (none))) = some (r1, r2, r3) := by first | (rw [hy639]; with_reducible exact H) | (rw [hy639]; with_reducible exact (Option.bind_some _ _).symm.trans H) | (rw [hy639]; exact H) | exact H
    have Ny639 := Aside0.mk hy639; clear hy639; obtain ⟨⟨t642, t643, t644⟩, A19, H⟩ := oB H; (try dsimp only at H)
    by_cases c20 : x5_1.length < 17592186044416
    rotate_left
    ·
     rw [if_neg c20] at H
     exact absurd H (by simp)
    rw [if_pos c20] at H
    have LMc20 := Aside0.mk c20; clear c20; obtain ⟨y645, hy645⟩ : ∃ y_ : List Int, y_ = (x5_1 ++ [t642]) := ⟨_, rfl⟩
    replace H : (some (y645, t643, t644)) = some (r1, r2, r3) := by first | (rw [hy645]; with_reducible exact H) | (rw [hy645]; with_reducible exact (Option.bind_some _ _).symm.trans H) | (rw [hy645]; exact H) | exact H
    have Ny645 := Aside0.mk hy645; clear hy645
    simp only [Option.some.injEq, Prod.mk.injEq] at H
    obtain ⟨rfl, rfl, rfl⟩ := H
    go_wp2_with (first | ((with_reducible refine gate_dst (N := 23) rfl ?_); refine lL 23 3 (Kd.int .i64) rfl Ny639 ?_; intro Ao640 co640 w21 _ HO641) | ((with_reducible refine gate_callee (f := 132) rfl ?_); refine gK (some 24) Tryz.func132 (spec_l1PickInt.calls (hI := iS149 HI17) (hB := UpW.out) (hr1 := rC HO641) (hc1 := rL HO641) (hf1 := fS HO641) (w := _) (h := A19.out)) ?_; intro w22 _ _ _ HI23) | ((with_reducible refine gate_builtin (b := .append) (xs := #[.tmp 21, .tmp 25]) rfl ?_); at_builtin; refine gA (Kd.int .i64) (.tmp 21) (.tmp 25) 25 3 (.int .i64 0) 8 t642 [.int .i64 t642] w Ny645 HO_5 rfl (by have := LMc20.out; omega) ?_ (ht := Tryz.underlying25) (hinfo := info3); intro Ao646 co646 w24 _ _ HO647))
    go_ret
    exact ⟨_, y0_8, rR HO647, iS149 HI23, UpW.out, UpB.out⟩
   replace c18 := Bool.eq_false_iff.mpr c18; subst c18
   rw [if_neg Bool.false_ne_true] at H
   simp only [Option.some.injEq, Prod.mk.injEq] at H
   obtain ⟨rfl, rfl, rfl⟩ := H
   go_wp2
   go_ret
   exact ⟨_, y0_8, rR HO_5, iS149 HI17, UpW.out, UpB.out⟩
def spec_l1Pick.f (s0_0 : List Int) (s0_1 : Int) (s0_2 : Int) (l1 : List ByteArray) : Option (ByteArray × Int × Int) := (spec_l1Below.f s0_0 s0_1 s0_2 (l1.length : Int)).bind fun bt648 => (if 0 ≤ bt648.1 then (if bt648.1 < (l1.length : Int) then (some (rdOf ByteArray.empty l1 bt648.1, bt648.2.1, bt648.2.2)) else (none)) else (none))
theorem spec_l1Pick.calls (g : Nat) (s0_0 : List Int) (s0_1 : Int) (s0_2 : Int) (A1 : Option Addr) (c1 : Nat) (l1 : List ByteArray) (r1 : ByteArray) (r2 : Int) (r3 : Int) (w0 w : World) (hI : IsS149 w0 w g s0_0 s0_1 s0_2) (hB : Below w0.heap.size w0 w) (hr1 : Kd.C Kd.string w A1 l1.length l1) (hc1 : l1.length ≤ c1) (hf1 : ∀ ad, A1 = some ad → 0 < l1.length → ad.block ≠ g) (h : spec_l1Pick.f s0_0 s0_1 s0_2 l1 = some (r1, r2, r3)) :
  Calls Tryz.prog 191 #[.pointer (some ⟨g, 0, none⟩), .slice A1 l1.length c1] w fun e w' => e = .returned (.string r1) ∧ IsS149 w0 w' g s0_0 r2 r3 ∧ Below w0.heap.size w0 w' ∧ KeepBut w w' g none := by
 have HR1 := Aside0.mk hr1; have HC1 := Aside0.mk hc1; clear hr1 hc1; have HI0 := Aside0.mk hI; have HK := Aside0.mk (KeepBut.refl w g none); have HL := Aside0.mk hB.size; clear hI; have HW0 := Aside0.mk hB.size; have HB := Aside0.mk hB; clear hB
 have H := h; unfold spec_l1Pick.f at H
 clear h; obtain ⟨⟨t648, t649, t650⟩, A3, H⟩ := oB H; (try dsimp only at H)
 by_cases c4 : 0 ≤ t648
 ·
  rw [if_pos c4] at H
  have c4b0 : decide (0 ≤ t648) = true := decide_eq_true c4; clear c4
  by_cases c5 : t648 < (l1.length : Int)
  rotate_left
  ·
   rw [if_neg c5] at H
   exact absurd H (by simp)
  rw [if_pos c5] at H
  have c5b0 : decide (t648 < (l1.length : Int)) = true := decide_eq_true c5; clear c5
  simp only [Option.some.injEq, Prod.mk.injEq] at H
  obtain ⟨rfl, rfl, rfl⟩ := H; have i0_ := iB149 HI0; have i1_ : LB w0 w := ⟨HB.out⟩
  go_enter Tryz.func191, Tryz.ntmps191
  go_wp2_with (first | ((with_reducible refine gate_callee (f := 97) rfl ?_); refine gK (some 9) Tryz.func97 (spec_l1Below.calls (hI := iS149 HI0) (hB := UpW.out) (w := _) (h := A3.out)) ?_; intro w6 _ _ _ HI7; have p651 : 0 ≤ (t648 : Int) := of_decide_eq_true y0_7; have q651 : t648 < (l1.length : Int) := of_decide_eq_true y0_7; obtain ⟨ad651, e651, hx651_0⟩ := Kd.at_string HR1.out t648 p651 q651; cases e651; have nb651 : NbI ad651 g := ⟨hf1 _ rfl (by omega)⟩; have i651_0_ := RdP.mk hx651_0; clear hx651_0; replace p651 := eq_true p651; replace q651 := eq_true q651))
  go_ret
  exact ⟨y0_8, iS149 HI7, UpW.out, UpB.out⟩
 rw [if_neg c4] at H
 exact absurd H (by simp)
def spec_l2Dent.f (s0_0 : List Int) (s0_1 : Int) (s0_2 : Int) (a1 : ByteArray) : Option (ByteArray × Int × Int) := (spec_l1Below.f s0_0 s0_1 s0_2 (wrap64 ((a1.size : Int) + 1))).bind fun bt652 => ((spec_l1Below.f s0_0 bt652.2.1 bt652.2.2 5).bind fun bt655 => (if bt655.1 = 0 then (if 0 ≤ bt652.1 then (if bt652.1 ≤ (a1.size : Int) then (some (a1.extract 0 (bt652.1 : Int).toNat, bt655.2.1, bt655.2.2)) else (none)) else (none)) else (if bt655.1 = 1 then (if 0 ≤ bt652.1 then (if bt652.1 ≤ (a1.size : Int) then ((spec_l1Pick.f s0_0 bt655.2.1 bt655.2.2 (([(⟨#[48]⟩ : ByteArray), (⟨#[44]⟩ : ByteArray), (⟨#[62]⟩ : ByteArray), (⟨#[47]⟩ : ByteArray), (⟨#[124]⟩ : ByteArray), (⟨#[120]⟩ : ByteArray), (⟨#[49]⟩ : ByteArray)] : List ByteArray))).bind fun bt661 => (if (a1.extract 0 (bt652.1 : Int).toNat).size + bt661.1.size ≤ 9223372036854775807 then (if ((a1.extract 0 (bt652.1 : Int).toNat) ++ bt661.1).size + (a1.extract (bt652.1 : Int).toNat a1.size).size ≤ 9223372036854775807 then (some (((a1.extract 0 (bt652.1 : Int).toNat) ++ bt661.1) ++ (a1.extract (bt652.1 : Int).toNat a1.size), bt661.2.1, bt661.2.2)) else (none)) else (none))) else (none)) else (none)) else (some (a1, bt655.2.1, bt655.2.2)))))
def spec_l2Dent.T6 : Bool × List (List Nat × List Nat) := (true, [([], []), ([], []), ([0, 1], [0, 1]), ([], []), ([], []), ([3, 4], [3, 4]), ([2, 5], [2, 5]), ([], []), ([], []), ([7, 8], [7, 8]), ([6, 9], [6, 9]), ([10, 5, 0, 1, 2, 3, 4, 5, 6, 7, 8, 9, 10], [10])])
def spec_l2Dent.B6 : List Nat := [0, 0, 3, 0, 0, 24, 63, 0, 0, 384, 1023, 2047]
theorem spec_l2Dent.tab6 : rtab .any (opsOf Tryz.f167 6) = spec_l2Dent.T6 := by kernel_rfl
theorem spec_l2Dent.bits6 : waitsOk spec_l2Dent.T6.2 spec_l2Dent.B6 = true := by kernel_rfl
theorem spec_l2Dent.calls (g : Nat) (s0_0 : List Int) (s0_1 : Int) (s0_2 : Int) (a1 : ByteArray) (r1 : ByteArray) (r2 : Int) (r3 : Int) (w0 w : World) (hI : IsS149 w0 w g s0_0 s0_1 s0_2) (hB : Below w0.heap.size w0 w) (h : spec_l2Dent.f s0_0 s0_1 s0_2 a1 = some (r1, r2, r3)) :
  Calls Tryz.prog 167 #[.pointer (some ⟨g, 0, none⟩), .string a1] w fun e w' => e = .returned (.string r1) ∧ IsS149 w0 w' g s0_0 r2 r3 ∧ Below w0.heap.size w0 w' ∧ KeepBut w w' g none := by
 have HI0 := Aside0.mk hI; have HK := Aside0.mk (KeepBut.refl w g none); have HL := Aside0.mk hB.size; clear hI; have HW0 := Aside0.mk hB.size; have HB := Aside0.mk hB; clear hB
 have H := h; unfold spec_l2Dent.f at H
 clear h; obtain ⟨⟨t652, t653, t654⟩, A3, H⟩ := oB H; (try dsimp only at H); obtain ⟨⟨t655, t656, t657⟩, A4, H⟩ := oB H; (try dsimp only at H); have i0_ := iB149 HI0; have i1_ : LB w0 w := ⟨HB.out⟩
 go_enter Tryz.func167, Tryz.ntmps167
 have H' := Aside0.mk H; clear H
 go_upto_if 13 with (first | ((with_reducible refine gate_callee (f := 97) rfl ?_); refine gK (some 10) Tryz.func97 (spec_l1Below.calls (hI := iS149 HI0) (hB := UpW.out) (w := _) (h := A3.out)) ?_; intro w5 _ _ _ HI6) | ((with_reducible refine gate_callee (f := 97) rfl ?_); refine gK (some 12) Tryz.func97 (spec_l1Below.calls (hI := iS149 HI6) (hB := UpW.out) (w := _) (h := A4.out)) ?_; intro w7 _ _ _ HI8))
 have H := H'.out; clear H'
 by_cases c9 : t655 = 0
 ·
  rw [if_pos c9] at H
  have c9b0 : (t655 == 0) = true := beq_iff_eq.mpr c9; have c9b1 : (t655 != 0) = false := bne_eq_false_iff_eq.mpr c9; clear c9
  (first | rw [c9b0] | (simp only [i64_w, i32_w]; rw [c9b0]) | skip)
  by_cases c10 : 0 ≤ t652
  rotate_left
  ·
   rw [if_neg c10] at H
   exact absurd H (by simp)
  rw [if_pos c10] at H
  have c10b0 := eq_true c10; have c10b1 : decide (0 ≤ t652) = true := decide_eq_true c10; clear c10
  by_cases c11 : t652 ≤ (a1.size : Int)
  rotate_left
  ·
   rw [if_neg c11] at H
   exact absurd H (by simp)
  rw [if_pos c11] at H
  have c11b0 := eq_true c11; have c11b1 : decide (t652 ≤ (a1.size : Int)) = true := decide_eq_true c11; clear c11
  simp only [Option.some.injEq, Prod.mk.injEq] at H
  obtain ⟨rfl, rfl, rfl⟩ := H
  go_wp2
  go_ret
  exact ⟨y0_8, iS149 HI8, UpW.out, UpB.out⟩
 rw [if_neg c9] at H
 have c9b0 : (t655 == 0) = false := beq_eq_false_iff_ne.mpr c9; have c9b1 : (t655 != 0) = true := bne_iff_ne.mpr c9
 (first | rw [c9b0] | (simp only [i64_w, i32_w]; rw [c9b0]) | skip)
 by_cases c12 : t655 = 1
 ·
  rw [if_pos c12] at H
  have c12b0 : (t655 == 1) = true := beq_iff_eq.mpr c12; have c12b1 : (t655 != 1) = false := bne_eq_false_iff_eq.mpr c12; clear c12
  by_cases c13 : 0 ≤ t652
  rotate_left
  ·
   rw [if_neg c13] at H
   exact absurd H (by simp)
  rw [if_pos c13] at H
  have c13b0 := eq_true c13; have c13b1 : decide (0 ≤ t652) = true := decide_eq_true c13; clear c13
  by_cases c14 : t652 ≤ (a1.size : Int)
  rotate_left
  ·
   rw [if_neg c14] at H
   exact absurd H (by simp)
  rw [if_pos c14] at H
  have c14b0 := eq_true c14; have c14b1 : decide (t652 ≤ (a1.size : Int)) = true := decide_eq_true c14; clear c14; obtain ⟨y658, hy658⟩ : ∃ y_ : List ByteArray, y_ = (([(⟨#[48]⟩ : ByteArray), (⟨#[44]⟩ : ByteArray), (⟨#[62]⟩ : ByteArray), (⟨#[47]⟩ : ByteArray), (⟨#[124]⟩ : ByteArray), (⟨#[120]⟩ : ByteArray), (⟨#[49]⟩ : ByteArray)] : List ByteArray)) := ⟨_, rfl⟩
  replace H : ((spec_l1Pick.f s0_0 t656 t657 y658).bind fun bt661 => (if (a1.extract 0 (t652 : Int).toNat).size + bt661.1.size ≤ 9223372036854775807 then (if ((a1.extract 0 (t652 : Int).toNat) ++ bt661.1).size + (a1.extract (t652 : Int).toNat a1.size).size ≤ 9223372036854775807 then (some (((a1.extract 0 (t652 : Int).toNat) ++ bt661.1) ++ (a1.extract (t652 : Int).toNat a1.size), bt661.2.1, bt661.2.2)) else (none)) else (none))) = some (r1, r2, r3) := by first | (rw [hy658]; with_reducible exact H) | (rw [hy658]; with_reducible exact (Option.bind_some _ _).symm.trans H) | (rw [hy658]; exact H) | exact H
  have Ny658 := Aside0.mk hy658; clear hy658; obtain ⟨⟨t661, t662, t663⟩, A15, H⟩ := oB H; (try dsimp only at H)
  by_cases c16 : (a1.extract 0 (t652 : Int).toNat).size + t661.size ≤ 9223372036854775807
  rotate_left
  ·
   rw [if_neg c16] at H
   exact absurd H (by simp)
  rw [if_pos c16] at H
  have c16b0 := eq_true c16; have c16b1 : decide ((a1.extract 0 (t652 : Int).toNat).size + t661.size ≤ 9223372036854775807) = true := decide_eq_true c16
  try have c16b2 : (9223372036854775807 < (a1.extract 0 (t652 : Int).toNat).size + t661.size) = False := eq_false (Nat.not_lt.2 c16)
  (try have c16b3 : (9223372036854775807 < t652.toNat + t661.size) = False := eq_false (by have h_ := c16; simp only [ByteArray.size_append, ByteArray.size_extract] at h_; have h0_ : (t652 : Int) ≤ (a1.size : Int) := of_decide_eq_true (by assumption); omega))
  have c17b0 := eq_true (of_decide_eq_true y0_7 : 0 ≤ t652); have c18b0 := eq_true (of_decide_eq_true y0_7 : t652 ≤ (a1.size : Int))
  by_cases c19 : ((a1.extract 0 (t652 : Int).toNat) ++ t661).size + (a1.extract (t652 : Int).toNat a1.size).size ≤ 9223372036854775807
  rotate_left
  ·
   rw [if_neg c19] at H
   exact absurd H (by simp)
  rw [if_pos c19] at H
  have c19b0 := eq_true c19; have c19b1 : decide (((a1.extract 0 (t652 : Int).toNat) ++ t661).size + (a1.extract (t652 : Int).toNat a1.size).size ≤ 9223372036854775807) = true := decide_eq_true c19
  try have c19b2 : (9223372036854775807 < ((a1.extract 0 (t652 : Int).toNat) ++ t661).size + (a1.extract (t652 : Int).toNat a1.size).size) = False := eq_false (Nat.not_lt.2 c19)
  (try have c19b3 : (9223372036854775807 < t652.toNat + t661.size + (a1.size - t652.toNat)) = False := eq_false (by have h_ := c19; simp only [ByteArray.size_append, ByteArray.size_extract] at h_; have h0_ : (t652 : Int) ≤ (a1.size : Int) := of_decide_eq_true (by assumption); omega))
  simp only [Option.some.injEq, Prod.mk.injEq] at H
  obtain ⟨rfl, rfl, rfl⟩ := H
  try go_wp2
  refine sB [g] spec_l2Dent.tab6 spec_l2Dent.bits6 ?_; intro w20 _ HT_ HW_
  refine pA 0 (some 20) (bz 12 1) HT_ ?_
  refine pA 1 (some 21) (bz 12 3) HT_ ?_
  refine pA 2 (some 22) (bz 12 7) HT_ ?_
  refine pA 3 (some 23) (bz 12 15) HT_ ?_
  refine pA 7 (some 27) (bz 12 143) HT_ ?_
  refine pA 8 (some 28) (bz 12 399) HT_ ?_
  refine pA 9 (some 29) (bz 12 911) HT_ ?_
  refine o1 4 (some 24) (bz 12 927) HT_ rfl (kL 9 Kd.string rfl Ny658 ?_); intro Ao659 co659 w21 _ HO660
  refine nA (some 24) ?_
  refine o1 5 (some 25) (bz 12 959) HT_ rfl (kK Tryz.func191 (spec_l1Pick.calls (hI := iS149 HI8) (hB := UpW.out) (hr1 := rC HO660) (hc1 := rL HO660) (hf1 := fS HO660) (w := _) (h := A15.out)) ?_); intro w22 _ _ _ HI23
  refine nA (some 25) ?_
  refine pA 6 (some 26) (bz 12 1023) HT_ ?_
  refine pA 10 (some 30) (bz 12 2047) HT_ ?_
  refine pA 11 (some 4) (bz 12 4095) HT_ ?_
  refine done_ (done_of HT_.out (by kernel_rfl)) ?_
  try go_wp2
  go_ret
  exact ⟨y0_8, iS149 HI23, UpW.out, UpB.out⟩
 rw [if_neg c12] at H
 have c12b0 : (t655 == 1) = false := beq_eq_false_iff_ne.mpr c12; have c12b1 : (t655 != 1) = true := bne_iff_ne.mpr c12
 simp only [Option.some.injEq, Prod.mk.injEq] at H
 obtain ⟨rfl, rfl, rfl⟩ := H
 go_wp2
 go_ret
 exact ⟨y0_8, iS149 HI8, UpW.out, UpB.out⟩
def spec_l5Draw.l0 : Nat → ByteArray → Int → List Int → Int → Int → Option (ByteArray × Int × Int)
 | 0, _, _, _, _, _ => none
 | k + 1, x3, x4, x1000, x1001, x1002 => (spec_l1Below.f x1000 x1001 x1002 2).bind fun bt667 => (if x4 ≤ (wrap64 (30 + bt667.1)) then (if x3.size + 1 ≤ 9223372036854775807 then ((spec_Digits.f k x4).bind fun t670 => (if (x3 ++ (⟨#[47]⟩ : ByteArray)).size + t670.size ≤ 9223372036854775807 then (if ((x3 ++ (⟨#[47]⟩ : ByteArray)) ++ t670).size + 1 ≤ 9223372036854775807 then (spec_l5Draw.l0 k (((x3 ++ (⟨#[47]⟩ : ByteArray)) ++ t670) ++ (⟨#[124]⟩ : ByteArray)) (wrap64 (x4 + 1)) x1000 bt667.2.1 bt667.2.2) else (none)) else (none))) else (none)) else (some (x3, bt667.2.1, bt667.2.2)))
def spec_l5Draw.f (k : Nat) (s0_0 : List Int) (s0_1 : Int) (s0_2 : Int) : Option (ByteArray × Int × Int) := (spec_l1Once.f s0_0 s0_1 s0_2 20).bind fun bt664 => (if bt664.1 = true then (spec_l5Draw.l0 k (⟨#[]⟩ : ByteArray) 1 s0_0 bt664.2.1 bt664.2.2) else ((spec_l5DrawRight.f k s0_0 bt664.2.1 bt664.2.2).bind fun bt671 => ((spec_l2Dent.f s0_0 bt671.2.1 bt671.2.2 bt671.1).bind fun bt674 => (some (bt674.1, bt674.2.1, bt674.2.2)))))
theorem spec_l5Draw.calls (k : Nat) (g : Nat) (s0_0 : List Int) (s0_1 : Int) (s0_2 : Int) (r1 : ByteArray) (r2 : Int) (r3 : Int) (w0 w : World) (hI : IsS149 w0 w g s0_0 s0_1 s0_2) (hB : Below w0.heap.size w0 w) (h : spec_l5Draw.f k s0_0 s0_1 s0_2 = some (r1, r2, r3)) :
  Calls Tryz.prog 143 #[.pointer (some ⟨g, 0, none⟩)] w fun e w' => e = .returned (.string r1) ∧ IsS149 w0 w' g s0_0 r2 r3 ∧ Below w0.heap.size w0 w' ∧ KeepBut w w' g none := by
 have HI0 := Aside0.mk hI; have HK := Aside0.mk (KeepBut.refl w g none); have HL := Aside0.mk hB.size; clear hI; have HW0 := Aside0.mk hB.size; have HB := Aside0.mk hB; clear hB
 have H := h; unfold spec_l5Draw.f at H
 clear h; obtain ⟨⟨t664, t665, t666⟩, A2, H⟩ := oB H; (try dsimp only at H); have i0_ := iB149 HI0; have i1_ : LB w0 w := ⟨HB.out⟩
 go_enter Tryz.func143, Tryz.ntmps143
 have H' := Aside0.mk H; clear H
 go_upto_if 6 with (first | ((with_reducible refine gate_callee (f := 93) rfl ?_); refine gK (some 6) Tryz.func93 (spec_l1Once.calls (hI := iS149 HI0) (hB := UpW.out) (w := _) (h := A2.out)) ?_; intro w3 _ _ _ HI4))
 have H := H'.out; clear H'
 by_cases c5 : t664 = true
 ·
  subst c5
  rw [if_pos rfl] at H
  have H' := Aside0.mk H; clear H
  go_wp2
  refine wC ?_; intro w6 _
  go_loopg [3, 4] k (fun kq v3 v4 w' => ∃ (x3_1 : ByteArray) (x4_1 : Int) (x1001_1 : Int) (x1002_1 : Int), v3 = .string x3_1 ∧ v4 = .int .i64 x4_1 ∧ Aside0 (spec_l5Draw.l0 kq x3_1 x4_1 s0_0 x1001_1 x1002_1 = some (r1, r2, r3)) ∧ Aside0 (kq ≤ k) ∧ StB g w' 149 ∧ Aside0 (IsS149 w0 w' g s0_0 x1001_1 x1002_1) ∧ KL w6 [g] w' ∧ LB w0 w' ∧ KS w g w')
  case atStart => exact ⟨((⟨#[]⟩ : ByteArray)), (1), (t665), (t666), y0_8, y0_8, H', ⟨Nat.le_refl _⟩, iB149 ⟨iS149 HI4⟩, ⟨iS149 HI4⟩, ⟨UpL.out⟩, ⟨UpW.out⟩, ⟨UpB.out⟩⟩
  case round =>
   clear H'; obtain ⟨x3_1, x4_1, x1001_1, x1002_1, rfl, rfl, HA, HK1, _, HI7, _, _, _⟩ := hrel; cases gk with
   | zero => exact absurd HA.out (by simp [spec_l5Draw.l0])
   | succ k1 =>
    have H := HA.out; clear HA
    simp only [spec_l5Draw.l0] at H
    obtain ⟨⟨t667, t668, t669⟩, A8, H⟩ := oB H; (try dsimp only at H); have H' := Aside0.mk H; clear H
    go_upto_if 11 with (first | ((with_reducible refine gate_callee (f := 97) rfl ?_); refine gK (some 9) Tryz.func97 (spec_l1Below.calls (hI := iS149 HI7) (hB := UpW.out) (w := _) (h := A8.out)) ?_; intro w9 _ _ _ HI10))
    have H := H'.out; clear H'
    by_cases c11 : x4_1 ≤ (wrap64 (30 + t667))
    ·
     rw [if_pos c11] at H
     have c11b0 : decide (x4_1 ≤ (wrap64 (30 + t667))) = true := decide_eq_true c11; clear c11
     (first | rw [c11b0] | (simp only [i64_w, i32_w]; rw [c11b0]) | skip)
     by_cases c12 : x3_1.size + 1 ≤ 9223372036854775807
     rotate_left
     ·
      rw [if_neg c12] at H
      exact absurd H (by simp)
     rw [if_pos c12] at H
     have c12b0 := eq_true c12; have c12b1 : decide (x3_1.size + 1 ≤ 9223372036854775807) = true := decide_eq_true c12
     try have c12b2 : (9223372036854775807 < x3_1.size + 1) = False := eq_false (Nat.not_lt.2 c12)
     obtain ⟨t670, A13, H⟩ := oB H; (try dsimp only at H)
     by_cases c14 : (x3_1 ++ (⟨#[47]⟩ : ByteArray)).size + t670.size ≤ 9223372036854775807
     rotate_left
     ·
      rw [if_neg c14] at H
      exact absurd H (by simp)
     rw [if_pos c14] at H
     have c14b0 := eq_true c14; have c14b1 : decide ((x3_1 ++ (⟨#[47]⟩ : ByteArray)).size + t670.size ≤ 9223372036854775807) = true := decide_eq_true c14
     try have c14b2 : (9223372036854775807 < (x3_1 ++ (⟨#[47]⟩ : ByteArray)).size + t670.size) = False := eq_false (Nat.not_lt.2 c14)
     (try have c14b3 : (9223372036854775807 < x3_1.size + 1 + t670.size) = False := eq_false (by have h_ := c14; simp only [ByteArray.size_append, ByteArray.size_extract, show (⟨#[47]⟩ : ByteArray).size = 1 from rfl] at h_; omega))
     by_cases c15 : ((x3_1 ++ (⟨#[47]⟩ : ByteArray)) ++ t670).size + 1 ≤ 9223372036854775807
     rotate_left
     ·
      rw [if_neg c15] at H
      exact absurd H (by simp)
     rw [if_pos c15] at H
     have c15b0 := eq_true c15; have c15b1 : decide (((x3_1 ++ (⟨#[47]⟩ : ByteArray)) ++ t670).size + 1 ≤ 9223372036854775807) = true := decide_eq_true c15
     try have c15b2 : (9223372036854775807 < ((x3_1 ++ (⟨#[47]⟩ : ByteArray)) ++ t670).size + 1) = False := eq_false (Nat.not_lt.2 c15)
     (try have c15b3 : (9223372036854775807 < x3_1.size + 1 + t670.size + 1) = False := eq_false (by have h_ := c15; simp only [ByteArray.size_append, ByteArray.size_extract, show (⟨#[47]⟩ : ByteArray).size = 1 from rfl] at h_; omega))
     have H' := Aside0.mk H; clear H
     go_wp2_with (first | ((with_reducible refine gate_callee (f := 166) rfl ?_); refine gC (some 17) Tryz.func166 (spec_Digits.calls (w := _) (h := A13.out)) ?_; intro w16 _))
     go_roundg k1
     case measure => have := HK1.out; omega
     case rel => exact ⟨(((x3_1 ++ (⟨#[47]⟩ : ByteArray)) ++ t670) ++ (⟨#[124]⟩ : ByteArray)), (wrap64 (x4_1 + 1)), (t668), (t669), y0_8, y0_8, H', ⟨y0_11⟩, iB149 ⟨iS149 HI10⟩, ⟨iS149 HI10⟩, ⟨UpL.out⟩, ⟨UpW.out⟩, ⟨UpB.out⟩⟩
    rw [if_neg c11] at H
    have c11b0 : decide (x4_1 ≤ (wrap64 (30 + t667))) = false := decide_eq_false c11; clear c11
    (first | rw [c11b0] | (simp only [i64_w, i32_w]; rw [c11b0]) | skip)
    simp only [Option.some.injEq, Prod.mk.injEq] at H
    obtain ⟨rfl, rfl, rfl⟩ := H
    go_wp2
    go_ret
    exact ⟨y0_8, iS149 HI10, UpW.out, UpB.out⟩
 replace c5 := Bool.eq_false_iff.mpr c5; subst c5
 rw [if_neg Bool.false_ne_true] at H
 obtain ⟨⟨t671, t672, t673⟩, A17, H⟩ := oB H; (try dsimp only at H); obtain ⟨⟨t674, t675, t676⟩, A18, H⟩ := oB H; (try dsimp only at H)
 simp only [Option.some.injEq, Prod.mk.injEq] at H
 obtain ⟨rfl, rfl, rfl⟩ := H
 go_wp2_with (first | ((with_reducible refine gate_callee (f := 101) rfl ?_); refine gK (some 23) Tryz.func101 (spec_l5DrawRight.calls (hI := iS149 HI4) (hB := UpW.out) (w := _) (h := A17.out)) ?_; intro w19 _ _ _ HI20) | ((with_reducible refine gate_callee (f := 167) rfl ?_); refine gK (some 24) Tryz.func167 (spec_l2Dent.calls (hI := iS149 HI20) (hB := UpW.out) (w := _) (h := A18.out)) ?_; intro w21 _ _ _ HI22))
 go_ret
 exact ⟨y0_8, iS149 HI22, UpW.out, UpB.out⟩
def spec_l7DrawOf.l0 : Nat → Int → List Int → Int → Int → Int → Int → Int → ByteArray → List Int → Option (Int × ByteArray × List Int × Int × Int)
 | 0, _, _, _, _, _, _, _, _, _ => none
 | k + 1, x8, x1000, x1001, x1002, x678000, x678001, x681000, x681001, x681002 => if x8 < x678000 then (if x681002.length < 17592186044416 then (spec_l7DrawOf.l0 k (wrap64 (x8 + 1)) x1000 x1001 x1002 x678000 x678001 x681000 x681001 (x681002 ++ [x8])) else (none)) else ((spec_l1Once.f x1000 x1001 x1002 2).bind fun bt684 => (if bt684.1 = true then (if (x681002.length : Int) > 0 then ((spec_l1Below.f x1000 bt684.2.1 bt684.2.2 (x681002.length : Int)).bind fun bt687 => ((some (([] : List Int) : List Int)).bind fun y690 => (if 0 ≤ bt687.1 then (if bt687.1 ≤ (x681002.length : Int) then ((some (x681002.take (bt687.1 : Int).toNat : List Int)).bind fun y693 => (if y690.length + y693.length < 17592186044416 then ((some (y690 ++ y693 : List Int)).bind fun y697 => (if 0 ≤ (wrap64 (bt687.1 + 1)) then (if (wrap64 (bt687.1 + 1)) ≤ (x681002.length : Int) then ((some (x681002.drop ((wrap64 (bt687.1 + 1)) : Int).toNat : List Int)).bind fun y700 => (if y697.length + y700.length < 17592186044416 then (some (x681000, x681001, (y697 ++ y700), bt687.2.1, bt687.2.2)) else (none))) else (none)) else (none))) else (none))) else (none)) else (none)))) else (some (x681000, x681001, x681002, bt684.2.1, bt684.2.2))) else (some (x681000, x681001, x681002, bt684.2.1, bt684.2.2))))
def spec_l7DrawOf.f (k : Nat) (s0_0 : List Int) (s0_1 : Int) (s0_2 : Int) (a1_0 : Int) (a1_1 : Int) (a2 : ByteArray) : Option (Int × ByteArray × List Int × Int × Int) := (spec_ViewOf.f k a2).bind fun t679 => (if a2.toList = ([] : List UInt8) then (some (t679, a2, ([] : List Int), s0_1, s0_2)) else (spec_l7DrawOf.l0 k 0 s0_0 s0_1 s0_2 a1_0 a1_1 t679 a2 ([] : List Int)))
def spec_l7DrawOf.T10 : Bool × List (List Nat × List Nat) := (true, [([], []), ([], []), ([1], [1]), ([], []), ([2, 3], [2, 3]), ([0, 4], [0, 4]), ([], []), ([6], [6]), ([], []), ([8], [8]), ([7, 9], [7, 9]), ([5, 10, 5], [5, 10]), ([0, 1, 2, 3, 4, 5, 6, 7, 8, 9, 10, 11], []), ([12, 11, 11, 0, 1, 2, 3, 4, 5, 6, 7, 8, 9, 10, 11], [11, 12])])
def spec_l7DrawOf.B10 : List Nat := [0, 0, 2, 0, 14, 31, 0, 64, 0, 256, 960, 2047, 4095, 8191]
theorem spec_l7DrawOf.tab10 : rtab .any (opsOf Tryz.f147 10) = spec_l7DrawOf.T10 := by kernel_rfl
theorem spec_l7DrawOf.bits10 : waitsOk spec_l7DrawOf.T10.2 spec_l7DrawOf.B10 = true := by kernel_rfl
theorem spec_l7DrawOf.calls (k : Nat) (g : Nat) (s0_0 : List Int) (s0_1 : Int) (s0_2 : Int) (a1_0 : Int) (a1_1 : Int) (a2 : ByteArray) (r1 : Int) (r2 : ByteArray) (r3 : List Int) (r4 : Int) (r5 : Int) (w0 w : World) (hI : IsS149 w0 w g s0_0 s0_1 s0_2) (hB : Below w0.heap.size w0 w) (h : spec_l7DrawOf.f k s0_0 s0_1 s0_2 a1_0 a1_1 a2 = some (r1, r2, r3, r4, r5)) :
  Calls Tryz.prog 147 #[.pointer (some ⟨g, 0, none⟩), .agg #[.int .i64 a1_0, .int .i64 a1_1], .string a2] w fun e w' => ∃ v2_ : Value, e = .returned (.agg #[.int .i64 r1, .string r2, v2_]) ∧ Kd.R (Kd.int .i64) 3 w' w.heap.size (fun _ => True) v2_ r3 ∧ IsS149 w0 w' g s0_0 r4 r5 ∧ Below w0.heap.size w0 w' ∧ KeepBut w w' g none := by
 have hu32 := Tryz.underlying32; have hu27 := Tryz.underlying27; have HI0 := Aside0.mk hI; have HK := Aside0.mk (KeepBut.refl w g none); have HL := Aside0.mk hB.size; clear hI; have HW0 := Aside0.mk hB.size; have HB := Aside0.mk hB; clear hB
 have H := h; unfold spec_l7DrawOf.f at H
 clear h; obtain ⟨t679, A4, H⟩ := oB H; (try dsimp only at H); have i0_ := iB149 HI0; have i1_ : LB w0 w := ⟨HB.out⟩
 go_enter Tryz.func147, Tryz.ntmps147
 have H' := Aside0.mk H; clear H
 go_upto_if 15 with (first | ((with_reducible refine gd 4 ?_); refine bL 4 #[.int .i64 a1_0, .int .i64 a1_1] 32 ?_; intro gb677 w5 _ _ _) | ((with_reducible refine gd 6 ?_); refine bL 6 #[.int .i64 0, .string (⟨#[]⟩ : ByteArray), .slice none 0 0] 27 ?_; intro gb678 w6 _ _ _) | ((with_reducible refine gate_callee (f := 113) rfl ?_); refine gC (some 11) Tryz.func113 (spec_ViewOf.calls (w := _) (h := A4.out)) ?_; intro w7 _) | ((with_reducible refine gd 7 ?_); refine bL 7 #[.int .i64 0, .string (⟨#[]⟩ : ByteArray), .slice none 0 0] 27 ?_; intro gb680 w8 _ _ _))
 have H := H'.out; clear H'
 by_cases c9 : a2.toList = ([] : List UInt8)
 ·
  rw [if_pos c9] at H
  have c9b0 : (a2.toList == ([] : List UInt8)) = true := beq_iff_eq.mpr c9; have c9b1 : (a2.toList != ([] : List UInt8)) = false := bne_eq_false_iff_eq.mpr c9; clear c9
  (first | rw [c9b0] | (simp only [i64_w, i32_w]; rw [c9b0]) | rw [show List.isEmpty (a2.toList) = true from by simpa using c9b0] | skip)
  simp only [Option.some.injEq, Prod.mk.injEq] at H
  obtain ⟨rfl, rfl, rfl, rfl, rfl⟩ := H
  go_wp2
  refine bodyPost_ret (results_cell_row rfl _ _ gb678 27 #[.int .i64 t679, .string a2, .slice none 0 0] (0, 0) _ rfl xB Tryz.underlying27 rfl (by kernel_rfl)) rfl ?_
  exact ⟨_, y0_8, Kd.R_nil _ _ _ _ _, iS149 HI0, UpW.out, UpB.out⟩
 rw [if_neg c9] at H
 have c9b0 : (a2.toList == ([] : List UInt8)) = false := beq_eq_false_iff_ne.mpr c9; have c9b1 : (a2.toList != ([] : List UInt8)) = true := bne_iff_ne.mpr c9
 (first | rw [c9b0] | (simp only [i64_w, i32_w]; rw [c9b0]) | rw [show List.isEmpty (a2.toList) = false from by simpa using c9b0] | skip)
 have H' := Aside0.mk H; clear H
 go_wp2
 refine wC ?_; intro w10 _
 go_loopg [8] k (fun kq v8 w' => ∃ (x8_1 : Int) (x681002_1 : List Int) (Ao681002_1 : Option Addr) (co681002_1 : Nat), v8 = .int .i64 x8_1 ∧ Aside0 (spec_l7DrawOf.l0 kq x8_1 s0_0 s0_1 s0_2 a1_0 a1_1 t679 a2 x681002_1 = some (r1, r2, r3, r4, r5)) ∧ Aside0 (kq ≤ k) ∧ Aside0 (Kd.R (Kd.int .i64) 3 w' w10.heap.size (iv w10 w') (.slice Ao681002_1 x681002_1.length co681002_1) x681002_1) ∧ BkI gb680 w' #[.int .i64 t679, .string a2, .slice Ao681002_1 x681002_1.length co681002_1] 27 ∧ KT w10 [gb680] w10 _ (Kd.int .i64) 3 w' ∧ LB w0 w' ∧ KS w g w')
 case atStart => exact ⟨(0), (([] : List Int)), (none), (0), y0_8, H', ⟨Nat.le_refl _⟩, ⟨Kd.R_nil _ _ _ _ _⟩, ⟨xB⟩, ⟨UpT.out⟩, ⟨UpW.out⟩, ⟨UpB.out⟩⟩
 case round =>
  clear H'; obtain ⟨x8_1, x681002_1, Ao681002_1, co681002_1, rfl, HA, HK1, HO_681002, _, _, _, _⟩ := hrel; cases gk with
  | zero => exact absurd HA.out (by simp [spec_l7DrawOf.l0])
  | succ k1 =>
   have H := HA.out; clear HA
   simp only [spec_l7DrawOf.l0] at H
   have H' := Aside0.mk H; clear H
   go_upto_if 20 with fail
   have H := H'.out; clear H'
   by_cases c11 : x8_1 < a1_0
   ·
    rw [if_pos c11] at H
    have c11b0 : decide (x8_1 < a1_0) = true := decide_eq_true c11; clear c11
    (first | rw [c11b0] | (simp only [i64_w, i32_w]; rw [c11b0]) | skip)
    by_cases c12 : x681002_1.length < 17592186044416
    rotate_left
    ·
     rw [if_neg c12] at H
     exact absurd H (by simp)
    rw [if_pos c12] at H
    have LMc12 := Aside0.mk c12; clear c12; obtain ⟨y681, hy681⟩ : ∃ y_ : List Int, y_ = (x681002_1 ++ [x8_1]) := ⟨_, rfl⟩
    replace H : (spec_l7DrawOf.l0 k1 (wrap64 (x8_1 + 1)) s0_0 s0_1 s0_2 a1_0 a1_1 t679 a2 y681) = some (r1, r2, r3, r4, r5) := by first | (rw [hy681]; with_reducible exact H) | (rw [hy681]; with_reducible exact (Option.bind_some _ _).symm.trans H) | (rw [hy681]; exact H) | exact H
    have Ny681 := Aside0.mk hy681; clear hy681; have H' := Aside0.mk H; clear H
    go_wp2_with (first | ((with_reducible refine gate_builtin (b := .append) (xs := #[.tmp 24, .tmp 26]) rfl ?_); at_builtin; refine gA (Kd.int .i64) (.tmp 24) (.tmp 26) 25 3 (.int .i64 0) 8 x8_1 [.int .i64 x8_1] w10 Ny681 HO_681002 rfl (by have := LMc12.out; omega) ?_ (ht := Tryz.underlying25) (hinfo := info3); intro Ao682 co682 w13 _ _ HO683))
    go_roundg k1
    case measure => have := HK1.out; omega
    case rel => exact ⟨(wrap64 (x8_1 + 1)), (y681), (Ao682), (co682), y0_8, H', ⟨y0_11⟩, ⟨rJ HO683⟩, ⟨xB⟩, ⟨UpT.out⟩, ⟨UpW.out⟩, ⟨UpB.out⟩⟩
   rw [if_neg c11] at H
   have c11b0 : decide (x8_1 < a1_0) = false := decide_eq_false c11; clear c11
   (first | rw [c11b0] | (simp only [i64_w, i32_w]; rw [c11b0]) | skip)
   obtain ⟨⟨t684, t685, t686⟩, A14, H⟩ := oB H; (try dsimp only at H)
   by_cases c15 : t684 = true
   ·
    subst c15
    rw [if_pos rfl] at H
    have H' := Aside0.mk H; clear H
    go_upto_if 36 with (first | ((with_reducible refine gate_callee (f := 93) rfl ?_); refine gK (some 30) Tryz.func93 (spec_l1Once.calls (hI := iS149 HI0) (hB := UpW.out) (w := _) (h := A14.out)) ?_; intro w16 _ _ _ HI17))
    have H := H'.out; clear H'
    by_cases c18 : (x681002_1.length : Int) > 0
    ·
     rw [if_pos c18] at H
     have c18b0 : decide (0 < (x681002_1.length : Int)) = true := decide_eq_true c18
     have c18b1 : decide (0 < x681002_1.length) = true := decide_eq_true (by omega)
     clear c18
     (first | rw [c18b0] | rw [c18b1] | (simp only [i64_w, i32_w]; rw [c18b0]) | skip)
     obtain ⟨⟨t687, t688, t689⟩, A19, H⟩ := oB H; (try dsimp only at H); obtain ⟨y690, hy690⟩ : ∃ y_ : List Int, y_ = (([] : List Int)) := ⟨_, rfl⟩
     replace H : (if 0 ≤ t687 then (if t687 ≤ (x681002_1.length : Int) then ((some (x681002_1.take (t687 : Int).toNat : List Int)).bind fun y693 => (if y690.length + y693.length < 17592186044416 then ((some (y690 ++ y693 : List Int)).bind fun y697 => (if 0 ≤ (wrap64 (t687 + 1)) then (if (wrap64 (t687 + 1)) ≤ (x681002_1.length : Int) then ((some (x681002_1.drop ((wrap64 (t687 + 1)) : Int).toNat : List Int)).bind fun y700 => (if y697.length + y700.length < 17592186044416 then (some (t679, a2, (y697 ++ y700), t688, t689)) else (none))) else (none)) else (none))) else (none))) else (none)) else (none)) = some (r1, r2, r3, r4, r5) := by first | (rw [hy690]; with_reducible exact H) | (rw [hy690]; with_reducible exact (Option.bind_some _ _).symm.trans H) | (rw [hy690]; exact H) | exact H
     have Ny690 := Aside0.mk hy690; clear hy690
     by_cases c20 : 0 ≤ t687
     rotate_left
     ·
      rw [if_neg c20] at H
      exact absurd H (by simp)
     rw [if_pos c20] at H
     have c20b0 := eq_true c20; have c20b1 : decide (0 ≤ t687) = true := decide_eq_true c20; clear c20
     by_cases c21 : t687 ≤ (x681002_1.length : Int)
     rotate_left
     ·
      rw [if_neg c21] at H
      exact absurd H (by simp)
     rw [if_pos c21] at H
     have c21b0 := eq_true c21; have c21b1 : decide (t687 ≤ (x681002_1.length : Int)) = true := decide_eq_true c21; clear c21; obtain ⟨y693, hy693⟩ : ∃ y_ : List Int, y_ = (x681002_1.take (t687 : Int).toNat) := ⟨_, rfl⟩
     replace H : (if y690.length + y693.length < 17592186044416 then ((some (y690 ++ y693 : List Int)).bind fun y697 => (if 0 ≤ (wrap64 (t687 + 1)) then (if (wrap64 (t687 + 1)) ≤ (x681002_1.length : Int) then ((some (x681002_1.drop ((wrap64 (t687 + 1)) : Int).toNat : List Int)).bind fun y700 => (if y697.length + y700.length < 17592186044416 then (some (t679, a2, (y697 ++ y700), t688, t689)) else (none))) else (none)) else (none))) else (none)) = some (r1, r2, r3, r4, r5) := by first | (rw [hy693]; with_reducible exact H) | (rw [hy693]; with_reducible exact (Option.bind_some _ _).symm.trans H) | (rw [hy693]; exact H) | exact H
     have Ny693 := Aside0.mk hy693; clear hy693
     by_cases c22 : y690.length + y693.length < 17592186044416
     rotate_left
     ·
      rw [if_neg c22] at H
      exact absurd H (by simp)
     rw [if_pos c22] at H
     have LMc22 := Aside0.mk c22; clear c22; obtain ⟨y697, hy697⟩ : ∃ y_ : List Int, y_ = (y690 ++ y693) := ⟨_, rfl⟩
     replace H : (if 0 ≤ (wrap64 (t687 + 1)) then (if (wrap64 (t687 + 1)) ≤ (x681002_1.length : Int) then ((some (x681002_1.drop ((wrap64 (t687 + 1)) : Int).toNat : List Int)).bind fun y700 => (if y697.length + y700.length < 17592186044416 then (some (t679, a2, (y697 ++ y700), t688, t689)) else (none))) else (none)) else (none)) = some (r1, r2, r3, r4, r5) := by first | (rw [hy697]; with_reducible exact H) | (rw [hy697]; with_reducible exact (Option.bind_some _ _).symm.trans H) | (rw [hy697]; exact H) | exact H
     have Ny697 := Aside0.mk hy697; clear hy697; obtain ⟨ji23, hji23⟩ : ∃ j_ : Int, (wrap64 (t687 + 1)) = j_ := ⟨_, rfl⟩
     replace H : (if 0 ≤ (ji23) then (if (ji23) ≤ (x681002_1.length : Int) then ((some (x681002_1.drop ((ji23) : Int).toNat : List Int)).bind fun y700 => (if y697.length + y700.length < 17592186044416 then (some (t679, a2, (y697 ++ y700), t688, t689)) else (none))) else (none)) else (none)) = some (r1, r2, r3, r4, r5) := by first | (rw [hji23] at H; exact H) | (simp only [hji23] at H ⊢; exact H)
     (try rw [hji23] at A19)
     have hji23w : (IntKind.i64.wrap (t687 + 1)) = ji23 := (i64_w _).trans hji23
     by_cases c24 : 0 ≤ (ji23)
     rotate_left
     ·
      rw [if_neg c24] at H
      exact absurd H (by simp)
     rw [if_pos c24] at H
     have c24b0 := eq_true c24; have c24b1 : decide (0 ≤ (ji23)) = true := decide_eq_true c24; clear c24
     by_cases c25 : (ji23) ≤ (x681002_1.length : Int)
     rotate_left
     ·
      rw [if_neg c25] at H
      exact absurd H (by simp)
     rw [if_pos c25] at H
     have c25b0 := eq_true c25; have c25b1 : decide ((ji23) ≤ (x681002_1.length : Int)) = true := decide_eq_true c25; clear c25; obtain ⟨y700, hy700⟩ : ∃ y_ : List Int, y_ = (x681002_1.drop ((ji23) : Int).toNat) := ⟨_, rfl⟩
     replace H : (if y697.length + y700.length < 17592186044416 then (some (t679, a2, (y697 ++ y700), t688, t689)) else (none)) = some (r1, r2, r3, r4, r5) := by first | (rw [hy700]; with_reducible exact H) | (rw [hy700]; with_reducible exact (Option.bind_some _ _).symm.trans H) | (rw [hy700]; exact H) | exact H
     have Ny700 := Aside0.mk hy700; clear hy700
     by_cases c26 : y697.length + y700.length < 17592186044416
     rotate_left
     ·
      rw [if_neg c26] at H
      exact absurd H (by simp)
     rw [if_pos c26] at H
     have LMc26 := Aside0.mk c26; clear c26; obtain ⟨y704, hy704⟩ : ∃ y_ : List Int, y_ = (y697 ++ y700) := ⟨_, rfl⟩
     replace H : (some (t679, a2, y704, t688, t689)) = some (r1, r2, r3, r4, r5) := by first | (rw [hy704]; with_reducible exact H) | (rw [hy704]; with_reducible exact (Option.bind_some _ _).symm.trans H) | (rw [hy704]; exact H) | exact H
     have Ny704 := Aside0.mk hy704; clear hy704
     simp only [Option.some.injEq, Prod.mk.injEq] at H
     obtain ⟨rfl, rfl, rfl, rfl, rfl⟩ := H
     try go_wp2_with (first | ((with_reducible refine gate_callee (f := 97) rfl ?_); refine gK (some 41) Tryz.func97 (spec_l1Below.calls (hI := iS149 HI17) (hB := UpW.out) (w := _) (h := A19.out)) ?_; intro w27 _ _ _ HI28))
     have q29 : (t687 : Int) ≤ (x681002_1.length : Int) := of_decide_eq_true y0_7; obtain ⟨i029, hi029, _, hsz29, _⟩ := info_parts info3; have hcut29 := cut_to (P := Tryz.prog) 25 3 .i64 Tryz.underlying25 hi029 Ao681002_1 x681002_1.length co681002_1 t687 (of_decide_eq_true y0_7) q29 (rL HO_681002); have hr29 := Kd.R_take (m := (t687 : Int).toNat) HO_681002.out (Int.toNat_le.mpr q29)
     have hy29 : y693.length = (t687 : Int).toNat := (by rw [Ny693.out, List.length_take]; exact Nat.min_eq_left (Int.toNat_le.mpr q29))
     rw [← Ny693.out] at hr29
     rw [← hy29] at hr29 hcut29
     have HR696 := Aside0.mk hr29; clear hy29 hi029 hsz29 hr29; replace q29 := eq_true q29; have q30 : ((ji23) : Int) ≤ (x681002_1.length : Int) := of_decide_eq_true y0_7; have q030 : 0 ≤ ((ji23) : Int) := of_decide_eq_true y0_7; obtain ⟨i030, hi030, _, hsz30, _⟩ := info_parts info3; obtain ⟨A30, hcut30, hr30, _⟩ := print_drop_of (P := Tryz.prog) (Value.int .i64) 0 25 3 .i64 Tryz.underlying25 hi030 hsz30 Ao681002_1 co681002_1 x681002_1 ((ji23) : Int) q030 q30 (rL HO_681002)
     rw [← Ny700.out] at hcut30 hr30
     have HR703 : ∀ W_ : World, (Kd.int .i64).C W_ Ao681002_1 x681002_1.length x681002_1 → (Kd.int .i64).C W_ A30 y700.length y700 := fun W_ h_ => Kd.C_of_reads (h1 := fun _ => rfl) (hr30 W_ (Kd.reads_of_C h_))
     clear hi030 hsz30 hr30; replace q30 := eq_true q30; replace q030 := eq_true q030
     refine sD [] [13] spec_l7DrawOf.tab10 spec_l7DrawOf.bits10 ?_; intro w31 _ HT_ HW_
     refine pA 1 (some 43) (bz 14 2) HT_ ?_
     refine tB 2 (some 44) (bz 14 6) HT_ HW_ ?_
     refine pA 3 (some 45) (bz 14 14) HT_ ?_
     refine pA 4 (some 46) (bz 14 30) HT_ ?_
     refine pA 6 (some 48) (bz 14 94) HT_ ?_
     refine tB 7 (some 49) (bz 14 222) HT_ HW_ ?_
     refine pA 8 (some 50) (bz 14 478) HT_ ?_
     refine pA 9 (some 51) (bz 14 990) HT_ ?_
     refine pA 10 (some 52) (bz 14 2014) HT_ ?_
     refine o1 0 (some 42) (bz 14 2015) HT_ rfl (kL 3 (Kd.int .i64) rfl Ny690 ?_); intro Ao691 co691 w32 _ HO692
     refine nA (some 42) ?_
     refine o1 5 (some 47) (bz 14 2047) HT_ rfl (kGR (Kd.int .i64) (.tmp 42) (.tmp 46) 25 3 (.int .i64 0) 8 w31 Ny697 HO692 (rC HR696) (by have := LMc22.out; omega) ?_ (ht := Tryz.underlying25) (hinfo := info3)); intro Ao698 co698 w33 _ _ HO699; replace HO_681002 := rG (W' := w33) HO_681002; replace HR696 := rG (W' := w33) HR696
     refine nA (some 47) ?_
     refine o1 11 (some 53) (bz 14 4095) HT_ rfl (kGR (Kd.int .i64) (.tmp 47) (.tmp 52) 25 3 (.int .i64 0) 8 w31 Ny704 HO699 (HR703 _ (rC HO_681002)) (by have := LMc26.out; omega) ?_ (ht := Tryz.underlying25) (hinfo := info3)); intro Ao705 co705 w34 _ _ HO706; replace HO_681002 := rG (W' := w34) HO_681002; replace HR696 := rG (W' := w34) HR696
     refine nA (some 53) ?_
     refine pA 12 (some 54) (bz 14 0x1fff) HT_ ?_
     refine oZ 13 (bz 14 0x3fff) HT_ rfl ?_
     refine done_ (done_of HT_.out (by kernel_rfl)) ?_
     try go_wp2
     refine bodyPost_ret (results_cell_row rfl _ _ gb678 27 #[.int .i64 t679, .string a2, .slice Ao705 y704.length co705] (0, 0) _ rfl xB Tryz.underlying27 rfl (by kernel_rfl)) rfl ?_
     exact ⟨_, by first | rfl | (simp; done) | (simp only [← hji23] <;> (first | rfl | simp)) | (simp [*]; done), rR HO706, iS149 HI28, UpW.out, UpB.out⟩
    rw [if_neg c18] at H
    have c18b0 : decide (0 < (x681002_1.length : Int)) = false := decide_eq_false c18
    have c18b1 : decide (0 < x681002_1.length) = false := decide_eq_false (by omega)
    clear c18
    (first | rw [c18b0] | rw [c18b1] | (simp only [i64_w, i32_w]; rw [c18b0]) | skip)
    simp only [Option.some.injEq, Prod.mk.injEq] at H
    obtain ⟨rfl, rfl, rfl, rfl, rfl⟩ := H
    go_wp2
    refine bodyPost_ret (results_cell_row rfl _ _ gb678 27 #[.int .i64 t679, .string a2, .slice Ao681002_1 x681002_1.length co681002_1] (0, 0) _ rfl xB Tryz.underlying27 rfl (by kernel_rfl)) rfl ?_
    exact ⟨_, y0_8, rR HO_681002, iS149 HI17, UpW.out, UpB.out⟩
   replace c15 := Bool.eq_false_iff.mpr c15; subst c15
   rw [if_neg Bool.false_ne_true] at H
   have H' := Aside0.mk H; clear H
   go_upto_if 36 with (first | ((with_reducible refine gate_callee (f := 93) rfl ?_); refine gK (some 30) Tryz.func93 (spec_l1Once.calls (hI := iS149 HI0) (hB := UpW.out) (w := _) (h := A14.out)) ?_; intro w35 _ _ _ HI36))
   have H := H'.out; clear H'
   simp only [Option.some.injEq, Prod.mk.injEq] at H
   obtain ⟨rfl, rfl, rfl, rfl, rfl⟩ := H
   go_wp2
   refine bodyPost_ret (results_cell_row rfl _ _ gb678 27 #[.int .i64 t679, .string a2, .slice Ao681002_1 x681002_1.length co681002_1] (0, 0) _ rfl xB Tryz.underlying27 rfl (by kernel_rfl)) rfl ?_
   exact ⟨_, y0_8, rR HO_681002, iS149 HI36, UpW.out, UpB.out⟩
def spec_l7Draw.f (k : Nat) (s0_0 : List Int) (s0_1 : Int) (s0_2 : Int) (a1_0 : Int) (a1_1 : Int) : Option (Int × ByteArray × List Int × Int × Int) := (spec_l5DrawRight.f k s0_0 s0_1 s0_2).bind fun bt709 => ((spec_l7DrawOf.f k s0_0 bt709.2.1 bt709.2.2 a1_0 a1_1 bt709.1).bind fun bt712 => ((spec_l1Below.f s0_0 bt712.2.2.2.1 bt712.2.2.2.2 12).bind fun bt720 => (if bt720.1 = 0 then (some (wrap64 (bt712.1 + 1), bt712.2.1, bt712.2.2.1, bt720.2.1, bt720.2.2)) else (if bt720.1 = 1 then ((spec_l6DrawSet.f k s0_0 bt720.2.1 bt720.2.2 7).bind fun bt723 => (some (bt712.1, bt712.2.1, bt723.1, bt723.2.1, bt723.2.2))) else (if bt720.1 = 2 then ((spec_l5Draw.f k s0_0 bt720.2.1 bt720.2.2).bind fun bt728 => (some (bt712.1, bt728.1, bt712.2.2.1, bt728.2.1, bt728.2.2))) else (some (bt712.1, bt712.2.1, bt712.2.2.1, bt720.2.1, bt720.2.2)))))))
def spec_l7Draw.T1 : Bool × List (List Nat × List Nat) := (true, [([], []), ([], []), ([], []), ([2], [2]), ([0, 1, 3, 3], [0, 1, 3]), ([], []), ([5, 4, 4, 0, 1, 2, 3, 4, 5], [4, 5])])
def spec_l7Draw.B1 : List Nat := [0, 0, 0, 4, 15, 0, 63]
theorem spec_l7Draw.tab1 : rtab .any (opsOf Tryz.f98 1) = spec_l7Draw.T1 := by kernel_rfl
theorem spec_l7Draw.bits1 : waitsOk spec_l7Draw.T1.2 spec_l7Draw.B1 = true := by kernel_rfl
theorem spec_l7Draw.calls (k : Nat) (g : Nat) (s0_0 : List Int) (s0_1 : Int) (s0_2 : Int) (a1_0 : Int) (a1_1 : Int) (r1 : Int) (r2 : ByteArray) (r3 : List Int) (r4 : Int) (r5 : Int) (w0 w : World) (hI : IsS149 w0 w g s0_0 s0_1 s0_2) (hB : Below w0.heap.size w0 w) (h : spec_l7Draw.f k s0_0 s0_1 s0_2 a1_0 a1_1 = some (r1, r2, r3, r4, r5)) :
  Calls Tryz.prog 98 #[.pointer (some ⟨g, 0, none⟩), .agg #[.int .i64 a1_0, .int .i64 a1_1]] w fun e w' => ∃ v2_ : Value, e = .returned (.agg #[.int .i64 r1, .string r2, v2_]) ∧ Kd.R (Kd.int .i64) 3 w' w.heap.size (fun _ => True) v2_ r3 ∧ IsS149 w0 w' g s0_0 r4 r5 ∧ Below w0.heap.size w0 w' ∧ KeepBut w w' g none := by
 have hu32 := Tryz.underlying32; have hu27 := Tryz.underlying27; have HI0 := Aside0.mk hI; have HK := Aside0.mk (KeepBut.refl w g none); have HL := Aside0.mk hB.size; clear hI; have HW0 := Aside0.mk hB.size; have HB := Aside0.mk hB; clear hB
 have H := h; unfold spec_l7Draw.f at H
 clear h; obtain ⟨⟨t709, t710, t711⟩, A3, H⟩ := oB H; (try dsimp only at H); obtain ⟨⟨t712, t713, t714, t717, t718⟩, A4, H⟩ := oB H; (try dsimp only at H); obtain ⟨⟨t720, t721, t722⟩, A5, H⟩ := oB H; (try dsimp only at H); have i0_ := iB149 HI0; have i1_ : LB w0 w := ⟨HB.out⟩
 go_enter Tryz.func98, Tryz.ntmps98
 have H' := Aside0.mk H; clear H
 try go_wp2_with (first | ((with_reducible refine gd 3 ?_); refine bL 3 #[.int .i64 a1_0, .int .i64 a1_1] 32 ?_; intro gb707 w6 _ _ _) | ((with_reducible refine gd 4 ?_); refine bL 4 #[.int .i64 0, .string (⟨#[]⟩ : ByteArray), .slice none 0 0] 27 ?_; intro gb708 w7 _ _ _))
 refine sB [g] spec_l7Draw.tab1 spec_l7Draw.bits1 ?_; intro w8 _ HT_ HW_
 refine pA 0 (some 6) (bz 7 1) HT_ ?_
 refine tB 1 (some 7) (bz 7 3) HT_ HW_ ?_
 refine pA 2 (some 8) (bz 7 7) HT_ ?_
 refine join_ (σ := Option Addr × Nat × Nat) 1 (bz 7 63) (fun s_ => [(9, .string t709), (10, .agg #[.int .i64 t712, .string t713, .slice s_.1 t714.length s_.2.1]), (5, .pointer (some ⟨s_.2.2, 0, none⟩))]) (fun s_ w' => Aside0 (Kd.R (Kd.int .i64) 3 w' w8.heap.size (iv w8 w') (.slice s_.1 t714.length s_.2.1) t714) ∧ BkI (s_.2.2) w' #[.int .i64 0, .string (⟨#[]⟩ : ByteArray), .slice none 0 0] 27 ∧ BornI (s_.2.2) w8 ∧ StB g w' 149 ∧ Aside0 (IsS149 w0 w' g s0_0 t717 t718) ∧ KL w8 [g] w' ∧ LB w0 w' ∧ KS w g w') ?_ ?_
 rotate_left
 ·
  intro hCont
  refine o2 3 5 (some 9) (some 5) (bz 7 15) (bz 7 39) HT_ rfl rfl (kK Tryz.func101 (spec_l5DrawRight.calls (hI := iS149 HI0) (hB := UpW.out) (w := _) (h := A3.out)) ?_) (kB #[.int .i64 0, .string (⟨#[]⟩ : ByteArray), .slice none 0 0] 27 ?_)
  ·
   intro w9 _ _ _ HI10
   refine nA (some 9) ?_
   refine o2 4 5 (some 10) (some 5) (bz 7 31) (bz 7 47) HT_ rfl rfl (kK1 Tryz.func147 (spec_l7DrawOf.calls (hI := iS149 HI10) (hB := UpW.out) (w := _) (h := A4.out)) ?_) (kB #[.int .i64 0, .string (⟨#[]⟩ : ByteArray), .slice none 0 0] 27 ?_)
   ·
    intro Ao715 co715 w12 _ _ _ HI13 HO716
    refine nA (some 10) ?_
    refine o1 5 (some 5) (bz 7 63) HT_ rfl (kB #[.int .i64 0, .string (⟨#[]⟩ : ByteArray), .slice none 0 0] 27 ?_); intro gb719 w15 _ _ _
    refine nA (some 5) ?_
    exact hJ (hCont (Ao715, co715, gb719) _ ⟨⟨rJ HO716⟩, ⟨xB⟩, ⟨GeI.out⟩, iB149 ⟨iS149 HI13⟩, ⟨iS149 HI13⟩, ⟨UpL.out⟩, ⟨UpW.out⟩, ⟨UpB.out⟩⟩)
   intro gb719 w14 _ _ _
   refine nA (some 5) ?_
   refine o1 4 (some 10) (bz 7 63) HT_ rfl (kK1 Tryz.func147 (spec_l7DrawOf.calls (hI := iS149 HI10) (hB := UpW.out) (w := _) (h := A4.out)) ?_); intro Ao715 co715 w16 _ _ _ HI17 HO716
   refine nA (some 10) ?_
   exact hJ (hCont (Ao715, co715, gb719) _ ⟨⟨rJ HO716⟩, ⟨xB⟩, ⟨GeI.out⟩, iB149 ⟨iS149 HI17⟩, ⟨iS149 HI17⟩, ⟨UpL.out⟩, ⟨UpW.out⟩, ⟨UpB.out⟩⟩)
  intro gb719 w11 _ _ _
  refine nA (some 5) ?_
  refine o1 3 (some 9) (bz 7 47) HT_ rfl (kK Tryz.func101 (spec_l5DrawRight.calls (hI := iS149 HI0) (hB := UpW.out) (w := _) (h := A3.out)) ?_); intro w18 _ _ _ HI19
  refine nA (some 9) ?_
  refine o1 4 (some 10) (bz 7 63) HT_ rfl (kK1 Tryz.func147 (spec_l7DrawOf.calls (hI := iS149 HI19) (hB := UpW.out) (w := _) (h := A4.out)) ?_); intro Ao715 co715 w20 _ _ _ HI21 HO716
  refine nA (some 10) ?_
  exact hJ (hCont (Ao715, co715, gb719) _ ⟨⟨rJ HO716⟩, ⟨xB⟩, ⟨GeI.out⟩, iB149 ⟨iS149 HI21⟩, ⟨iS149 HI21⟩, ⟨UpL.out⟩, ⟨UpW.out⟩, ⟨UpB.out⟩⟩)
 rintro ⟨Ao715, co715, gb719⟩ w22 ⟨HO716, _, _, _, HI23, _, _, _⟩
 refine nP ?_
 refine o1 6 none (bz 7 127) HT_ rfl (kS ?_)
 refine done_ (done_of HT_.out (by kernel_rfl)) ?_
 go_upto_if 13 with (first | ((with_reducible refine gate_callee (f := 97) rfl ?_); refine gK (some 12) Tryz.func97 (spec_l1Below.calls (hI := iS149 HI23) (hB := UpW.out) (w := _) (h := A5.out)) ?_; intro w24 _ _ _ HI25))
 have H := H'.out; clear H'
 by_cases c26 : t720 = 0
 ·
  rw [if_pos c26] at H
  have c26b0 : (t720 == 0) = true := beq_iff_eq.mpr c26; have c26b1 : (t720 != 0) = false := bne_eq_false_iff_eq.mpr c26; clear c26
  (first | rw [c26b0] | (simp only [i64_w, i32_w]; rw [c26b0]) | skip)
  simp only [Option.some.injEq, Prod.mk.injEq] at H
  obtain ⟨rfl, rfl, rfl, rfl, rfl⟩ := H
  go_wp2
  refine bodyPost_ret (results_cell_row rfl _ _ gb708 27 #[.int .i64 (wrap64 (t712 + 1)), .string t713, .slice Ao715 t714.length co715] (0, 0) _ rfl xB Tryz.underlying27 rfl (by kernel_rfl)) rfl ?_
  exact ⟨_, y0_8, rR HO716, iS149 HI25, UpW.out, UpB.out⟩
 rw [if_neg c26] at H
 have c26b0 : (t720 == 0) = false := beq_eq_false_iff_ne.mpr c26; have c26b1 : (t720 != 0) = true := bne_iff_ne.mpr c26
 (first | rw [c26b0] | (simp only [i64_w, i32_w]; rw [c26b0]) | skip)
 by_cases c27 : t720 = 1
 ·
  rw [if_pos c27] at H
  have c27b0 : (t720 == 1) = true := beq_iff_eq.mpr c27; have c27b1 : (t720 != 1) = false := bne_eq_false_iff_eq.mpr c27; clear c27; obtain ⟨⟨t723, t726, t727⟩, A28, H⟩ := oB H; (try dsimp only at H)
  simp only [Option.some.injEq, Prod.mk.injEq] at H
  obtain ⟨rfl, rfl, rfl, rfl, rfl⟩ := H
  go_wp2_with (first | ((with_reducible refine gate_callee (f := 142) rfl ?_); refine gK1 (some 22) Tryz.func142 (spec_l6DrawSet.calls (hI := iS149 HI25) (hB := UpW.out) (w := _) (h := A28.out)) ?_; intro Ao724 co724 w29 _ _ _ HI30 HO725))
  refine bodyPost_ret (results_cell_row rfl _ _ gb708 27 #[.int .i64 t712, .string t713, .slice Ao724 t723.length co724] (0, 0) _ rfl xB Tryz.underlying27 rfl (by kernel_rfl)) rfl ?_
  exact ⟨_, y0_8, rR HO725, iS149 HI30, UpW.out, UpB.out⟩
 rw [if_neg c27] at H
 have c27b0 : (t720 == 1) = false := beq_eq_false_iff_ne.mpr c27; have c27b1 : (t720 != 1) = true := bne_iff_ne.mpr c27
 by_cases c31 : t720 = 2
 ·
  rw [if_pos c31] at H
  have c31b0 : (t720 == 2) = true := beq_iff_eq.mpr c31; have c31b1 : (t720 != 2) = false := bne_eq_false_iff_eq.mpr c31; clear c31; obtain ⟨⟨t728, t729, t730⟩, A32, H⟩ := oB H; (try dsimp only at H)
  simp only [Option.some.injEq, Prod.mk.injEq] at H
  obtain ⟨rfl, rfl, rfl, rfl, rfl⟩ := H
  go_wp2_with (first | ((with_reducible refine gate_callee (f := 143) rfl ?_); refine gK (some 27) Tryz.func143 (spec_l5Draw.calls (hI := iS149 HI25) (hB := UpW.out) (w := _) (h := A32.out)) ?_; intro w33 _ _ _ HI34))
  refine bodyPost_ret (results_cell_row rfl _ _ gb708 27 #[.int .i64 t712, .string t728, .slice Ao715 t714.length co715] (0, 0) _ rfl xB Tryz.underlying27 rfl (by kernel_rfl)) rfl ?_
  exact ⟨_, y0_8, rR HO716, iS149 HI34, UpW.out, UpB.out⟩
 rw [if_neg c31] at H
 have c31b0 : (t720 == 2) = false := beq_eq_false_iff_ne.mpr c31; have c31b1 : (t720 != 2) = true := bne_iff_ne.mpr c31
 simp only [Option.some.injEq, Prod.mk.injEq] at H
 obtain ⟨rfl, rfl, rfl, rfl, rfl⟩ := H
 go_wp2
 refine bodyPost_ret (results_cell_row rfl _ _ gb708 27 #[.int .i64 t712, .string t713, .slice Ao715 t714.length co715] (0, 0) _ rfl xB Tryz.underlying27 rfl (by kernel_rfl)) rfl ?_
 exact ⟨_, y0_8, rR HO716, iS149 HI25, UpW.out, UpB.out⟩
def spec_l7Copy.f (a0_0 : Int) (a0_1 : ByteArray) (l0_2 : List Int) : Option (Int × ByteArray × List Int) := (some (([] : List Int) : List Int)).bind fun y733 => (if y733.length + l0_2.length < 17592186044416 then (some (a0_0, a0_1, (y733 ++ l0_2))) else (none))
theorem spec_l7Copy.calls (a0_0 : Int) (a0_1 : ByteArray) (A0_2 : Option Addr) (c0_2 : Nat) (l0_2 : List Int) (r1 : Int) (r2 : ByteArray) (r3 : List Int) (w : World) (hr0_2 : Kd.C (Kd.int .i64) w A0_2 l0_2.length l0_2) (hc0_2 : l0_2.length ≤ c0_2) (h : spec_l7Copy.f a0_0 a0_1 l0_2 = some (r1, r2, r3)) :
  Calls Tryz.prog 200 #[.agg #[.int .i64 a0_0, .string a0_1, .slice A0_2 l0_2.length c0_2]] w fun e w' => ∃ v2_ : Value, e = .returned (.agg #[.int .i64 r1, .string r2, v2_]) ∧ Kd.R (Kd.int .i64) 3 w' w.heap.size (fun _ => True) v2_ r3 ∧ Below w.heap.size w w' := by
 have hu27 := Tryz.underlying27; have HR0_2 := Aside0.mk hr0_2; have HC0_2 := Aside0.mk hc0_2; clear hr0_2 hc0_2; have HB := Aside0.mk (Below.refl w.heap.size w)
 have H := h; unfold spec_l7Copy.f at H
 clear h; obtain ⟨y733, hy733⟩ : ∃ y_ : List Int, y_ = (([] : List Int)) := ⟨_, rfl⟩
 replace H : (if y733.length + l0_2.length < 17592186044416 then (some (a0_0, a0_1, (y733 ++ l0_2))) else (none)) = some (r1, r2, r3) := by first | (rw [hy733]; with_reducible exact H) | (rw [hy733]; with_reducible exact (Option.bind_some _ _).symm.trans H) | (rw [hy733]; exact H) | exact H
 have Ny733 := Aside0.mk hy733; clear hy733
 by_cases c2 : y733.length + l0_2.length < 17592186044416
 ·
  rw [if_pos c2] at H
  have LMc2 := Aside0.mk c2; clear c2; obtain ⟨y736, hy736⟩ : ∃ y_ : List Int, y_ = (y733 ++ l0_2) := ⟨_, rfl⟩
  replace H : (some (a0_0, a0_1, y736)) = some (r1, r2, r3) := by first | (rw [hy736]; with_reducible exact H) | (rw [hy736]; with_reducible exact (Option.bind_some _ _).symm.trans H) | (rw [hy736]; exact H) | exact H
  have Ny736 := Aside0.mk hy736; clear hy736
  simp only [Option.some.injEq, Prod.mk.injEq] at H
  obtain ⟨rfl, rfl, rfl⟩ := H
  go_enter Tryz.func200, Tryz.ntmps200
  go_wp2_with (first | ((with_reducible refine gd 1 ?_); refine bL 1 #[.int .i64 a0_0, .string a0_1, .slice A0_2 l0_2.length c0_2] 27 ?_; intro gb731 w3 _ _ _) | ((with_reducible refine gd 2 ?_); refine bL 2 #[.int .i64 0, .string (⟨#[]⟩ : ByteArray), .slice none 0 0] 27 ?_; intro gb732 w4 _ _ _) | ((with_reducible refine gate_dst (N := 3) rfl ?_); refine lL 3 3 (Kd.int .i64) rfl Ny733 ?_; intro Ao734 co734 w5 _ HO735) | ((with_reducible refine gate_builtin (b := .append) (xs := #[.tmp 3, .tmp 5]) rfl ?_); at_builtin; refine gR (Kd.int .i64) (.tmp 3) (.tmp 5) 25 3 (.int .i64 0) 8 w4 Ny736 HO735 (pC HR0_2) (by have := LMc2.out; omega) ?_ (ht := Tryz.underlying25) (hinfo := info3); intro Ao737 co737 w6 _ _ HO738))
  refine bodyPost_ret (results_cell_row rfl _ _ gb732 27 #[.int .i64 a0_0, .string a0_1, .slice Ao737 y736.length co737] (0, 0) _ rfl xB Tryz.underlying27 rfl (by kernel_rfl)) rfl ?_
  exact ⟨_, y0_8, rR HO738, UpW.out⟩
 rw [if_neg c2] at H
 exact absurd H (by simp)
def spec_l1Max.f (a0 : Int) (a1 : Int) : Option (Int) := if a0 > a1 then (some a0) else (some a1)
theorem spec_l1Max.calls (a0 : Int) (a1 : Int) (r : Int) (w : World) (h : spec_l1Max.f a0 a1 = some r) :
  Calls Tryz.prog 165 #[.int .i64 a0, .int .i64 a1] w fun e w' => e = .returned (.int .i64 r) ∧ Drawn0 w w' := by
 have H := h; unfold spec_l1Max.f at H; clear h
 by_cases c3 : a0 > a1
 ·
  rw [if_pos c3] at H
  have c3b0 : decide (a1 < a0) = true := decide_eq_true c3; clear c3; obtain rfl := Option.some.inj H
  go_enter Tryz.func165, Tryz.ntmps165
  go_wp2
  go_ret
  exact ⟨y0_8, y0_6⟩
 rw [if_neg c3] at H
 have c3b0 : decide (a1 < a0) = false := decide_eq_false c3; clear c3; obtain rfl := Option.some.inj H
 go_enter Tryz.func165, Tryz.ntmps165
 go_wp2
 go_ret
 exact ⟨y0_8, y0_6⟩
def spec_UpOf.l0 : Nat → ByteArray → Int → Option (ByteArray)
 | 0, _, _ => none
 | k + 1, x0, x3 => if x3 > 0 then (if 0 ≤ (wrap64 (x3 - 1)) then (if (wrap64 (x3 - 1)) < (x0.size : Int) then (if (bt x0 (wrap64 (x3 - 1))) = 47 then ((spec_l1Max.f (wrap64 (x3 - 1)) 0).bind fun t740 => (if 0 ≤ t740 then (if t740 ≤ (x0.size : Int) then (some (x0.extract 0 (t740 : Int).toNat)) else (none)) else (none))) else (spec_UpOf.l0 k x0 (wrap64 (x3 - 1)))) else (none)) else (none)) else ((spec_l1Max.f (wrap64 (x3 - 1)) 0).bind fun t741 => (if 0 ≤ t741 then (if t741 ≤ (x0.size : Int) then (some (x0.extract 0 (t741 : Int).toNat)) else (none)) else (none)))
def spec_UpOf.f (k : Nat) (a0 : ByteArray) : Option (ByteArray) := (spec_NameOk.f k a0).bind fun t739 => (if t739 = true then (spec_UpOf.l0 k a0 (a0.size : Int)) else (some (⟨#[]⟩ : ByteArray)))
theorem spec_UpOf.mono_l : ∀ k, (∀ y0 y1, LeO (spec_UpOf.l0 k y0 y1) (spec_UpOf.l0 (k + 1) y0 y1))
 | 0 => fun _ _ r h => by simp [spec_UpOf.l0] at h
 | k + 1 => by
  have ih0 := spec_UpOf.mono_l k
  intro y0 y1
  unfold spec_UpOf.l0
  repeat' first | (with_reducible exact ih0 _ _) | (with_reducible exact spec_NameOk.mono _ _) | (with_reducible exact LeO.refl _) | (with_reducible exact LeO.none _) | (with_reducible refine LeO.ite ?_ ?_) | (with_reducible refine LeO.bind ?_ (fun _ => ?_))
theorem spec_UpOf.mono : ∀ a0 k, LeO (spec_UpOf.f k a0) (spec_UpOf.f (k + 1) a0) := by
 intro a0 k
 have ih0 := spec_UpOf.mono_l k
 unfold spec_UpOf.f
 repeat' first | (with_reducible exact ih0 _ _) | (with_reducible exact spec_NameOk.mono _ _) | (with_reducible exact LeO.refl _) | (with_reducible exact LeO.none _) | (with_reducible refine LeO.ite ?_ ?_) | (with_reducible refine LeO.bind ?_ (fun _ => ?_))
theorem spec_UpOf.calls (k : Nat) (a0 : ByteArray) (r : ByteArray) (w : World) (h : spec_UpOf.f k a0 = some r) :
  Calls Tryz.prog 186 #[.string a0] w fun e w' => e = .returned (.string r) ∧ Below w.heap.size w w' := by
 have HB := Aside0.mk (Below.refl w.heap.size w)
 have H := h; unfold spec_UpOf.f at H
 clear h; obtain ⟨t739, A2, H⟩ := oB H; (try dsimp only at H)
 go_enter Tryz.func186, Tryz.ntmps186
 have H' := Aside0.mk H; clear H
 go_upto_if 6 with (first | ((with_reducible refine gate_callee (f := 112) rfl ?_); refine gC (some 5) Tryz.func112 (spec_NameOk.calls (w := _) (h := A2.out)) ?_; intro w3 _))
 have H := H'.out; clear H'
 by_cases c4 : t739 = true
 ·
  subst c4
  rw [if_pos rfl] at H
  have H' := Aside0.mk H; clear H
  go_wp2
  refine wC ?_; intro w5 _
  go_loopg [3] k (fun kq v3 w' => ∃ (x3_1 : Int), v3 = .int .i64 x3_1 ∧ Aside0 (spec_UpOf.l0 kq a0 x3_1 = some r) ∧ Aside0 (kq ≤ k) ∧ UB w5 w')
  case atStart => exact ⟨((a0.size : Int)), y0_8, H', ⟨Nat.le_refl _⟩, ⟨UpW.out⟩⟩
  case round =>
   clear H'; obtain ⟨x3_1, rfl, HA, HK1, _⟩ := hrel; cases gk with
   | zero => exact absurd HA.out (by simp [spec_UpOf.l0])
   | succ k1 =>
    have H := HA.out; clear HA
    simp only [spec_UpOf.l0] at H
    by_cases c6 : x3_1 > 0
    ·
     rw [if_pos c6] at H
     have c6b0 : decide (0 < x3_1) = true := decide_eq_true c6; clear c6
     (first | rw [c6b0] | (simp only [i64_w, i32_w]; rw [c6b0]) | skip)
     obtain ⟨ji7, hji7⟩ : ∃ j_ : Int, (wrap64 (x3_1 - 1)) = j_ := ⟨_, rfl⟩
     replace H : (if 0 ≤ (ji7) then (if (ji7) < (a0.size : Int) then (if (bt a0 (ji7)) = 47 then ((spec_l1Max.f (ji7) 0).bind fun t740 => (if 0 ≤ t740 then (if t740 ≤ (a0.size : Int) then (some (a0.extract 0 (t740 : Int).toNat)) else (none)) else (none))) else (spec_UpOf.l0 k1 a0 ji7)) else (none)) else (none)) = some r := by first | (rw [hji7] at H; exact H) | (simp only [hji7] at H ⊢; exact H)
     have hji7w : (IntKind.i64.wrap (x3_1 - 1)) = ji7 := (i64_w _).trans hji7
     by_cases c8 : 0 ≤ (ji7)
     rotate_left
     ·
      rw [if_neg c8] at H
      exact absurd H (by simp)
     rw [if_pos c8] at H
     have c8b0 : decide (0 ≤ (ji7)) = true := decide_eq_true c8; clear c8
     by_cases c9 : (ji7) < (a0.size : Int)
     rotate_left
     ·
      rw [if_neg c9] at H
      exact absurd H (by simp)
     rw [if_pos c9] at H
     have c9b0 : decide ((ji7) < (a0.size : Int)) = true := decide_eq_true c9; clear c9; have H' := Aside0.mk H; clear H; have p10 : 0 ≤ ((ji7) : Int) := of_decide_eq_true y0_7; have q10 : (ji7) < (a0.size : Int) := of_decide_eq_true y0_7; have hx10 := bt_at a0 (ji7); replace p10 := eq_true p10; replace q10 := eq_true q10
     go_upto_if 17 with fail
     have H := H'.out; clear H'
     by_cases c11 : (bt a0 (ji7)) = 47
     ·
      rw [if_pos c11] at H
      have c11b0 : ((bt a0 (ji7)) == 47) = true := beq_iff_eq.mpr c11; have c11b1 : ((bt a0 (ji7)) != 47) = false := bne_eq_false_iff_eq.mpr c11; clear c11
      (first | rw [c11b0] | (simp only [i64_w, i32_w]; rw [c11b0]) | skip)
      obtain ⟨t740, A12, H⟩ := oB H; (try dsimp only at H)
      by_cases c13 : 0 ≤ t740
      rotate_left
      ·
       rw [if_neg c13] at H
       exact absurd H (by simp)
      rw [if_pos c13] at H
      have c13b0 := eq_true c13; have c13b1 : decide (0 ≤ t740) = true := decide_eq_true c13; clear c13
      by_cases c14 : t740 ≤ (a0.size : Int)
      rotate_left
      ·
       rw [if_neg c14] at H
       exact absurd H (by simp)
      rw [if_pos c14] at H
      have c14b0 := eq_true c14; have c14b1 : decide (t740 ≤ (a0.size : Int)) = true := decide_eq_true c14; clear c14; obtain rfl := Option.some.inj H
      go_wp2_with (first | ((with_reducible refine gate_callee (f := 165) rfl ?_); refine gD (some 23) Tryz.func165 (spec_l1Max.calls (w := _) (h := A12.out)) ?_; intro w15 _))
      go_ret
      exact ⟨by first | rfl | (simp; done) | (simp only [← hji7] <;> (first | rfl | simp)) | (simp [*]; done), UpW.out⟩
     rw [if_neg c11] at H
     have c11b0 : ((bt a0 (ji7)) == 47) = false := beq_eq_false_iff_ne.mpr c11; have c11b1 : ((bt a0 (ji7)) != 47) = true := bne_iff_ne.mpr c11
     (first | rw [c11b0] | (simp only [i64_w, i32_w]; rw [c11b0]) | skip)
     have H' := Aside0.mk H; clear H
     go_wp2
     go_roundg k1
     case measure => have := HK1.out; omega
     case rel => exact ⟨(ji7), (by first | rfl | (simp; done) | (simp only [← hji7] <;> (first | rfl | simp)) | (simp [*]; done)), H', ⟨y0_11⟩, ⟨UpW.out⟩⟩
    rw [if_neg c6] at H
    have c6b0 : decide (0 < x3_1) = false := decide_eq_false c6; clear c6
    (first | rw [c6b0] | (simp only [i64_w, i32_w]; rw [c6b0]) | skip)
    obtain ⟨t741, A16, H⟩ := oB H; (try dsimp only at H)
    by_cases c17 : 0 ≤ t741
    rotate_left
    ·
     rw [if_neg c17] at H
     exact absurd H (by simp)
    rw [if_pos c17] at H
    have c17b0 := eq_true c17; have c17b1 : decide (0 ≤ t741) = true := decide_eq_true c17; clear c17
    by_cases c18 : t741 ≤ (a0.size : Int)
    rotate_left
    ·
     rw [if_neg c18] at H
     exact absurd H (by simp)
    rw [if_pos c18] at H
    have c18b0 := eq_true c18; have c18b1 : decide (t741 ≤ (a0.size : Int)) = true := decide_eq_true c18; clear c18; obtain rfl := Option.some.inj H
    go_wp2_with (first | ((with_reducible refine gate_callee (f := 165) rfl ?_); refine gD (some 23) Tryz.func165 (spec_l1Max.calls (w := _) (h := A16.out)) ?_; intro w19 _))
    go_ret
    exact ⟨y0_8, UpW.out⟩
 replace c4 := Bool.eq_false_iff.mpr c4; subst c4
 rw [if_neg Bool.false_ne_true] at H
 obtain rfl := Option.some.inj H
 go_wp2
 go_ret
 exact ⟨y0_8, UpW.out⟩
def spec_BlockOk.f (k : Nat) (a0_0 : Int) (a0_1 : Int) (a1_0 : ByteArray) (a1_1 : Int) (a1_2 : ByteArray) (l1_3 : List Int) : Option (Bool) := (spec_QcOk.f k a0_0 a0_1 a1_1 a1_2 l1_3).bind fun t744 => (if t744 = true then ((spec_NameOk.f k a1_0).bind fun t745 => (if t745 = true then (if a1_0.toList = ([] : List UInt8) then (some false) else ((spec_UpOf.f k a1_0).bind fun t746 => (some (t746.toList == a1_2.toList)))) else (some false))) else (some false))
def spec_BlockOk.T1 : Bool × List (List Nat × List Nat) := (true, [([], []), ([], []), ([1], [1]), ([0, 2], [0, 2]), ([3, 3], [3]), ([4], [4]), ([5, 4], [4, 5]), ([6, 4, 4], [4, 6]), ([4, 7], [4, 7]), ([8, 7], [8]), ([9], [9]), ([10, 9], [9, 10]), ([11, 9], [9, 11]), ([9, 12], [9, 12]), ([13, 9], [13]), ([14], [14]), ([15, 14], [14, 15]), ([16, 14, 14], [14, 16]), ([14], [14]), ([18, 14], [14, 18]), ([19, 14], [14, 19]), ([17, 20, 14], [14, 17, 20]), ([14, 21], [14, 21]), ([22, 17, 0, 1, 2, 3, 4, 5, 6, 7, 8, 9, 10, 11, 12, 13, 14, 15, 16, 17, 18, 19, 20, 21, 22], [22])])
def spec_BlockOk.B1 : List Nat := [0, 0, 2, 7, 15, 31, 63, 127, 255, 511, 1023, 2047, 4095, 8191, 16383, 32767, 65535, 131071, 32767, 294911, 819199, 2097151, 4194303, 8388607]
theorem spec_BlockOk.tab1 : rtab .any (opsOf Tryz.f201 1) = spec_BlockOk.T1 := by kernel_rfl
theorem spec_BlockOk.bits1 : waitsOk spec_BlockOk.T1.2 spec_BlockOk.B1 = true := by kernel_rfl
theorem spec_BlockOk.calls (k : Nat) (a0_0 : Int) (a0_1 : Int) (a1_0 : ByteArray) (a1_1 : Int) (a1_2 : ByteArray) (A1_3 : Option Addr) (c1_3 : Nat) (l1_3 : List Int) (r : Bool) (w : World) (hr1_3 : Kd.C (Kd.int .i64) w A1_3 l1_3.length l1_3) (hc1_3 : l1_3.length ≤ c1_3) (h : spec_BlockOk.f k a0_0 a0_1 a1_0 a1_1 a1_2 l1_3 = some r) :
  Calls Tryz.prog 201 #[.agg #[.int .i64 a0_0, .int .i64 a0_1], .agg #[.string a1_0, .int .i64 a1_1, .string a1_2, .slice A1_3 l1_3.length c1_3]] w fun e w' => e = .returned (.bool r) ∧ Below w.heap.size w w' := by
 have hu32 := Tryz.underlying32; have hu165 := Tryz.underlying165; have hu27 := Tryz.underlying27; have HR1_3 := Aside0.mk hr1_3; have HC1_3 := Aside0.mk hc1_3; clear hr1_3 hc1_3; have HB := Aside0.mk (Below.refl w.heap.size w)
 have H := h; unfold spec_BlockOk.f at H
 clear h
 go_enter Tryz.func201, Tryz.ntmps201
 have H' := Aside0.mk H; clear H
 go_upto_region 1 with (first | ((with_reducible refine gd 2 ?_); refine bL 2 #[.int .i64 a0_0, .int .i64 a0_1] 32 ?_; intro gb742 w3 _ _ _) | ((with_reducible refine gd 3 ?_); refine bL 3 #[.string a1_0, .int .i64 a1_1, .string a1_2, .slice A1_3 l1_3.length c1_3] 165 ?_; intro gb743 w4 _ _ _))
 have H := H'.out; clear H'; obtain ⟨t744, A5, H⟩ := oB H; (try dsimp only at H)
 by_cases c6 : t744 = true
 ·
  subst c6
  rw [if_pos rfl] at H
  obtain ⟨t745, A7, H⟩ := oB H; (try dsimp only at H)
  by_cases c8 : t745 = true
  ·
   subst c8
   rw [if_pos rfl] at H
   by_cases c9 : a1_0.toList = ([] : List UInt8)
   ·
    rw [if_pos c9] at H
    have c9b0 : (a1_0.toList == ([] : List UInt8)) = true := beq_iff_eq.mpr c9; have c9b1 : (a1_0.toList != ([] : List UInt8)) = false := bne_eq_false_iff_eq.mpr c9; clear c9
    (first | rw [c9b0] | (simp only [i64_w, i32_w]; rw [c9b0]) | rw [show List.isEmpty (a1_0.toList) = true from by simpa using c9b0] | skip)
    obtain rfl := Option.some.inj H
    try go_wp2
    refine sB [] spec_BlockOk.tab1 spec_BlockOk.bits1 ?_; intro w10 _ HT_ HW_
    refine tB 0 (some 5) (bz 24 1) HT_ HW_ ?_
    refine pA 1 (some 6) (bz 24 3) HT_ ?_
    refine tB 2 (some 7) (bz 24 7) HT_ HW_ ?_
    refine o1 3 (some 8) (bz 24 15) HT_ rfl (kC Tryz.func100 (spec_QcOk.calls (hr1_2 := pC HR1_3) (hc1_2 := HC1_3.out) (w := _) (h := A5.out)) ?_); intro w11 _
    refine nA (some 8) ?_
    refine pA 4 (some 9) (bz 24 31) HT_ ?_
    refine pA 5 (some 10) (bz 24 63) HT_ ?_
    refine tB 6 (some 11) (bz 24 127) HT_ HW_ ?_
    refine o1 7 (some 12) (bz 24 255) HT_ rfl (kC Tryz.func112 (spec_NameOk.calls (w := _) (h := A7.out)) ?_); intro w12 _
    refine nA (some 12) ?_
    refine pA 8 (some 13) (bz 24 511) HT_ ?_
    refine pA 9 (some 14) (bz 24 1023) HT_ ?_
    refine pA 10 (some 15) (bz 24 2047) HT_ ?_
    refine tB 11 (some 16) (bz 24 4095) HT_ HW_ ?_
    refine pA 12 (some 17) (bz 24 0x1fff) HT_ ?_
    refine pA 13 (some 18) (bz 24 0x3fff) HT_ ?_
    refine pA 14 (some 19) (bz 24 0x7fff) HT_ ?_
    refine pU 15 (some 20) (bz 24 0xffff) HT_ ?_
    refine pU 16 (some 21) (bz 24 0x1ffff) HT_ ?_
    refine pU 17 (some 22) (bz 24 0x3ffff) HT_ ?_
    refine pU 18 (some 23) (bz 24 0x7ffff) HT_ ?_
    refine pU 19 (some 24) (bz 24 0xfffff) HT_ ?_
    refine pU 20 (some 25) (bz 24 0x1fffff) HT_ ?_
    refine pU 21 (some 26) (bz 24 0x3fffff) HT_ ?_
    refine pA 22 (some 27) (bz 24 0x7fffff) HT_ ?_
    refine pA 23 (some 4) (bz 24 0xffffff) HT_ ?_
    refine done_ (done_of HT_.out (by kernel_rfl)) ?_
    try go_wp2
    go_ret
    exact ⟨y0_8, UpW.out⟩
   rw [if_neg c9] at H
   have c9b0 : (a1_0.toList == ([] : List UInt8)) = false := beq_eq_false_iff_ne.mpr c9; have c9b1 : (a1_0.toList != ([] : List UInt8)) = true := bne_iff_ne.mpr c9
   (first | rw [c9b0] | (simp only [i64_w, i32_w]; rw [c9b0]) | rw [show List.isEmpty (a1_0.toList) = false from by simpa using c9b0] | skip)
   obtain ⟨t746, A13, H⟩ := oB H; (try dsimp only at H); obtain rfl := Option.some.inj H
   try go_wp2
   refine sB [] spec_BlockOk.tab1 spec_BlockOk.bits1 ?_; intro w14 _ HT_ HW_
   refine tB 0 (some 5) (bz 24 1) HT_ HW_ ?_
   refine pA 1 (some 6) (bz 24 3) HT_ ?_
   refine tB 2 (some 7) (bz 24 7) HT_ HW_ ?_
   refine o1 3 (some 8) (bz 24 15) HT_ rfl (kC Tryz.func100 (spec_QcOk.calls (hr1_2 := pC HR1_3) (hc1_2 := HC1_3.out) (w := _) (h := A5.out)) ?_); intro w15 _
   refine nA (some 8) ?_
   refine pA 4 (some 9) (bz 24 31) HT_ ?_
   refine pA 5 (some 10) (bz 24 63) HT_ ?_
   refine tB 6 (some 11) (bz 24 127) HT_ HW_ ?_
   refine o1 7 (some 12) (bz 24 255) HT_ rfl (kC Tryz.func112 (spec_NameOk.calls (w := _) (h := A7.out)) ?_); intro w16 _
   refine nA (some 12) ?_
   refine pA 8 (some 13) (bz 24 511) HT_ ?_
   refine pA 9 (some 14) (bz 24 1023) HT_ ?_
   refine pA 10 (some 15) (bz 24 2047) HT_ ?_
   refine tB 11 (some 16) (bz 24 4095) HT_ HW_ ?_
   refine pA 12 (some 17) (bz 24 0x1fff) HT_ ?_
   refine pA 13 (some 18) (bz 24 0x3fff) HT_ ?_
   refine pA 14 (some 19) (bz 24 0x7fff) HT_ ?_
   refine pA 15 (some 20) (bz 24 0xffff) HT_ ?_
   refine tB 16 (some 21) (bz 24 0x1ffff) HT_ HW_ ?_
   refine pA 18 (some 23) (bz 24 0x5ffff) HT_ ?_
   refine pA 19 (some 24) (bz 24 0xdffff) HT_ ?_
   refine tB 20 (some 25) (bz 24 0x1dffff) HT_ HW_ ?_
   refine o1 17 (some 22) (bz 24 0x1fffff) HT_ rfl (kC Tryz.func186 (spec_UpOf.calls (w := _) (h := A13.out)) ?_); intro w17 _
   refine nA (some 22) ?_
   refine pA 21 (some 26) (bz 24 0x3fffff) HT_ ?_
   refine pA 22 (some 27) (bz 24 0x7fffff) HT_ ?_
   refine pA 23 (some 4) (bz 24 0xffffff) HT_ ?_
   refine done_ (done_of HT_.out (by kernel_rfl)) ?_
   try go_wp2
   go_ret
   exact ⟨y0_8, UpW.out⟩
  replace c8 := Bool.eq_false_iff.mpr c8; subst c8
  rw [if_neg Bool.false_ne_true] at H
  obtain rfl := Option.some.inj H
  try go_wp2
  refine sB [] spec_BlockOk.tab1 spec_BlockOk.bits1 ?_; intro w18 _ HT_ HW_
  refine tB 0 (some 5) (bz 24 1) HT_ HW_ ?_
  refine pA 1 (some 6) (bz 24 3) HT_ ?_
  refine tB 2 (some 7) (bz 24 7) HT_ HW_ ?_
  refine o1 3 (some 8) (bz 24 15) HT_ rfl (kC Tryz.func100 (spec_QcOk.calls (hr1_2 := pC HR1_3) (hc1_2 := HC1_3.out) (w := _) (h := A5.out)) ?_); intro w19 _
  refine nA (some 8) ?_
  refine pA 4 (some 9) (bz 24 31) HT_ ?_
  refine pA 5 (some 10) (bz 24 63) HT_ ?_
  refine tB 6 (some 11) (bz 24 127) HT_ HW_ ?_
  refine o1 7 (some 12) (bz 24 255) HT_ rfl (kC Tryz.func112 (spec_NameOk.calls (w := _) (h := A7.out)) ?_); intro w20 _
  refine nA (some 12) ?_
  refine pA 8 (some 13) (bz 24 511) HT_ ?_
  refine pA 9 (some 14) (bz 24 1023) HT_ ?_
  refine pU 10 (some 15) (bz 24 2047) HT_ ?_
  refine pU 11 (some 16) (bz 24 4095) HT_ ?_
  refine pU 12 (some 17) (bz 24 0x1fff) HT_ ?_
  refine pA 13 (some 18) (bz 24 0x3fff) HT_ ?_
  refine pA 14 (some 19) (bz 24 0x7fff) HT_ ?_
  refine pU 15 (some 20) (bz 24 0xffff) HT_ ?_
  refine pU 16 (some 21) (bz 24 0x1ffff) HT_ ?_
  refine pU 17 (some 22) (bz 24 0x3ffff) HT_ ?_
  refine pU 18 (some 23) (bz 24 0x7ffff) HT_ ?_
  refine pU 19 (some 24) (bz 24 0xfffff) HT_ ?_
  refine pU 20 (some 25) (bz 24 0x1fffff) HT_ ?_
  refine pU 21 (some 26) (bz 24 0x3fffff) HT_ ?_
  refine pA 22 (some 27) (bz 24 0x7fffff) HT_ ?_
  refine pA 23 (some 4) (bz 24 0xffffff) HT_ ?_
  refine done_ (done_of HT_.out (by kernel_rfl)) ?_
  try go_wp2
  go_ret
  exact ⟨y0_8, UpW.out⟩
 replace c6 := Bool.eq_false_iff.mpr c6; subst c6
 rw [if_neg Bool.false_ne_true] at H
 obtain rfl := Option.some.inj H
 try go_wp2
 refine sB [] spec_BlockOk.tab1 spec_BlockOk.bits1 ?_; intro w21 _ HT_ HW_
 refine tB 0 (some 5) (bz 24 1) HT_ HW_ ?_
 refine pA 1 (some 6) (bz 24 3) HT_ ?_
 refine tB 2 (some 7) (bz 24 7) HT_ HW_ ?_
 refine o1 3 (some 8) (bz 24 15) HT_ rfl (kC Tryz.func100 (spec_QcOk.calls (hr1_2 := pC HR1_3) (hc1_2 := HC1_3.out) (w := _) (h := A5.out)) ?_); intro w22 _
 refine nA (some 8) ?_
 refine pA 4 (some 9) (bz 24 31) HT_ ?_
 refine pU 5 (some 10) (bz 24 63) HT_ ?_
 refine pU 6 (some 11) (bz 24 127) HT_ ?_
 refine pU 7 (some 12) (bz 24 255) HT_ ?_
 refine pA 8 (some 13) (bz 24 511) HT_ ?_
 refine pA 9 (some 14) (bz 24 1023) HT_ ?_
 refine pU 10 (some 15) (bz 24 2047) HT_ ?_
 refine pU 11 (some 16) (bz 24 4095) HT_ ?_
 refine pU 12 (some 17) (bz 24 0x1fff) HT_ ?_
 refine pA 13 (some 18) (bz 24 0x3fff) HT_ ?_
 refine pA 14 (some 19) (bz 24 0x7fff) HT_ ?_
 refine pU 15 (some 20) (bz 24 0xffff) HT_ ?_
 refine pU 16 (some 21) (bz 24 0x1ffff) HT_ ?_
 refine pU 17 (some 22) (bz 24 0x3ffff) HT_ ?_
 refine pU 18 (some 23) (bz 24 0x7ffff) HT_ ?_
 refine pU 19 (some 24) (bz 24 0xfffff) HT_ ?_
 refine pU 20 (some 25) (bz 24 0x1fffff) HT_ ?_
 refine pU 21 (some 26) (bz 24 0x3fffff) HT_ ?_
 refine pA 22 (some 27) (bz 24 0x7fffff) HT_ ?_
 refine pA 23 (some 4) (bz 24 0xffffff) HT_ ?_
 refine done_ (done_of HT_.out (by kernel_rfl)) ?_
 try go_wp2
 go_ret
 exact ⟨y0_8, UpW.out⟩
def spec_BlockNew.f (k : Nat) (a0_0 : Int) (a0_1 : Int) (a1_0 : Int) (a1_1 : ByteArray) (l1_2 : List Int) (a2 : Int) (l3 : List (S156)) : Option (ByteArray × Int × ByteArray × List Int × Bool) := (spec_NameOf.f k a1_1 a2 l3).bind fun t750 => ((spec_l7Copy.f a1_0 a1_1 l1_2).bind fun bt751 => ((spec_BlockOk.f k a0_0 a0_1 t750 bt751.1 bt751.2.1 bt751.2.2).bind fun t757 => (if t757 = true then ((spec_ViewOf.f k t750).bind fun t758 => (if t758 = a2 then (some (t750, bt751.1, bt751.2.1, bt751.2.2, true)) else (some ((⟨#[]⟩ : ByteArray), 0, (⟨#[]⟩ : ByteArray), ([] : List Int), false)))) else (some ((⟨#[]⟩ : ByteArray), 0, (⟨#[]⟩ : ByteArray), ([] : List Int), false)))))
def spec_BlockNew.T1 : Bool × List (List Nat × List Nat) := (true, [([], []), ([0], [0]), ([], []), ([], []), ([1, 2, 3], [1, 2, 3]), ([], []), ([5, 4], [5]), ([4, 6], [4, 6]), ([], []), ([8, 7, 6, 0, 1, 2, 3, 4, 5, 6, 7, 8], [7, 8])])
def spec_BlockNew.B1 : List Nat := [0, 1, 0, 0, 15, 0, 63, 127, 0, 511]
theorem spec_BlockNew.tab1 : rtab .any (opsOf Tryz.f183 1) = spec_BlockNew.T1 := by kernel_rfl
theorem spec_BlockNew.bits1 : waitsOk spec_BlockNew.T1.2 spec_BlockNew.B1 = true := by kernel_rfl
theorem spec_BlockNew.calls (k : Nat) (a0_0 : Int) (a0_1 : Int) (a1_0 : Int) (a1_1 : ByteArray) (A1_2 : Option Addr) (c1_2 : Nat) (l1_2 : List Int) (a2 : Int) (A3 : Option Addr) (c3 : Nat) (l3 : List (S156)) (r1 : ByteArray) (r2 : Int) (r3 : ByteArray) (r4 : List Int) (r5 : Bool) (w : World) (hr1_2 : Kd.C (Kd.int .i64) w A1_2 l1_2.length l1_2) (hc1_2 : l1_2.length ≤ c1_2) (hr3 : Kd.C k156 w A3 l3.length l3) (hc3 : l3.length ≤ c3) (h : spec_BlockNew.f k a0_0 a0_1 a1_0 a1_1 l1_2 a2 l3 = some (r1, r2, r3, r4, r5)) :
  Calls Tryz.prog 183 #[.agg #[.int .i64 a0_0, .int .i64 a0_1], .agg #[.int .i64 a1_0, .string a1_1, .slice A1_2 l1_2.length c1_2], .int .i64 a2, .slice A3 l3.length c3] w fun e w' => ∃ v3_ : Value, e = .returned (.tuple #[.agg #[.string r1, .int .i64 r2, .string r3, v3_], .bool r5]) ∧ Kd.R (Kd.int .i64) 3 w' w.heap.size (fun _ => True) v3_ r4 ∧ Below w.heap.size w w' := by
 have hu32 := Tryz.underlying32; have hu27 := Tryz.underlying27; have hu165 := Tryz.underlying165; have HR1_2 := Aside0.mk hr1_2; have HC1_2 := Aside0.mk hc1_2; clear hr1_2 hc1_2; have HR3 := Aside0.mk hr3; have HC3 := Aside0.mk hc3; clear hr3 hc3; have HB := Aside0.mk (Below.refl w.heap.size w)
 have H := h; unfold spec_BlockNew.f at H
 clear h; obtain ⟨t750, A5, H⟩ := oB H; (try dsimp only at H); obtain ⟨⟨t751, t752, t753⟩, A6, H⟩ := oB H; (try dsimp only at H)
 go_enter Tryz.func183, Tryz.ntmps183
 have H' := Aside0.mk H; clear H
 try go_wp2_with (first | ((with_reducible refine gd 4 ?_); refine bL 4 #[.int .i64 a0_0, .int .i64 a0_1] 32 ?_; intro gb747 w7 _ _ _) | ((with_reducible refine gd 5 ?_); refine bL 5 #[.int .i64 a1_0, .string a1_1, .slice A1_2 l1_2.length c1_2] 27 ?_; intro gb748 w8 _ _ _) | ((with_reducible refine gd 8 ?_); refine bL 8 #[.string (⟨#[]⟩ : ByteArray), .int .i64 0, .string (⟨#[]⟩ : ByteArray), .slice none 0 0] 165 ?_; intro gb749 w9 _ _ _))
 refine sB [] spec_BlockNew.tab1 spec_BlockNew.bits1 ?_; intro w10 _ HT_ HW_
 refine pA 0 (some 11) (bz 10 1) HT_ ?_
 refine tB 1 (some 12) (bz 10 3) HT_ HW_ ?_
 refine pA 2 (some 13) (bz 10 7) HT_ ?_
 refine pA 3 (some 14) (bz 10 15) HT_ ?_
 refine tB 5 (some 16) (bz 10 47) HT_ HW_ ?_
 refine join_ (σ := Option Addr × Nat × Nat) 1 (bz 10 511) (fun s_ => [(15, .string t750), (17, .agg #[.int .i64 t751, .string t752, .slice s_.1 t753.length s_.2.1]), (18, .agg #[.string t750, .int .i64 t751, .string t752, .slice s_.1 t753.length s_.2.1]), (10, .pointer (some ⟨s_.2.2, 0, none⟩))]) (fun s_ w' => Aside0 (Kd.R (Kd.int .i64) 3 w' w10.heap.size (iv w10 w') (.slice s_.1 t753.length s_.2.1) t753) ∧ BkI (s_.2.2) w' #[.string (⟨#[]⟩ : ByteArray), .int .i64 0, .string (⟨#[]⟩ : ByteArray), .slice none 0 0] 165 ∧ BornI (s_.2.2) w10 ∧ UB w10 w') ?_ ?_
 rotate_left
 ·
  intro hCont
  refine o2 4 8 (some 15) (some 10) (bz 10 63) (bz 10 303) HT_ rfl rfl (kC Tryz.func150 (spec_NameOf.calls (hr2 := pC HR3) (hc2 := HC3.out) (w := _) (h := A5.out)) ?_) (kB #[.string (⟨#[]⟩ : ByteArray), .int .i64 0, .string (⟨#[]⟩ : ByteArray), .slice none 0 0] 165 ?_)
  ·
   intro w11 _
   refine nA (some 15) ?_
   refine o2 6 8 (some 17) (some 10) (bz 10 127) (bz 10 319) HT_ rfl rfl (kC1 Tryz.func200 (spec_l7Copy.calls (hr0_2 := pC HR1_2) (hc0_2 := HC1_2.out) (w := _) (h := A6.out)) ?_) (kB #[.string (⟨#[]⟩ : ByteArray), .int .i64 0, .string (⟨#[]⟩ : ByteArray), .slice none 0 0] 165 ?_)
   ·
    intro Ao754 co754 w13 _ HO755
    refine nA (some 17) ?_
    refine pA 7 (some 18) (bz 10 255) HT_ ?_
    refine o1 8 (some 10) (bz 10 511) HT_ rfl (kB #[.string (⟨#[]⟩ : ByteArray), .int .i64 0, .string (⟨#[]⟩ : ByteArray), .slice none 0 0] 165 ?_); intro gb756 w15 _ _ _
    refine nA (some 10) ?_
    exact hJ (hCont (Ao754, co754, gb756) _ ⟨⟨rJ HO755⟩, ⟨xB⟩, ⟨GeI.out⟩, ⟨UpW.out⟩⟩)
   intro gb756 w14 _ _ _
   refine nA (some 10) ?_
   refine o1 6 (some 17) (bz 10 383) HT_ rfl (kC1 Tryz.func200 (spec_l7Copy.calls (hr0_2 := pC HR1_2) (hc0_2 := HC1_2.out) (w := _) (h := A6.out)) ?_); intro Ao754 co754 w16 _ HO755
   refine nA (some 17) ?_
   refine pA 7 (some 18) (bz 10 511) HT_ ?_
   exact hJ (hCont (Ao754, co754, gb756) _ ⟨⟨rJ HO755⟩, ⟨xB⟩, ⟨GeI.out⟩, ⟨UpW.out⟩⟩)
  intro gb756 w12 _ _ _
  refine nA (some 10) ?_
  refine o1 4 (some 15) (bz 10 319) HT_ rfl (kC Tryz.func150 (spec_NameOf.calls (hr2 := pC HR3) (hc2 := HC3.out) (w := _) (h := A5.out)) ?_); intro w17 _
  refine nA (some 15) ?_
  refine o1 6 (some 17) (bz 10 383) HT_ rfl (kC1 Tryz.func200 (spec_l7Copy.calls (hr0_2 := pC HR1_2) (hc0_2 := HC1_2.out) (w := _) (h := A6.out)) ?_); intro Ao754 co754 w18 _ HO755
  refine nA (some 17) ?_
  refine pA 7 (some 18) (bz 10 511) HT_ ?_
  exact hJ (hCont (Ao754, co754, gb756) _ ⟨⟨rJ HO755⟩, ⟨xB⟩, ⟨GeI.out⟩, ⟨UpW.out⟩⟩)
 rintro ⟨Ao754, co754, gb756⟩ w19 ⟨HO755, _, _, _⟩
 refine nP ?_
 refine o1 9 none (bz 10 1023) HT_ rfl (kS ?_)
 refine done_ (done_of HT_.out (by kernel_rfl)) ?_
 go_upto_region 2 with fail
 have H := H'.out; clear H'; obtain ⟨t757, A20, H⟩ := oB H; (try dsimp only at H)
 by_cases c21 : t757 = true
 ·
  subst c21
  rw [if_pos rfl] at H
  obtain ⟨t758, A22, H⟩ := oB H; (try dsimp only at H); have H' := Aside0.mk H; clear H
  go_upto_if 29 with (first | ((with_reducible refine gate_callee (f := 201) rfl ?_); refine gC (some 21) Tryz.func201 (spec_BlockOk.calls (hr1_3 := rC HO755) (hc1_3 := rL HO755) (w := _) (h := A20.out)) ?_; intro w23 _) | (go_at_call 113; refine aC (spec_ViewOf.calls (w := _) (h := A22.out)) ?_; intro w24 _))
  have H := H'.out; clear H'
  by_cases c25 : t758 = a2
  ·
   rw [if_pos c25] at H
   have c25b0 : (t758 == a2) = true := beq_iff_eq.mpr c25; have c25b1 : (t758 != a2) = false := bne_eq_false_iff_eq.mpr c25; clear c25
   (first | rw [c25b0] | (simp only [i64_w, i32_w]; rw [c25b0]) | skip)
   simp only [Option.some.injEq, Prod.mk.injEq] at H
   obtain ⟨rfl, rfl, rfl, rfl, rfl⟩ := H
   go_wp2
   refine bodyPost_ret (results_ct rfl _ _ gb749 165 #[.string t750, .int .i64 t751, .string t752, .slice Ao754 t753.length co754] (0, 0) _ rfl xB Tryz.underlying165 rfl (by kernel_rfl)) rfl ?_
   exact ⟨_, y0_8, rR HO755, UpW.out⟩
  rw [if_neg c25] at H
  have c25b0 : (t758 == a2) = false := beq_eq_false_iff_ne.mpr c25; have c25b1 : (t758 != a2) = true := bne_iff_ne.mpr c25
  (first | rw [c25b0] | (simp only [i64_w, i32_w]; rw [c25b0]) | skip)
  simp only [Option.some.injEq, Prod.mk.injEq] at H
  obtain ⟨rfl, rfl, rfl, rfl, rfl⟩ := H
  go_wp2
  refine bodyPost_ret (results_ct rfl _ _ gb749 165 #[.string (⟨#[]⟩ : ByteArray), .int .i64 0, .string (⟨#[]⟩ : ByteArray), .slice none 0 0] (0, 0) _ rfl xB Tryz.underlying165 rfl (by kernel_rfl)) rfl ?_
  exact ⟨_, y0_8, Kd.R_nil _ _ _ _ _, UpW.out⟩
 replace c21 := Bool.eq_false_iff.mpr c21; subst c21
 rw [if_neg Bool.false_ne_true] at H
 have H' := Aside0.mk H; clear H
 go_upto_if 29 with (first | ((with_reducible refine gate_callee (f := 201) rfl ?_); refine gC (some 21) Tryz.func201 (spec_BlockOk.calls (hr1_3 := rC HO755) (hc1_3 := rL HO755) (w := _) (h := A20.out)) ?_; intro w26 _))
 have H := H'.out; clear H'
 simp only [Option.some.injEq, Prod.mk.injEq] at H
 obtain ⟨rfl, rfl, rfl, rfl, rfl⟩ := H
 go_wp2
 refine bodyPost_ret (results_ct rfl _ _ gb749 165 #[.string (⟨#[]⟩ : ByteArray), .int .i64 0, .string (⟨#[]⟩ : ByteArray), .slice none 0 0] (0, 0) _ rfl xB Tryz.underlying165 rfl (by kernel_rfl)) rfl ?_
 exact ⟨_, y0_8, Kd.R_nil _ _ _ _ _, UpW.out⟩
def spec_l8DrawRight.l0 : Nat → List (S156) → Int → List Int → Int → Int → Int → Int → Int → ByteArray → List Int → Option (ByteArray × Int × ByteArray × List Int × Int × Int)
 | 0, _, _, _, _, _, _, _, _, _, _ => none
 | k + 1, x6, x7, x1000, x1001, x1002, x760000, x760001, x772000, x772001, x772002 => (spec_l1Below.f x1000 x1001 x1002 3).bind fun bt775 => (if x7 < bt775.1 then ((spec_l2DrawRight.f x1000 bt775.2.1 bt775.2.2).bind fun bt778 => (if x6.length < 4398046511104 then (spec_l8DrawRight.l0 k (x6 ++ [(⟨bt778.1, bt778.2.1, bt778.2.2.1, bt778.2.2.2.1⟩ : S156)]) (wrap64 (x7 + 1)) x1000 bt778.2.2.2.2.1 bt778.2.2.2.2.2 x760000 x760001 x772000 x772001 x772002) else (none))) else ((spec_l1Below.f x1000 bt775.2.1 bt775.2.2 4).bind fun bt787 => ((spec_BlockNew.f k x760000 x760001 x772000 x772001 x772002 (wrap64 ((wrap64 (x772000 + 1)) + (wrap64 (Int.tdiv bt787.1 3)))) x6).bind fun bt790 => (some (bt790.1, bt790.2.1, bt790.2.2.1, bt790.2.2.2.1, bt787.2.1, bt787.2.2)))))
def spec_l8DrawRight.f (k : Nat) (s0_0 : List Int) (s0_1 : Int) (s0_2 : Int) (a1_0 : Int) (a1_1 : Int) : Option (ByteArray × Int × ByteArray × List Int × Int × Int) := (spec_l5DrawRight.f k s0_0 s0_1 s0_2).bind fun bt761 => ((spec_l7DrawOf.f k s0_0 bt761.2.1 bt761.2.2 a1_0 a1_1 bt761.1).bind fun bt764 => (spec_l8DrawRight.l0 k (([] : List (S156))) 0 s0_0 bt764.2.2.2.1 bt764.2.2.2.2 a1_0 a1_1 bt764.1 bt764.2.1 bt764.2.2.1))
def spec_l8DrawRight.T1 : Bool × List (List Nat × List Nat) := (true, [([], []), ([], []), ([], []), ([2], [2]), ([0, 1, 3, 3], [0, 1, 3]), ([], []), ([5, 4, 4, 0, 1, 2, 3, 4, 5], [4, 5])])
def spec_l8DrawRight.B1 : List Nat := [0, 0, 0, 4, 15, 0, 63]
theorem spec_l8DrawRight.tab1 : rtab .any (opsOf Tryz.f156 1) = spec_l8DrawRight.T1 := by kernel_rfl
theorem spec_l8DrawRight.bits1 : waitsOk spec_l8DrawRight.T1.2 spec_l8DrawRight.B1 = true := by kernel_rfl
def spec_l8DrawRight.T7 : Bool × List (List Nat × List Nat) := (true, [([], []), ([], []), ([], []), ([2], [2]), ([3], [3]), ([], []), ([5], [5]), ([6], [6]), ([4, 7], [4, 7]), ([], []), ([0, 1, 8, 9, 6], [0, 1, 8, 9]), ([10], [10]), ([11], [11]), ([11], [11]), ([], []), ([14, 12, 10, 0, 1, 2, 3, 4, 5, 6, 7, 8, 9, 10, 11, 12, 14], [12, 14]), ([13, 15, 0, 1, 2, 3, 4, 5, 6, 7, 8, 9, 10, 11, 12, 13, 14, 15], [13])])
def spec_l8DrawRight.B7 : List Nat := [0, 0, 0, 4, 12, 0, 32, 96, 252, 0, 1023, 2047, 4095, 4095, 0, 24575, 65535]
theorem spec_l8DrawRight.tab7 : rtab .any (opsOf Tryz.f156 7) = spec_l8DrawRight.T7 := by kernel_rfl
theorem spec_l8DrawRight.bits7 : waitsOk spec_l8DrawRight.T7.2 spec_l8DrawRight.B7 = true := by kernel_rfl
theorem spec_l8DrawRight.calls (k : Nat) (g : Nat) (s0_0 : List Int) (s0_1 : Int) (s0_2 : Int) (a1_0 : Int) (a1_1 : Int) (r1 : ByteArray) (r2 : Int) (r3 : ByteArray) (r4 : List Int) (r5 : Int) (r6 : Int) (w0 w : World) (hI : IsS149 w0 w g s0_0 s0_1 s0_2) (hB : Below w0.heap.size w0 w) (h : spec_l8DrawRight.f k s0_0 s0_1 s0_2 a1_0 a1_1 = some (r1, r2, r3, r4, r5, r6)) :
  Calls Tryz.prog 156 #[.pointer (some ⟨g, 0, none⟩), .agg #[.int .i64 a1_0, .int .i64 a1_1]] w fun e w' => ∃ v3_ : Value, e = .returned (.agg #[.string r1, .int .i64 r2, .string r3, v3_]) ∧ Kd.R (Kd.int .i64) 3 w' w.heap.size (fun _ => True) v3_ r4 ∧ IsS149 w0 w' g s0_0 r5 r6 ∧ Below w0.heap.size w0 w' ∧ KeepBut w w' g none := by
 have hu32 := Tryz.underlying32; have hu165 := Tryz.underlying165; have hu27 := Tryz.underlying27; have HI0 := Aside0.mk hI; have HK := Aside0.mk (KeepBut.refl w g none); have HL := Aside0.mk hB.size; clear hI; have HW0 := Aside0.mk hB.size; have HB := Aside0.mk hB; clear hB
 have H := h; unfold spec_l8DrawRight.f at H
 clear h; obtain ⟨⟨t761, t762, t763⟩, A3, H⟩ := oB H; (try dsimp only at H); obtain ⟨⟨t764, t765, t766, t769, t770⟩, A4, H⟩ := oB H; (try dsimp only at H); obtain ⟨y772, hy772⟩ : ∃ y_ : List (S156), y_ = (([] : List (S156))) := ⟨_, rfl⟩
 replace H : (spec_l8DrawRight.l0 k y772 0 s0_0 t769 t770 a1_0 a1_1 t764 t765 t766) = some (r1, r2, r3, r4, r5, r6) := by first | (rw [hy772]; with_reducible exact H) | (rw [hy772]; with_reducible exact (Option.bind_some _ _).symm.trans H) | (rw [hy772]; exact H) | exact H
 have Ny772 := Aside0.mk hy772; clear hy772; have i0_ := iB149 HI0; have i1_ : LB w0 w := ⟨HB.out⟩
 go_enter Tryz.func156, Tryz.ntmps156
 have H' := Aside0.mk H; clear H
 try go_wp2_with (first | ((with_reducible refine gd 3 ?_); refine bL 3 #[.int .i64 a1_0, .int .i64 a1_1] 32 ?_; intro gb759 w5 _ _ _) | ((with_reducible refine gd 4 ?_); refine bL 4 #[.string (⟨#[]⟩ : ByteArray), .int .i64 0, .string (⟨#[]⟩ : ByteArray), .slice none 0 0] 165 ?_; intro gb760 w6 _ _ _))
 refine sB [g] spec_l8DrawRight.tab1 spec_l8DrawRight.bits1 ?_; intro w7 _ HT_ HW_
 refine pA 0 (some 10) (bz 7 1) HT_ ?_
 refine tB 1 (some 11) (bz 7 3) HT_ HW_ ?_
 refine pA 2 (some 12) (bz 7 7) HT_ ?_
 refine join_ (σ := Option Addr × Nat × Nat) 1 (bz 7 63) (fun s_ => [(13, .string t761), (14, .agg #[.int .i64 t764, .string t765, .slice s_.1 t766.length s_.2.1]), (5, .pointer (some ⟨s_.2.2, 0, none⟩))]) (fun s_ w' => Aside0 (Kd.R (Kd.int .i64) 3 w' w7.heap.size (iv w7 w') (.slice s_.1 t766.length s_.2.1) t766) ∧ BkI (s_.2.2) w' #[.int .i64 0, .string (⟨#[]⟩ : ByteArray), .slice none 0 0] 27 ∧ BornI (s_.2.2) w7 ∧ StB g w' 149 ∧ Aside0 (IsS149 w0 w' g s0_0 t769 t770) ∧ KL w7 [g] w' ∧ LB w0 w' ∧ KS w g w') ?_ ?_
 rotate_left
 ·
  intro hCont
  refine o2 3 5 (some 13) (some 5) (bz 7 15) (bz 7 39) HT_ rfl rfl (kK Tryz.func101 (spec_l5DrawRight.calls (hI := iS149 HI0) (hB := UpW.out) (w := _) (h := A3.out)) ?_) (kB #[.int .i64 0, .string (⟨#[]⟩ : ByteArray), .slice none 0 0] 27 ?_)
  ·
   intro w8 _ _ _ HI9
   refine nA (some 13) ?_
   refine o2 4 5 (some 14) (some 5) (bz 7 31) (bz 7 47) HT_ rfl rfl (kK1 Tryz.func147 (spec_l7DrawOf.calls (hI := iS149 HI9) (hB := UpW.out) (w := _) (h := A4.out)) ?_) (kB #[.int .i64 0, .string (⟨#[]⟩ : ByteArray), .slice none 0 0] 27 ?_)
   ·
    intro Ao767 co767 w11 _ _ _ HI12 HO768
    refine nA (some 14) ?_
    refine o1 5 (some 5) (bz 7 63) HT_ rfl (kB #[.int .i64 0, .string (⟨#[]⟩ : ByteArray), .slice none 0 0] 27 ?_); intro gb771 w14 _ _ _
    refine nA (some 5) ?_
    exact hJ (hCont (Ao767, co767, gb771) _ ⟨⟨rJ HO768⟩, ⟨xB⟩, ⟨GeI.out⟩, iB149 ⟨iS149 HI12⟩, ⟨iS149 HI12⟩, ⟨UpL.out⟩, ⟨UpW.out⟩, ⟨UpB.out⟩⟩)
   intro gb771 w13 _ _ _
   refine nA (some 5) ?_
   refine o1 4 (some 14) (bz 7 63) HT_ rfl (kK1 Tryz.func147 (spec_l7DrawOf.calls (hI := iS149 HI9) (hB := UpW.out) (w := _) (h := A4.out)) ?_); intro Ao767 co767 w15 _ _ _ HI16 HO768
   refine nA (some 14) ?_
   exact hJ (hCont (Ao767, co767, gb771) _ ⟨⟨rJ HO768⟩, ⟨xB⟩, ⟨GeI.out⟩, iB149 ⟨iS149 HI16⟩, ⟨iS149 HI16⟩, ⟨UpL.out⟩, ⟨UpW.out⟩, ⟨UpB.out⟩⟩)
  intro gb771 w10 _ _ _
  refine nA (some 5) ?_
  refine o1 3 (some 13) (bz 7 47) HT_ rfl (kK Tryz.func101 (spec_l5DrawRight.calls (hI := iS149 HI0) (hB := UpW.out) (w := _) (h := A3.out)) ?_); intro w17 _ _ _ HI18
  refine nA (some 13) ?_
  refine o1 4 (some 14) (bz 7 63) HT_ rfl (kK1 Tryz.func147 (spec_l7DrawOf.calls (hI := iS149 HI18) (hB := UpW.out) (w := _) (h := A4.out)) ?_); intro Ao767 co767 w19 _ _ _ HI20 HO768
  refine nA (some 14) ?_
  exact hJ (hCont (Ao767, co767, gb771) _ ⟨⟨rJ HO768⟩, ⟨xB⟩, ⟨GeI.out⟩, iB149 ⟨iS149 HI20⟩, ⟨iS149 HI20⟩, ⟨UpL.out⟩, ⟨UpW.out⟩, ⟨UpB.out⟩⟩)
 rintro ⟨Ao767, co767, gb771⟩ w21 ⟨HO768, _, _, _, HI22, _, _, _⟩
 refine nP ?_
 refine o1 6 none (bz 7 127) HT_ rfl (kS ?_)
 refine done_ (done_of HT_.out (by kernel_rfl)) ?_
 try go_wp2_with (first | ((with_reducible refine gate_dst (N := 15) rfl ?_); refine lE 15 156 k156 Ny772 ?_; intro Ao773 co773 w23 _ HO774))
 refine wC ?_; intro w24 _
 go_loopg [6, 7] k (fun kq v6 v7 w' => ∃ (x6_1 : List (S156)) (x7_1 : Int) (x1001_1 : Int) (x1002_1 : Int) (Ao6_1 : Option Addr) (co6_1 : Nat), v6 = .slice Ao6_1 x6_1.length co6_1 ∧ v7 = .int .i64 x7_1 ∧ Aside0 (spec_l8DrawRight.l0 kq x6_1 x7_1 s0_0 x1001_1 x1002_1 a1_0 a1_1 t764 t765 t766 = some (r1, r2, r3, r4, r5, r6)) ∧ Aside0 (kq ≤ k) ∧ Aside0 (Kd.R k156 156 w' w21.heap.size (iv w21 w') (.slice Ao6_1 x6_1.length co6_1) x6_1) ∧ StB g w' 149 ∧ Aside0 (IsS149 w0 w' g s0_0 x1001_1 x1002_1) ∧ KT w24 [g] w21 _ k156 156 w' ∧ LB w0 w' ∧ KS w g w')
 case atStart => exact ⟨(y772), (0), (t769), (t770), (Ao773), (co773), y0_8, y0_8, H', ⟨Nat.le_refl _⟩, ⟨rJ HO774⟩, iB149 ⟨iS149 HI22⟩, ⟨iS149 HI22⟩, ⟨UpT.out⟩, ⟨UpW.out⟩, ⟨UpB.out⟩⟩
 case round =>
  clear H'; obtain ⟨x6_1, x7_1, x1001_1, x1002_1, Ao6_1, co6_1, rfl, rfl, HA, HK1, HO_6, _, HI25, _, _, _⟩ := hrel; have HO_772002 := HO768; have HO_15 := HO774; cases gk with
  | zero => exact absurd HA.out (by simp [spec_l8DrawRight.l0])
  | succ k1 =>
   have H := HA.out; clear HA
   simp only [spec_l8DrawRight.l0] at H
   obtain ⟨⟨t775, t776, t777⟩, A26, H⟩ := oB H; (try dsimp only at H); have H' := Aside0.mk H; clear H
   go_upto_if 19 with (first | ((with_reducible refine gate_callee (f := 97) rfl ?_); refine gK (some 18) Tryz.func97 (spec_l1Below.calls (hI := iS149 HI25) (hB := UpW.out) (w := _) (h := A26.out)) ?_; intro w27 _ _ _ HI28))
   have H := H'.out; clear H'
   by_cases c29 : x7_1 < t775
   ·
    rw [if_pos c29] at H
    have c29b0 : decide (x7_1 < t775) = true := decide_eq_true c29; clear c29
    (first | rw [c29b0] | (simp only [i64_w, i32_w]; rw [c29b0]) | skip)
    obtain ⟨⟨t778, t779, t780, t781, t782, t783⟩, A30, H⟩ := oB H; (try dsimp only at H)
    by_cases c31 : x6_1.length < 4398046511104
    rotate_left
    ·
     rw [if_neg c31] at H
     exact absurd H (by simp)
    rw [if_pos c31] at H
    have LMc31 := Aside0.mk c31; clear c31; obtain ⟨y784, hy784⟩ : ∃ y_ : List (S156), y_ = (x6_1 ++ [(⟨t778, t779, t780, t781⟩ : S156)]) := ⟨_, rfl⟩
    replace H : (spec_l8DrawRight.l0 k1 y784 (wrap64 (x7_1 + 1)) s0_0 t782 t783 a1_0 a1_1 t764 t765 t766) = some (r1, r2, r3, r4, r5, r6) := by first | (rw [hy784]; with_reducible exact H) | (rw [hy784]; with_reducible exact (Option.bind_some _ _).symm.trans H) | (rw [hy784]; exact H) | exact H
    have Ny784 := Aside0.mk hy784; clear hy784; have H' := Aside0.mk H; clear H
    go_wp2_with (first | ((with_reducible refine gate_callee (f := 149) rfl ?_); refine gK (some 24) Tryz.func149 (spec_l2DrawRight.calls (hI := iS149 HI28) (hB := UpW.out) (w := _) (h := A30.out)) ?_; intro w32 _ _ _ HI33) | ((with_reducible refine gate_builtin (b := .append) (xs := #[.tmp 22, .tmp 25]) rfl ?_); at_builtin; refine gA k156 (.tmp 22) (.tmp 25) 154 156 (.agg #[(.int .i64 0), (.int .i64 0), (.int .i64 0), (.int .i64 0)]) 32 (⟨t778, t779, t780, t781⟩ : S156) [.int .i64 t778, .int .i64 t779, .int .i64 t780, .int .i64 t781] w21 Ny784 HO_6 (k156_mkM _ _ _ (⟨t778, t779, t780, t781⟩ : S156)) (by have := LMc31.out; omega) ?_ (ht := Tryz.underlying154) (hinfo := info156); intro Ao785 co785 w34 _ _ HO786))
    go_roundg k1
    case measure => have := HK1.out; omega
    case rel => exact ⟨(y784), (wrap64 (x7_1 + 1)), (t782), (t783), (Ao785), (co785), y0_8, y0_8, H', ⟨y0_11⟩, ⟨rJ HO786⟩, iB149 ⟨iS149 HI33⟩, ⟨iS149 HI33⟩, ⟨UpT.out⟩, ⟨UpW.out⟩, ⟨UpB.out⟩⟩
   rw [if_neg c29] at H
   have c29b0 : decide (x7_1 < t775) = false := decide_eq_false c29; clear c29
   (first | rw [c29b0] | (simp only [i64_w, i32_w]; rw [c29b0]) | skip)
   obtain ⟨⟨t787, t788, t789⟩, A35, H⟩ := oB H; (try dsimp only at H); obtain ⟨⟨t790, t791, t792, t793, t796⟩, A36, H⟩ := oB H; (try dsimp only at H)
   simp only [Option.some.injEq, Prod.mk.injEq] at H
   obtain ⟨rfl, rfl, rfl, rfl, rfl, rfl⟩ := H
   try go_wp2
   refine sB [g] spec_l8DrawRight.tab7 spec_l8DrawRight.bits7 ?_; intro w37 _ HT_ HW_
   refine tB 0 (some 28) (bz 17 1) HT_ HW_ ?_
   refine tB 1 (some 29) (bz 17 3) HT_ HW_ ?_
   refine pA 2 (some 30) (bz 17 7) HT_ ?_
   refine tB 3 (some 31) (bz 17 15) HT_ HW_ ?_
   refine pA 4 (some 32) (bz 17 31) HT_ ?_
   refine pA 5 (some 33) (bz 17 63) HT_ ?_
   refine pA 9 (some 37) (bz 17 575) HT_ ?_
   refine join_ (σ := Option Addr × Nat × Nat) 2 (bz 17 0x7fff) (fun s_ => [(34, .int .i64 t787), (35, .int .i64 (wrap64 (Int.tdiv t787 3))), (36, .int .i64 (wrap64 ((wrap64 (t764 + 1)) + (wrap64 (Int.tdiv t787 3))))), (38, .tuple #[.agg #[.string t790, .int .i64 t791, .string t792, .slice s_.1 t793.length s_.2.1], .bool t796]), (27, .tuple #[.agg #[.string t790, .int .i64 t791, .string t792, .slice s_.1 t793.length s_.2.1], .bool t796]), (39, .agg #[.string t790, .int .i64 t791, .string t792, .slice s_.1 t793.length s_.2.1]), (40, .bool t796), (8, .pointer (some ⟨s_.2.2, 0, none⟩))]) (fun s_ w' => Aside0 (Kd.R (Kd.int .i64) 3 w' w37.heap.size (iv w37 w') (.slice s_.1 t793.length s_.2.1) t793) ∧ BkI (s_.2.2) w' #[.string (⟨#[]⟩ : ByteArray), .int .i64 0, .string (⟨#[]⟩ : ByteArray), .slice none 0 0] 165 ∧ BornI (s_.2.2) w37 ∧ StB g w' 149 ∧ Aside0 (IsS149 w0 w' g s0_0 t788 t789) ∧ KL w37 [g] w' ∧ LB w0 w' ∧ KS w g w') ?_ ?_
   rotate_left
   ·
    intro hCont
    refine o2 6 14 (some 34) (some 8) (bz 17 639) (bz 17 0x423f) HT_ rfl rfl (kK Tryz.func97 (spec_l1Below.calls (hI := iS149 HI28) (hB := UpW.out) (w := _) (h := A35.out)) ?_) (kB #[.string (⟨#[]⟩ : ByteArray), .int .i64 0, .string (⟨#[]⟩ : ByteArray), .slice none 0 0] 165 ?_)
    ·
     intro w38 _ _ _ HI39
     refine nA (some 34) ?_
     refine pA 7 (some 35) (bz 17 767) HT_ ?_
     refine pA 8 (some 36) (bz 17 1023) HT_ ?_
     refine o2 10 14 (some 38) (some 8) (bz 17 2047) (bz 17 0x43ff) HT_ rfl rfl (kC1 Tryz.func183 (spec_BlockNew.calls (hr1_2 := rC HO_772002) (hc1_2 := rL HO_772002) (hr3 := rC HO_6) (hc3 := rL HO_6) (w := _) (h := A36.out)) ?_) (kB #[.string (⟨#[]⟩ : ByteArray), .int .i64 0, .string (⟨#[]⟩ : ByteArray), .slice none 0 0] 165 ?_)
     ·
      intro Ao794 co794 w41 _ HO795
      refine nA (some 38) ?_
      refine pA 11 (some 27) (bz 17 4095) HT_ ?_
      refine pA 12 (some 39) (bz 17 0x1fff) HT_ ?_
      refine pA 13 (some 40) (bz 17 0x3fff) HT_ ?_
      refine o1 14 (some 8) (bz 17 0x7fff) HT_ rfl (kB #[.string (⟨#[]⟩ : ByteArray), .int .i64 0, .string (⟨#[]⟩ : ByteArray), .slice none 0 0] 165 ?_); intro gb797 w43 _ _ _
      refine nA (some 8) ?_
      exact hJ (hCont (Ao794, co794, gb797) _ ⟨⟨rJ HO795⟩, ⟨xB⟩, ⟨GeI.out⟩, iB149 ⟨iS149 HI39⟩, ⟨iS149 HI39⟩, ⟨UpL.out⟩, ⟨UpW.out⟩, ⟨UpB.out⟩⟩)
     intro gb797 w42 _ _ _
     refine nA (some 8) ?_
     refine o1 10 (some 38) (bz 17 0x47ff) HT_ rfl (kC1 Tryz.func183 (spec_BlockNew.calls (hr1_2 := rC HO_772002) (hc1_2 := rL HO_772002) (hr3 := rC HO_6) (hc3 := rL HO_6) (w := _) (h := A36.out)) ?_); intro Ao794 co794 w44 _ HO795
     refine nA (some 38) ?_
     refine pA 11 (some 27) (bz 17 0x4fff) HT_ ?_
     refine pA 12 (some 39) (bz 17 0x5fff) HT_ ?_
     refine pA 13 (some 40) (bz 17 0x7fff) HT_ ?_
     exact hJ (hCont (Ao794, co794, gb797) _ ⟨⟨rJ HO795⟩, ⟨xB⟩, ⟨GeI.out⟩, iB149 ⟨iS149 HI39⟩, ⟨iS149 HI39⟩, ⟨UpL.out⟩, ⟨UpW.out⟩, ⟨UpB.out⟩⟩)
    intro gb797 w40 _ _ _
    refine nA (some 8) ?_
    refine o1 6 (some 34) (bz 17 0x427f) HT_ rfl (kK Tryz.func97 (spec_l1Below.calls (hI := iS149 HI28) (hB := UpW.out) (w := _) (h := A35.out)) ?_); intro w45 _ _ _ HI46
    refine nA (some 34) ?_
    refine pA 7 (some 35) (bz 17 0x42ff) HT_ ?_
    refine pA 8 (some 36) (bz 17 0x43ff) HT_ ?_
    refine o1 10 (some 38) (bz 17 0x47ff) HT_ rfl (kC1 Tryz.func183 (spec_BlockNew.calls (hr1_2 := rC HO_772002) (hc1_2 := rL HO_772002) (hr3 := rC HO_6) (hc3 := rL HO_6) (w := _) (h := A36.out)) ?_); intro Ao794 co794 w47 _ HO795
    refine nA (some 38) ?_
    refine pA 11 (some 27) (bz 17 0x4fff) HT_ ?_
    refine pA 12 (some 39) (bz 17 0x5fff) HT_ ?_
    refine pA 13 (some 40) (bz 17 0x7fff) HT_ ?_
    exact hJ (hCont (Ao794, co794, gb797) _ ⟨⟨rJ HO795⟩, ⟨xB⟩, ⟨GeI.out⟩, iB149 ⟨iS149 HI46⟩, ⟨iS149 HI46⟩, ⟨UpL.out⟩, ⟨UpW.out⟩, ⟨UpB.out⟩⟩)
   rintro ⟨Ao794, co794, gb797⟩ w48 ⟨HO795, _, _, _, HI49, _, _, _⟩
   refine nP ?_
   refine o1 15 none (bz 17 0xffff) HT_ rfl (kS ?_)
   refine pA 16 (some 9) (bz 17 0x1ffff) HT_ ?_
   refine done_ (done_of HT_.out (by kernel_rfl)) ?_
   try go_wp2
   refine bodyPost_ret (results_cell_row rfl _ _ gb760 165 #[.string t790, .int .i64 t791, .string t792, .slice Ao794 t793.length co794] (0, 0) _ rfl xB Tryz.underlying165 rfl (by kernel_rfl)) rfl ?_
   exact ⟨_, y0_8, rR HO795, iS149 HI49, UpW.out, UpB.out⟩
def spec_l11Copy.f (a0_0 : Int) (a0_1 : Int) (a0_2 : Int) (a0_3 : ByteArray) (l0_4 : List Int) (a0_5 : ByteArray) : Option (Int × Int × Int × ByteArray × List Int × ByteArray) := (spec_l7Copy.f a0_2 a0_3 l0_4).bind fun bt800 => (some (a0_0, a0_1, bt800.1, bt800.2.1, bt800.2.2, a0_5))
theorem spec_l11Copy.calls (a0_0 : Int) (a0_1 : Int) (a0_2 : Int) (a0_3 : ByteArray) (A0_4 : Option Addr) (c0_4 : Nat) (l0_4 : List Int) (a0_5 : ByteArray) (r1 : Int) (r2 : Int) (r3 : Int) (r4 : ByteArray) (r5 : List Int) (r6 : ByteArray) (w : World) (hr0_4 : Kd.C (Kd.int .i64) w A0_4 l0_4.length l0_4) (hc0_4 : l0_4.length ≤ c0_4) (h : spec_l11Copy.f a0_0 a0_1 a0_2 a0_3 l0_4 a0_5 = some (r1, r2, r3, r4, r5, r6)) :
  Calls Tryz.prog 184 #[.agg #[.int .i64 a0_0, .int .i64 a0_1, .int .i64 a0_2, .string a0_3, .slice A0_4 l0_4.length c0_4, .string a0_5]] w fun e w' => ∃ v4_ : Value, e = .returned (.agg #[.int .i64 r1, .int .i64 r2, .int .i64 r3, .string r4, v4_, .string r6]) ∧ Kd.R (Kd.int .i64) 3 w' w.heap.size (fun _ => True) v4_ r5 ∧ Below w.heap.size w w' := by
 have hu29 := Tryz.underlying29; have hu27 := Tryz.underlying27; have HR0_4 := Aside0.mk hr0_4; have HC0_4 := Aside0.mk hc0_4; clear hr0_4 hc0_4; have HB := Aside0.mk (Below.refl w.heap.size w)
 have H := h; unfold spec_l11Copy.f at H
 clear h; obtain ⟨⟨t800, t801, t802⟩, A2, H⟩ := oB H; (try dsimp only at H)
 simp only [Option.some.injEq, Prod.mk.injEq] at H
 obtain ⟨rfl, rfl, rfl, rfl, rfl, rfl⟩ := H
 go_enter Tryz.func184, Tryz.ntmps184
 go_wp2_with (first | ((with_reducible refine gd 1 ?_); refine bL 1 #[.int .i64 a0_0, .int .i64 a0_1, .int .i64 a0_2, .string a0_3, .slice A0_4 l0_4.length c0_4, .string a0_5] 29 ?_; intro gb798 w3 _ _ _) | ((with_reducible refine gd 2 ?_); refine bL 2 #[.int .i64 0, .int .i64 0, .int .i64 0, .string (⟨#[]⟩ : ByteArray), .slice none 0 0, .string (⟨#[]⟩ : ByteArray)] 29 ?_; intro gb799 w4 _ _ _) | ((with_reducible refine gate_callee (f := 200) rfl ?_); refine gC1 (some 5) Tryz.func200 (spec_l7Copy.calls (hr0_2 := pC HR0_4) (hc0_2 := HC0_4.out) (w := _) (h := A2.out)) ?_; intro Ao803 co803 w5 _ HO804))
 refine bodyPost_ret (results_cell_row rfl _ _ gb799 29 #[.int .i64 a0_0, .int .i64 a0_1, .int .i64 t800, .string t801, .slice Ao803 t802.length co803, .string a0_5] (0, 0) _ rfl xB Tryz.underlying29 rfl (by kernel_rfl)) rfl ?_
 exact ⟨_, y0_8, rR HO804, UpW.out⟩
def spec_QcLater.f (a0_0 : Int) (a0_1 : ByteArray) (l0_2 : List Int) (a1_0 : Int) (a1_1 : ByteArray) (l1_2 : List Int) : Option (Int × ByteArray × List Int) := if a0_0 > a1_0 then ((spec_l7Copy.f a0_0 a0_1 l0_2).bind fun bt808 => (some (bt808.1, bt808.2.1, bt808.2.2))) else ((spec_l7Copy.f a1_0 a1_1 l1_2).bind fun bt813 => (some (bt813.1, bt813.2.1, bt813.2.2)))
theorem spec_QcLater.calls (a0_0 : Int) (a0_1 : ByteArray) (A0_2 : Option Addr) (c0_2 : Nat) (l0_2 : List Int) (a1_0 : Int) (a1_1 : ByteArray) (A1_2 : Option Addr) (c1_2 : Nat) (l1_2 : List Int) (r1 : Int) (r2 : ByteArray) (r3 : List Int) (w : World) (hr0_2 : Kd.C (Kd.int .i64) w A0_2 l0_2.length l0_2) (hc0_2 : l0_2.length ≤ c0_2) (hr1_2 : Kd.C (Kd.int .i64) w A1_2 l1_2.length l1_2) (hc1_2 : l1_2.length ≤ c1_2) (h : spec_QcLater.f a0_0 a0_1 l0_2 a1_0 a1_1 l1_2 = some (r1, r2, r3)) :
  Calls Tryz.prog 185 #[.agg #[.int .i64 a0_0, .string a0_1, .slice A0_2 l0_2.length c0_2], .agg #[.int .i64 a1_0, .string a1_1, .slice A1_2 l1_2.length c1_2]] w fun e w' => ∃ v2_ : Value, e = .returned (.agg #[.int .i64 r1, .string r2, v2_]) ∧ Kd.R (Kd.int .i64) 3 w' w.heap.size (fun _ => True) v2_ r3 ∧ Below w.heap.size w w' := by
 have hu27 := Tryz.underlying27; have HR0_2 := Aside0.mk hr0_2; have HC0_2 := Aside0.mk hc0_2; clear hr0_2 hc0_2; have HR1_2 := Aside0.mk hr1_2; have HC1_2 := Aside0.mk hc1_2; clear hr1_2 hc1_2; have HB := Aside0.mk (Below.refl w.heap.size w)
 have H := h; unfold spec_QcLater.f at H
 clear h
 go_enter Tryz.func185, Tryz.ntmps185
 have H' := Aside0.mk H; clear H
 go_upto_if 9 with (first | ((with_reducible refine gd 2 ?_); refine bL 2 #[.int .i64 a0_0, .string a0_1, .slice A0_2 l0_2.length c0_2] 27 ?_; intro gb805 w3 _ _ _) | ((with_reducible refine gd 3 ?_); refine bL 3 #[.int .i64 a1_0, .string a1_1, .slice A1_2 l1_2.length c1_2] 27 ?_; intro gb806 w4 _ _ _) | ((with_reducible refine gd 4 ?_); refine bL 4 #[.int .i64 0, .string (⟨#[]⟩ : ByteArray), .slice none 0 0] 27 ?_; intro gb807 w5 _ _ _))
 have H := H'.out; clear H'
 by_cases c6 : a0_0 > a1_0
 ·
  rw [if_pos c6] at H
  have c6b0 : decide (a1_0 < a0_0) = true := decide_eq_true c6; clear c6
  (first | rw [c6b0] | (simp only [i64_w, i32_w]; rw [c6b0]) | skip)
  obtain ⟨⟨t808, t809, t810⟩, A7, H⟩ := oB H; (try dsimp only at H)
  simp only [Option.some.injEq, Prod.mk.injEq] at H
  obtain ⟨rfl, rfl, rfl⟩ := H
  go_wp2_with (first | ((with_reducible refine gate_callee (f := 200) rfl ?_); refine gC1 (some 11) Tryz.func200 (spec_l7Copy.calls (hr0_2 := pC HR0_2) (hc0_2 := HC0_2.out) (w := _) (h := A7.out)) ?_; intro Ao811 co811 w8 _ HO812))
  refine bodyPost_ret (results_cell_row rfl _ _ gb807 27 #[.int .i64 t808, .string t809, .slice Ao811 t810.length co811] (0, 0) _ rfl xB Tryz.underlying27 rfl (by kernel_rfl)) rfl ?_
  exact ⟨_, y0_8, rR HO812, UpW.out⟩
 rw [if_neg c6] at H
 have c6b0 : decide (a1_0 < a0_0) = false := decide_eq_false c6; clear c6
 (first | rw [c6b0] | (simp only [i64_w, i32_w]; rw [c6b0]) | skip)
 obtain ⟨⟨t813, t814, t815⟩, A9, H⟩ := oB H; (try dsimp only at H)
 simp only [Option.some.injEq, Prod.mk.injEq] at H
 obtain ⟨rfl, rfl, rfl⟩ := H
 go_wp2_with (first | ((with_reducible refine gate_callee (f := 200) rfl ?_); refine gC1 (some 13) Tryz.func200 (spec_l7Copy.calls (hr0_2 := pC HR1_2) (hc0_2 := HC1_2.out) (w := _) (h := A9.out)) ?_; intro Ao816 co816 w10 _ HO817))
 refine bodyPost_ret (results_cell_row rfl _ _ gb807 27 #[.int .i64 t813, .string t814, .slice Ao816 t815.length co816] (0, 0) _ rfl xB Tryz.underlying27 rfl (by kernel_rfl)) rfl ?_
 exact ⟨_, y0_8, rR HO817, UpW.out⟩
def spec_Settles.f (k : Nat) (a0 : ByteArray) : Option (ByteArray × Bool) := (spec_Steps.f k a0).bind fun bt818 => (if bt818.2 = true then (if (bt818.1.length : Int) < 3 then (some ((⟨#[]⟩ : ByteArray), false)) else (if 0 ≤ (wrap64 ((bt818.1.length : Int) - 1)) then (if (wrap64 ((bt818.1.length : Int) - 1)) < (bt818.1.length : Int) then (if 0 ≤ (wrap64 ((bt818.1.length : Int) - 2)) then (if (wrap64 ((bt818.1.length : Int) - 2)) < (bt818.1.length : Int) then (if ((rd_T163 bt818.1 (wrap64 ((bt818.1.length : Int) - 1))).f0) = (wrap64 (((rd_T163 bt818.1 (wrap64 ((bt818.1.length : Int) - 2))).f0) + 1)) then (if 0 ≤ (wrap64 ((bt818.1.length : Int) - 3)) then (if (wrap64 ((bt818.1.length : Int) - 3)) < (bt818.1.length : Int) then (if ((rd_T163 bt818.1 (wrap64 ((bt818.1.length : Int) - 2))).f0) = (wrap64 (((rd_T163 bt818.1 (wrap64 ((bt818.1.length : Int) - 3))).f0) + 1)) then ((spec_UpOf.f k a0).bind fun t826 => ((spec_UpOf.f k t826).bind fun t827 => (some (t827, true)))) else (some ((⟨#[]⟩ : ByteArray), false))) else (none)) else (none)) else (some ((⟨#[]⟩ : ByteArray), false))) else (none)) else (none)) else (none)) else (none))) else (some ((⟨#[]⟩ : ByteArray), false)))
theorem spec_Settles.mono : ∀ a0 k, LeO (spec_Settles.f k a0) (spec_Settles.f (k + 1) a0) := by
 intro a0 k
 unfold spec_Settles.f
 repeat' first | (with_reducible exact spec_Steps.mono _ _) | (with_reducible exact spec_UpOf.mono _ _) | (with_reducible exact LeO.refl _) | (with_reducible exact LeO.none _) | (with_reducible refine LeO.ite ?_ ?_) | (with_reducible refine LeO.bind ?_ (fun _ => ?_))
theorem spec_Settles.calls (k : Nat) (a0 : ByteArray) (r1 : ByteArray) (r2 : Bool) (w : World) (h : spec_Settles.f k a0 = some (r1, r2)) :
  Calls Tryz.prog 187 #[.string a0] w fun e w' => e = .returned (.tuple #[.string r1, .bool r2]) ∧ Below w.heap.size w w' := by
 have HB := Aside0.mk (Below.refl w.heap.size w)
 have H := h; unfold spec_Settles.f at H
 clear h; obtain ⟨⟨t818, t819⟩, A2, H⟩ := oB H; (try dsimp only at H)
 go_enter Tryz.func187, Tryz.ntmps187
 have H' := Aside0.mk H; clear H
 go_upto_region 3 with (first | ((with_reducible refine gate_callee (f := 152) rfl ?_); refine gS1 (some 9) Tryz.func152 (spec_Steps.calls (w := _) (h := A2.out)) ?_; intro Ao820 co820 w3 _ HO821))
 repeat (go_quiet (first | ((with_reducible refine gate_callee (f := 152) rfl ?_); refine gS1 (some 9) Tryz.func152 (spec_Steps.calls (w := _) (h := A2.out)) ?_; intro Ao820 co820 w3 _ HO821)); go_upto_region 3 with (first | ((with_reducible refine gate_callee (f := 152) rfl ?_); refine gS1 (some 9) Tryz.func152 (spec_Steps.calls (w := _) (h := A2.out)) ?_; intro Ao820 co820 w3 _ HO821)))
 have H := H'.out; clear H'
 by_cases c4 : t819 = true
 ·
  subst c4
  rw [if_pos rfl] at H
  by_cases c5 : (t818.length : Int) < 3
  ·
   rw [if_pos c5] at H
   have c5b0 : decide ((t818.length : Int) < 3) = true := decide_eq_true c5
   have c5b1 : decide (t818.length < 3) = true := decide_eq_true (by omega)
   clear c5
   (first | rw [c5b0] | (simp only [i64_w, i32_w]; rw [c5b0]) | skip)
   simp only [Option.some.injEq, Prod.mk.injEq] at H
   obtain ⟨rfl, rfl⟩ := H
   go_wp2
   repeat (go_quiet (fail); try go_wp2)
   go_ret2
   exact ⟨y0_8, UpW.out⟩
  rw [if_neg c5] at H
  have c5b0 : decide ((t818.length : Int) < 3) = false := decide_eq_false c5
  have c5b1 : decide (t818.length < 3) = false := decide_eq_false (by omega)
  clear c5
  (first | rw [c5b0] | (simp only [i64_w, i32_w]; rw [c5b0]) | skip)
  obtain ⟨ji6, hji6⟩ : ∃ j_ : Int, (wrap64 ((t818.length : Int) - 1)) = j_ := ⟨_, rfl⟩
  replace H : (if 0 ≤ (ji6) then (if (ji6) < (t818.length : Int) then (if 0 ≤ (wrap64 ((t818.length : Int) - 2)) then (if (wrap64 ((t818.length : Int) - 2)) < (t818.length : Int) then (if ((rd_T163 t818 (ji6)).f0) = (wrap64 (((rd_T163 t818 (wrap64 ((t818.length : Int) - 2))).f0) + 1)) then (if 0 ≤ (wrap64 ((t818.length : Int) - 3)) then (if (wrap64 ((t818.length : Int) - 3)) < (t818.length : Int) then (if ((rd_T163 t818 (wrap64 ((t818.length : Int) - 2))).f0) = (wrap64 (((rd_T163 t818 (wrap64 ((t818.length : Int) - 3))).f0) + 1)) then ((spec_UpOf.f k a0).bind fun t826 => ((spec_UpOf.f k t826).bind fun t827 => (some (t827, true)))) else (some ((⟨#[]⟩ : ByteArray), false))) else (none)) else (none)) else (some ((⟨#[]⟩ : ByteArray), false))) else (none)) else (none)) else (none)) else (none)) = some (r1, r2) := by first | (rw [hji6] at H; exact H) | (simp only [hji6] at H ⊢; exact H)
  have hji6w : (IntKind.i64.wrap ((t818.length : Int) - 1)) = ji6 := (i64_w _).trans hji6
  by_cases c7 : 0 ≤ (ji6)
  rotate_left
  ·
   rw [if_neg c7] at H
   exact absurd H (by simp)
  rw [if_pos c7] at H
  have c7b0 : decide (0 ≤ (ji6)) = true := decide_eq_true c7; clear c7
  by_cases c8 : (ji6) < (t818.length : Int)
  rotate_left
  ·
   rw [if_neg c8] at H
   exact absurd H (by simp)
  rw [if_pos c8] at H
  have c8b0 : decide ((ji6) < (t818.length : Int)) = true := decide_eq_true c8; clear c8; obtain ⟨ji9, hji9⟩ : ∃ j_ : Int, (wrap64 ((t818.length : Int) - 2)) = j_ := ⟨_, rfl⟩
  replace H : (if 0 ≤ (ji9) then (if (ji9) < (t818.length : Int) then (if ((rd_T163 t818 (ji6)).f0) = (wrap64 (((rd_T163 t818 (ji9)).f0) + 1)) then (if 0 ≤ (wrap64 ((t818.length : Int) - 3)) then (if (wrap64 ((t818.length : Int) - 3)) < (t818.length : Int) then (if ((rd_T163 t818 (ji9)).f0) = (wrap64 (((rd_T163 t818 (wrap64 ((t818.length : Int) - 3))).f0) + 1)) then ((spec_UpOf.f k a0).bind fun t826 => ((spec_UpOf.f k t826).bind fun t827 => (some (t827, true)))) else (some ((⟨#[]⟩ : ByteArray), false))) else (none)) else (none)) else (some ((⟨#[]⟩ : ByteArray), false))) else (none)) else (none)) = some (r1, r2) := by first | (rw [hji9] at H; exact H) | (simp only [hji9] at H ⊢; exact H)
  have hji9w : (IntKind.i64.wrap ((t818.length : Int) - 2)) = ji9 := (i64_w _).trans hji9
  by_cases c10 : 0 ≤ (ji9)
  rotate_left
  ·
   rw [if_neg c10] at H
   exact absurd H (by simp)
  rw [if_pos c10] at H
  have c10b0 : decide (0 ≤ (ji9)) = true := decide_eq_true c10; clear c10
  by_cases c11 : (ji9) < (t818.length : Int)
  rotate_left
  ·
   rw [if_neg c11] at H
   exact absurd H (by simp)
  rw [if_pos c11] at H
  have c11b0 : decide ((ji9) < (t818.length : Int)) = true := decide_eq_true c11; clear c11
  by_cases c12 : ((rd_T163 t818 (ji6)).f0) = (wrap64 (((rd_T163 t818 (ji9)).f0) + 1))
  ·
   rw [if_pos c12] at H
   have c12b0 : (((rd_T163 t818 (ji6)).f0) == (wrap64 (((rd_T163 t818 (ji9)).f0) + 1))) = true := beq_iff_eq.mpr c12; have c12b1 : (((rd_T163 t818 (ji6)).f0) != (wrap64 (((rd_T163 t818 (ji9)).f0) + 1))) = false := bne_eq_false_iff_eq.mpr c12; clear c12; obtain ⟨ji13, hji13⟩ : ∃ j_ : Int, (wrap64 ((t818.length : Int) - 3)) = j_ := ⟨_, rfl⟩
   replace H : (if 0 ≤ (ji13) then (if (ji13) < (t818.length : Int) then (if ((rd_T163 t818 (ji9)).f0) = (wrap64 (((rd_T163 t818 (ji13)).f0) + 1)) then ((spec_UpOf.f k a0).bind fun t826 => ((spec_UpOf.f k t826).bind fun t827 => (some (t827, true)))) else (some ((⟨#[]⟩ : ByteArray), false))) else (none)) else (none)) = some (r1, r2) := by first | (rw [hji13] at H; exact H) | (simp only [hji13] at H ⊢; exact H)
   have hji13w : (IntKind.i64.wrap ((t818.length : Int) - 3)) = ji13 := (i64_w _).trans hji13
   by_cases c14 : 0 ≤ (ji13)
   rotate_left
   ·
    rw [if_neg c14] at H
    exact absurd H (by simp)
   rw [if_pos c14] at H
   have c14b0 : decide (0 ≤ (ji13)) = true := decide_eq_true c14; clear c14
   by_cases c15 : (ji13) < (t818.length : Int)
   rotate_left
   ·
    rw [if_neg c15] at H
    exact absurd H (by simp)
   rw [if_pos c15] at H
   have c15b0 : decide ((ji13) < (t818.length : Int)) = true := decide_eq_true c15; clear c15; have H' := Aside0.mk H; clear H; have p822 : 0 ≤ ((ji6) : Int) := of_decide_eq_true y0_7; have q822 : (ji6) < (t818.length : Int) := of_decide_eq_true y0_7
   obtain ⟨go822, cc822, eo822, hb822, _, hg822⟩ := Kd.S_form HO821.out (by omega)
   have bo822 : BornI go822 _ := ⟨hb822⟩
   injection eo822 with ea_ en_ ec_
   subst ea_; subst ec_; clear en_; have sb822 : StB go822 w3 163 := ⟨hg822⟩; obtain ⟨ok822, ce822, _, hM822, hcc822, _, _, _⟩ := Kd.S_elem HO821.out z163 (ji6) p822 q822; obtain ⟨ve822_1, rfl, ge822_1⟩ := k163_openM hM822; obtain ⟨A822_1, c822_1, ev822_1⟩ := Kd.R_slice ge822_1; subst ev822_1; have i822_0_ : RdG go822 (((ji6) : Int).toNat * 2) w3 (.int .i64 ((rd_T163 t818 (ji6)).f0)) := RdG.of hg822 (hcc822 0 _ rfl); have i822_1_ : RdG go822 (((ji6) : Int).toNat * 2 + 1) w3 (.slice A822_1 ((rd_T163 t818 (ji6)).f1).length c822_1) := RdG.of hg822 (hcc822 1 _ rfl)
   have HR822_1 := Aside0.mk (show Kd.R k156 156 w3 _ ok822 (.slice A822_1 ((rd_T163 t818 (ji6)).f1).length c822_1) ((rd_T163 t818 (ji6)).f1) from ge822_1)
   replace p822 := eq_true p822; replace q822 := eq_true q822; have p823 : 0 ≤ ((ji9) : Int) := of_decide_eq_true y0_7; have q823 : (ji9) < (t818.length : Int) := of_decide_eq_true y0_7; have hg823 := (BT.out : ∃ cs_, w3.heap[go822]? = some (.cells cs_ 163 (0, 0))); obtain ⟨ok823, ce823, _, hM823, hcc823, _, _, _⟩ := Kd.S_elem HO821.out z163 (ji9) p823 q823; obtain ⟨ve823_1, rfl, ge823_1⟩ := k163_openM hM823; obtain ⟨A823_1, c823_1, ev823_1⟩ := Kd.R_slice ge823_1; subst ev823_1; have i823_0_ : RdG go822 (((ji9) : Int).toNat * 2) w3 (.int .i64 ((rd_T163 t818 (ji9)).f0)) := RdG.of hg823 (hcc823 0 _ rfl); have i823_1_ : RdG go822 (((ji9) : Int).toNat * 2 + 1) w3 (.slice A823_1 ((rd_T163 t818 (ji9)).f1).length c823_1) := RdG.of hg823 (hcc823 1 _ rfl)
   have HR823_1 := Aside0.mk (show Kd.R k156 156 w3 _ ok823 (.slice A823_1 ((rd_T163 t818 (ji9)).f1).length c823_1) ((rd_T163 t818 (ji9)).f1) from ge823_1)
   replace p823 := eq_true p823; replace q823 := eq_true q823; have p824 : 0 ≤ ((ji9) : Int) := of_decide_eq_true y0_7; have q824 : (ji9) < (t818.length : Int) := of_decide_eq_true y0_7; have hg824 := (BT.out : ∃ cs_, w3.heap[go822]? = some (.cells cs_ 163 (0, 0))); obtain ⟨ok824, ce824, _, hM824, hcc824, _, _, _⟩ := Kd.S_elem HO821.out z163 (ji9) p824 q824; obtain ⟨ve824_1, rfl, ge824_1⟩ := k163_openM hM824; obtain ⟨A824_1, c824_1, ev824_1⟩ := Kd.R_slice ge824_1; subst ev824_1; have i824_0_ : RdG go822 (((ji9) : Int).toNat * 2) w3 (.int .i64 ((rd_T163 t818 (ji9)).f0)) := RdG.of hg824 (hcc824 0 _ rfl); have i824_1_ : RdG go822 (((ji9) : Int).toNat * 2 + 1) w3 (.slice A824_1 ((rd_T163 t818 (ji9)).f1).length c824_1) := RdG.of hg824 (hcc824 1 _ rfl)
   have HR824_1 := Aside0.mk (show Kd.R k156 156 w3 _ ok824 (.slice A824_1 ((rd_T163 t818 (ji9)).f1).length c824_1) ((rd_T163 t818 (ji9)).f1) from ge824_1)
   replace p824 := eq_true p824; replace q824 := eq_true q824; have p825 : 0 ≤ ((ji13) : Int) := of_decide_eq_true y0_7; have q825 : (ji13) < (t818.length : Int) := of_decide_eq_true y0_7; have hg825 := (BT.out : ∃ cs_, w3.heap[go822]? = some (.cells cs_ 163 (0, 0))); obtain ⟨ok825, ce825, _, hM825, hcc825, _, _, _⟩ := Kd.S_elem HO821.out z163 (ji13) p825 q825; obtain ⟨ve825_1, rfl, ge825_1⟩ := k163_openM hM825; obtain ⟨A825_1, c825_1, ev825_1⟩ := Kd.R_slice ge825_1; subst ev825_1; have i825_0_ : RdG go822 (((ji13) : Int).toNat * 2) w3 (.int .i64 ((rd_T163 t818 (ji13)).f0)) := RdG.of hg825 (hcc825 0 _ rfl); have i825_1_ : RdG go822 (((ji13) : Int).toNat * 2 + 1) w3 (.slice A825_1 ((rd_T163 t818 (ji13)).f1).length c825_1) := RdG.of hg825 (hcc825 1 _ rfl)
   have HR825_1 := Aside0.mk (show Kd.R k156 156 w3 _ ok825 (.slice A825_1 ((rd_T163 t818 (ji13)).f1).length c825_1) ((rd_T163 t818 (ji13)).f1) from ge825_1)
   replace p825 := eq_true p825; replace q825 := eq_true q825
   go_upto_if 51 with fail
   repeat (go_quiet (fail); go_upto_if 51 with fail)
   have H := H'.out; clear H'
   by_cases c16 : ((rd_T163 t818 (ji9)).f0) = (wrap64 (((rd_T163 t818 (ji13)).f0) + 1))
   ·
    rw [if_pos c16] at H
    have c16b0 : (((rd_T163 t818 (ji9)).f0) == (wrap64 (((rd_T163 t818 (ji13)).f0) + 1))) = true := beq_iff_eq.mpr c16; have c16b1 : (((rd_T163 t818 (ji9)).f0) != (wrap64 (((rd_T163 t818 (ji13)).f0) + 1))) = false := bne_eq_false_iff_eq.mpr c16; clear c16
    (first | rw [c16b0] | (simp only [i64_w, i32_w]; rw [c16b0]) | skip)
    obtain ⟨t826, A17, H⟩ := oB H; (try dsimp only at H); obtain ⟨t827, A18, H⟩ := oB H; (try dsimp only at H)
    simp only [Option.some.injEq, Prod.mk.injEq] at H
    obtain ⟨rfl, rfl⟩ := H
    go_wp2_with (first | ((with_reducible refine gate_callee (f := 186) rfl ?_); refine gC (some 53) Tryz.func186 (spec_UpOf.calls (w := _) (h := A17.out)) ?_; intro w19 _) | ((with_reducible refine gate_callee (f := 186) rfl ?_); refine gC (some 54) Tryz.func186 (spec_UpOf.calls (w := _) (h := A18.out)) ?_; intro w20 _))
    repeat (go_quiet (fail); try go_wp2_with (first | ((with_reducible refine gate_callee (f := 186) rfl ?_); refine gC (some 53) Tryz.func186 (spec_UpOf.calls (w := _) (h := A17.out)) ?_; intro w19 _) | ((with_reducible refine gate_callee (f := 186) rfl ?_); refine gC (some 54) Tryz.func186 (spec_UpOf.calls (w := _) (h := A18.out)) ?_; intro w20 _)))
    go_ret2
    exact ⟨by first | rfl | (simp; done) | (simp only [← hji6, ← hji9, ← hji13] <;> (first | rfl | simp)) | (simp [*]; done), UpW.out⟩
   rw [if_neg c16] at H
   have c16b0 : (((rd_T163 t818 (ji9)).f0) == (wrap64 (((rd_T163 t818 (ji13)).f0) + 1))) = false := beq_eq_false_iff_ne.mpr c16; have c16b1 : (((rd_T163 t818 (ji9)).f0) != (wrap64 (((rd_T163 t818 (ji13)).f0) + 1))) = true := bne_iff_ne.mpr c16
   (first | rw [c16b0] | (simp only [i64_w, i32_w]; rw [c16b0]) | skip)
   simp only [Option.some.injEq, Prod.mk.injEq] at H
   obtain ⟨rfl, rfl⟩ := H
   go_wp2
   repeat (go_quiet (fail); try go_wp2)
   go_ret2
   exact ⟨by first | rfl | (simp; done) | (simp only [← hji6, ← hji9, ← hji13] <;> (first | rfl | simp)) | (simp [*]; done), UpW.out⟩
  rw [if_neg c12] at H
  have c12b0 : (((rd_T163 t818 (ji6)).f0) == (wrap64 (((rd_T163 t818 (ji9)).f0) + 1))) = false := beq_eq_false_iff_ne.mpr c12; have c12b1 : (((rd_T163 t818 (ji6)).f0) != (wrap64 (((rd_T163 t818 (ji9)).f0) + 1))) = true := bne_iff_ne.mpr c12; have H' := Aside0.mk H; clear H; have p822 : 0 ≤ ((ji6) : Int) := of_decide_eq_true y0_7; have q822 : (ji6) < (t818.length : Int) := of_decide_eq_true y0_7
  obtain ⟨go822, cc822, eo822, hb822, _, hg822⟩ := Kd.S_form HO821.out (by omega)
  have bo822 : BornI go822 _ := ⟨hb822⟩
  injection eo822 with ea_ en_ ec_
  subst ea_; subst ec_; clear en_; have sb822 : StB go822 w3 163 := ⟨hg822⟩; obtain ⟨ok822, ce822, _, hM822, hcc822, _, _, _⟩ := Kd.S_elem HO821.out z163 (ji6) p822 q822; obtain ⟨ve822_1, rfl, ge822_1⟩ := k163_openM hM822; obtain ⟨A822_1, c822_1, ev822_1⟩ := Kd.R_slice ge822_1; subst ev822_1; have i822_0_ : RdG go822 (((ji6) : Int).toNat * 2) w3 (.int .i64 ((rd_T163 t818 (ji6)).f0)) := RdG.of hg822 (hcc822 0 _ rfl); have i822_1_ : RdG go822 (((ji6) : Int).toNat * 2 + 1) w3 (.slice A822_1 ((rd_T163 t818 (ji6)).f1).length c822_1) := RdG.of hg822 (hcc822 1 _ rfl)
  have HR822_1 := Aside0.mk (show Kd.R k156 156 w3 _ ok822 (.slice A822_1 ((rd_T163 t818 (ji6)).f1).length c822_1) ((rd_T163 t818 (ji6)).f1) from ge822_1)
  replace p822 := eq_true p822; replace q822 := eq_true q822; have p823 : 0 ≤ ((ji9) : Int) := of_decide_eq_true y0_7; have q823 : (ji9) < (t818.length : Int) := of_decide_eq_true y0_7; have hg823 := (BT.out : ∃ cs_, w3.heap[go822]? = some (.cells cs_ 163 (0, 0))); obtain ⟨ok823, ce823, _, hM823, hcc823, _, _, _⟩ := Kd.S_elem HO821.out z163 (ji9) p823 q823; obtain ⟨ve823_1, rfl, ge823_1⟩ := k163_openM hM823; obtain ⟨A823_1, c823_1, ev823_1⟩ := Kd.R_slice ge823_1; subst ev823_1; have i823_0_ : RdG go822 (((ji9) : Int).toNat * 2) w3 (.int .i64 ((rd_T163 t818 (ji9)).f0)) := RdG.of hg823 (hcc823 0 _ rfl); have i823_1_ : RdG go822 (((ji9) : Int).toNat * 2 + 1) w3 (.slice A823_1 ((rd_T163 t818 (ji9)).f1).length c823_1) := RdG.of hg823 (hcc823 1 _ rfl)
  have HR823_1 := Aside0.mk (show Kd.R k156 156 w3 _ ok823 (.slice A823_1 ((rd_T163 t818 (ji9)).f1).length c823_1) ((rd_T163 t818 (ji9)).f1) from ge823_1)
  replace p823 := eq_true p823; replace q823 := eq_true q823
  go_upto_if 51 with fail
  repeat (go_quiet (fail); go_upto_if 51 with fail)
  have H := H'.out; clear H'
  simp only [Option.some.injEq, Prod.mk.injEq] at H
  obtain ⟨rfl, rfl⟩ := H
  go_wp2
  repeat (go_quiet (fail); try go_wp2)
  go_ret2
  exact ⟨by first | rfl | (simp; done) | (simp only [← hji6, ← hji9] <;> (first | rfl | simp)) | (simp [*]; done), UpW.out⟩
 replace c4 := Bool.eq_false_iff.mpr c4; subst c4
 rw [if_neg Bool.false_ne_true] at H
 simp only [Option.some.injEq, Prod.mk.injEq] at H
 obtain ⟨rfl, rfl⟩ := H
 go_wp2
 repeat (go_quiet (fail); try go_wp2)
 go_ret2
 exact ⟨y0_8, UpW.out⟩
theorem bt_size_spec_Extends (s t : ByteArray) : ∀ h : t.size < s.size, (((s[t.size]'h).toNat : Nat) : Int) = bt s (t.size : Int) := fun h => by
 unfold bt
 rw [dif_pos (show ((t.size : Int)).toNat < s.size by simpa using h)]
 rfl
def spec_Extends.f (k : Nat) (a0 : ByteArray) (a1 : ByteArray) : Option (Bool) := (spec_NameOk.f k a0).bind fun t828 => (if t828 = true then ((spec_NameOk.f k a1).bind fun t829 => (if t829 = true then (if (a1.size : Int) > (a0.size : Int) then (some false) else (if 0 ≤ (a1.size : Int) then (if (a1.size : Int) ≤ (a0.size : Int) then (if (a0.extract 0 ((a1.size : Int) : Int).toNat).toList = a1.toList then (if (a0.size : Int) = (a1.size : Int) then (some true) else (if (a1.size : Int) < (a0.size : Int) then (some ((bt a0 (a1.size : Int)) == 47)) else (none))) else (some false)) else (none)) else (none))) else (some false))) else (some false))
theorem spec_Extends.mono : ∀ a0 a1 k, LeO (spec_Extends.f k a0 a1) (spec_Extends.f (k + 1) a0 a1) := by
 intro a0 a1 k
 unfold spec_Extends.f
 repeat' first | (with_reducible exact spec_NameOk.mono _ _) | (with_reducible exact LeO.refl _) | (with_reducible exact LeO.none _) | (with_reducible refine LeO.ite ?_ ?_) | (with_reducible refine LeO.bind ?_ (fun _ => ?_))
theorem spec_Extends.calls (k : Nat) (a0 : ByteArray) (a1 : ByteArray) (r : Bool) (w : World) (h : spec_Extends.f k a0 a1 = some r) :
  Calls Tryz.prog 188 #[.string a0, .string a1] w fun e w' => e = .returned (.bool r) ∧ Below w.heap.size w w' := by
 have HB := Aside0.mk (Below.refl w.heap.size w); have hxs := bt_size_spec_Extends a0 a1
 have H := h; unfold spec_Extends.f at H
 clear h; obtain ⟨t828, A3, H⟩ := oB H; (try dsimp only at H)
 by_cases c4 : t828 = true
 ·
  subst c4
  rw [if_pos rfl] at H
  obtain ⟨t829, A5, H⟩ := oB H; (try dsimp only at H)
  by_cases c6 : t829 = true
  ·
   subst c6
   rw [if_pos rfl] at H
   by_cases c7 : (a1.size : Int) > (a0.size : Int)
   ·
    rw [if_pos c7] at H
    have c7b0 : decide ((a0.size : Int) < (a1.size : Int)) = true := decide_eq_true c7; have c7b1 : decide (a0.size < a1.size) = true := decide_eq_true (Int.ofNat_lt.mp c7); clear c7; obtain rfl := Option.some.inj H
    go_enter Tryz.func188, Tryz.ntmps188
    go_wp2_with (first | ((with_reducible refine gate_callee (f := 112) rfl ?_); refine gB (some 6) Tryz.func112 #[.string a0] ?_; (with_reducible refine (spec_NameOk.calls k a0 true _ A3.out).mono ?_); rintro e w8 ⟨rfl, hb⟩; refine ⟨_, rfl, ?_⟩; replace HB := bs HB hb; (try clear hb); (try clear hb2); (try clear hk); (try clear hi)) | (go_at_call 112; (with_reducible refine (spec_NameOk.calls k a1 true _ A5.out).mono ?_); rintro e w9 ⟨rfl, hb⟩; replace HB := bs HB hb; (try clear hb); (try clear hb2); (try clear hk); (try clear hi)))
    go_ret
    exact ⟨y0_3, bI HB.out⟩
   rw [if_neg c7] at H
   have c7b0 : decide ((a0.size : Int) < (a1.size : Int)) = false := decide_eq_false c7
   have c7b1 : decide (a0.size < a1.size) = false := decide_eq_false (fun h => c7 (Int.ofNat_lt.mpr h))
   clear c7
   by_cases c10 : 0 ≤ (a1.size : Int)
   rotate_left
   ·
    rw [if_neg c10] at H
    exact absurd H (by simp)
   rw [if_pos c10] at H
   have c10b0 := eq_true c10; have c10b1 : decide (0 ≤ (a1.size : Int)) = true := decide_eq_true c10; clear c10
   by_cases c11 : (a1.size : Int) ≤ (a0.size : Int)
   rotate_left
   ·
    rw [if_neg c11] at H
    exact absurd H (by simp)
   rw [if_pos c11] at H
   have c11b0 := eq_true c11; have c11b1 : decide ((a1.size : Int) ≤ (a0.size : Int)) = true := decide_eq_true c11; clear c11
   by_cases c12 : (a0.extract 0 ((a1.size : Int) : Int).toNat).toList = a1.toList
   ·
    rw [if_pos c12] at H
    have c12b0 : ((a0.extract 0 ((a1.size : Int) : Int).toNat).toList == a1.toList) = true := beq_iff_eq.mpr c12; have c12b0' : ((a0.extract 0 a1.size).toList == a1.toList) = true := c12b0; have c12b1 : ((a0.extract 0 ((a1.size : Int) : Int).toNat).toList != a1.toList) = false := bne_eq_false_iff_eq.mpr c12; have c12b1' : ((a0.extract 0 a1.size).toList != a1.toList) = false := c12b1; clear c12
    by_cases c13 : (a0.size : Int) = (a1.size : Int)
    ·
     rw [if_pos c13] at H
     have c13b0 : ((a0.size : Int) == (a1.size : Int)) = true := beq_iff_eq.mpr c13; have c13b1 : ((a0.size : Int) != (a1.size : Int)) = false := bne_eq_false_iff_eq.mpr c13
     have c13b2 : (a0.size == a1.size) = true := by first | simpa using c13 | (simp at c13 ⊢; omega)
     clear c13; obtain rfl := Option.some.inj H
     go_enter Tryz.func188, Tryz.ntmps188
     go_wp2_with (first | ((with_reducible refine gate_callee (f := 112) rfl ?_); refine gB (some 6) Tryz.func112 #[.string a0] ?_; (with_reducible refine (spec_NameOk.calls k a0 true _ A3.out).mono ?_); rintro e w14 ⟨rfl, hb⟩; refine ⟨_, rfl, ?_⟩; replace HB := bs HB hb; (try clear hb); (try clear hb2); (try clear hk); (try clear hi)) | (go_at_call 112; (with_reducible refine (spec_NameOk.calls k a1 true _ A5.out).mono ?_); rintro e w15 ⟨rfl, hb⟩; replace HB := bs HB hb; (try clear hb); (try clear hb2); (try clear hk); (try clear hi)))
     go_ret
     exact ⟨y0_3, bI HB.out⟩
    rw [if_neg c13] at H
    have c13b0 : ((a0.size : Int) == (a1.size : Int)) = false := beq_eq_false_iff_ne.mpr c13; have c13b1 : ((a0.size : Int) != (a1.size : Int)) = true := bne_iff_ne.mpr c13
    have c13b2 : (a0.size == a1.size) = false := by first | simpa using c13 | (simp at c13 ⊢; omega)
    by_cases c16 : (a1.size : Int) < (a0.size : Int)
    rotate_left
    ·
     rw [if_neg c16] at H
     exact absurd H (by simp)
    rw [if_pos c16] at H
    have c16b0 : decide ((a1.size : Int) < (a0.size : Int)) = true := decide_eq_true c16; have c16b1 : decide (a1.size < a0.size) = true := decide_eq_true (Int.ofNat_lt.mp c16); clear c16; obtain rfl := Option.some.inj H
    go_enter Tryz.func188, Tryz.ntmps188
    go_wp2_with (first | ((with_reducible refine gate_callee (f := 112) rfl ?_); refine gB (some 6) Tryz.func112 #[.string a0] ?_; (with_reducible refine (spec_NameOk.calls k a0 true _ A3.out).mono ?_); rintro e w18 ⟨rfl, hb⟩; refine ⟨_, rfl, ?_⟩; replace HB := bs HB hb; (try clear hb); (try clear hb2); (try clear hk); (try clear hi)) | (go_at_call 112; (with_reducible refine (spec_NameOk.calls k a1 true _ A5.out).mono ?_); rintro e w19 ⟨rfl, hb⟩; replace HB := bs HB hb; (try clear hb); (try clear hb2); (try clear hk); (try clear hi); have p17 : 0 ≤ ((a1.size : Int) : Int) := of_decide_eq_true y0_7; have q17 : (a1.size : Int) < (a0.size : Int) := of_decide_eq_true y0_7; have hx17 := bt_at a0 (a1.size : Int); replace p17 := eq_true p17; replace q17 := eq_true q17))
    go_ret
    exact ⟨y0_3, bI HB.out⟩
   rw [if_neg c12] at H
   have c12b0 : ((a0.extract 0 ((a1.size : Int) : Int).toNat).toList == a1.toList) = false := beq_eq_false_iff_ne.mpr c12; have c12b0' : ((a0.extract 0 a1.size).toList == a1.toList) = false := c12b0; have c12b1 : ((a0.extract 0 ((a1.size : Int) : Int).toNat).toList != a1.toList) = true := bne_iff_ne.mpr c12; have c12b1' : ((a0.extract 0 a1.size).toList != a1.toList) = true := c12b1; obtain rfl := Option.some.inj H
   go_enter Tryz.func188, Tryz.ntmps188
   go_wp2_with (first | ((with_reducible refine gate_callee (f := 112) rfl ?_); refine gB (some 6) Tryz.func112 #[.string a0] ?_; (with_reducible refine (spec_NameOk.calls k a0 true _ A3.out).mono ?_); rintro e w20 ⟨rfl, hb⟩; refine ⟨_, rfl, ?_⟩; replace HB := bs HB hb; (try clear hb); (try clear hb2); (try clear hk); (try clear hi)) | (go_at_call 112; (with_reducible refine (spec_NameOk.calls k a1 true _ A5.out).mono ?_); rintro e w21 ⟨rfl, hb⟩; replace HB := bs HB hb; (try clear hb); (try clear hb2); (try clear hk); (try clear hi)))
   go_ret
   exact ⟨y0_3, bI HB.out⟩
  replace c6 := Bool.eq_false_iff.mpr c6; subst c6
  rw [if_neg Bool.false_ne_true] at H
  obtain rfl := Option.some.inj H
  go_enter Tryz.func188, Tryz.ntmps188
  go_wp2_with (first | ((with_reducible refine gate_callee (f := 112) rfl ?_); refine gB (some 6) Tryz.func112 #[.string a0] ?_; (with_reducible refine (spec_NameOk.calls k a0 true _ A3.out).mono ?_); rintro e w22 ⟨rfl, hb⟩; refine ⟨_, rfl, ?_⟩; replace HB := bs HB hb; (try clear hb); (try clear hb2); (try clear hk); (try clear hi)) | (go_at_call 112; (with_reducible refine (spec_NameOk.calls k a1 false _ A5.out).mono ?_); rintro e w23 ⟨rfl, hb⟩; replace HB := bs HB hb; (try clear hb); (try clear hb2); (try clear hk); (try clear hi)))
  go_ret
  exact ⟨y0_3, bI HB.out⟩
 replace c4 := Bool.eq_false_iff.mpr c4; subst c4
 rw [if_neg Bool.false_ne_true] at H
 obtain rfl := Option.some.inj H
 go_enter Tryz.func188, Tryz.ntmps188
 go_wp2_with (first | ((with_reducible refine gate_callee (f := 112) rfl ?_); refine gB (some 6) Tryz.func112 #[.string a0] ?_; (with_reducible refine (spec_NameOk.calls k a0 false _ A3.out).mono ?_); rintro e w24 ⟨rfl, hb⟩; refine ⟨_, rfl, ?_⟩; replace HB := bs HB hb; (try clear hb); (try clear hb2); (try clear hk); (try clear hi)))
 go_ret
 exact ⟨y0_3, bI HB.out⟩
end Go.Proofs.YtdmjhgogljhfkaaGreatDoor.PFnNotes
