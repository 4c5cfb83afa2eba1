import Derived.Test.YtdmjhgogljhfkaaGreatDoorPFnPartsx0
import Derived.Test.YtdmjhgogljhfkaaGreatDoorPFnPartsx1
import Derived.Test.YtdmjhgogljhfkaaGreatDoorPFnPartsx2
import Derived.Test.YtdmjhgogljhfkaaGreatDoorPFnPartsx12
import Derived.Test.YtdmjhgogljhfkaaGreatDoorPFnPartsx4
namespace Go.Proofs.YtdmjhgogljhfkaaGreatDoor.PFnParts
open Go.RowKit Go.Proofs.YtdmjhgogljhfkaaGreatDoorW.PrintWords Go.Proofs.YtdmjhgogljhfkaaGreatDoorW.PrintLast Go.Proofs.YtdmjhgogljhfkaaGreatDoorW.PrintMore
attribute [local go_sem] max2_int min2_int max_two min_two max_three min_three max_four min_four
attribute [local go_sem] cell_in frozen_in cell_g cell_p cell_r cell_q
set_option synthInstance.maxSize 1000000
set_option synthInstance.maxHeartbeats 2000000
set_option linter.unusedVariables false
set_option linter.unusedSimpArgs false
set_option maxHeartbeats 8000000
set_option maxRecDepth 100000
def spec_l6DrawSet.l0 : Nat → Int → List Int → Int → List Int → Int → Int → Option (List Int × Int × Int)
 | 0, _, _, _, _, _, _ => none
 | k + 1, x1, x5, x6, x1000, x1001, x1002 => (spec_l1Below.f x1000 x1001 x1002 8).bind fun bt617 => (if x6 < bt617.1 then ((spec_l1Below.f x1000 bt617.2.1 bt617.2.2 x1).bind fun bt620 => ((spec_SetAdd.f k x5 bt620.1).bind fun t623 => (spec_l6DrawSet.l0 k x1 t623 (wrap64 (x6 + 1)) x1000 bt620.2.1 bt620.2.2))) else ((spec_l1Once.f x1000 bt617.2.1 bt617.2.2 12).bind fun bt626 => (if bt626.1 = true then ((spec_l1PickInt.f x1000 bt626.2.1 bt626.2.2 (([(-1), 0, 3, 9] : List Int))).bind fun bt632 => (if x5.length < 17592186044416 then (some ((x5 ++ [bt632.1]), bt632.2.1, bt632.2.2)) else (none))) else (some (x5, bt626.2.1, bt626.2.2)))))
def spec_l6DrawSet.f (k : Nat) (s0_0 : List Int) (s0_1 : Int) (s0_2 : Int) (a1 : Int) : Option (List Int × Int × Int) := spec_l6DrawSet.l0 k a1 (([] : List Int)) 0 s0_0 s0_1 s0_2
theorem spec_l6DrawSet.calls (k : Nat) (g : Nat) (s0_0 : List Int) (s0_1 : Int) (s0_2 : Int) (a1 : Int) (r1 : List Int) (r2 : Int) (r3 : Int) (w0 w : World) (hI : IsS149 w0 w g s0_0 s0_1 s0_2) (hB : Below w0.heap.size w0 w) (h : spec_l6DrawSet.f k s0_0 s0_1 s0_2 a1 = some (r1, r2, r3)) :
  Calls Tryz.prog 142 #[.pointer (some ⟨g, 0, none⟩), .int .i64 a1] w fun e w' => ∃ v0_ : Value, e = .returned (v0_) ∧ Kd.R (Kd.int .i64) 3 w' w.heap.size (fun _ => True) v0_ r1 ∧ IsS149 w0 w' g s0_0 r2 r3 ∧ Below w0.heap.size w0 w' ∧ KeepBut w w' g none := by
 have HI0 := Aside0.mk hI; have HK := Aside0.mk (KeepBut.refl w g none); have HL := Aside0.mk hB.size; clear hI; have HW0 := Aside0.mk hB.size; have HB := Aside0.mk hB; clear hB; have H := h; unfold spec_l6DrawSet.f at H; clear h; obtain ⟨y614, hy614⟩ : ∃ y_ : List Int, y_ = (([] : List Int)) := ⟨_, rfl⟩
 replace H : (spec_l6DrawSet.l0 k a1 y614 0 s0_0 s0_1 s0_2) = some (r1, r2, r3) := by first | (rw [hy614]; with_reducible exact H) | (rw [hy614]; with_reducible exact (Option.bind_some _ _).symm.trans H) | (rw [hy614]; exact H) | exact H
 have Ny614 := Aside0.mk hy614; clear hy614; have i0_ := iB149 HI0; have i1_ : LB w0 w := ⟨HB.out⟩
 go_enter Tryz.func142, Tryz.ntmps142
 have H' := Aside0.mk H; clear H
 go_wp2_with (first | ((with_reducible refine gate_dst (N := 7) rfl ?_); refine lL 7 3 (Kd.int .i64) rfl Ny614 ?_; intro Ao615 co615 w3 _ HO616))
 refine wC ?_; intro w4 _
 go_loopg [5, 6] k (fun kq v5 v6 w' => ∃ (x5_1 : List Int) (x6_1 : Int) (x1001_1 : Int) (x1002_1 : Int) (Ao5_1 : Option Addr) (co5_1 : Nat), v5 = .slice Ao5_1 x5_1.length co5_1 ∧ v6 = .int .i64 x6_1 ∧ Aside0 (spec_l6DrawSet.l0 kq a1 x5_1 x6_1 s0_0 x1001_1 x1002_1 = some (r1, r2, r3)) ∧ Aside0 (kq ≤ k) ∧ Aside0 (Kd.R (Kd.int .i64) 3 w' w.heap.size (iv w w') (.slice Ao5_1 x5_1.length co5_1) x5_1) ∧ StB g w' 149 ∧ Aside0 (IsS149 w0 w' g s0_0 x1001_1 x1002_1) ∧ KT w4 [g] w _ (Kd.int .i64) 3 w' ∧ LB w0 w' ∧ KS w g w')
 case atStart => exact ⟨(y614), (0), (s0_1), (s0_2), (Ao615), (co615), y0_17, y0_17, H', ⟨Nat.le_refl _⟩, ⟨rJ HO616⟩, iB149 ⟨iS149 HI0⟩, ⟨iS149 HI0⟩, ⟨UpT.out⟩, ⟨UpW.out⟩, ⟨UpB.out⟩⟩
 case round =>
  clear H'; obtain ⟨x5_1, x6_1, x1001_1, x1002_1, Ao5_1, co5_1, rfl, rfl, HA, HK1, HO_5, _, HI5, _, _, _⟩ := hrel; have HO_7 := HO616; cases gk with
  | zero => exact absurd HA.out (by simp [spec_l6DrawSet.l0])
  | succ k1 =>
   have H := HA.out; clear HA
   simp only [spec_l6DrawSet.l0] at H
   obtain ⟨⟨t617, t618, t619⟩, A6, H⟩ := oB H; (try dsimp only at H); have H' := Aside0.mk H; clear H
   go_upto_if 11 with (first | ((with_reducible refine gate_callee (f := 97) rfl ?_); refine gK (some 10) Tryz.func97 (spec_l1Below.calls (hI := iS149 HI5) (hB := UpW.out) (w := _) (h := A6.out)) ?_; intro w7 _ _ _ HI8))
   have H := H'.out; clear H'
   by_cases c9 : x6_1 < t617
   ·
    rw [if_pos c9] at H
    have c9b0 : decide (x6_1 < t617) = true := decide_eq_true c9; clear c9
    (first | rw [c9b0] | (simp only [i64_w, i32_w]; rw [c9b0]) | skip)
    obtain ⟨⟨t620, t621, t622⟩, A10, H⟩ := oB H; (try dsimp only at H); obtain ⟨t623, A11, H⟩ := oB H; (try dsimp only at H); have H' := Aside0.mk H; clear H
    go_wp2_with (first | ((with_reducible refine gate_callee (f := 97) rfl ?_); refine gK (some 17) Tryz.func97 (spec_l1Below.calls (hI := iS149 HI8) (hB := UpW.out) (w := _) (h := A10.out)) ?_; intro w12 _ _ _ HI13) | ((with_reducible refine gate_callee (f := 145) rfl ?_); refine gC1 (some 18) Tryz.func145 (spec_SetAdd.calls (hr0 := rC HO_5) (hc0 := rL HO_5) (w := _) (h := A11.out)) ?_; intro Ao624 co624 w14 _ HO625))
    go_roundg k1
    case measure => have := HK1.out; omega
    case rel => exact ⟨(t623), (wrap64 (x6_1 + 1)), (t621), (t622), (Ao624), (co624), y0_17, y0_17, H', ⟨y0_20⟩, ⟨rJ HO625⟩, iB149 ⟨iS149 HI13⟩, ⟨iS149 HI13⟩, ⟨UpT.out⟩, ⟨UpW.out⟩, ⟨UpB.out⟩⟩
   rw [if_neg c9] at H
   have c9b0 : decide (x6_1 < t617) = false := decide_eq_false c9; clear c9
   (first | rw [c9b0] | (simp only [i64_w, i32_w]; rw [c9b0]) | skip)
   obtain ⟨⟨t626, t627, t628⟩, A15, H⟩ := oB H; (try dsimp only at H); have H' := Aside0.mk H; clear H
   go_upto_if 20 with (first | ((with_reducible refine gate_callee (f := 93) rfl ?_); refine gK (some 20) Tryz.func93 (spec_l1Once.calls (hI := iS149 HI8) (hB := UpW.out) (w := _) (h := A15.out)) ?_; intro w16 _ _ _ HI17))
   have H := H'.out; clear H'
   by_cases c18 : t626 = true
   ·
    subst c18
    rw [if_pos rfl] at H
    obtain ⟨y629, hy629⟩ : ∃ y_ : List Int, y_ = (([(-1), 0, 3, 9] : List Int)) := ⟨_, rfl⟩
    replace H : ((spec_l1PickInt.f s0_0 t627 t628 y629).bind fun bt632 => (if x5_1.length < 17592186044416 then (some ((x5_1 ++ [bt632.1]), bt632.2.1, bt632.2.2)) else (none))) = some (r1, r2, r3) := by first | (rw [hy629]; with_reducible exact H) | (rw [hy629]; with_reducible exact (Option.bind_some _ _).symm.trans H) | (rw [hy629]; exact H) | exact H
    have Ny629 := Aside0.mk hy629; clear hy629; obtain ⟨⟨t632, t633, t634⟩, A19, H⟩ := oB H; (try dsimp only at H)
    by_cases c20 : x5_1.length < 17592186044416
    rotate_left
    ·
     rw [if_neg c20] at H
     exact absurd H (by simp)
    rw [if_pos c20] at H
    have LMc20 := Aside0.mk c20; clear c20; obtain ⟨y635, hy635⟩ : ∃ y_ : List Int, y_ = (x5_1 ++ [t632]) := ⟨_, rfl⟩
    replace H : (some (y635, t633, t634)) = some (r1, r2, r3) := by first | (rw [hy635]; with_reducible exact H) | (rw [hy635]; with_reducible exact (Option.bind_some _ _).symm.trans H) | (rw [hy635]; exact H) | exact H
    have Ny635 := Aside0.mk hy635; clear hy635
    simp only [Option.some.injEq, Prod.mk.injEq] at H
    obtain ⟨rfl, rfl, rfl⟩ := H
    go_wp2_with (first | ((with_reducible refine gate_dst (N := 23) rfl ?_); refine lL 23 3 (Kd.int .i64) rfl Ny629 ?_; intro Ao630 co630 w21 _ HO631) | ((with_reducible refine gate_callee (f := 132) rfl ?_); refine gK (some 24) Tryz.func132 (spec_l1PickInt.calls (hI := iS149 HI17) (hB := UpW.out) (hr1 := rC HO631) (hc1 := rL HO631) (hf1 := fS HO631) (w := _) (h := A19.out)) ?_; intro w22 _ _ _ HI23) | ((with_reducible refine gate_builtin (b := .append) (xs := #[.tmp 21, .tmp 25]) rfl ?_); at_builtin; refine gA (Kd.int .i64) (.tmp 21) (.tmp 25) 25 3 (.int .i64 0) 8 t632 [.int .i64 t632] w Ny635 HO_5 rfl (by have := LMc20.out; omega) ?_ (ht := Tryz.underlying25) (hinfo := info3); intro Ao636 co636 w24 _ _ HO637))
    go_ret
    exact ⟨_, y0_17, rR HO637, iS149 HI23, UpW.out, UpB.out⟩
   replace c18 := Bool.eq_false_iff.mpr c18; subst c18
   rw [if_neg Bool.false_ne_true] at H
   simp only [Option.some.injEq, Prod.mk.injEq] at H
   obtain ⟨rfl, rfl, rfl⟩ := H
   go_wp2
   go_ret
   exact ⟨_, y0_17, rR HO_5, iS149 HI17, UpW.out, UpB.out⟩
def spec_l1Pick.f (s0_0 : List Int) (s0_1 : Int) (s0_2 : Int) (l1 : List ByteArray) : Option (ByteArray × Int × Int) := (spec_l1Below.f s0_0 s0_1 s0_2 (l1.length : Int)).bind fun bt638 => (if 0 ≤ bt638.1 then (if bt638.1 < (l1.length : Int) then (some (rdOf ByteArray.empty l1 bt638.1, bt638.2.1, bt638.2.2)) else (none)) else (none))
theorem spec_l1Pick.calls (g : Nat) (s0_0 : List Int) (s0_1 : Int) (s0_2 : Int) (A1 : Option Addr) (c1 : Nat) (l1 : List ByteArray) (r1 : ByteArray) (r2 : Int) (r3 : Int) (w0 w : World) (hI : IsS149 w0 w g s0_0 s0_1 s0_2) (hB : Below w0.heap.size w0 w) (hr1 : Kd.C Kd.string w A1 l1.length l1) (hc1 : l1.length ≤ c1) (hf1 : ∀ ad, A1 = some ad → 0 < l1.length → ad.block ≠ g) (h : spec_l1Pick.f s0_0 s0_1 s0_2 l1 = some (r1, r2, r3)) :
  Calls Tryz.prog 191 #[.pointer (some ⟨g, 0, none⟩), .slice A1 l1.length c1] w fun e w' => e = .returned (.string r1) ∧ IsS149 w0 w' g s0_0 r2 r3 ∧ Below w0.heap.size w0 w' ∧ KeepBut w w' g none := by
 have HR1 := Aside0.mk hr1; have HC1 := Aside0.mk hc1; clear hr1 hc1; have HI0 := Aside0.mk hI; have HK := Aside0.mk (KeepBut.refl w g none); have HL := Aside0.mk hB.size; clear hI; have HW0 := Aside0.mk hB.size; have HB := Aside0.mk hB; clear hB
 have H := h; unfold spec_l1Pick.f at H
 clear h; obtain ⟨⟨t638, t639, t640⟩, A3, H⟩ := oB H; (try dsimp only at H)
 by_cases c4 : 0 ≤ t638
 ·
  rw [if_pos c4] at H
  have c4b0 : decide (0 ≤ t638) = true := decide_eq_true c4; clear c4
  by_cases c5 : t638 < (l1.length : Int)
  rotate_left
  ·
   rw [if_neg c5] at H
   exact absurd H (by simp)
  rw [if_pos c5] at H
  have c5b0 : decide (t638 < (l1.length : Int)) = true := decide_eq_true c5; clear c5
  simp only [Option.some.injEq, Prod.mk.injEq] at H
  obtain ⟨rfl, rfl, rfl⟩ := H; have i0_ := iB149 HI0; have i1_ : LB w0 w := ⟨HB.out⟩
  go_enter Tryz.func191, Tryz.ntmps191
  go_wp2_with (first | ((with_reducible refine gate_callee (f := 97) rfl ?_); refine gK (some 9) Tryz.func97 (spec_l1Below.calls (hI := iS149 HI0) (hB := UpW.out) (w := _) (h := A3.out)) ?_; intro w6 _ _ _ HI7; have p641 : 0 ≤ (t638 : Int) := of_decide_eq_true y0_16; have q641 : t638 < (l1.length : Int) := of_decide_eq_true y0_16; obtain ⟨ad641, e641, hx641_0⟩ := Kd.at_string HR1.out t638 p641 q641; cases e641; have nb641 : NbI ad641 g := ⟨hf1 _ rfl (by omega)⟩; have i641_0_ := RdP.mk hx641_0; clear hx641_0; replace p641 := eq_true p641; replace q641 := eq_true q641))
  go_ret
  exact ⟨y0_17, iS149 HI7, UpW.out, UpB.out⟩
 rw [if_neg c4] at H
 exact absurd H (by simp)
def spec_l2Dent.f (s0_0 : List Int) (s0_1 : Int) (s0_2 : Int) (a1 : ByteArray) : Option (ByteArray × Int × Int) := (spec_l1Below.f s0_0 s0_1 s0_2 (wrap64 ((a1.size : Int) + 1))).bind fun bt642 => ((spec_l1Below.f s0_0 bt642.2.1 bt642.2.2 5).bind fun bt645 => (if bt645.1 = 0 then (if 0 ≤ bt642.1 then (if bt642.1 ≤ (a1.size : Int) then (some (a1.extract 0 (bt642.1 : Int).toNat, bt645.2.1, bt645.2.2)) else (none)) else (none)) else (if bt645.1 = 1 then (if 0 ≤ bt642.1 then (if bt642.1 ≤ (a1.size : Int) then ((spec_l1Pick.f s0_0 bt645.2.1 bt645.2.2 (([(⟨#[48]⟩ : ByteArray), (⟨#[44]⟩ : ByteArray), (⟨#[62]⟩ : ByteArray), (⟨#[47]⟩ : ByteArray), (⟨#[124]⟩ : ByteArray), (⟨#[120]⟩ : ByteArray), (⟨#[49]⟩ : ByteArray)] : List ByteArray))).bind fun bt651 => (if (a1.extract 0 (bt642.1 : Int).toNat).size + bt651.1.size ≤ 9223372036854775807 then (if ((a1.extract 0 (bt642.1 : Int).toNat) ++ bt651.1).size + (a1.extract (bt642.1 : Int).toNat a1.size).size ≤ 9223372036854775807 then (some (((a1.extract 0 (bt642.1 : Int).toNat) ++ bt651.1) ++ (a1.extract (bt642.1 : Int).toNat a1.size), bt651.2.1, bt651.2.2)) else (none)) else (none))) else (none)) else (none)) else (some (a1, bt645.2.1, bt645.2.2)))))
def spec_l2Dent.T6 : Bool × List (List Nat × List Nat) := (true, [([], []), ([], []), ([0, 1], [0, 1]), ([], []), ([], []), ([3, 4], [3, 4]), ([2, 5], [2, 5]), ([], []), ([], []), ([7, 8], [7, 8]), ([6, 9], [6, 9]), ([10, 5, 0, 1, 2, 3, 4, 5, 6, 7, 8, 9, 10], [10])])
def spec_l2Dent.B6 : List Nat := [0, 0, 3, 0, 0, 24, 63, 0, 0, 384, 1023, 2047]
theorem spec_l2Dent.tab6 : rtab .any (opsOf Tryz.f167 6) = spec_l2Dent.T6 := by kernel_rfl
theorem spec_l2Dent.bits6 : waitsOk spec_l2Dent.T6.2 spec_l2Dent.B6 = true := by kernel_rfl
theorem spec_l2Dent.calls (g : Nat) (s0_0 : List Int) (s0_1 : Int) (s0_2 : Int) (a1 : ByteArray) (r1 : ByteArray) (r2 : Int) (r3 : Int) (w0 w : World) (hI : IsS149 w0 w g s0_0 s0_1 s0_2) (hB : Below w0.heap.size w0 w) (h : spec_l2Dent.f s0_0 s0_1 s0_2 a1 = some (r1, r2, r3)) :
  Calls Tryz.prog 167 #[.pointer (some ⟨g, 0, none⟩), .string a1] w fun e w' => e = .returned (.string r1) ∧ IsS149 w0 w' g s0_0 r2 r3 ∧ Below w0.heap.size w0 w' ∧ KeepBut w w' g none := by
 have HI0 := Aside0.mk hI; have HK := Aside0.mk (KeepBut.refl w g none); have HL := Aside0.mk hB.size; clear hI; have HW0 := Aside0.mk hB.size; have HB := Aside0.mk hB; clear hB
 have H := h; unfold spec_l2Dent.f at H
 clear h; obtain ⟨⟨t642, t643, t644⟩, A3, H⟩ := oB H; (try dsimp only at H); obtain ⟨⟨t645, t646, t647⟩, A4, H⟩ := oB H; (try dsimp only at H)
 by_cases c5 : t645 = 0
 ·
  rw [if_pos c5] at H
  have c5b0 : (t645 == 0) = true := beq_iff_eq.mpr c5; have c5b1 : (t645 != 0) = false := bne_eq_false_iff_eq.mpr c5; clear c5
  by_cases c6 : 0 ≤ t642
  rotate_left
  ·
   rw [if_neg c6] at H
   exact absurd H (by simp)
  rw [if_pos c6] at H
  have c6b0 := eq_true c6; have c6b1 : decide (0 ≤ t642) = true := decide_eq_true c6; clear c6
  by_cases c7 : t642 ≤ (a1.size : Int)
  rotate_left
  ·
   rw [if_neg c7] at H
   exact absurd H (by simp)
  rw [if_pos c7] at H
  have c7b0 := eq_true c7; have c7b1 : decide (t642 ≤ (a1.size : Int)) = true := decide_eq_true c7; clear c7
  simp only [Option.some.injEq, Prod.mk.injEq] at H
  obtain ⟨rfl, rfl, rfl⟩ := H
  go_enter Tryz.func167, Tryz.ntmps167
  go_wp2_with (first | ((with_reducible refine gate_callee (f := 97) rfl ?_); refine gB (some 10) Tryz.func97 #[.pointer (some ⟨g, 0, none⟩), .int .i64 (wrap64 ((a1.size : Int) + 1))] ?_; (with_reducible refine (spec_l1Below.calls g s0_0 s0_1 s0_2 (wrap64 ((a1.size : Int) + 1)) t642 t643 t644 w0 _ ?side1 ?side2 A3.out).mono ?_); (case side1 => repeat (first | (with_reducible first | exact HI0.out | apply IsS149.alloc | apply IsS149.drewN | apply IsS149.drew | apply IsS149.set_1 | apply IsS149.set_2) | exact HI0.out)); (case side2 => repeat (first | (with_reducible first | exact HB.out | apply below_alloc | apply pw_below_drewN | apply below_drew1 | refine below_set ?_ (IsS149.ge HI0.out)) | exact HB.out)); rintro e w8 ⟨rfl, hi, hb, hk⟩; refine ⟨_, rfl, ?_⟩; replace HK := kt HK hk; replace HB := Aside0.mk (hb); replace HI0 := Aside0.mk (hi); (try clear hb); (try clear hb2); (try clear hk); (try clear hi)) | ((with_reducible refine gate_callee (f := 97) rfl ?_); refine gB (some 12) Tryz.func97 #[.pointer (some ⟨g, 0, none⟩), .int .i64 5] ?_; (with_reducible refine (spec_l1Below.calls g s0_0 t643 t644 5 t645 t646 t647 w0 _ ?side1 ?side2 A4.out).mono ?_); (case side1 => repeat (first | (with_reducible first | exact HI0.out | apply IsS149.alloc | apply IsS149.drewN | apply IsS149.drew | apply IsS149.set_1 | apply IsS149.set_2) | exact HI0.out)); (case side2 => repeat (first | (with_reducible first | exact HB.out | apply below_alloc | apply pw_below_drewN | apply below_drew1 | refine below_set ?_ (IsS149.ge HI0.out)) | exact HB.out)); rintro e w9 ⟨rfl, hi, hb, hk⟩; refine ⟨_, rfl, ?_⟩; replace HK := kt HK hk; replace HB := Aside0.mk (hb); replace HI0 := Aside0.mk (hi); (try clear hb); (try clear hb2); (try clear hk); (try clear hi)))
  go_ret
  exact ⟨y0_12, y0_6, y0_7, hI HK.out⟩
 rw [if_neg c5] at H
 have c5b0 : (t645 == 0) = false := beq_eq_false_iff_ne.mpr c5; have c5b1 : (t645 != 0) = true := bne_iff_ne.mpr c5
 by_cases c10 : t645 = 1
 ·
  rw [if_pos c10] at H
  have c10b0 : (t645 == 1) = true := beq_iff_eq.mpr c10; have c10b1 : (t645 != 1) = false := bne_eq_false_iff_eq.mpr c10; clear c10
  by_cases c11 : 0 ≤ t642
  rotate_left
  ·
   rw [if_neg c11] at H
   exact absurd H (by simp)
  rw [if_pos c11] at H
  have c11b0 := eq_true c11; have c11b1 : decide (0 ≤ t642) = true := decide_eq_true c11; clear c11
  by_cases c12 : t642 ≤ (a1.size : Int)
  rotate_left
  ·
   rw [if_neg c12] at H
   exact absurd H (by simp)
  rw [if_pos c12] at H
  have c12b0 := eq_true c12; have c12b1 : decide (t642 ≤ (a1.size : Int)) = true := decide_eq_true c12; clear c12; obtain ⟨y648, hy648⟩ : ∃ y_ : List ByteArray, y_ = (([(⟨#[48]⟩ : ByteArray), (⟨#[44]⟩ : ByteArray), (⟨#[62]⟩ : ByteArray), (⟨#[47]⟩ : ByteArray), (⟨#[124]⟩ : ByteArray), (⟨#[120]⟩ : ByteArray), (⟨#[49]⟩ : ByteArray)] : List ByteArray)) := ⟨_, rfl⟩
  replace H : ((spec_l1Pick.f s0_0 t646 t647 y648).bind fun bt651 => (if (a1.extract 0 (t642 : Int).toNat).size + bt651.1.size ≤ 9223372036854775807 then (if ((a1.extract 0 (t642 : Int).toNat) ++ bt651.1).size + (a1.extract (t642 : Int).toNat a1.size).size ≤ 9223372036854775807 then (some (((a1.extract 0 (t642 : Int).toNat) ++ bt651.1) ++ (a1.extract (t642 : Int).toNat a1.size), bt651.2.1, bt651.2.2)) else (none)) else (none))) = some (r1, r2, r3) := by first | (rw [hy648]; with_reducible exact H) | (rw [hy648]; with_reducible exact (Option.bind_some _ _).symm.trans H) | (rw [hy648]; exact H) | exact H
  have Ny648 := Aside0.mk hy648; clear hy648; obtain ⟨⟨t651, t652, t653⟩, A13, H⟩ := oB H; (try dsimp only at H)
  by_cases c14 : (a1.extract 0 (t642 : Int).toNat).size + t651.size ≤ 9223372036854775807
  rotate_left
  ·
   rw [if_neg c14] at H
   exact absurd H (by simp)
  rw [if_pos c14] at H
  have c14b0 := eq_true c14; have c14b1 : decide ((a1.extract 0 (t642 : Int).toNat).size + t651.size ≤ 9223372036854775807) = true := decide_eq_true c14
  try have c14b2 : (9223372036854775807 < (a1.extract 0 (t642 : Int).toNat).size + t651.size) = False := eq_false (Nat.not_lt.2 c14)
  (try have c14b3 : (9223372036854775807 < t642.toNat + t651.size) = False := eq_false (by have h_ := c14; simp only [ByteArray.size_append, ByteArray.size_extract] at h_; have h0_ : (t642 : Int) ≤ (a1.size : Int) := of_decide_eq_true (by assumption); omega))
  have c15b0 := eq_true (of_decide_eq_true y0_16 : 0 ≤ t642); have c16b0 := eq_true (of_decide_eq_true y0_16 : t642 ≤ (a1.size : Int))
  by_cases c17 : ((a1.extract 0 (t642 : Int).toNat) ++ t651).size + (a1.extract (t642 : Int).toNat a1.size).size ≤ 9223372036854775807
  rotate_left
  ·
   rw [if_neg c17] at H
   exact absurd H (by simp)
  rw [if_pos c17] at H
  have c17b0 := eq_true c17; have c17b1 : decide (((a1.extract 0 (t642 : Int).toNat) ++ t651).size + (a1.extract (t642 : Int).toNat a1.size).size ≤ 9223372036854775807) = true := decide_eq_true c17
  try have c17b2 : (9223372036854775807 < ((a1.extract 0 (t642 : Int).toNat) ++ t651).size + (a1.extract (t642 : Int).toNat a1.size).size) = False := eq_false (Nat.not_lt.2 c17)
  (try have c17b3 : (9223372036854775807 < t642.toNat + t651.size + (a1.size - t642.toNat)) = False := eq_false (by have h_ := c17; simp only [ByteArray.size_append, ByteArray.size_extract] at h_; have h0_ : (t642 : Int) ≤ (a1.size : Int) := of_decide_eq_true (by assumption); omega))
  simp only [Option.some.injEq, Prod.mk.injEq] at H
  obtain ⟨rfl, rfl, rfl⟩ := H
  go_enter Tryz.func167, Tryz.ntmps167
  try go_wp2_with (first | ((with_reducible refine gate_callee (f := 97) rfl ?_); refine gB (some 10) Tryz.func97 #[.pointer (some ⟨g, 0, none⟩), .int .i64 (wrap64 ((a1.size : Int) + 1))] ?_; (with_reducible refine (spec_l1Below.calls g s0_0 s0_1 s0_2 (wrap64 ((a1.size : Int) + 1)) t642 t643 t644 w0 _ ?side1 ?side2 A3.out).mono ?_); (case side1 => repeat (first | (with_reducible first | exact HI0.out | apply IsS149.alloc | apply IsS149.drewN | apply IsS149.drew | apply IsS149.set_1 | apply IsS149.set_2) | exact HI0.out)); (case side2 => repeat (first | (with_reducible first | exact HB.out | apply below_alloc | apply pw_below_drewN | apply below_drew1 | refine below_set ?_ (IsS149.ge HI0.out)) | exact HB.out)); rintro e w18 ⟨rfl, hi, hb, hk⟩; refine ⟨_, rfl, ?_⟩; replace HK := kt HK hk; replace HB := Aside0.mk (hb); replace HI0 := Aside0.mk (hi); (try clear hb); (try clear hb2); (try clear hk); (try clear hi)) | ((with_reducible refine gate_callee (f := 97) rfl ?_); refine gB (some 12) Tryz.func97 #[.pointer (some ⟨g, 0, none⟩), .int .i64 5] ?_; (with_reducible refine (spec_l1Below.calls g s0_0 t643 t644 5 t645 t646 t647 w0 _ ?side1 ?side2 A4.out).mono ?_); (case side1 => repeat (first | (with_reducible first | exact HI0.out | apply IsS149.alloc | apply IsS149.drewN | apply IsS149.drew | apply IsS149.set_1 | apply IsS149.set_2) | exact HI0.out)); (case side2 => repeat (first | (with_reducible first | exact HB.out | apply below_alloc | apply pw_below_drewN | apply below_drew1 | refine below_set ?_ (IsS149.ge HI0.out)) | exact HB.out)); rintro e w19 ⟨rfl, hi, hb, hk⟩; refine ⟨_, rfl, ?_⟩; replace HK := kt HK hk; replace HB := Aside0.mk (hb); replace HI0 := Aside0.mk (hi); (try clear hb); (try clear hb2); (try clear hk); (try clear hi)))
  replace HI0 := Aside0.mk (IsS149.drew HI0.out); replace HK := Aside0.mk (keep_drew HK.out); replace HB := Aside0.mk (below_drew1 HB.out)
  refine start_ (n := 12) (S := fun w' => True) (ds := []) #[false, false, false, false, false, false, false, false, false, false, false, false] (by kernel_rfl) rfl rfl trivial (fun hHeld => ?_); refine with_tabW spec_l2Dent.tab6 spec_l2Dent.bits6 (fun HT_ HW_ => ?_)
  generalize w19.drew = w20 at HI0 HK HB hHeld ⊢
  refine pA 0 (some 20) (bz 12 1) HT_ ?_
  refine pA 1 (some 21) (bz 12 3) HT_ ?_
  refine pA 2 (some 22) (bz 12 7) HT_ ?_
  refine pA 3 (some 23) (bz 12 15) HT_ ?_
  refine pA 7 (some 27) (bz 12 143) HT_ ?_
  refine pA 8 (some 28) (bz 12 399) HT_ ?_
  refine pA 9 (some 29) (bz 12 911) HT_ ?_
  refine oA 4 (some 24) (bz 12 927) HT_ (fun K hK => ?_)
  refine Kd.R_lit_step Kd.string _ 9 ?hg (N := 24) ?hd (xs := ([(⟨#[48]⟩ : ByteArray), (⟨#[44]⟩ : ByteArray), (⟨#[62]⟩ : ByteArray), (⟨#[47]⟩ : ByteArray), (⟨#[124]⟩ : ByteArray), (⟨#[120]⟩ : ByteArray), (⟨#[49]⟩ : ByteArray)] : List ByteArray)) (inner := [.string (⟨#[48]⟩ : ByteArray), .string (⟨#[44]⟩ : ByteArray), .string (⟨#[62]⟩ : ByteArray), .string (⟨#[47]⟩ : ByteArray), .string (⟨#[124]⟩ : ByteArray), .string (⟨#[120]⟩ : ByteArray), .string (⟨#[49]⟩ : ByteArray)]) (ok := fun _ => True) (okp := fun _ => True) ?hr ?hp (fun _ hk => hk) trivial (Below.refl _ _) (Nat.le_refl _) (by simp) ?_; (case hd => rfl); (case hg => rfl); (case hr => first | (go_simp; done) | (go_simp; rfl)); (case hp => exact (Reps.one (show Kd.M Kd.string _ _ _ (⟨#[48]⟩ : ByteArray) [.string (⟨#[48]⟩ : ByteArray)] from rfl) (Reps.one (show Kd.M Kd.string _ _ _ (⟨#[44]⟩ : ByteArray) [.string (⟨#[44]⟩ : ByteArray)] from rfl) (Reps.one (show Kd.M Kd.string _ _ _ (⟨#[62]⟩ : ByteArray) [.string (⟨#[62]⟩ : ByteArray)] from rfl) (Reps.one (show Kd.M Kd.string _ _ _ (⟨#[47]⟩ : ByteArray) [.string (⟨#[47]⟩ : ByteArray)] from rfl) (Reps.one (show Kd.M Kd.string _ _ _ (⟨#[124]⟩ : ByteArray) [.string (⟨#[124]⟩ : ByteArray)] from rfl) (Reps.one (show Kd.M Kd.string _ _ _ (⟨#[120]⟩ : ByteArray) [.string (⟨#[120]⟩ : ByteArray)] from rfl) (Reps.one (show Kd.M Kd.string _ _ _ (⟨#[49]⟩ : ByteArray) [.string (⟨#[49]⟩ : ByteArray)] from rfl) (Reps.none _ _)))))))))
  intro v649 w21 ho22 hb hg_ hnew_
  clear hg_ hnew_
  (first | rw [← Ny648.out] at ho22 | (simp only [Int.reduceToNat] at ho22; rw [← Ny648.out] at ho22))
  have HO650 := Aside0.mk (Kd.R_lower ho22 (keep_size (w := w) (g := g) (row := none) (hI HK.out))); replace HK := kb HK hb; replace HB : Aside0 (Below w0.heap.size w0 _) := Aside0.mk (below_step y0_7 hb); replace HI0 := Aside0.mk (IsS149.below y0_6 hb); clear hb ho22; obtain ⟨Ao23, co23, eo23⟩ := Kd.R_slice HO650.out
  (first | subst eo23 | (injection eo23 with f1_ f2_ f3_; have f4_ := f1_.symm; have f5_ := f3_.symm; clear f1_ f2_ f3_; subst f4_; subst f5_))
  refine hK.out _ _ trivial (fun hHeld => ?_)
  clear hK K
  refine nA (some 24) ?_
  refine oA 5 (some 25) (bz 12 959) HT_ (fun K hK => ?_)
  refine gA Tryz.func191 #[.pointer (some ⟨g, 0, none⟩), .slice Ao23 y648.length co23] ?_
  with_reducible refine (spec_l1Pick.calls g s0_0 t646 t647 _ _ y648 t651 t652 t653 w0 _ ?side1 ?side2 ?side3 ?side4 ?side5 A13.out).mono ?_
  (case side1 => repeat (first | (with_reducible first | exact HI0.out | apply IsS149.alloc | apply IsS149.drewN | apply IsS149.drew | apply IsS149.set_1 | apply IsS149.set_2) | exact HI0.out))
  (case side2 => repeat (first | (with_reducible first | exact HB.out | apply below_alloc | apply pw_below_drewN | apply below_drew1 | refine below_set ?_ (IsS149.ge HI0.out)) | exact HB.out))
  (case side3 => repeat (first | exact (Kd.R_reads' HO650.out).2.2 | (with_reducible refine Kd.C_alloc ?_ _) | (with_reducible refine Kd.C_drewN ?_ _) | (with_reducible refine Kd.C_drew ?_)))
  (case side4 => exact (Kd.R_reads' HO650.out).2.1)
  (case side5 => exact far_slice (IsS149.own_ne HI0.out HO650.out (by decide)))
  rintro e w24 ⟨rfl, hi, hb, hk⟩
  refine ⟨_, rfl, ?_⟩
  replace HO650 := Aside0.mk (Kd.R_mono (Kd.R_keep (IsS149.apart (show IsS149 w0 _ g s0_0 t646 t647 from y0_6) (rI HO650.out) (by decide)) hk (fun _ h => h.2)) (fun _ h => h.1))
  replace HK := kt HK hk; replace HB := Aside0.mk (hb); replace HI0 := Aside0.mk (hi)
  (try clear hb)
  (try clear hb2)
  (try clear hk)
  (try clear hi)
  refine hK.out _ _ trivial (fun hHeld => ?_)
  clear hK K
  refine nA (some 25) ?_
  refine pA 6 (some 26) (bz 12 1023) HT_ ?_
  refine pA 10 (some 30) (bz 12 2047) HT_ ?_
  refine pA 11 (some 4) (bz 12 4095) HT_ ?_
  refine done_ (done_of HT_.out (by kernel_rfl)) ?_
  try go_wp2
  go_ret
  exact ⟨y0_12, y0_6, y0_7, hI HK.out⟩
 rw [if_neg c10] at H
 have c10b0 : (t645 == 1) = false := beq_eq_false_iff_ne.mpr c10; have c10b1 : (t645 != 1) = true := bne_iff_ne.mpr c10
 simp only [Option.some.injEq, Prod.mk.injEq] at H
 obtain ⟨rfl, rfl, rfl⟩ := H
 go_enter Tryz.func167, Tryz.ntmps167
 go_wp2_with (first | ((with_reducible refine gate_callee (f := 97) rfl ?_); refine gB (some 10) Tryz.func97 #[.pointer (some ⟨g, 0, none⟩), .int .i64 (wrap64 ((a1.size : Int) + 1))] ?_; (with_reducible refine (spec_l1Below.calls g s0_0 s0_1 s0_2 (wrap64 ((a1.size : Int) + 1)) t642 t643 t644 w0 _ ?side1 ?side2 A3.out).mono ?_); (case side1 => repeat (first | (with_reducible first | exact HI0.out | apply IsS149.alloc | apply IsS149.drewN | apply IsS149.drew | apply IsS149.set_1 | apply IsS149.set_2) | exact HI0.out)); (case side2 => repeat (first | (with_reducible first | exact HB.out | apply below_alloc | apply pw_below_drewN | apply below_drew1 | refine below_set ?_ (IsS149.ge HI0.out)) | exact HB.out)); rintro e w25 ⟨rfl, hi, hb, hk⟩; refine ⟨_, rfl, ?_⟩; replace HK := kt HK hk; replace HB := Aside0.mk (hb); replace HI0 := Aside0.mk (hi); (try clear hb); (try clear hb2); (try clear hk); (try clear hi)) | ((with_reducible refine gate_callee (f := 97) rfl ?_); refine gB (some 12) Tryz.func97 #[.pointer (some ⟨g, 0, none⟩), .int .i64 5] ?_; (with_reducible refine (spec_l1Below.calls g s0_0 t643 t644 5 t645 t646 t647 w0 _ ?side1 ?side2 A4.out).mono ?_); (case side1 => repeat (first | (with_reducible first | exact HI0.out | apply IsS149.alloc | apply IsS149.drewN | apply IsS149.drew | apply IsS149.set_1 | apply IsS149.set_2) | exact HI0.out)); (case side2 => repeat (first | (with_reducible first | exact HB.out | apply below_alloc | apply pw_below_drewN | apply below_drew1 | refine below_set ?_ (IsS149.ge HI0.out)) | exact HB.out)); rintro e w26 ⟨rfl, hi, hb, hk⟩; refine ⟨_, rfl, ?_⟩; replace HK := kt HK hk; replace HB := Aside0.mk (hb); replace HI0 := Aside0.mk (hi); (try clear hb); (try clear hb2); (try clear hk); (try clear hi)))
 go_ret
 exact ⟨y0_12, y0_6, y0_7, hI HK.out⟩
def spec_l5Draw.l0 : Nat → ByteArray → Int → List Int → Int → Int → Option (ByteArray × Int × Int)
 | 0, _, _, _, _, _ => none
 | k + 1, x3, x4, x1000, x1001, x1002 => (spec_l1Below.f x1000 x1001 x1002 2).bind fun bt657 => (if x4 ≤ (wrap64 (30 + bt657.1)) then (if x3.size + 1 ≤ 9223372036854775807 then ((spec_Digits.f k x4).bind fun t660 => (if (x3 ++ (⟨#[47]⟩ : ByteArray)).size + t660.size ≤ 9223372036854775807 then (if ((x3 ++ (⟨#[47]⟩ : ByteArray)) ++ t660).size + 1 ≤ 9223372036854775807 then (spec_l5Draw.l0 k (((x3 ++ (⟨#[47]⟩ : ByteArray)) ++ t660) ++ (⟨#[124]⟩ : ByteArray)) (wrap64 (x4 + 1)) x1000 bt657.2.1 bt657.2.2) else (none)) else (none))) else (none)) else (some (x3, bt657.2.1, bt657.2.2)))
def spec_l5Draw.f (k : Nat) (s0_0 : List Int) (s0_1 : Int) (s0_2 : Int) : Option (ByteArray × Int × Int) := (spec_l1Once.f s0_0 s0_1 s0_2 20).bind fun bt654 => (if bt654.1 = true then (spec_l5Draw.l0 k (⟨#[]⟩ : ByteArray) 1 s0_0 bt654.2.1 bt654.2.2) else ((spec_l5DrawRight.f k s0_0 bt654.2.1 bt654.2.2).bind fun bt661 => ((spec_l2Dent.f s0_0 bt661.2.1 bt661.2.2 bt661.1).bind fun bt664 => (some (bt664.1, bt664.2.1, bt664.2.2)))))
theorem spec_l5Draw.calls (k : Nat) (g : Nat) (s0_0 : List Int) (s0_1 : Int) (s0_2 : Int) (r1 : ByteArray) (r2 : Int) (r3 : Int) (w0 w : World) (hI : IsS149 w0 w g s0_0 s0_1 s0_2) (hB : Below w0.heap.size w0 w) (h : spec_l5Draw.f k s0_0 s0_1 s0_2 = some (r1, r2, r3)) :
  Calls Tryz.prog 143 #[.pointer (some ⟨g, 0, none⟩)] w fun e w' => e = .returned (.string r1) ∧ IsS149 w0 w' g s0_0 r2 r3 ∧ Below w0.heap.size w0 w' ∧ KeepBut w w' g none := by
 have HI0 := Aside0.mk hI; have HK := Aside0.mk (KeepBut.refl w g none); have HL := Aside0.mk hB.size; clear hI; have HW0 := Aside0.mk hB.size; have HB := Aside0.mk hB; clear hB
 have H := h; unfold spec_l5Draw.f at H
 clear h; obtain ⟨⟨t654, t655, t656⟩, A2, H⟩ := oB H; (try dsimp only at H); have i0_ := iB149 HI0; have i1_ : LB w0 w := ⟨HB.out⟩
 go_enter Tryz.func143, Tryz.ntmps143
 have H' := Aside0.mk H; clear H
 go_upto_if 6 with (first | ((with_reducible refine gate_callee (f := 93) rfl ?_); refine gK (some 6) Tryz.func93 (spec_l1Once.calls (hI := iS149 HI0) (hB := UpW.out) (w := _) (h := A2.out)) ?_; intro w3 _ _ _ HI4))
 have H := H'.out; clear H'
 by_cases c5 : t654 = true
 ·
  subst c5
  rw [if_pos rfl] at H
  have H' := Aside0.mk H; clear H
  go_wp2
  refine wC ?_; intro w6 _
  go_loopg [3, 4] k (fun kq v3 v4 w' => ∃ (x3_1 : ByteArray) (x4_1 : Int) (x1001_1 : Int) (x1002_1 : Int), v3 = .string x3_1 ∧ v4 = .int .i64 x4_1 ∧ Aside0 (spec_l5Draw.l0 kq x3_1 x4_1 s0_0 x1001_1 x1002_1 = some (r1, r2, r3)) ∧ Aside0 (kq ≤ k) ∧ StB g w' 149 ∧ Aside0 (IsS149 w0 w' g s0_0 x1001_1 x1002_1) ∧ KL w6 [g] w' ∧ LB w0 w' ∧ KS w g w')
  case atStart => exact ⟨((⟨#[]⟩ : ByteArray)), (1), (t655), (t656), y0_17, y0_17, H', ⟨Nat.le_refl _⟩, iB149 ⟨iS149 HI4⟩, ⟨iS149 HI4⟩, ⟨UpL.out⟩, ⟨UpW.out⟩, ⟨UpB.out⟩⟩
  case round =>
   clear H'; obtain ⟨x3_1, x4_1, x1001_1, x1002_1, rfl, rfl, HA, HK1, _, HI7, _, _, _⟩ := hrel; cases gk with
   | zero => exact absurd HA.out (by simp [spec_l5Draw.l0])
   | succ k1 =>
    have H := HA.out; clear HA
    simp only [spec_l5Draw.l0] at H
    obtain ⟨⟨t657, t658, t659⟩, A8, H⟩ := oB H; (try dsimp only at H); have H' := Aside0.mk H; clear H
    go_upto_if 11 with (first | ((with_reducible refine gate_callee (f := 97) rfl ?_); refine gK (some 9) Tryz.func97 (spec_l1Below.calls (hI := iS149 HI7) (hB := UpW.out) (w := _) (h := A8.out)) ?_; intro w9 _ _ _ HI10))
    have H := H'.out; clear H'
    by_cases c11 : x4_1 ≤ (wrap64 (30 + t657))
    ·
     rw [if_pos c11] at H
     have c11b0 : decide (x4_1 ≤ (wrap64 (30 + t657))) = true := decide_eq_true c11; clear c11
     (first | rw [c11b0] | (simp only [i64_w, i32_w]; rw [c11b0]) | skip)
     by_cases c12 : x3_1.size + 1 ≤ 9223372036854775807
     rotate_left
     ·
      rw [if_neg c12] at H
      exact absurd H (by simp)
     rw [if_pos c12] at H
     have c12b0 := eq_true c12; have c12b1 : decide (x3_1.size + 1 ≤ 9223372036854775807) = true := decide_eq_true c12
     try have c12b2 : (9223372036854775807 < x3_1.size + 1) = False := eq_false (Nat.not_lt.2 c12)
     obtain ⟨t660, A13, H⟩ := oB H; (try dsimp only at H)
     by_cases c14 : (x3_1 ++ (⟨#[47]⟩ : ByteArray)).size + t660.size ≤ 9223372036854775807
     rotate_left
     ·
      rw [if_neg c14] at H
      exact absurd H (by simp)
     rw [if_pos c14] at H
     have c14b0 := eq_true c14; have c14b1 : decide ((x3_1 ++ (⟨#[47]⟩ : ByteArray)).size + t660.size ≤ 9223372036854775807) = true := decide_eq_true c14
     try have c14b2 : (9223372036854775807 < (x3_1 ++ (⟨#[47]⟩ : ByteArray)).size + t660.size) = False := eq_false (Nat.not_lt.2 c14)
     (try have c14b3 : (9223372036854775807 < x3_1.size + 1 + t660.size) = False := eq_false (by have h_ := c14; simp only [ByteArray.size_append, ByteArray.size_extract, show (⟨#[47]⟩ : ByteArray).size = 1 from rfl] at h_; omega))
     by_cases c15 : ((x3_1 ++ (⟨#[47]⟩ : ByteArray)) ++ t660).size + 1 ≤ 9223372036854775807
     rotate_left
     ·
      rw [if_neg c15] at H
      exact absurd H (by simp)
     rw [if_pos c15] at H
     have c15b0 := eq_true c15; have c15b1 : decide (((x3_1 ++ (⟨#[47]⟩ : ByteArray)) ++ t660).size + 1 ≤ 9223372036854775807) = true := decide_eq_true c15
     try have c15b2 : (9223372036854775807 < ((x3_1 ++ (⟨#[47]⟩ : ByteArray)) ++ t660).size + 1) = False := eq_false (Nat.not_lt.2 c15)
     (try have c15b3 : (9223372036854775807 < x3_1.size + 1 + t660.size + 1) = False := eq_false (by have h_ := c15; simp only [ByteArray.size_append, ByteArray.size_extract, show (⟨#[47]⟩ : ByteArray).size = 1 from rfl] at h_; omega))
     have H' := Aside0.mk H; clear H
     go_wp2_with (first | ((with_reducible refine gate_callee (f := 166) rfl ?_); refine gC (some 17) Tryz.func166 (spec_Digits.calls (w := _) (h := A13.out)) ?_; intro w16 _))
     go_roundg k1
     case measure => have := HK1.out; omega
     case rel => exact ⟨(((x3_1 ++ (⟨#[47]⟩ : ByteArray)) ++ t660) ++ (⟨#[124]⟩ : ByteArray)), (wrap64 (x4_1 + 1)), (t658), (t659), y0_17, y0_17, H', ⟨y0_20⟩, iB149 ⟨iS149 HI10⟩, ⟨iS149 HI10⟩, ⟨UpL.out⟩, ⟨UpW.out⟩, ⟨UpB.out⟩⟩
    rw [if_neg c11] at H
    have c11b0 : decide (x4_1 ≤ (wrap64 (30 + t657))) = false := decide_eq_false c11; clear c11
    (first | rw [c11b0] | (simp only [i64_w, i32_w]; rw [c11b0]) | skip)
    simp only [Option.some.injEq, Prod.mk.injEq] at H
    obtain ⟨rfl, rfl, rfl⟩ := H
    go_wp2
    go_ret
    exact ⟨y0_17, iS149 HI10, UpW.out, UpB.out⟩
 replace c5 := Bool.eq_false_iff.mpr c5; subst c5
 rw [if_neg Bool.false_ne_true] at H
 obtain ⟨⟨t661, t662, t663⟩, A17, H⟩ := oB H; (try dsimp only at H); obtain ⟨⟨t664, t665, t666⟩, A18, H⟩ := oB H; (try dsimp only at H)
 simp only [Option.some.injEq, Prod.mk.injEq] at H
 obtain ⟨rfl, rfl, rfl⟩ := H
 go_wp2_with (first | ((with_reducible refine gate_callee (f := 101) rfl ?_); refine gK (some 23) Tryz.func101 (spec_l5DrawRight.calls (hI := iS149 HI4) (hB := UpW.out) (w := _) (h := A17.out)) ?_; intro w19 _ _ _ HI20) | ((with_reducible refine gate_callee (f := 167) rfl ?_); refine gK (some 24) Tryz.func167 (spec_l2Dent.calls (hI := iS149 HI20) (hB := UpW.out) (w := _) (h := A18.out)) ?_; intro w21 _ _ _ HI22))
 go_ret
 exact ⟨y0_17, iS149 HI22, UpW.out, UpB.out⟩
def spec_l10Draw.f (k : Nat) (s0_0 : List Int) (s0_1 : Int) (s0_2 : Int) (a1_0 : Int) (a1_1 : Int) : Option (Int × ByteArray × List Int × Int × Int) := (spec_l10DrawRight.f k s0_0 s0_1 s0_2 a1_0 a1_1).bind fun bt669 => ((spec_l1Below.f s0_0 bt669.2.2.2.1 bt669.2.2.2.2 10).bind fun bt677 => (if bt677.1 = 0 then ((spec_l1PickInt.f s0_0 bt677.2.1 bt677.2.2 (([(-1), 0, 60, 61] : List Int))).bind fun bt683 => (some (bt683.1, bt669.2.1, bt669.2.2.1, bt683.2.1, bt683.2.2))) else (if bt677.1 = 1 then ((spec_l6DrawSet.f k s0_0 bt677.2.1 bt677.2.2 7).bind fun bt686 => (some (bt669.1, bt669.2.1, bt686.1, bt686.2.1, bt686.2.2))) else (if bt677.1 = 2 then ((spec_l5Draw.f k s0_0 bt677.2.1 bt677.2.2).bind fun bt691 => (some (bt669.1, bt691.1, bt669.2.2.1, bt691.2.1, bt691.2.2))) else (some (bt669.1, bt669.2.1, bt669.2.2.1, bt677.2.1, bt677.2.2))))))
theorem spec_l10Draw.calls (k : Nat) (g : Nat) (s0_0 : List Int) (s0_1 : Int) (s0_2 : Int) (a1_0 : Int) (a1_1 : Int) (r1 : Int) (r2 : ByteArray) (r3 : List Int) (r4 : Int) (r5 : Int) (w0 w : World) (hI : IsS149 w0 w g s0_0 s0_1 s0_2) (hB : Below w0.heap.size w0 w) (h : spec_l10Draw.f k s0_0 s0_1 s0_2 a1_0 a1_1 = some (r1, r2, r3, r4, r5)) :
  Calls Tryz.prog 92 #[.pointer (some ⟨g, 0, none⟩), .agg #[.int .i64 a1_0, .int .i64 a1_1]] w fun e w' => ∃ v2_ : Value, e = .returned (.agg #[.int .i64 r1, .string r2, v2_]) ∧ Kd.R (Kd.int .i64) 3 w' w.heap.size (fun _ => True) v2_ r3 ∧ IsS149 w0 w' g s0_0 r4 r5 ∧ Below w0.heap.size w0 w' ∧ KeepBut w w' g none := by
 have hu32 := Tryz.underlying32; have hu48 := Tryz.underlying48; have HI0 := Aside0.mk hI; have HK := Aside0.mk (KeepBut.refl w g none); have HL := Aside0.mk hB.size; clear hI; have HW0 := Aside0.mk hB.size; have HB := Aside0.mk hB; clear hB
 have H := h; unfold spec_l10Draw.f at H
 clear h; obtain ⟨⟨t669, t670, t671, t674, t675⟩, A3, H⟩ := oB H; (try dsimp only at H); obtain ⟨⟨t677, t678, t679⟩, A4, H⟩ := oB H; (try dsimp only at H); have i0_ := iB149 HI0; have i1_ : LB w0 w := ⟨HB.out⟩
 go_enter Tryz.func92, Tryz.ntmps92
 have H' := Aside0.mk H; clear H
 go_upto_if 11 with (first | ((with_reducible refine gd 3 ?_); refine bL 3 #[.int .i64 a1_0, .int .i64 a1_1] 32 ?_; intro gb667 w5 _ _ _) | ((with_reducible refine gd 4 ?_); refine bL 4 #[.int .i64 0, .string (⟨#[]⟩ : ByteArray), .slice none 0 0] 48 ?_; intro gb668 w6 _ _ _) | ((with_reducible refine gate_callee (f := 141) rfl ?_); refine gK1 (some 8) Tryz.func141 (spec_l10DrawRight.calls (hI := iS149 HI0) (hB := UpW.out) (w := _) (h := A3.out)) ?_; intro Ao672 co672 w7 _ _ _ HI8 HO673) | ((with_reducible refine gd 5 ?_); refine bL 5 #[.int .i64 0, .string (⟨#[]⟩ : ByteArray), .slice none 0 0] 48 ?_; intro gb676 w9 _ _ _) | ((with_reducible refine gate_callee (f := 97) rfl ?_); refine gK (some 10) Tryz.func97 (spec_l1Below.calls (hI := iS149 HI8) (hB := UpW.out) (w := _) (h := A4.out)) ?_; intro w10 _ _ _ HI11))
 have H := H'.out; clear H'
 by_cases c12 : t677 = 0
 ·
  rw [if_pos c12] at H
  have c12b0 : (t677 == 0) = true := beq_iff_eq.mpr c12; have c12b1 : (t677 != 0) = false := bne_eq_false_iff_eq.mpr c12; clear c12
  (first | rw [c12b0] | (simp only [i64_w, i32_w]; rw [c12b0]) | skip)
  obtain ⟨y680, hy680⟩ : ∃ y_ : List Int, y_ = (([(-1), 0, 60, 61] : List Int)) := ⟨_, rfl⟩
  replace H : ((spec_l1PickInt.f s0_0 t678 t679 y680).bind fun bt683 => (some (bt683.1, t670, t671, bt683.2.1, bt683.2.2))) = some (r1, r2, r3, r4, r5) := by first | (rw [hy680]; with_reducible exact H) | (rw [hy680]; with_reducible exact (Option.bind_some _ _).symm.trans H) | (rw [hy680]; exact H) | exact H
  have Ny680 := Aside0.mk hy680; clear hy680; obtain ⟨⟨t683, t684, t685⟩, A13, H⟩ := oB H; (try dsimp only at H)
  simp only [Option.some.injEq, Prod.mk.injEq] at H
  obtain ⟨rfl, rfl, rfl, rfl, rfl⟩ := H
  go_wp2_with (first | ((with_reducible refine gate_dst (N := 14) rfl ?_); refine lL 14 3 (Kd.int .i64) rfl Ny680 ?_; intro Ao681 co681 w14 _ HO682) | ((with_reducible refine gate_callee (f := 132) rfl ?_); refine gK (some 15) Tryz.func132 (spec_l1PickInt.calls (hI := iS149 HI11) (hB := UpW.out) (hr1 := rC HO682) (hc1 := rL HO682) (hf1 := fS HO682) (w := _) (h := A13.out)) ?_; intro w15 _ _ _ HI16))
  refine bodyPost_ret (results_cell_row rfl _ _ gb668 48 #[.int .i64 t683, .string t670, .slice Ao672 t671.length co672] (0, 0) _ rfl xB Tryz.underlying48 rfl (by kernel_rfl)) rfl ?_
  exact ⟨_, y0_17, rR HO673, iS149 HI16, UpW.out, UpB.out⟩
 rw [if_neg c12] at H
 have c12b0 : (t677 == 0) = false := beq_eq_false_iff_ne.mpr c12; have c12b1 : (t677 != 0) = true := bne_iff_ne.mpr c12
 (first | rw [c12b0] | (simp only [i64_w, i32_w]; rw [c12b0]) | skip)
 by_cases c17 : t677 = 1
 ·
  rw [if_pos c17] at H
  have c17b0 : (t677 == 1) = true := beq_iff_eq.mpr c17; have c17b1 : (t677 != 1) = false := bne_eq_false_iff_eq.mpr c17; clear c17; obtain ⟨⟨t686, t689, t690⟩, A18, H⟩ := oB H; (try dsimp only at H)
  simp only [Option.some.injEq, Prod.mk.injEq] at H
  obtain ⟨rfl, rfl, rfl, rfl, rfl⟩ := H
  go_wp2_with (first | ((with_reducible refine gate_callee (f := 142) rfl ?_); refine gK1 (some 20) Tryz.func142 (spec_l6DrawSet.calls (hI := iS149 HI11) (hB := UpW.out) (w := _) (h := A18.out)) ?_; intro Ao687 co687 w19 _ _ _ HI20 HO688))
  refine bodyPost_ret (results_cell_row rfl _ _ gb668 48 #[.int .i64 t669, .string t670, .slice Ao687 t686.length co687] (0, 0) _ rfl xB Tryz.underlying48 rfl (by kernel_rfl)) rfl ?_
  exact ⟨_, y0_17, rR HO688, iS149 HI20, UpW.out, UpB.out⟩
 rw [if_neg c17] at H
 have c17b0 : (t677 == 1) = false := beq_eq_false_iff_ne.mpr c17; have c17b1 : (t677 != 1) = true := bne_iff_ne.mpr c17
 by_cases c21 : t677 = 2
 ·
  rw [if_pos c21] at H
  have c21b0 : (t677 == 2) = true := beq_iff_eq.mpr c21; have c21b1 : (t677 != 2) = false := bne_eq_false_iff_eq.mpr c21; clear c21; obtain ⟨⟨t691, t692, t693⟩, A22, H⟩ := oB H; (try dsimp only at H)
  simp only [Option.some.injEq, Prod.mk.injEq] at H
  obtain ⟨rfl, rfl, rfl, rfl, rfl⟩ := H
  go_wp2_with (first | ((with_reducible refine gate_callee (f := 143) rfl ?_); refine gK (some 25) Tryz.func143 (spec_l5Draw.calls (hI := iS149 HI11) (hB := UpW.out) (w := _) (h := A22.out)) ?_; intro w23 _ _ _ HI24))
  refine bodyPost_ret (results_cell_row rfl _ _ gb668 48 #[.int .i64 t669, .string t691, .slice Ao672 t671.length co672] (0, 0) _ rfl xB Tryz.underlying48 rfl (by kernel_rfl)) rfl ?_
  exact ⟨_, y0_17, rR HO673, iS149 HI24, UpW.out, UpB.out⟩
 rw [if_neg c21] at H
 have c21b0 : (t677 == 2) = false := beq_eq_false_iff_ne.mpr c21; have c21b1 : (t677 != 2) = true := bne_iff_ne.mpr c21
 simp only [Option.some.injEq, Prod.mk.injEq] at H
 obtain ⟨rfl, rfl, rfl, rfl, rfl⟩ := H
 go_wp2
 refine bodyPost_ret (results_cell_row rfl _ _ gb668 48 #[.int .i64 t669, .string t670, .slice Ao672 t671.length co672] (0, 0) _ rfl xB Tryz.underlying48 rfl (by kernel_rfl)) rfl ?_
 exact ⟨_, y0_17, rR HO673, iS149 HI11, UpW.out, UpB.out⟩
def spec_DrawPartJoin.f (k : Nat) (l0 : List Int) : Option (Int × ByteArray × List Int × Int × ByteArray × List Int) := (spec_l1New.f k l0).bind fun bt696 => ((spec_l7DrawConf.f bt696.1 bt696.2.1 bt696.2.2).bind fun bt700 => ((spec_l10Draw.f k bt696.1 bt700.2.2.1 bt700.2.2.2 bt700.1 bt700.2.1).bind fun bt705 => ((spec_l10Draw.f k bt696.1 bt705.2.2.2.1 bt705.2.2.2.2 bt700.1 bt700.2.1).bind fun bt713 => ((spec_l1Once.f bt696.1 bt713.2.2.2.1 bt713.2.2.2.2 2).bind fun bt721 => (if bt721.1 = true then (some (bt705.1, bt705.2.1, bt705.2.2.1, bt705.1, bt705.2.1, bt713.2.2.1)) else (some (bt705.1, bt705.2.1, bt705.2.2.1, bt713.1, bt713.2.1, bt713.2.2.1)))))))
def spec_DrawPartJoin.T8 : Bool × List (List Nat × List Nat) := (true, [([], []), ([], []), ([0, 0], [0]), ([1, 2, 0, 1, 2], [1])])
def spec_DrawPartJoin.B8 : List Nat := [0, 0, 1, 7]
theorem spec_DrawPartJoin.tab8 : rtab .any (opsOf Tryz.f28 8) = spec_DrawPartJoin.T8 := by kernel_rfl
theorem spec_DrawPartJoin.bits8 : waitsOk spec_DrawPartJoin.T8.2 spec_DrawPartJoin.B8 = true := by kernel_rfl
theorem spec_DrawPartJoin.calls (k : Nat) (A0 : Option Addr) (c0 : Nat) (l0 : List Int) (r1 : Int) (r2 : ByteArray) (r3 : List Int) (r4 : Int) (r5 : ByteArray) (r6 : List Int) (w : World) (hr0 : Kd.C (Kd.int .u8) w A0 l0.length l0) (hc0 : l0.length ≤ c0) (h : spec_DrawPartJoin.f k l0 = some (r1, r2, r3, r4, r5, r6)) :
  Calls Tryz.prog 28 #[.slice A0 l0.length c0] w fun e w' => ∃ v2_ v5_ : Value, e = .returned (.tuple #[.agg #[.int .i64 r1, .string r2, v2_], .agg #[.int .i64 r4, .string r5, v5_]]) ∧ Kd.R (Kd.int .i64) 3 w' w.heap.size (fun k_ => some k_ ≠ (v5_ : Value).ownBlock) v2_ r3 ∧ Kd.R (Kd.int .i64) 3 w' w.heap.size (fun k_ => some k_ ≠ (v2_ : Value).ownBlock) v5_ r6 ∧ Below w.heap.size w w' := by
 have hu48 := Tryz.underlying48; have hu32 := Tryz.underlying32; have HR0 := Aside0.mk hr0; have HC0 := Aside0.mk hc0; clear hr0 hc0; have HB := Aside0.mk (Below.refl w.heap.size w)
 have H := h; unfold spec_DrawPartJoin.f at H
 clear h; obtain ⟨⟨t696, t697, t698⟩, A2, H⟩ := oB H; (try dsimp only at H); obtain ⟨⟨t700, t701, t702, t703⟩, A3, H⟩ := oB H; (try dsimp only at H); obtain ⟨⟨t705, t706, t707, t710, t711⟩, A4, H⟩ := oB H; (try dsimp only at H); obtain ⟨⟨t713, t714, t715, t718, t719⟩, A5, H⟩ := oB H; (try dsimp only at H); obtain ⟨⟨t721, t722, t723⟩, A6, H⟩ := oB H; (try dsimp only at H)
 go_enter Tryz.func28, Tryz.ntmps28
 have H' := Aside0.mk H; clear H
 go_upto_if 19 with (first | ((with_reducible refine gd 2 ?_); refine bL 2 #[.int .i64 0, .string (⟨#[]⟩ : ByteArray), .slice none 0 0] 48 ?_; intro gb694 w7 _ _ _) | ((with_reducible refine gd 3 ?_); refine bL 3 #[.int .i64 0, .string (⟨#[]⟩ : ByteArray), .slice none 0 0] 48 ?_; intro gb695 w8 _ _ _) | ((with_reducible refine gate_callee (f := 90) rfl ?_); refine wL ?_; intro w9 _; refine gN (some 9) Tryz.func90 (spec_l1New.calls (hB := Below.refl _ _) (hr0 := pC HR0) (hc0 := HC0.out) (w := _) (h := A2.out)) ?_; intro g699 w10 _ _ _ HI11) | ((with_reducible refine gate_callee (f := 91) rfl ?_); refine gK (some 11) Tryz.func91 (spec_l7DrawConf.calls (hI := iS149 HI11) (hB := UpW.out) (w := _) (h := A3.out)) ?_; intro w12 _ _ _ HI13) | ((with_reducible refine gd 5 ?_); refine bL 5 #[.int .i64 0, .int .i64 0] 32 ?_; intro gb704 w14 _ _ _) | ((with_reducible refine gate_callee (f := 92) rfl ?_); refine gK1 (some 14) Tryz.func92 (spec_l10Draw.calls (hI := iS149 HI13) (hB := UpW.out) (w := _) (h := A4.out)) ?_; intro Ao708 co708 w15 _ _ _ HI16 HO709) | ((with_reducible refine gd 6 ?_); refine bL 6 #[.int .i64 0, .string (⟨#[]⟩ : ByteArray), .slice none 0 0] 48 ?_; intro gb712 w17 _ _ _) | ((with_reducible refine gate_callee (f := 92) rfl ?_); refine gK1 (some 17) Tryz.func92 (spec_l10Draw.calls (hI := iS149 HI16) (hB := UpW.out) (w := _) (h := A5.out)) ?_; intro Ao716 co716 w18 _ _ _ HI19 HO717) | ((with_reducible refine gd 7 ?_); refine bL 7 #[.int .i64 0, .string (⟨#[]⟩ : ByteArray), .slice none 0 0] 48 ?_; intro gb720 w20 _ _ _) | ((with_reducible refine gate_callee (f := 93) rfl ?_); refine gK (some 19) Tryz.func93 (spec_l1Once.calls (hI := iS149 HI19) (hB := UpW.out) (w := _) (h := A6.out)) ?_; intro w21 _ _ _ HI22))
 have H := H'.out; clear H'
 by_cases c23 : t721 = true
 ·
  subst c23
  rw [if_pos rfl] at H
  simp only [Option.some.injEq, Prod.mk.injEq] at H
  obtain ⟨rfl, rfl, rfl, rfl, rfl, rfl⟩ := H
  try go_wp2
  refine sB [gb694, gb695] spec_DrawPartJoin.tab8 spec_DrawPartJoin.bits8 ?_; intro w24 _ HT_ HW_
  refine tB 0 (some 26) (bz 4 1) HT_ HW_ ?_
  refine tB 1 (some 27) (bz 4 3) HT_ HW_ ?_
  refine o1 2 none (bz 4 7) HT_ rfl (kS ?_)
  refine o1 3 none (bz 4 15) HT_ rfl (kS ?_)
  refine done_ (done_of HT_.out (by kernel_rfl)) ?_
  try go_wp2
  refine bodyPost_ret (results_cc rfl _ _ gb694 gb695 48 48 #[.int .i64 t705, .string t706, .slice Ao708 t707.length co708] #[.int .i64 t705, .string t706, .slice Ao716 t715.length co716] (0, 0) (0, 0) _ _ rfl xB Tryz.underlying48 rfl (by kernel_rfl) rfl xB Tryz.underlying48 rfl (by kernel_rfl)) rfl ?_
  exact ⟨_, _, y0_17, rE HO709 HO717, rY HO717 HO709, UpW.out⟩
 replace c23 := Bool.eq_false_iff.mpr c23; subst c23
 rw [if_neg Bool.false_ne_true] at H
 simp only [Option.some.injEq, Prod.mk.injEq] at H
 obtain ⟨rfl, rfl, rfl, rfl, rfl, rfl⟩ := H
 try go_wp2
 refine sB [gb694, gb695] spec_DrawPartJoin.tab8 spec_DrawPartJoin.bits8 ?_; intro w25 _ HT_ HW_
 refine tB 0 (some 26) (bz 4 1) HT_ HW_ ?_
 refine tB 1 (some 27) (bz 4 3) HT_ HW_ ?_
 refine o1 2 none (bz 4 7) HT_ rfl (kS ?_)
 refine o1 3 none (bz 4 15) HT_ rfl (kS ?_)
 refine done_ (done_of HT_.out (by kernel_rfl)) ?_
 try go_wp2
 refine bodyPost_ret (results_cc rfl _ _ gb694 gb695 48 48 #[.int .i64 t705, .string t706, .slice Ao708 t707.length co708] #[.int .i64 t713, .string t714, .slice Ao716 t715.length co716] (0, 0) (0, 0) _ _ rfl xB Tryz.underlying48 rfl (by kernel_rfl) rfl xB Tryz.underlying48 rfl (by kernel_rfl)) rfl ?_
 exact ⟨_, _, y0_17, rE HO709 HO717, rY HO717 HO709, UpW.out⟩
def spec_l10DrawTable.l0 : Nat → List (S48) → Int → List Int → Int → Int → Int → Int → Option ((List (S48)) × Int × Int)
 | 0, _, _, _, _, _, _, _ => none
 | k + 1, x5, x6, x1000, x1001, x1002, x725000, x725001 => (spec_l1Below.f x1000 x1001 x1002 5).bind fun bt728 => (if x6 < bt728.1 then ((spec_l10DrawRight.f k x1000 bt728.2.1 bt728.2.2 x725000 x725001).bind fun bt731 => ((spec_TableAdd.f k x725000 x725001 x5 bt731.1 bt731.2.1 bt731.2.2.1).bind fun bt738 => (spec_l10DrawTable.l0 k bt738.1 (wrap64 (x6 + 1)) x1000 bt731.2.2.2.1 bt731.2.2.2.2 x725000 x725001))) else ((spec_l1Once.f x1000 bt728.2.1 bt728.2.2 8).bind fun bt742 => (if bt742.1 = true then ((spec_l10Draw.f k x1000 bt742.2.1 bt742.2.2 x725000 x725001).bind fun bt745 => (if x5.length < 2932031007402 then (some ((x5 ++ [(⟨bt745.1, bt745.2.1, bt745.2.2.1⟩ : S48)]), bt745.2.2.2.1, bt745.2.2.2.2)) else (none))) else (some (x5, bt742.2.1, bt742.2.2)))))
def spec_l10DrawTable.f (k : Nat) (s0_0 : List Int) (s0_1 : Int) (s0_2 : Int) (a1_0 : Int) (a1_1 : Int) : Option ((List (S48)) × Int × Int) := spec_l10DrawTable.l0 k (([] : List (S48))) 0 s0_0 s0_1 s0_2 a1_0 a1_1
def spec_l10DrawTable.T5 : Bool × List (List Nat × List Nat) := (true, [([], []), ([], []), ([], []), ([], []), ([2, 3], [2, 3]), ([0, 1, 4, 4], [0, 1, 4]), ([5], [5]), ([6], [6]), ([6], [6]), ([7, 5, 0, 1, 2, 3, 4, 5, 6, 7], [1, 7])])
def spec_l10DrawTable.B5 : List Nat := [0, 0, 0, 0, 12, 31, 63, 127, 127, 255]
theorem spec_l10DrawTable.tab5 : rtab .any (opsOf Tryz.f96 5) = spec_l10DrawTable.T5 := by kernel_rfl
theorem spec_l10DrawTable.bits5 : waitsOk spec_l10DrawTable.T5.2 spec_l10DrawTable.B5 = true := by kernel_rfl
theorem spec_l10DrawTable.calls (k : Nat) (g : Nat) (s0_0 : List Int) (s0_1 : Int) (s0_2 : Int) (a1_0 : Int) (a1_1 : Int) (r1 : List (S48)) (r2 : Int) (r3 : Int) (w0 w : World) (hI : IsS149 w0 w g s0_0 s0_1 s0_2) (hB : Below w0.heap.size w0 w) (h : spec_l10DrawTable.f k s0_0 s0_1 s0_2 a1_0 a1_1 = some (r1, r2, r3)) :
  Calls Tryz.prog 96 #[.pointer (some ⟨g, 0, none⟩), .agg #[.int .i64 a1_0, .int .i64 a1_1]] w fun e w' => ∃ v0_ : Value, e = .returned (v0_) ∧ Kd.S k48 48 w' w.heap.size (fun _ => True) v0_ r1 ∧ IsS149 w0 w' g s0_0 r2 r3 ∧ Below w0.heap.size w0 w' ∧ KeepBut w w' g none := by
 have hu32 := Tryz.underlying32; have HI0 := Aside0.mk hI; have HK := Aside0.mk (KeepBut.refl w g none); have HL := Aside0.mk hB.size; clear hI; have HW0 := Aside0.mk hB.size; have HB := Aside0.mk hB; clear hB; have H := h; unfold spec_l10DrawTable.f at H; clear h; obtain ⟨y725, hy725⟩ : ∃ y_ : List (S48), y_ = (([] : List (S48))) := ⟨_, rfl⟩
 replace H : (spec_l10DrawTable.l0 k y725 0 s0_0 s0_1 s0_2 a1_0 a1_1) = some (r1, r2, r3) := by first | (rw [hy725]; with_reducible exact H) | (rw [hy725]; with_reducible exact (Option.bind_some _ _).symm.trans H) | (rw [hy725]; exact H) | exact H
 have Ny725 := Aside0.mk hy725; clear hy725; have i0_ := iB149 HI0; have i1_ : LB w0 w := ⟨HB.out⟩
 go_enter Tryz.func96, Tryz.ntmps96
 have H' := Aside0.mk H; clear H
 go_wp2_with (first | ((with_reducible refine gd 3 ?_); refine bL 3 #[.int .i64 a1_0, .int .i64 a1_1] 32 ?_; intro gb724 w3 _ _ _) | ((with_reducible refine gate_dst (N := 7) rfl ?_); refine lES 7 48 k48 Ny725 ?_; intro Ao726 co726 w4 _ HO727))
 refine wC ?_; intro w5 _
 go_loopg [5, 6] k (fun kq v5 v6 w' => ∃ (x5_1 : List (S48)) (x6_1 : Int) (x1001_1 : Int) (x1002_1 : Int) (Ao5_1 : Option Addr) (co5_1 : Nat), v5 = .slice Ao5_1 x5_1.length co5_1 ∧ v6 = .int .i64 x6_1 ∧ Aside0 (spec_l10DrawTable.l0 kq x5_1 x6_1 s0_0 x1001_1 x1002_1 a1_0 a1_1 = some (r1, r2, r3)) ∧ Aside0 (kq ≤ k) ∧ Aside0 (Kd.S k48 48 w' w3.heap.size (iv w3 w') (.slice Ao5_1 x5_1.length co5_1) x5_1) ∧ StB g w' 149 ∧ Aside0 (IsS149 w0 w' g s0_0 x1001_1 x1002_1) ∧ KT w5 [g] w3 _ k48 48 w' ∧ LB w0 w' ∧ KS w g w')
 case atStart => exact ⟨(y725), (0), (s0_1), (s0_2), (Ao726), (co726), y0_17, y0_17, H', ⟨Nat.le_refl _⟩, ⟨sJ HO727⟩, iB149 ⟨iS149 HI0⟩, ⟨iS149 HI0⟩, ⟨UpT.out⟩, ⟨UpW.out⟩, ⟨UpB.out⟩⟩
 case round =>
  clear H'; obtain ⟨x5_1, x6_1, x1001_1, x1002_1, Ao5_1, co5_1, rfl, rfl, HA, HK1, HO_5, _, HI6, _, _, _⟩ := hrel; have HO_7 := HO727; cases gk with
  | zero => exact absurd HA.out (by simp [spec_l10DrawTable.l0])
  | succ k1 =>
   have H := HA.out; clear HA
   simp only [spec_l10DrawTable.l0] at H
   obtain ⟨⟨t728, t729, t730⟩, A7, H⟩ := oB H; (try dsimp only at H); have H' := Aside0.mk H; clear H
   go_upto_if 11 with (first | ((with_reducible refine gate_callee (f := 97) rfl ?_); refine gK (some 10) Tryz.func97 (spec_l1Below.calls (hI := iS149 HI6) (hB := UpW.out) (w := _) (h := A7.out)) ?_; intro w8 _ _ _ HI9))
   have H := H'.out; clear H'
   by_cases c10 : x6_1 < t728
   ·
    rw [if_pos c10] at H
    have c10b0 : decide (x6_1 < t728) = true := decide_eq_true c10; clear c10
    (first | rw [c10b0] | (simp only [i64_w, i32_w]; rw [c10b0]) | skip)
    obtain ⟨⟨t731, t732, t733, t736, t737⟩, A11, H⟩ := oB H; (try dsimp only at H); obtain ⟨⟨t738, t741⟩, A12, H⟩ := oB H; (try dsimp only at H); have H' := Aside0.mk H; clear H
    try go_wp2
    refine sB [g] spec_l10DrawTable.tab5 spec_l10DrawTable.bits5 ?_; intro w13 _ HT_ HW_
    refine tB 0 (some 15) (bz 10 1) HT_ HW_ ?_
    refine pA 1 (some 16) (bz 10 3) HT_ ?_
    refine pA 2 (some 17) (bz 10 7) HT_ ?_
    refine tB 3 (some 18) (bz 10 15) HT_ HW_ ?_
    refine o1 4 (some 19) (bz 10 31) HT_ rfl (kK1 Tryz.func141 (spec_l10DrawRight.calls (hI := iS149 HI9) (hB := UpW.out) (w := _) (h := A11.out)) ?_); intro Ao734 co734 w14 _ _ _ HI15 HO735
    refine nA (some 19) ?_
    refine o1 5 (some 20) (bz 10 63) HT_ rfl (kS1 Tryz.func18 (spec_TableAdd.calls (hr1 := sC HO_5) (hc1 := sL HO_5) (hr2_2 := rC HO735) (hc2_2 := rL HO735) (w := _) (h := A12.out)) ?_); intro Ao739 co739 w16 _ HO740
    refine nA (some 20) ?_
    refine pA 6 (some 14) (bz 10 127) HT_ ?_
    refine pA 7 (some 21) (bz 10 255) HT_ ?_
    refine pA 8 (some 22) (bz 10 511) HT_ ?_
    refine pA 9 (some 5) (bz 10 1023) HT_ ?_
    refine done_ (done_of HT_.out (by kernel_rfl)) ?_
    try go_wp2
    go_roundg k1
    case measure => have := HK1.out; omega
    case rel => exact ⟨(t738), (wrap64 (x6_1 + 1)), (t736), (t737), (Ao739), (co739), y0_17, y0_17, H', ⟨y0_20⟩, ⟨sJ HO740⟩, iB149 ⟨iS149 HI15⟩, ⟨iS149 HI15⟩, ⟨UpT.out⟩, ⟨UpW.out⟩, ⟨UpB.out⟩⟩
   rw [if_neg c10] at H
   have c10b0 : decide (x6_1 < t728) = false := decide_eq_false c10; clear c10
   (first | rw [c10b0] | (simp only [i64_w, i32_w]; rw [c10b0]) | skip)
   obtain ⟨⟨t742, t743, t744⟩, A17, H⟩ := oB H; (try dsimp only at H); have H' := Aside0.mk H; clear H
   go_upto_if 24 with (first | ((with_reducible refine gate_callee (f := 93) rfl ?_); refine gK (some 24) Tryz.func93 (spec_l1Once.calls (hI := iS149 HI9) (hB := UpW.out) (w := _) (h := A17.out)) ?_; intro w18 _ _ _ HI19))
   have H := H'.out; clear H'
   by_cases c20 : t742 = true
   ·
    subst c20
    rw [if_pos rfl] at H
    obtain ⟨⟨t745, t746, t747, t750, t751⟩, A21, H⟩ := oB H; (try dsimp only at H)
    by_cases c22 : x5_1.length < 2932031007402
    rotate_left
    ·
     rw [if_neg c22] at H
     exact absurd H (by simp)
    rw [if_pos c22] at H
    have LMc22 := Aside0.mk c22; clear c22; obtain ⟨y752, hy752⟩ : ∃ y_ : List (S48), y_ = (x5_1 ++ [(⟨t745, t746, t747⟩ : S48)]) := ⟨_, rfl⟩
    replace H : (some (y752, t750, t751)) = some (r1, r2, r3) := by first | (rw [hy752]; with_reducible exact H) | (rw [hy752]; with_reducible exact (Option.bind_some _ _).symm.trans H) | (rw [hy752]; exact H) | exact H
    have Ny752 := Aside0.mk hy752; clear hy752
    simp only [Option.some.injEq, Prod.mk.injEq] at H
    obtain ⟨rfl, rfl, rfl⟩ := H
    go_wp2_with (first | ((with_reducible refine gate_callee (f := 92) rfl ?_); refine gK1 (some 28) Tryz.func92 (spec_l10Draw.calls (hI := iS149 HI19) (hB := UpW.out) (w := _) (h := A21.out)) ?_; intro Ao748 co748 w23 _ _ _ HI24 HO749) | ((with_reducible refine gate_builtin (b := .append) (xs := #[.tmp 25, .tmp 29]) rfl ?_); at_builtin; refine gAS k48 (.tmp 25) (.tmp 29) 44 48 (.agg #[(.int .i64 0), (.string ⟨#[]⟩), (.slice none 0 0)]) 48 (⟨t745, t746, t747⟩ : S48) [.int .i64 t745, .string t746, .slice Ao748 t747.length co748] w3 Ny752 HO_5 (k48_mkM _ _ _ (⟨t745, t746, t747⟩ : S48) (oR (w := w3) HO749)) (by have := LMc22.out; omega) ?_ (ht := Tryz.underlying44) (hinfo := info48); intro Ao753 co753 w25 _ _ _ HO754))
    go_ret
    exact ⟨_, y0_17, rS HO754, iS149 HI24, UpW.out, UpB.out⟩
   replace c20 := Bool.eq_false_iff.mpr c20; subst c20
   rw [if_neg Bool.false_ne_true] at H
   simp only [Option.some.injEq, Prod.mk.injEq] at H
   obtain ⟨rfl, rfl, rfl⟩ := H
   go_wp2
   go_ret
   exact ⟨_, y0_17, rS HO_5, iS149 HI19, UpW.out, UpB.out⟩
def spec_DrawTableAdd.f (k : Nat) (l0 : List Int) : Option (Int × Int × (List (S48)) × Int × ByteArray × List Int) := (spec_l1New.f k l0).bind fun bt757 => ((spec_l7DrawConf.f bt757.1 bt757.2.1 bt757.2.2).bind fun bt761 => ((spec_l10DrawTable.f k bt757.1 bt761.2.2.1 bt761.2.2.2 bt761.1 bt761.2.1).bind fun bt766 => (if (bt766.1.length : Int) > 0 then ((spec_l1Once.f bt757.1 bt766.2.1 bt766.2.2 3).bind fun bt771 => (if bt771.1 = true then ((spec_l1Below.f bt757.1 bt771.2.1 bt771.2.2 (bt766.1.length : Int)).bind fun bt774 => (if 0 ≤ bt774.1 then (if bt774.1 < (bt766.1.length : Int) then ((spec_l10Copy.f ((rd_T48 bt766.1 bt774.1).f0) ((rd_T48 bt766.1 bt774.1).f1) ((rd_T48 bt766.1 bt774.1).f2)).bind fun bt778 => ((spec_l1Below.f bt757.1 bt774.2.1 bt774.2.2 4).bind fun bt784 => (some (bt761.1, bt761.2.1, bt766.1, bt778.1, bt778.2.1, (([bt784.1] : List Int)))))) else (none)) else (none))) else ((spec_l10Draw.f k bt757.1 bt771.2.1 bt771.2.2 bt761.1 bt761.2.1).bind fun bt790 => (some (bt761.1, bt761.2.1, bt766.1, bt790.1, bt790.2.1, bt790.2.2.1))))) else ((spec_l10Draw.f k bt757.1 bt766.2.1 bt766.2.2 bt761.1 bt761.2.1).bind fun bt797 => (some (bt761.1, bt761.2.1, bt766.1, bt797.1, bt797.2.1, bt797.2.2.1))))))
def spec_DrawTableAdd.T7 : Bool × List (List Nat × List Nat) := (true, [([], []), ([], []), ([], []), ([0, 0], [0]), ([1, 3, 0, 1, 3], [1]), ([2, 4, 0, 1, 2, 3, 4], [2])])
def spec_DrawTableAdd.B7 : List Nat := [0, 0, 0, 1, 11, 31]
theorem spec_DrawTableAdd.tab7 : rtab .any (opsOf Tryz.f31 7) = spec_DrawTableAdd.T7 := by kernel_rfl
theorem spec_DrawTableAdd.bits7 : waitsOk spec_DrawTableAdd.T7.2 spec_DrawTableAdd.B7 = true := by kernel_rfl
def spec_DrawTableAdd.T8 : Bool × List (List Nat × List Nat) := (true, [([], []), ([], []), ([], []), ([], []), ([2, 3], [2, 3]), ([0, 4, 0], [0]), ([1, 5, 0, 1, 5], [1]), ([4, 6, 0, 1, 2, 3, 4, 5, 6], [4])])
def spec_DrawTableAdd.B8 : List Nat := [0, 0, 0, 0, 12, 29, 63, 127]
theorem spec_DrawTableAdd.tab8 : rtab .any (opsOf Tryz.f31 8) = spec_DrawTableAdd.T8 := by kernel_rfl
theorem spec_DrawTableAdd.bits8 : waitsOk spec_DrawTableAdd.T8.2 spec_DrawTableAdd.B8 = true := by kernel_rfl
theorem spec_DrawTableAdd.calls (k : Nat) (A0 : Option Addr) (c0 : Nat) (l0 : List Int) (r1 : Int) (r2 : Int) (r3 : List (S48)) (r4 : Int) (r5 : ByteArray) (r6 : List Int) (w : World) (hr0 : Kd.C (Kd.int .u8) w A0 l0.length l0) (hc0 : l0.length ≤ c0) (h : spec_DrawTableAdd.f k l0 = some (r1, r2, r3, r4, r5, r6)) :
  Calls Tryz.prog 31 #[.slice A0 l0.length c0] w fun e w' => ∃ v2_ v5_ : Value, e = .returned (.tuple #[.agg #[.int .i64 r1, .int .i64 r2], v2_, .agg #[.int .i64 r4, .string r5, v5_]]) ∧ Kd.S k48 48 w' w.heap.size (fun k_ => some k_ ≠ (v5_ : Value).ownBlock) v2_ r3 ∧ Kd.R (Kd.int .i64) 3 w' w.heap.size (fun _ => True) v5_ r6 ∧ Below w.heap.size w w' := by
 have hu32 := Tryz.underlying32; have hu48 := Tryz.underlying48; have HR0 := Aside0.mk hr0; have HC0 := Aside0.mk hc0; clear hr0 hc0; have HB := Aside0.mk (Below.refl w.heap.size w)
 have H := h; unfold spec_DrawTableAdd.f at H
 clear h; obtain ⟨⟨t757, t758, t759⟩, A2, H⟩ := oB H; (try dsimp only at H); obtain ⟨⟨t761, t762, t763, t764⟩, A3, H⟩ := oB H; (try dsimp only at H); obtain ⟨⟨t766, t769, t770⟩, A4, H⟩ := oB H; (try dsimp only at H)
 go_enter Tryz.func31, Tryz.ntmps31
 have H' := Aside0.mk H; clear H
 go_upto_region 4 with (first | ((with_reducible refine gd 2 ?_); refine bL 2 #[.int .i64 0, .int .i64 0] 32 ?_; intro gb755 w5 _ _ _) | ((with_reducible refine gd 4 ?_); refine bL 4 #[.int .i64 0, .string (⟨#[]⟩ : ByteArray), .slice none 0 0] 48 ?_; intro gb756 w6 _ _ _) | ((with_reducible refine gate_callee (f := 90) rfl ?_); refine wL ?_; intro w7 _; refine gN (some 10) Tryz.func90 (spec_l1New.calls (hB := Below.refl _ _) (hr0 := pC HR0) (hc0 := HC0.out) (w := _) (h := A2.out)) ?_; intro g760 w8 _ _ _ HI9) | ((with_reducible refine gate_callee (f := 91) rfl ?_); refine gK (some 12) Tryz.func91 (spec_l7DrawConf.calls (hI := iS149 HI9) (hB := UpW.out) (w := _) (h := A3.out)) ?_; intro w10 _ _ _ HI11) | ((with_reducible refine gd 6 ?_); refine bL 6 #[.int .i64 0, .int .i64 0] 32 ?_; intro gb765 w12 _ _ _) | ((with_reducible refine gate_callee (f := 96) rfl ?_); refine gKS1 (some 15) Tryz.func96 (spec_l10DrawTable.calls (hI := iS149 HI11) (hB := UpW.out) (w := _) (h := A4.out)) ?_; intro Ao767 co767 w13 _ _ _ HI14 HO768))
 have H := H'.out; clear H'
 by_cases c15 : (t766.length : Int) > 0
 ·
  rw [if_pos c15] at H
  have c15b0 : decide (0 < (t766.length : Int)) = true := decide_eq_true c15
  have c15b1 : decide (0 < t766.length) = true := decide_eq_true (by omega)
  clear c15
  (first | rw [c15b0] | (simp only [i64_w, i32_w]; rw [c15b0]) | skip)
  obtain ⟨⟨t771, t772, t773⟩, A16, H⟩ := oB H; (try dsimp only at H); have H' := Aside0.mk H; clear H
  go_upto_if 22 with (first | (go_at_call 93; refine aK (spec_l1Once.calls (hI := iS149 HI14) (hB := UpW.out) (w := _) (h := A16.out)) ?_; intro w17 _ _ _ HI18))
  have H := H'.out; clear H'
  by_cases c19 : t771 = true
  ·
   subst c19
   rw [if_pos rfl] at H
   obtain ⟨⟨t774, t775, t776⟩, A20, H⟩ := oB H; (try dsimp only at H)
   by_cases c21 : 0 ≤ t774
   rotate_left
   ·
    rw [if_neg c21] at H
    exact absurd H (by simp)
   rw [if_pos c21] at H
   have c21b0 : decide (0 ≤ t774) = true := decide_eq_true c21; clear c21
   (first | rw [c21b0] | (simp only [i64_w, i32_w]; rw [c21b0]) | skip)
   by_cases c22 : t774 < (t766.length : Int)
   rotate_left
   ·
    rw [if_neg c22] at H
    exact absurd H (by simp)
   rw [if_pos c22] at H
   have c22b0 : decide (t774 < (t766.length : Int)) = true := decide_eq_true c22; clear c22; obtain ⟨⟨t778, t779, t780⟩, A23, H⟩ := oB H; (try dsimp only at H); obtain ⟨⟨t784, t785, t786⟩, A24, H⟩ := oB H; (try dsimp only at H); obtain ⟨y787, hy787⟩ : ∃ y_ : List Int, y_ = (([t784] : List Int)) := ⟨_, rfl⟩
   replace H : (some (t761, t762, t766, t778, t779, y787)) = some (r1, r2, r3, r4, r5, r6) := by first | (rw [hy787]; with_reducible exact H) | (rw [hy787]; with_reducible exact (Option.bind_some _ _).symm.trans H) | (rw [hy787]; exact H) | exact H
   have Ny787 := Aside0.mk hy787; clear hy787
   simp only [Option.some.injEq, Prod.mk.injEq] at H
   obtain ⟨rfl, rfl, rfl, rfl, rfl, rfl⟩ := H
   try go_wp2_with (first | ((with_reducible refine gate_callee (f := 97) rfl ?_); refine gK (some 27) Tryz.func97 (spec_l1Below.calls (hI := iS149 HI18) (hB := UpW.out) (w := _) (h := A20.out)) ?_; intro w25 _ _ _ HI26; have p777 : 0 ≤ (t774 : Int) := of_decide_eq_true y0_16; have q777 : t774 < (t766.length : Int) := of_decide_eq_true y0_16; obtain ⟨go777, cc777, eo777, hb777, _, hg777⟩ := Kd.S_form HO768.out (by omega); have bo777 : BornI go777 _ := ⟨hb777⟩; injection eo777 with ea_ en_ ec_; subst ea_; subst ec_; clear en_; have sb777 : StB go777 w13 48 := ⟨hg777⟩; obtain ⟨ok777, ce777, _, hM777, hcc777, _, _, _⟩ := Kd.S_elem HO768.out z48 t774 p777 q777; obtain ⟨ve777_2, rfl, ge777_2⟩ := k48_openM hM777; obtain ⟨A777_2, c777_2, ev777_2⟩ := Kd.R_slice ge777_2; subst ev777_2; have i777_0_ : RdG go777 ((t774 : Int).toNat * 3) w13 (.int .i64 ((rd_T48 t766 t774).f0)) := RdG.of hg777 (hcc777 0 _ rfl); have i777_1_ : RdG go777 ((t774 : Int).toNat * 3 + 1) w13 (.string ((rd_T48 t766 t774).f1)) := RdG.of hg777 (hcc777 1 _ rfl); have i777_2_ : RdG go777 ((t774 : Int).toNat * 3 + 2) w13 (.slice A777_2 ((rd_T48 t766 t774).f2).length c777_2) := RdG.of hg777 (hcc777 2 _ rfl); have HR777_2 := Aside0.mk (show Kd.R (Kd.int .i64) 3 w13 _ ok777 (.slice A777_2 ((rd_T48 t766 t774).f2).length c777_2) ((rd_T48 t766 t774).f2) from ge777_2); replace p777 := eq_true p777; replace q777 := eq_true q777) | ((with_reducible refine gate_callee (f := 78) rfl ?_); refine gC1 (some 30) Tryz.func78 (spec_l10Copy.calls (hr0_2 := rC HR777_2) (hc0_2 := rL HR777_2) (w := _) (h := A23.out)) ?_; intro Ao781 co781 w27 _ HO782) | ((with_reducible refine gd 8 ?_); refine bL 8 #[.int .i64 0, .string (⟨#[]⟩ : ByteArray), .slice none 0 0] 48 ?_; intro gb783 w28 _ _ _) | ((with_reducible refine gate_callee (f := 97) rfl ?_); refine gK (some 32) Tryz.func97 (spec_l1Below.calls (hI := iS149 HI26) (hB := UpW.out) (w := _) (h := A24.out)) ?_; intro w29 _ _ _ HI30) | ((with_reducible refine gate_dst (N := 33) rfl ?_); refine lL 33 3 (Kd.int .i64) rfl Ny787 ?_; intro Ao788 co788 w31 _ HO789))
   refine sB [gb755, gb756] spec_DrawTableAdd.tab7 spec_DrawTableAdd.bits7 ?_; intro w32 _ HT_ HW_
   refine tB 0 (some 35) (bz 6 1) HT_ HW_ ?_
   refine pA 1 (some 36) (bz 6 3) HT_ ?_
   refine tB 2 (some 37) (bz 6 7) HT_ HW_ ?_
   refine o1 3 none (bz 6 15) HT_ rfl (kS ?_)
   refine pA 4 (some 3) (bz 6 31) HT_ ?_
   refine o1 5 none (bz 6 63) HT_ rfl (kS ?_)
   refine done_ (done_of HT_.out (by kernel_rfl)) ?_
   try go_wp2
   refine bodyPost_ret (results_list (rs := [.cell 2 32, .tmp 3, .cell 4 48]) rfl (by simp) (.cell gb755 32 #[.int .i64 t761, .int .i64 t762] (0, 0) _ rfl xB Tryz.underlying32 rfl (by kernel_rfl) (.tmp (.cell gb756 48 #[.int .i64 t778, .string t779, .slice Ao788 y787.length co788] (0, 0) _ rfl xB Tryz.underlying48 rfl (by kernel_rfl) .nil)))) rfl ?_
   exact ⟨_, _, y0_17, sEl [g760, gb755, gb756, gb765, gb783] HO768 HO789, rR HO789, UpW.out⟩
  replace c19 := Bool.eq_false_iff.mpr c19; subst c19
  rw [if_neg Bool.false_ne_true] at H
  obtain ⟨⟨t790, t791, t792, t795, t796⟩, A33, H⟩ := oB H; (try dsimp only at H)
  simp only [Option.some.injEq, Prod.mk.injEq] at H
  obtain ⟨rfl, rfl, rfl, rfl, rfl, rfl⟩ := H
  try go_wp2
  refine sB [g760, gb755, gb756] spec_DrawTableAdd.tab8 spec_DrawTableAdd.bits8 ?_; intro w34 _ HT_ HW_
  refine tB 0 (some 38) (bz 8 1) HT_ HW_ ?_
  refine pA 1 (some 39) (bz 8 3) HT_ ?_
  refine pA 2 (some 40) (bz 8 7) HT_ ?_
  refine tB 3 (some 41) (bz 8 15) HT_ HW_ ?_
  refine o1 4 (some 42) (bz 8 31) HT_ rfl (kK1 Tryz.func92 (spec_l10Draw.calls (hI := iS149 HI18) (hB := UpW.out) (w := _) (h := A33.out)) ?_); intro Ao793 co793 w35 _ _ _ HI36 HO794
  refine nA (some 42) ?_
  refine o1 5 none (bz 8 63) HT_ rfl (kS ?_)
  refine pA 6 (some 3) (bz 8 127) HT_ ?_
  refine o1 7 none (bz 8 255) HT_ rfl (kS ?_)
  refine done_ (done_of HT_.out (by kernel_rfl)) ?_
  try go_wp2
  refine bodyPost_ret (results_list (rs := [.cell 2 32, .tmp 3, .cell 4 48]) rfl (by simp) (.cell gb755 32 #[.int .i64 t761, .int .i64 t762] (0, 0) _ rfl xB Tryz.underlying32 rfl (by kernel_rfl) (.tmp (.cell gb756 48 #[.int .i64 t790, .string t791, .slice Ao793 t792.length co793] (0, 0) _ rfl xB Tryz.underlying48 rfl (by kernel_rfl) .nil)))) rfl ?_
  exact ⟨_, _, y0_17, sEl [g760, gb755, gb756, gb765] HO768 HO794, rR HO794, UpW.out⟩
 rw [if_neg c15] at H
 have c15b0 : decide (0 < (t766.length : Int)) = false := decide_eq_false c15
 have c15b1 : decide (0 < t766.length) = false := decide_eq_false (by omega)
 clear c15
 (first | rw [c15b0] | (simp only [i64_w, i32_w]; rw [c15b0]) | skip)
 have H' := Aside0.mk H; clear H
 go_upto_if 22 with fail
 have H := H'.out; clear H'; obtain ⟨⟨t797, t798, t799, t802, t803⟩, A37, H⟩ := oB H; (try dsimp only at H)
 simp only [Option.some.injEq, Prod.mk.injEq] at H
 obtain ⟨rfl, rfl, rfl, rfl, rfl, rfl⟩ := H
 try go_wp2
 refine sB [g760, gb755, gb756] spec_DrawTableAdd.tab8 spec_DrawTableAdd.bits8 ?_; intro w38 _ HT_ HW_
 refine tB 0 (some 38) (bz 8 1) HT_ HW_ ?_
 refine pA 1 (some 39) (bz 8 3) HT_ ?_
 refine pA 2 (some 40) (bz 8 7) HT_ ?_
 refine tB 3 (some 41) (bz 8 15) HT_ HW_ ?_
 refine o1 4 (some 42) (bz 8 31) HT_ rfl (kK1 Tryz.func92 (spec_l10Draw.calls (hI := iS149 HI14) (hB := UpW.out) (w := _) (h := A37.out)) ?_); intro Ao800 co800 w39 _ _ _ HI40 HO801
 refine nA (some 42) ?_
 refine o1 5 none (bz 8 63) HT_ rfl (kS ?_)
 refine pA 6 (some 3) (bz 8 127) HT_ ?_
 refine o1 7 none (bz 8 255) HT_ rfl (kS ?_)
 refine done_ (done_of HT_.out (by kernel_rfl)) ?_
 try go_wp2
 refine bodyPost_ret (results_list (rs := [.cell 2 32, .tmp 3, .cell 4 48]) rfl (by simp) (.cell gb755 32 #[.int .i64 t761, .int .i64 t762] (0, 0) _ rfl xB Tryz.underlying32 rfl (by kernel_rfl) (.tmp (.cell gb756 48 #[.int .i64 t797, .string t798, .slice Ao800 t799.length co800] (0, 0) _ rfl xB Tryz.underlying48 rfl (by kernel_rfl) .nil)))) rfl ?_
 exact ⟨_, _, y0_17, sEl [g760, gb755, gb756, gb765] HO768 HO801, rR HO801, UpW.out⟩
end Go.Proofs.YtdmjhgogljhfkaaGreatDoor.PFnParts
