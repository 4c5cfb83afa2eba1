-- By a program of this session, out of the translation (the print of the kit, with turns of its own). Lean checks it.
import Derived.Test.YtemjmefacifdeaaGreatDoorPFnEitherOrderx0
import Derived.Test.YtemjmefacifdeaaGreatDoorPFnEitherOrderx3
import Derived.Test.YtemjmefacifdeaaGreatDoorPFnEitherOrderx4
import Derived.Test.YtemjmefacifdeaaGreatDoorPFnEitherOrderx9
import Derived.Test.YtemjmefacifdeaaGreatDoorPFnEitherOrderx10
import Derived.Test.YtemjmefacifdeaaGreatDoorPFnEitherOrderx11
namespace Go.Proofs.YtemjmefacifdeaaGreatDoor.PFnEitherOrder
open Go.RowKit Go.Proofs.YtemjmefacifdeaaGreatDoorW.PrintWords Go.Proofs.YtemjmefacifdeaaGreatDoorW.PrintLast Go.Proofs.YtemjmefacifdeaaGreatDoorW.PrintMore
attribute [local go_sem] max2_int min2_int max_two min_two max_three min_three max_four min_four   -- for this text's walks alone
attribute [local go_sem] cell_in frozen_in
set_option synthInstance.maxSize 1000000
set_option synthInstance.maxHeartbeats 2000000
set_option linter.unusedVariables false
set_option linter.unusedSimpArgs false

/-! ### spec_SetAdd: function 144 -/
def spec_SetAdd.l0 : Nat → List Int → Int → Int → Option (List Int)
 | 0, _, _, _ => none
 | k + 1, x0, x1, x5 => if x5 < (x0.length : Int) then (if 0 ≤ x5 then (if (rd x0 x5) < x1 then (spec_SetAdd.l0 k x0 x1 (wrap64 (x5 + 1))) else ((some (([] : List Int) : List Int)).bind fun y611 => (if x5 ≤ (x0.length : Int) then (if y611.length + (x0.take (x5 : Int).toNat).length < 17592186044416 then ((some (y611 ++ (x0.take (x5 : Int).toNat) : List Int)).bind fun y615 => (if y615.length < 17592186044416 then ((some (y615 ++ [x1] : List Int)).bind fun y618 => (if y618.length + (x0.drop (x5 : Int).toNat).length < 17592186044416 then (some (y618 ++ (x0.drop (x5 : Int).toNat))) else (none))) else (none))) else (none)) else (none)))) else (none)) else ((some (([] : List Int) : List Int)).bind fun y625 => (if 0 ≤ x5 then (if x5 ≤ (x0.length : Int) then (if y625.length + (x0.take (x5 : Int).toNat).length < 17592186044416 then ((some (y625 ++ (x0.take (x5 : Int).toNat) : List Int)).bind fun y629 => (if y629.length < 17592186044416 then ((some (y629 ++ [x1] : List Int)).bind fun y632 => (if y632.length + (x0.drop (x5 : Int).toNat).length < 17592186044416 then (some (y632 ++ (x0.drop (x5 : Int).toNat))) else (none))) else (none))) else (none)) else (none)) else (none)))
def spec_SetAdd.f (k : Nat) (l0 : List Int) (a1 : Int) : Option (List Int) := (spec_SetHas.f k l0 a1).bind fun t603 => (if t603 = true then ((some (([] : List Int) : List Int)).bind fun y604 => (if y604.length + l0.length < 17592186044416 then (some (y604 ++ l0)) else (none))) else (spec_SetAdd.l0 k l0 a1 0))
theorem spec_SetAdd.mono_l : ∀ k, (∀ y0 y1 y2, LeO (spec_SetAdd.l0 k y0 y1 y2) (spec_SetAdd.l0 (k + 1) y0 y1 y2))
 | 0 => fun _ _ _ r h => by simp [spec_SetAdd.l0] at h
 | k + 1 => by
  have ih0 := spec_SetAdd.mono_l k
  intro y0 y1 y2
  unfold spec_SetAdd.l0
  repeat' first | (with_reducible exact ih0 _ _ _) | (with_reducible exact spec_SetHas.mono _ _ _) | (with_reducible exact LeO.refl _) | (with_reducible exact LeO.none _) | (with_reducible refine LeO.ite ?_ ?_) | (with_reducible refine LeO.bind ?_ (fun _ => ?_))
theorem spec_SetAdd.mono : ∀ a0 a1 k, LeO (spec_SetAdd.f k a0 a1) (spec_SetAdd.f (k + 1) a0 a1) := by
 intro a0 a1 k
 have ih0 := spec_SetAdd.mono_l k
 unfold spec_SetAdd.f
 repeat' first | (with_reducible exact ih0 _ _ _) | (with_reducible exact spec_SetHas.mono _ _ _) | (with_reducible exact LeO.refl _) | (with_reducible exact LeO.none _) | (with_reducible refine LeO.ite ?_ ?_) | (with_reducible refine LeO.bind ?_ (fun _ => ?_))
set_option maxHeartbeats 8000000 in
set_option maxRecDepth 100000 in
theorem spec_SetAdd.calls (k : Nat) (A0 : Option Addr) (c0 : Nat) (l0 : List Int) (a1 : Int) (r : List Int) (w : World) (hr0 : Kd.C (Kd.int .i64) w A0 l0.length l0) (hc0 : l0.length ≤ c0) (h : spec_SetAdd.f k l0 a1 = some r) :
  Calls Tryz.prog 144 #[.slice A0 l0.length c0, .int .i64 a1] w fun e w' => ∃ v0_ : Value, e = .returned (v0_) ∧ Kd.R (Kd.int .i64) 3 w' w.heap.size (fun _ => True) v0_ r ∧ Below w.heap.size w w' := by
 have HR0 := Aside0.mk hr0; have HC0 := Aside0.mk hc0; clear hr0 hc0; have HB := Aside0.mk (Below.refl w.heap.size w)
 have H : ((spec_SetHas.f k l0 a1).bind fun t603 => (if t603 = true then ((some (([] : List Int) : List Int)).bind fun y604 => (if y604.length + l0.length < 17592186044416 then (some (y604 ++ l0)) else (none))) else (spec_SetAdd.l0 k l0 a1 0))) = some r := h
 clear h; obtain ⟨t603, A30, H⟩ := Option.bind_eq_some_iff.mp H
 try dsimp only at H
 have A3 := Aside0.mk A30; clear A30
 by_cases c4 : t603 = true
 ·
  subst c4
  rw [if_pos rfl] at H
  obtain ⟨y604, hy604⟩ : ∃ y_ : List Int, y_ = (([] : List Int)) := ⟨_, rfl⟩
  replace H : (if y604.length + l0.length < 17592186044416 then (some (y604 ++ l0)) else (none)) = some r := by first | (rw [hy604]; with_reducible exact H) | (have H2_ := (Option.bind_some _ _).symm.trans H; rw [hy604]; with_reducible exact H2_) | (have H2_ := (Option.bind_some _ _).symm.trans H; with_reducible exact H2_) | with_reducible exact H | (rw [hy604]; exact H) | exact H
  have Ny604 := Aside0.mk hy604; clear hy604
  by_cases c5 : y604.length + l0.length < 17592186044416
  rotate_left
  ·
   rw [if_neg c5] at H
   exact absurd H (by simp)
  rw [if_pos c5] at H
  have LMc5 := Aside0.mk c5; clear c5; obtain ⟨y607, hy607⟩ : ∃ y_ : List Int, y_ = (y604 ++ l0) := ⟨_, rfl⟩
  replace H : (some y607) = some r := by first | (rw [hy607]; with_reducible exact H) | (have H2_ := (Option.bind_some _ _).symm.trans H; rw [hy607]; with_reducible exact H2_) | (have H2_ := (Option.bind_some _ _).symm.trans H; with_reducible exact H2_) | with_reducible exact H | (rw [hy607]; exact H) | exact H
  have Ny607 := Aside0.mk hy607; clear hy607; obtain rfl := Option.some.inj H
  go_enter Tryz.func144, Tryz.ntmps144
  go_wp2_with (first | ((with_reducible refine gate_callee (f := 154) rfl ?_); refine gB (some 9) Tryz.func154 #[.slice A0 l0.length c0, .int .i64 a1] ?_; (with_reducible refine (spec_SetHas.calls k _ _ l0 a1 true _ ?side1 ?side2 A3.out).mono ?_); (case side1 => exact cI HR0.out); (case side2 => exact HC0.out); rintro e w' ⟨rfl, ⟨nd, rfl⟩⟩; refine ⟨_, rfl, ?_⟩) | ((with_reducible refine gate_dst (N := 10) rfl ?_); refine Kd.R_lit (Kd.int .i64) _ 3 ?hg (N := 10) ?hd (xs := ([] : List Int)) (inner := []) (ok := fun _ => True) (okp := fun _ => True) ?hr ?hp (fun _ hk => hk) trivial (Below.refl _ _) (Nat.le_refl _) (by simp) ?_; (case hd => rfl); (case hg => rfl); (case hr => first | (go_simp; done) | (go_simp; rfl)); (case hp => exact (Reps.none _ _)); intro v605 w6 ho7 hb hg_ hnew_; clear hg_ hnew_; (first | rw [← Ny604.out] at ho7 | (simp only [Int.reduceToNat] at ho7; rw [← Ny604.out] at ho7)); have HO606 := Aside0.mk (Kd.R_lower ho7 (below_size (bI HB.out))); replace HB := bs HB hb; clear hb ho7) | ((with_reducible refine gate_builtin (b := .append) (xs := #[.tmp 10, .tmp 11]) rfl ?_); at_builtin; refine Kd.R_append_rows (Kd.int .i64) (w0 := w) w.heap.size rfl (.tmp 10) (.tmp 11) 24 3 (.int .i64 0) 8 rfl Tryz.underlying24 info3 rfl (by decide) (by omega) v605 y604 l0 _ _ _ (fun _ => True) (fun _ => False) rfl rfl ?aO ?aR (fun _ _ h => h) (fun _ h => h.elim) ?aF ?aB ?aS ?aL ?_; (case aR => exact ch HR0 HB); (case aB => exact (bI HB.out)); (case aF => exact (fun _ _ => trivial)); (case aO => exact (rI HO606.out)); (case aS => exact (below_size (bI HB.out))); (case aL => have := LMc5.out; omega); intro v608 w8 ho hb hg hat; rw [← Ny607.out] at ho; have n0_ := Aside0.mk (hb); have n1_ := Aside0.mk (ho); clear HB; clear HO606; have HB := n0_; have HO609 := n1_; clear n0_ n1_; clear ho hb hg hat))
  go_ret
  exact ⟨_, y0_14, by (with_reducible repeat (first | apply Kd.R_alloc | apply Kd.R_drewN | apply Kd.R_drew)); exact HO609.out, bI HB.out⟩
 replace c4 := Bool.eq_false_iff.mpr c4; subst c4
 rw [if_neg (show ¬ (false = true) by decide)] at H
 have H' := Aside0.mk H; clear H
 go_enter Tryz.func144, Tryz.ntmps144
 go_wp2_with (first | ((with_reducible refine gate_callee (f := 154) rfl ?_); refine gB (some 9) Tryz.func154 #[.slice A0 l0.length c0, .int .i64 a1] ?_; (with_reducible refine (spec_SetHas.calls k _ _ l0 a1 false _ ?side1 ?side2 A3.out).mono ?_); (case side1 => exact cI HR0.out); (case side2 => exact HC0.out); rintro e w' ⟨rfl, ⟨nd, rfl⟩⟩; refine ⟨_, rfl, ?_⟩))
 go_loopg [5] k (fun kq v5 w' => ∃ (x5_1 : Int), v5 = .int .i64 x5_1 ∧ Aside0 (spec_SetAdd.l0 kq l0 a1 x5_1 = some r) ∧ Aside0 (kq ≤ k) ∧ Aside0 (Below w.heap.size w w'))
 case atStart => exact ⟨(0), y0_19, H', ⟨Nat.le_refl _⟩, ⟨bI HB.out⟩⟩
 case round =>
  clear H'
  try clear c1
  try clear p2
  try clear c4
  try clear c5
  obtain ⟨x5_1, rfl, HA, HK1, HB⟩ := hrel; cases gk with
  | zero => exact absurd HA.out (by simp [spec_SetAdd.l0])
  | succ k1 =>
   have H := HA.out; clear HA
   simp only [spec_SetAdd.l0] at H
   by_cases c9 : x5_1 < (l0.length : Int)
   ·
    rw [if_pos c9] at H
    have c9b0 : decide (x5_1 < (l0.length : Int)) = true := decide_eq_true c9; clear c9
    by_cases c10 : 0 ≤ x5_1
    rotate_left
    ·
     rw [if_neg c10] at H
     exact absurd H (by simp)
    rw [if_pos c10] at H
    have c10b0 : decide (0 ≤ x5_1) = true := decide_eq_true c10; clear c10
    by_cases c11 : (rd l0 x5_1) < a1
    ·
     rw [if_pos c11] at H
     have c11b0 : decide ((rd l0 x5_1) < a1) = true := decide_eq_true c11; clear c11; have H' := Aside0.mk H; clear H; have p610 : 0 ≤ (x5_1 : Int) := of_decide_eq_true y0_18; have q610 : x5_1 < (l0.length : Int) := of_decide_eq_true y0_18; obtain ⟨ad610, e610, hx610_0⟩ := Kd.at_int HR0.out x5_1 p610 q610; cases e610; replace hx610_0 := bx HB hx610_0; replace p610 := eq_true p610; replace q610 := eq_true q610
     go_wp2
     go_roundg k1
     case measure => have := HK1.out; omega
     case rel => exact ⟨(wrap64 (x5_1 + 1)), y0_19, H', ⟨y0_21⟩, ⟨bI HB.out⟩⟩
    rw [if_neg c11] at H
    have c11b0 : decide ((rd l0 x5_1) < a1) = false := decide_eq_false c11; clear c11; obtain ⟨y611, hy611⟩ : ∃ y_ : List Int, y_ = (([] : List Int)) := ⟨_, rfl⟩
    replace H : (if x5_1 ≤ (l0.length : Int) then (if y611.length + (l0.take (x5_1 : Int).toNat).length < 17592186044416 then ((some (y611 ++ (l0.take (x5_1 : Int).toNat) : List Int)).bind fun y615 => (if y615.length < 17592186044416 then ((some (y615 ++ [a1] : List Int)).bind fun y618 => (if y618.length + (l0.drop (x5_1 : Int).toNat).length < 17592186044416 then (some (y618 ++ (l0.drop (x5_1 : Int).toNat))) else (none))) else (none))) else (none)) else (none)) = some r := by first | (rw [hy611]; with_reducible exact H) | (have H2_ := (Option.bind_some _ _).symm.trans H; rw [hy611]; with_reducible exact H2_) | (have H2_ := (Option.bind_some _ _).symm.trans H; with_reducible exact H2_) | with_reducible exact H | (rw [hy611]; exact H) | exact H
    have Ny611 := Aside0.mk hy611; clear hy611; have c12b0 := eq_true (of_decide_eq_true y0_18 : 0 ≤ x5_1)
    by_cases c13 : x5_1 ≤ (l0.length : Int)
    rotate_left
    ·
     rw [if_neg c13] at H
     exact absurd H (by simp)
    rw [if_pos c13] at H
    have c13b0 := eq_true c13; have c13b1 : decide (x5_1 ≤ (l0.length : Int)) = true := decide_eq_true c13; clear c13
    by_cases c14 : y611.length + (l0.take (x5_1 : Int).toNat).length < 17592186044416
    rotate_left
    ·
     rw [if_neg c14] at H
     exact absurd H (by simp)
    rw [if_pos c14] at H
    have LMc14 := Aside0.mk c14; clear c14; obtain ⟨y615, hy615⟩ : ∃ y_ : List Int, y_ = (y611 ++ (l0.take (x5_1 : Int).toNat)) := ⟨_, rfl⟩
    replace H : (if y615.length < 17592186044416 then ((some (y615 ++ [a1] : List Int)).bind fun y618 => (if y618.length + (l0.drop (x5_1 : Int).toNat).length < 17592186044416 then (some (y618 ++ (l0.drop (x5_1 : Int).toNat))) else (none))) else (none)) = some r := by first | (rw [hy615]; with_reducible exact H) | (have H2_ := (Option.bind_some _ _).symm.trans H; rw [hy615]; with_reducible exact H2_) | (have H2_ := (Option.bind_some _ _).symm.trans H; with_reducible exact H2_) | with_reducible exact H | (rw [hy615]; exact H) | exact H
    have Ny615 := Aside0.mk hy615; clear hy615
    by_cases c15 : y615.length < 17592186044416
    rotate_left
    ·
     rw [if_neg c15] at H
     exact absurd H (by simp)
    rw [if_pos c15] at H
    have LMc15 := Aside0.mk c15; clear c15; obtain ⟨y618, hy618⟩ : ∃ y_ : List Int, y_ = (y615 ++ [a1]) := ⟨_, rfl⟩
    replace H : (if y618.length + (l0.drop (x5_1 : Int).toNat).length < 17592186044416 then (some (y618 ++ (l0.drop (x5_1 : Int).toNat))) else (none)) = some r := by first | (rw [hy618]; with_reducible exact H) | (have H2_ := (Option.bind_some _ _).symm.trans H; rw [hy618]; with_reducible exact H2_) | (have H2_ := (Option.bind_some _ _).symm.trans H; with_reducible exact H2_) | with_reducible exact H | (rw [hy618]; exact H) | exact H
    have Ny618 := Aside0.mk hy618; clear hy618; have c16b0 := eq_true (of_decide_eq_true y0_18 : 0 ≤ x5_1); have c17b0 := eq_true (of_decide_eq_true y0_18 : x5_1 ≤ (l0.length : Int))
    by_cases c18 : y618.length + (l0.drop (x5_1 : Int).toNat).length < 17592186044416
    rotate_left
    ·
     rw [if_neg c18] at H
     exact absurd H (by simp)
    rw [if_pos c18] at H
    have LMc18 := Aside0.mk c18; clear c18; obtain ⟨y622, hy622⟩ : ∃ y_ : List Int, y_ = (y618 ++ (l0.drop (x5_1 : Int).toNat)) := ⟨_, rfl⟩
    replace H : (some y622) = some r := by first | (rw [hy622]; with_reducible exact H) | (have H2_ := (Option.bind_some _ _).symm.trans H; rw [hy622]; with_reducible exact H2_) | (have H2_ := (Option.bind_some _ _).symm.trans H; with_reducible exact H2_) | with_reducible exact H | (rw [hy622]; exact H) | exact H
    have Ny622 := Aside0.mk hy622; clear hy622; obtain rfl := Option.some.inj H; have p610 : 0 ≤ (x5_1 : Int) := of_decide_eq_true y0_18; have q610 : x5_1 < (l0.length : Int) := of_decide_eq_true y0_18; obtain ⟨ad610, e610, hx610_0⟩ := Kd.at_int HR0.out x5_1 p610 q610; cases e610; replace hx610_0 := bx HB hx610_0; replace p610 := eq_true p610; replace q610 := eq_true q610
    go_wp2_with (first | ((with_reducible refine gate_dst (N := 27) rfl ?_); refine Kd.R_lit (Kd.int .i64) _ 3 ?hg (N := 27) ?hd (xs := ([] : List Int)) (inner := []) (ok := fun _ => True) (okp := fun _ => True) ?hr ?hp (fun _ hk => hk) trivial (Below.refl _ _) (Nat.le_refl _) (by simp) ?_; (case hd => rfl); (case hg => rfl); (case hr => first | (go_simp; done) | (go_simp; rfl)); (case hp => exact (Reps.none _ _)); intro v612 w19 ho20 hb hg_ hnew_; clear hg_ hnew_; (first | rw [← Ny611.out] at ho20 | (simp only [Int.reduceToNat] at ho20; rw [← Ny611.out] at ho20)); have HO613 := Aside0.mk (Kd.R_lower ho20 (below_size (bI HB.out))); replace HB := bs HB hb; clear hb ho20; obtain ⟨i021, hi021, _, hsz21, _⟩ := info_parts info3; obtain ⟨hcut21, hA21, hC21⟩ := print_take_of (P := Tryz.prog) (Value.int .i64) 0 24 3 .i64 Tryz.underlying24 hi021 hsz21 (some ad610) c0 l0 x5_1 (of_decide_eq_true y0_18) (of_decide_eq_true y0_18) HC0.out; have HR614 := Aside0.mk (Kd.C_of_reads (h1 := fun _ => rfl) (hA21 _ (Kd.reads_of_C HR0.out))); have HC614 := Aside0.mk hC21; clear hA21 hC21 hi021 hsz21) | ((with_reducible refine gate_builtin (b := .append) (xs := #[.tmp 27, .tmp 30]) rfl ?_); at_builtin; refine Kd.R_append_rows (Kd.int .i64) (w0 := w) w.heap.size rfl (.tmp 27) (.tmp 30) 24 3 (.int .i64 0) 8 rfl Tryz.underlying24 info3 rfl (by decide) (by omega) v612 y611 (l0.take (x5_1 : Int).toNat) _ _ _ (fun _ => True) (fun _ => False) rfl rfl ?aO ?aR (fun _ _ h => h) (fun _ h => h.elim) ?aF ?aB ?aS ?aL ?_; (case aR => first | exact cE (show (l0.take (x5_1 : Int).toNat).length = x5_1.toNat from y0_8) (Kd.C_below HR614.out HB.out) | (exact ch HR614 HB)); (case aB => exact (bI HB.out)); (case aF => exact (fun _ _ => trivial)); (case aO => exact (rI HO613.out)); (case aS => exact (below_size (bI HB.out))); (case aL => have := LMc14.out; have hlx_ := (show (l0.take (x5_1 : Int).toNat).length = x5_1.toNat from y0_8); omega); intro v616 w22 ho hb hg hat; rw [← Ny615.out] at ho; have n0_ := Aside0.mk (hb); have n1_ := Aside0.mk (ho); clear HB; clear HO613; have HB := n0_; have HO617 := n1_; clear n0_ n1_; clear ho hb hg hat) | ((with_reducible refine gate_builtin (b := .append) (xs := #[.tmp 32, .tmp 34]) rfl ?_); at_builtin; refine Kd.R_append (Kd.int .i64) (w0 := w) w.heap.size rfl (.tmp 32) (.tmp 34) 24 3 (.int .i64 0) 8 rfl Tryz.underlying24 info3 rfl (by decide) (by omega) v616 y615 a1 [.int .i64 a1] (fun _ => True) (fun _ => False) rfl rfl ?aP (fun _ hk => hk.elim) ?aF ?aO ?aB ?aS ?aL ?_; (case aP => exact rfl); (case aB => exact (bI HB.out)); (case aF => exact (fun _ _ => trivial)); (case aO => exact (rI HO617.out)); (case aS => exact (below_size (bI HB.out))); (case aL => have := LMc15.out; omega); intro v619 w23 ho hb hg hat; rw [← Ny618.out] at ho; have n0_ := Aside0.mk (hb); have n1_ := Aside0.mk (ho); clear HB; clear HO617; have HB := n0_; have HO620 := n1_; clear n0_ n1_; clear ho hb hg hat; obtain ⟨i024, hi024, _, hsz24, _⟩ := info_parts info3; obtain ⟨A24, hcut24, hA24, hC24⟩ := print_drop_of (P := Tryz.prog) (Value.int .i64) 0 24 3 .i64 Tryz.underlying24 hi024 hsz24 (some ad610) c0 l0 x5_1 (of_decide_eq_true y0_18) (of_decide_eq_true y0_18) HC0.out; have HR621 := Aside0.mk (Kd.C_of_reads (h1 := fun _ => rfl) (hA24 _ (Kd.reads_of_C HR0.out))); have HC621 := Aside0.mk hC24; clear hA24 hC24 hi024 hsz24) | ((with_reducible refine gate_builtin (b := .append) (xs := #[.tmp 36, .tmp 39]) rfl ?_); at_builtin; refine Kd.R_append_rows (Kd.int .i64) (w0 := w) w.heap.size rfl (.tmp 36) (.tmp 39) 24 3 (.int .i64 0) 8 rfl Tryz.underlying24 info3 rfl (by decide) (by omega) v619 y618 (l0.drop (x5_1 : Int).toNat) _ _ _ (fun _ => True) (fun _ => False) rfl rfl ?aO ?aR (fun _ _ h => h) (fun _ h => h.elim) ?aF ?aB ?aS ?aL ?_; (case aR => first | exact cE (show (l0.drop (x5_1 : Int).toNat).length = (l0.length - x5_1.toNat) from List.length_drop) (Kd.C_below HR621.out HB.out) | (exact ch HR621 HB)); (case aB => exact (bI HB.out)); (case aF => exact (fun _ _ => trivial)); (case aO => exact (rI HO620.out)); (case aS => exact (below_size (bI HB.out))); (case aL => have := LMc18.out; have hlx_ := (show (l0.drop (x5_1 : Int).toNat).length = (l0.length - x5_1.toNat) from List.length_drop); omega); intro v623 w25 ho hb hg hat; rw [← Ny622.out] at ho; have n0_ := Aside0.mk (hb); have n1_ := Aside0.mk (ho); clear HB; clear HO620; have HB := n0_; have HO624 := n1_; clear n0_ n1_; clear ho hb hg hat))
    go_ret
    exact ⟨_, y0_14, by (with_reducible repeat (first | apply Kd.R_alloc | apply Kd.R_drewN | apply Kd.R_drew)); exact HO624.out, bI HB.out⟩
   rw [if_neg c9] at H
   have c9b0 : decide (x5_1 < (l0.length : Int)) = false := decide_eq_false c9; clear c9; obtain ⟨y625, hy625⟩ : ∃ y_ : List Int, y_ = (([] : List Int)) := ⟨_, rfl⟩
   replace H : (if 0 ≤ x5_1 then (if x5_1 ≤ (l0.length : Int) then (if y625.length + (l0.take (x5_1 : Int).toNat).length < 17592186044416 then ((some (y625 ++ (l0.take (x5_1 : Int).toNat) : List Int)).bind fun y629 => (if y629.length < 17592186044416 then ((some (y629 ++ [a1] : List Int)).bind fun y632 => (if y632.length + (l0.drop (x5_1 : Int).toNat).length < 17592186044416 then (some (y632 ++ (l0.drop (x5_1 : Int).toNat))) else (none))) else (none))) else (none)) else (none)) else (none)) = some r := by first | (rw [hy625]; with_reducible exact H) | (have H2_ := (Option.bind_some _ _).symm.trans H; rw [hy625]; with_reducible exact H2_) | (have H2_ := (Option.bind_some _ _).symm.trans H; with_reducible exact H2_) | with_reducible exact H | (rw [hy625]; exact H) | exact H
   have Ny625 := Aside0.mk hy625; clear hy625
   by_cases c26 : 0 ≤ x5_1
   ·
    rw [if_pos c26] at H
    have c26b0 := eq_true c26; have c26b1 : decide (0 ≤ x5_1) = true := decide_eq_true c26; clear c26
    by_cases c27 : x5_1 ≤ (l0.length : Int)
    rotate_left
    ·
     rw [if_neg c27] at H
     exact absurd H (by simp)
    rw [if_pos c27] at H
    have c27b0 := eq_true c27; have c27b1 : decide (x5_1 ≤ (l0.length : Int)) = true := decide_eq_true c27; clear c27
    by_cases c28 : y625.length + (l0.take (x5_1 : Int).toNat).length < 17592186044416
    rotate_left
    ·
     rw [if_neg c28] at H
     exact absurd H (by simp)
    rw [if_pos c28] at H
    have LMc28 := Aside0.mk c28; clear c28; obtain ⟨y629, hy629⟩ : ∃ y_ : List Int, y_ = (y625 ++ (l0.take (x5_1 : Int).toNat)) := ⟨_, rfl⟩
    replace H : (if y629.length < 17592186044416 then ((some (y629 ++ [a1] : List Int)).bind fun y632 => (if y632.length + (l0.drop (x5_1 : Int).toNat).length < 17592186044416 then (some (y632 ++ (l0.drop (x5_1 : Int).toNat))) else (none))) else (none)) = some r := by first | (rw [hy629]; with_reducible exact H) | (have H2_ := (Option.bind_some _ _).symm.trans H; rw [hy629]; with_reducible exact H2_) | (have H2_ := (Option.bind_some _ _).symm.trans H; with_reducible exact H2_) | with_reducible exact H | (rw [hy629]; exact H) | exact H
    have Ny629 := Aside0.mk hy629; clear hy629
    by_cases c29 : y629.length < 17592186044416
    rotate_left
    ·
     rw [if_neg c29] at H
     exact absurd H (by simp)
    rw [if_pos c29] at H
    have LMc29 := Aside0.mk c29; clear c29; obtain ⟨y632, hy632⟩ : ∃ y_ : List Int, y_ = (y629 ++ [a1]) := ⟨_, rfl⟩
    replace H : (if y632.length + (l0.drop (x5_1 : Int).toNat).length < 17592186044416 then (some (y632 ++ (l0.drop (x5_1 : Int).toNat))) else (none)) = some r := by first | (rw [hy632]; with_reducible exact H) | (have H2_ := (Option.bind_some _ _).symm.trans H; rw [hy632]; with_reducible exact H2_) | (have H2_ := (Option.bind_some _ _).symm.trans H; with_reducible exact H2_) | with_reducible exact H | (rw [hy632]; exact H) | exact H
    have Ny632 := Aside0.mk hy632; clear hy632; have c30b0 := eq_true (of_decide_eq_true y0_18 : 0 ≤ x5_1); have c31b0 := eq_true (of_decide_eq_true y0_18 : x5_1 ≤ (l0.length : Int))
    by_cases c32 : y632.length + (l0.drop (x5_1 : Int).toNat).length < 17592186044416
    rotate_left
    ·
     rw [if_neg c32] at H
     exact absurd H (by simp)
    rw [if_pos c32] at H
    have LMc32 := Aside0.mk c32; clear c32; obtain ⟨y636, hy636⟩ : ∃ y_ : List Int, y_ = (y632 ++ (l0.drop (x5_1 : Int).toNat)) := ⟨_, rfl⟩
    replace H : (some y636) = some r := by first | (rw [hy636]; with_reducible exact H) | (have H2_ := (Option.bind_some _ _).symm.trans H; rw [hy636]; with_reducible exact H2_) | (have H2_ := (Option.bind_some _ _).symm.trans H; with_reducible exact H2_) | with_reducible exact H | (rw [hy636]; exact H) | exact H
    have Ny636 := Aside0.mk hy636; clear hy636; obtain rfl := Option.some.inj H
    go_wp2_with (first | ((with_reducible refine gate_dst (N := 27) rfl ?_); refine Kd.R_lit (Kd.int .i64) _ 3 ?hg (N := 27) ?hd (xs := ([] : List Int)) (inner := []) (ok := fun _ => True) (okp := fun _ => True) ?hr ?hp (fun _ hk => hk) trivial (Below.refl _ _) (Nat.le_refl _) (by simp) ?_; (case hd => rfl); (case hg => rfl); (case hr => first | (go_simp; done) | (go_simp; rfl)); (case hp => exact (Reps.none _ _)); intro v626 w33 ho34 hb hg_ hnew_; clear hg_ hnew_; (first | rw [← Ny625.out] at ho34 | (simp only [Int.reduceToNat] at ho34; rw [← Ny625.out] at ho34)); have HO627 := Aside0.mk (Kd.R_lower ho34 (below_size (bI HB.out))); replace HB := bs HB hb; clear hb ho34; obtain ⟨i035, hi035, _, hsz35, _⟩ := info_parts info3; obtain ⟨hcut35, hA35, hC35⟩ := print_take_of (P := Tryz.prog) (Value.int .i64) 0 24 3 .i64 Tryz.underlying24 hi035 hsz35 A0 c0 l0 x5_1 (of_decide_eq_true y0_18) (of_decide_eq_true y0_18) HC0.out; have HR628 := Aside0.mk (Kd.C_of_reads (h1 := fun _ => rfl) (hA35 _ (Kd.reads_of_C HR0.out))); have HC628 := Aside0.mk hC35; clear hA35 hC35 hi035 hsz35) | ((with_reducible refine gate_builtin (b := .append) (xs := #[.tmp 27, .tmp 30]) rfl ?_); at_builtin; refine Kd.R_append_rows (Kd.int .i64) (w0 := w) w.heap.size rfl (.tmp 27) (.tmp 30) 24 3 (.int .i64 0) 8 rfl Tryz.underlying24 info3 rfl (by decide) (by omega) v626 y625 (l0.take (x5_1 : Int).toNat) _ _ _ (fun _ => True) (fun _ => False) rfl rfl ?aO ?aR (fun _ _ h => h) (fun _ h => h.elim) ?aF ?aB ?aS ?aL ?_; (case aR => first | exact cE (show (l0.take (x5_1 : Int).toNat).length = x5_1.toNat from y0_8) (Kd.C_below HR628.out HB.out) | (exact ch HR628 HB)); (case aB => exact (bI HB.out)); (case aF => exact (fun _ _ => trivial)); (case aO => exact (rI HO627.out)); (case aS => exact (below_size (bI HB.out))); (case aL => have := LMc28.out; have hlx_ := (show (l0.take (x5_1 : Int).toNat).length = x5_1.toNat from y0_8); omega); intro v630 w36 ho hb hg hat; rw [← Ny629.out] at ho; have n0_ := Aside0.mk (hb); have n1_ := Aside0.mk (ho); clear HB; clear HO627; have HB := n0_; have HO631 := n1_; clear n0_ n1_; clear ho hb hg hat) | ((with_reducible refine gate_builtin (b := .append) (xs := #[.tmp 32, .tmp 34]) rfl ?_); at_builtin; refine Kd.R_append (Kd.int .i64) (w0 := w) w.heap.size rfl (.tmp 32) (.tmp 34) 24 3 (.int .i64 0) 8 rfl Tryz.underlying24 info3 rfl (by decide) (by omega) v630 y629 a1 [.int .i64 a1] (fun _ => True) (fun _ => False) rfl rfl ?aP (fun _ hk => hk.elim) ?aF ?aO ?aB ?aS ?aL ?_; (case aP => exact rfl); (case aB => exact (bI HB.out)); (case aF => exact (fun _ _ => trivial)); (case aO => exact (rI HO631.out)); (case aS => exact (below_size (bI HB.out))); (case aL => have := LMc29.out; omega); intro v633 w37 ho hb hg hat; rw [← Ny632.out] at ho; have n0_ := Aside0.mk (hb); have n1_ := Aside0.mk (ho); clear HB; clear HO631; have HB := n0_; have HO634 := n1_; clear n0_ n1_; clear ho hb hg hat; obtain ⟨i038, hi038, _, hsz38, _⟩ := info_parts info3; obtain ⟨A38, hcut38, hA38, hC38⟩ := print_drop_of (P := Tryz.prog) (Value.int .i64) 0 24 3 .i64 Tryz.underlying24 hi038 hsz38 A0 c0 l0 x5_1 (of_decide_eq_true y0_18) (of_decide_eq_true y0_18) HC0.out; have HR635 := Aside0.mk (Kd.C_of_reads (h1 := fun _ => rfl) (hA38 _ (Kd.reads_of_C HR0.out))); have HC635 := Aside0.mk hC38; clear hA38 hC38 hi038 hsz38) | ((with_reducible refine gate_builtin (b := .append) (xs := #[.tmp 36, .tmp 39]) rfl ?_); at_builtin; refine Kd.R_append_rows (Kd.int .i64) (w0 := w) w.heap.size rfl (.tmp 36) (.tmp 39) 24 3 (.int .i64 0) 8 rfl Tryz.underlying24 info3 rfl (by decide) (by omega) v633 y632 (l0.drop (x5_1 : Int).toNat) _ _ _ (fun _ => True) (fun _ => False) rfl rfl ?aO ?aR (fun _ _ h => h) (fun _ h => h.elim) ?aF ?aB ?aS ?aL ?_; (case aR => first | exact cE (show (l0.drop (x5_1 : Int).toNat).length = (l0.length - x5_1.toNat) from List.length_drop) (Kd.C_below HR635.out HB.out) | (exact ch HR635 HB)); (case aB => exact (bI HB.out)); (case aF => exact (fun _ _ => trivial)); (case aO => exact (rI HO634.out)); (case aS => exact (below_size (bI HB.out))); (case aL => have := LMc32.out; have hlx_ := (show (l0.drop (x5_1 : Int).toNat).length = (l0.length - x5_1.toNat) from List.length_drop); omega); intro v637 w39 ho hb hg hat; rw [← Ny636.out] at ho; have n0_ := Aside0.mk (hb); have n1_ := Aside0.mk (ho); clear HB; clear HO634; have HB := n0_; have HO638 := n1_; clear n0_ n1_; clear ho hb hg hat))
    go_ret
    exact ⟨_, y0_14, by (with_reducible repeat (first | apply Kd.R_alloc | apply Kd.R_drewN | apply Kd.R_drew)); exact HO638.out, bI HB.out⟩
   rw [if_neg c26] at H
   exact absurd H (by simp)

/-! ### spec_l6DrawSet: function 125 -/
def spec_l6DrawSet.l0 : Nat → Int → List Int → Int → List Int → Int → Int → Option (List Int × Int × Int)
 | 0, _, _, _, _, _, _ => none
 | k + 1, x1, x5, x6, x1000, x1001, x1002 => (spec_l1Below.f x1000 x1001 x1002 8).bind fun bt642 => (if x6 < bt642.1 then ((spec_l1Below.f x1000 bt642.2.1 bt642.2.2 x1).bind fun bt645 => ((spec_SetAdd.f k x5 bt645.1).bind fun t648 => (spec_l6DrawSet.l0 k x1 t648 (wrap64 (x6 + 1)) x1000 bt645.2.1 bt645.2.2))) else ((spec_l1Once.f x1000 bt642.2.1 bt642.2.2 12).bind fun bt651 => (if bt651.1 = true then ((spec_l1PickInt.f x1000 bt651.2.1 bt651.2.2 (([(-1), 0, 3, 9] : List Int))).bind fun bt657 => (if x5.length < 17592186044416 then (some ((x5 ++ [bt657.1]), bt657.2.1, bt657.2.2)) else (none))) else (some (x5, bt651.2.1, bt651.2.2)))))
def spec_l6DrawSet.f (k : Nat) (s0_0 : List Int) (s0_1 : Int) (s0_2 : Int) (a1 : Int) : Option (List Int × Int × Int) := spec_l6DrawSet.l0 k a1 (([] : List Int)) 0 s0_0 s0_1 s0_2
theorem spec_l6DrawSet.mono_l : ∀ k, (∀ y0 y1 y2 y3 y4 y5, LeO (spec_l6DrawSet.l0 k y0 y1 y2 y3 y4 y5) (spec_l6DrawSet.l0 (k + 1) y0 y1 y2 y3 y4 y5))
 | 0 => fun _ _ _ _ _ _ r h => by simp [spec_l6DrawSet.l0] at h
 | k + 1 => by
  have ih0 := spec_l6DrawSet.mono_l k
  intro y0 y1 y2 y3 y4 y5
  unfold spec_l6DrawSet.l0
  repeat' first | (with_reducible exact ih0 _ _ _ _ _ _) | (with_reducible exact spec_SetAdd.mono _ _ _) | (with_reducible exact LeO.refl _) | (with_reducible exact LeO.none _) | (with_reducible refine LeO.ite ?_ ?_) | (with_reducible refine LeO.bind ?_ (fun _ => ?_))
theorem spec_l6DrawSet.mono : ∀ a0 a1 a2 a3 k, LeO (spec_l6DrawSet.f k a0 a1 a2 a3) (spec_l6DrawSet.f (k + 1) a0 a1 a2 a3) := by
 intro a0 a1 a2 a3 k
 have ih0 := spec_l6DrawSet.mono_l k
 unfold spec_l6DrawSet.f
 repeat' first | (with_reducible exact ih0 _ _ _ _ _ _) | (with_reducible exact spec_SetAdd.mono _ _ _) | (with_reducible exact LeO.refl _) | (with_reducible exact LeO.none _) | (with_reducible refine LeO.ite ?_ ?_) | (with_reducible refine LeO.bind ?_ (fun _ => ?_))
set_option maxHeartbeats 8000000 in
set_option maxRecDepth 100000 in
theorem spec_l6DrawSet.calls (k : Nat) (g : Nat) (s0_0 : List Int) (s0_1 : Int) (s0_2 : Int) (a1 : Int) (r1 : List Int) (r2 : Int) (r3 : Int) (w0 w : World) (hI : IsS124 w0 w g s0_0 s0_1 s0_2) (hB : Below w0.heap.size w0 w) (h : spec_l6DrawSet.f k s0_0 s0_1 s0_2 a1 = some (r1, r2, r3)) :
  Calls Tryz.prog 125 #[.pointer (some ⟨g, 0, none⟩), .int .i64 a1] w fun e w' => ∃ v0_ : Value, e = .returned (v0_) ∧ Kd.R (Kd.int .i64) 3 w' w.heap.size (fun _ => True) v0_ r1 ∧ IsS124 w0 w' g s0_0 r2 r3 ∧ Below w0.heap.size w0 w' ∧ KeepBut w w' g none := by
 have HI0 := Aside0.mk hI; have HK := Aside0.mk (KeepBut.refl w g none); have HL := Aside0.mk hB.size; clear hI; have HW0 := Aside0.mk hB.size; have HB := Aside0.mk hB; clear hB; have H : (spec_l6DrawSet.l0 k a1 (([] : List Int)) 0 s0_0 s0_1 s0_2) = some (r1, r2, r3) := h; clear h; obtain ⟨y639, hy639⟩ : ∃ y_ : List Int, y_ = (([] : List Int)) := ⟨_, rfl⟩
 replace H : (spec_l6DrawSet.l0 k a1 y639 0 s0_0 s0_1 s0_2) = some (r1, r2, r3) := by first | (rw [hy639]; with_reducible exact H) | (have H2_ := (Option.bind_some _ _).symm.trans H; rw [hy639]; with_reducible exact H2_) | (have H2_ := (Option.bind_some _ _).symm.trans H; with_reducible exact H2_) | with_reducible exact H | (rw [hy639]; exact H) | exact H
 have Ny639 := Aside0.mk hy639; clear hy639; have H' := Aside0.mk H; clear H
 go_enter Tryz.func125, Tryz.ntmps125
 go_wp2_with (first | ((with_reducible refine gate_dst (N := 7) rfl ?_); refine Kd.R_lit (Kd.int .i64) _ 3 ?hg (N := 7) ?hd (xs := ([] : List Int)) (inner := []) (ok := fun _ => True) (okp := fun _ => True) ?hr ?hp (fun _ hk => hk) trivial (Below.refl _ _) (Nat.le_refl _) (by simp) ?_; (case hd => rfl); (case hg => rfl); (case hr => first | (go_simp; done) | (go_simp; rfl)); (case hp => exact (Reps.none _ _)); intro v640 w3 ho4 hb hg_ hnew_; clear hg_ hnew_; (first | rw [← Ny639.out] at ho4 | (simp only [Int.reduceToNat] at ho4; rw [← Ny639.out] at ho4)); have HO641 := Aside0.mk (Kd.R_lower ho4 (keep_size (w := w) (g := g) (row := none) (hI HK.out))); replace HK := kb HK hb; replace HB : Aside0 (Below w0.heap.size w0 _) := Aside0.mk (below_step y0_7 hb); replace HI0 := Aside0.mk (IsS124.below y0_6 hb); clear hb ho4))
 go_loopg [5, 6] k (fun kq v5 v6 w' => ∃ (x5_1 : List Int) (x6_1 : Int) (x1001_1 : Int) (x1002_1 : Int), v6 = .int .i64 x6_1 ∧ Aside0 (spec_l6DrawSet.l0 kq a1 x5_1 x6_1 s0_0 x1001_1 x1002_1 = some (r1, r2, r3)) ∧ Aside0 (kq ≤ k) ∧ Aside0 (Kd.R (Kd.int .i64) 3 w' w.heap.size (fun _ => True) v5 x5_1) ∧ Aside0 (IsS124 w0 w' g s0_0 x1001_1 x1002_1) ∧ Aside0 (KeepBut w w' g none) ∧ Aside0 (Below w0.heap.size w0 w'))
 case atStart => exact ⟨(y639), (0), (s0_1), (s0_2), y0_19, H', ⟨Nat.le_refl _⟩, ⟨by (with_reducible repeat (first | apply Kd.R_alloc | apply Kd.R_drewN | apply Kd.R_drew)); exact HO641.out⟩, ⟨y0_6⟩, ⟨hI HK.out⟩, ⟨y0_7⟩⟩
 case round =>
  clear H'
  try clear c1
  try clear p2
  obtain ⟨x5_1, x6_1, x1001_1, x1002_1, rfl, HA, HK1, HO_5, HI0, HK, HB⟩ := hrel; cases gk with
  | zero => exact absurd HA.out (by simp [spec_l6DrawSet.l0])
  | succ k1 =>
   have H := HA.out; clear HA
   simp only [spec_l6DrawSet.l0] at H
   obtain ⟨⟨t642, t643, t644⟩, A50, H⟩ := Option.bind_eq_some_iff.mp H
   try dsimp only at H
   have A5 := Aside0.mk A50; clear A50
   by_cases c6 : x6_1 < t642
   ·
    rw [if_pos c6] at H
    have c6b0 : decide (x6_1 < t642) = true := decide_eq_true c6; clear c6; obtain ⟨⟨t645, t646, t647⟩, A70, H⟩ := Option.bind_eq_some_iff.mp H
    try dsimp only at H
    have A7 := Aside0.mk A70; clear A70; obtain ⟨t648, A80, H⟩ := Option.bind_eq_some_iff.mp H
    try dsimp only at H
    have A8 := Aside0.mk A80; clear A80; have H' := Aside0.mk H; clear H
    go_wp2_with (first | ((with_reducible refine gate_callee (f := 114) rfl ?_); refine gB (some 10) Tryz.func114 #[.pointer (some ⟨g, 0, none⟩), .int .i64 8] ?_; (with_reducible refine (spec_l1Below.calls g s0_0 x1001_1 x1002_1 8 t642 t643 t644 w0 _ ?side1 ?side2 A5.out).mono ?_); (case side1 => repeat (first | (with_reducible first | exact HI0.out | apply IsS124.alloc | apply IsS124.drewN | apply IsS124.drew | apply IsS124.set_1 | apply IsS124.set_2) | exact HI0.out)); (case side2 => repeat (first | (with_reducible first | exact HB.out | apply below_alloc | apply pw_below_drewN | apply below_drew1 | refine below_set ?_ (IsS124.ge HI0.out)) | exact HB.out)); rintro e w9 ⟨rfl, hi, hb, hk⟩; refine ⟨_, rfl, ?_⟩; replace HO_5 := Aside0.mk (Kd.R_mono (Kd.R_keep (IsS124.apart (show IsS124 w0 _ g s0_0 x1001_1 x1002_1 from y0_6) (rI HO_5.out) (by decide)) hk (fun _ h => h.2)) (fun _ h => h.1)); replace HK := kt HK hk; replace HB := Aside0.mk (hb); replace HI0 := Aside0.mk (hi); (try clear hb); (try clear hb2); (try clear hk); (try clear hi)) | ((with_reducible refine gate_callee (f := 114) rfl ?_); refine gB (some 17) Tryz.func114 #[.pointer (some ⟨g, 0, none⟩), .int .i64 a1] ?_; (with_reducible refine (spec_l1Below.calls g s0_0 t643 t644 a1 t645 t646 t647 w0 _ ?side1 ?side2 A7.out).mono ?_); (case side1 => repeat (first | (with_reducible first | exact HI0.out | apply IsS124.alloc | apply IsS124.drewN | apply IsS124.drew | apply IsS124.set_1 | apply IsS124.set_2) | exact HI0.out)); (case side2 => repeat (first | (with_reducible first | exact HB.out | apply below_alloc | apply pw_below_drewN | apply below_drew1 | refine below_set ?_ (IsS124.ge HI0.out)) | exact HB.out)); rintro e w10 ⟨rfl, hi, hb, hk⟩; refine ⟨_, rfl, ?_⟩; replace HO_5 := Aside0.mk (Kd.R_mono (Kd.R_keep (IsS124.apart (show IsS124 w0 _ g s0_0 t643 t644 from y0_6) (rI HO_5.out) (by decide)) hk (fun _ h => h.2)) (fun _ h => h.1)); replace HK := kt HK hk; replace HB := Aside0.mk (hb); replace HI0 := Aside0.mk (hi); (try clear hb); (try clear hb2); (try clear hk); (try clear hi); obtain ⟨Ao11, co11, eo11⟩ := Kd.R_slice HO_5.out; subst eo11) | ((with_reducible refine gate_callee (f := 144) rfl ?_); refine gB (some 18) Tryz.func144 #[.slice Ao11 x5_1.length co11, .int .i64 t645] ?_; (with_reducible refine (spec_SetAdd.calls k1 _ _ x5_1 t645 t648 _ ?side1 ?side2 A8.out).mono ?_); (case side1 => repeat (first | exact (Kd.R_reads' HO_5.out).2.2 | (with_reducible refine Kd.C_alloc ?_ _) | (with_reducible refine Kd.C_drewN ?_ _) | (with_reducible refine Kd.C_drew ?_))); (case side2 => exact (Kd.R_reads' HO_5.out).2.1); rintro e w12 ⟨v649, rfl, ho0, hb⟩; refine ⟨_, rfl, ?_⟩; have HO650 := Aside0.mk (Kd.R_lower (Kd.R_new' ho0 (Kd.R_lt (rI HO_5.out))) (keep_size (w := w) (g := g) (row := none) (hI HK.out))); replace HO_5 := Aside0.mk (Kd.R_elder' (rI HO_5.out) (Kd.R_base ho0) hb); replace HK := kb HK hb; replace HB : Aside0 (Below w0.heap.size w0 _) := Aside0.mk (below_step y0_7 hb); replace HI0 := Aside0.mk (IsS124.below y0_6 hb); (try clear hb); (try clear hk); (try clear hi)))
    go_roundg k1
    case measure => have := HK1.out; omega
    case rel => exact ⟨(t648), (wrap64 (x6_1 + 1)), (t646), (t647), y0_19, H', ⟨y0_21⟩, ⟨by (with_reducible repeat (first | apply Kd.R_alloc | apply Kd.R_drewN | apply Kd.R_drew)); exact Kd.R_mono HO650.out (fun _ hk => trivial)⟩, ⟨y0_6⟩, ⟨hI HK.out⟩, ⟨y0_7⟩⟩
   rw [if_neg c6] at H
   have c6b0 : decide (x6_1 < t642) = false := decide_eq_false c6; clear c6; obtain ⟨⟨t651, t652, t653⟩, A130, H⟩ := Option.bind_eq_some_iff.mp H
   try dsimp only at H
   have A13 := Aside0.mk A130; clear A130
   by_cases c14 : t651 = true
   ·
    subst c14
    rw [if_pos rfl] at H
    obtain ⟨y654, hy654⟩ : ∃ y_ : List Int, y_ = (([(-1), 0, 3, 9] : List Int)) := ⟨_, rfl⟩
    replace H : ((spec_l1PickInt.f s0_0 t652 t653 y654).bind fun bt657 => (if x5_1.length < 17592186044416 then (some ((x5_1 ++ [bt657.1]), bt657.2.1, bt657.2.2)) else (none))) = some (r1, r2, r3) := by first | (rw [hy654]; with_reducible exact H) | (have H2_ := (Option.bind_some _ _).symm.trans H; rw [hy654]; with_reducible exact H2_) | (have H2_ := (Option.bind_some _ _).symm.trans H; with_reducible exact H2_) | with_reducible exact H | (rw [hy654]; exact H) | exact H
    have Ny654 := Aside0.mk hy654; clear hy654; obtain ⟨⟨t657, t658, t659⟩, A150, H⟩ := Option.bind_eq_some_iff.mp H
    try dsimp only at H
    have A15 := Aside0.mk A150; clear A150
    by_cases c16 : x5_1.length < 17592186044416
    rotate_left
    ·
     rw [if_neg c16] at H
     exact absurd H (by simp)
    rw [if_pos c16] at H
    have LMc16 := Aside0.mk c16; clear c16; obtain ⟨y660, hy660⟩ : ∃ y_ : List Int, y_ = (x5_1 ++ [t657]) := ⟨_, rfl⟩
    replace H : (some (y660, t658, t659)) = some (r1, r2, r3) := by first | (rw [hy660]; with_reducible exact H) | (have H2_ := (Option.bind_some _ _).symm.trans H; rw [hy660]; with_reducible exact H2_) | (have H2_ := (Option.bind_some _ _).symm.trans H; with_reducible exact H2_) | with_reducible exact H | (rw [hy660]; exact H) | exact H
    have Ny660 := Aside0.mk hy660; clear hy660
    simp only [Option.some.injEq, Prod.mk.injEq] at H
    obtain ⟨rfl, rfl, rfl⟩ := H
    go_wp2_with (first | ((with_reducible refine gate_callee (f := 114) rfl ?_); refine gB (some 10) Tryz.func114 #[.pointer (some ⟨g, 0, none⟩), .int .i64 8] ?_; (with_reducible refine (spec_l1Below.calls g s0_0 x1001_1 x1002_1 8 t642 t643 t644 w0 _ ?side1 ?side2 A5.out).mono ?_); (case side1 => repeat (first | (with_reducible first | exact HI0.out | apply IsS124.alloc | apply IsS124.drewN | apply IsS124.drew | apply IsS124.set_1 | apply IsS124.set_2) | exact HI0.out)); (case side2 => repeat (first | (with_reducible first | exact HB.out | apply below_alloc | apply pw_below_drewN | apply below_drew1 | refine below_set ?_ (IsS124.ge HI0.out)) | exact HB.out)); rintro e w17 ⟨rfl, hi, hb, hk⟩; refine ⟨_, rfl, ?_⟩; replace HO_5 := Aside0.mk (Kd.R_mono (Kd.R_keep (IsS124.apart (show IsS124 w0 _ g s0_0 x1001_1 x1002_1 from y0_6) (rI HO_5.out) (by decide)) hk (fun _ h => h.2)) (fun _ h => h.1)); replace HK := kt HK hk; replace HB := Aside0.mk (hb); replace HI0 := Aside0.mk (hi); (try clear hb); (try clear hb2); (try clear hk); (try clear hi)) | ((with_reducible refine gate_callee (f := 93) rfl ?_); refine gB (some 20) Tryz.func93 #[.pointer (some ⟨g, 0, none⟩), .int .i64 12] ?_; (with_reducible refine (spec_l1Once.calls g s0_0 t643 t644 12 true t652 t653 w0 _ ?side1 ?side2 A13.out).mono ?_); (case side1 => repeat (first | (with_reducible first | exact HI0.out | apply IsS124.alloc | apply IsS124.drewN | apply IsS124.drew | apply IsS124.set_1 | apply IsS124.set_2) | exact HI0.out)); (case side2 => repeat (first | (with_reducible first | exact HB.out | apply below_alloc | apply pw_below_drewN | apply below_drew1 | refine below_set ?_ (IsS124.ge HI0.out)) | exact HB.out)); rintro e w18 ⟨rfl, hi, hb, hk⟩; refine ⟨_, rfl, ?_⟩; replace HO_5 := Aside0.mk (Kd.R_mono (Kd.R_keep (IsS124.apart (show IsS124 w0 _ g s0_0 t643 t644 from y0_6) (rI HO_5.out) (by decide)) hk (fun _ h => h.2)) (fun _ h => h.1)); replace HK := kt HK hk; replace HB := Aside0.mk (hb); replace HI0 := Aside0.mk (hi); (try clear hb); (try clear hb2); (try clear hk); (try clear hi)) | ((with_reducible refine gate_dst (N := 23) rfl ?_); refine Kd.R_lit (Kd.int .i64) _ 3 ?hg (N := 23) ?hd (xs := ([(-1), 0, 3, 9] : List Int)) (inner := [.int .i64 (-1), .int .i64 0, .int .i64 3, .int .i64 9]) (ok := fun _ => True) (okp := fun _ => True) ?hr ?hp (fun _ hk => hk) trivial (Below.refl _ _) (Nat.le_refl _) (by simp) ?_; (case hd => rfl); (case hg => rfl); (case hr => first | (go_simp; done) | (go_simp; rfl)); (case hp => exact (Reps.one (show Kd.M (Kd.int .i64) _ _ _ (-1) [.int .i64 (-1)] from rfl) (Reps.one (show Kd.M (Kd.int .i64) _ _ _ 0 [.int .i64 0] from rfl) (Reps.one (show Kd.M (Kd.int .i64) _ _ _ 3 [.int .i64 3] from rfl) (Reps.one (show Kd.M (Kd.int .i64) _ _ _ 9 [.int .i64 9] from rfl) (Reps.none _ _)))))); intro v655 w19 ho20 hb hg_ hnew_; clear hg_ hnew_; (first | rw [← Ny654.out] at ho20 | (simp only [Int.reduceToNat] at ho20; rw [← Ny654.out] at ho20)); have HO656 := Aside0.mk (Kd.R_lower (Kd.R_new' ho20 (Kd.R_lt (rI HO_5.out))) (keep_size (w := w) (g := g) (row := none) (hI HK.out))); replace HO_5 := Aside0.mk (Kd.R_elder' (rI HO_5.out) (Kd.R_base ho20) hb); replace HK := kb HK hb; replace HB : Aside0 (Below w0.heap.size w0 _) := Aside0.mk (below_step y0_7 hb); replace HI0 := Aside0.mk (IsS124.below y0_6 hb); clear hb ho20; obtain ⟨Ao21, co21, eo21⟩ := Kd.R_slice HO656.out; subst eo21) | ((with_reducible refine gate_callee (f := 116) rfl ?_); refine gB (some 24) Tryz.func116 #[.pointer (some ⟨g, 0, none⟩), .slice Ao21 y654.length co21] ?_; (with_reducible refine (spec_l1PickInt.calls g s0_0 t652 t653 _ _ y654 t657 t658 t659 w0 _ ?side1 ?side2 ?side3 ?side4 ?side5 A15.out).mono ?_); (case side1 => repeat (first | (with_reducible first | exact HI0.out | apply IsS124.alloc | apply IsS124.drewN | apply IsS124.drew | apply IsS124.set_1 | apply IsS124.set_2) | exact HI0.out)); (case side2 => repeat (first | (with_reducible first | exact HB.out | apply below_alloc | apply pw_below_drewN | apply below_drew1 | refine below_set ?_ (IsS124.ge HI0.out)) | exact HB.out)); (case side3 => repeat (first | exact (Kd.R_reads' HO656.out).2.2 | (with_reducible refine Kd.C_alloc ?_ _) | (with_reducible refine Kd.C_drewN ?_ _) | (with_reducible refine Kd.C_drew ?_))); (case side4 => exact (Kd.R_reads' HO656.out).2.1); (case side5 => exact far_slice (IsS124.own_ne HI0.out HO656.out (by decide))); rintro e w22 ⟨rfl, hi, hb, hk⟩; refine ⟨_, rfl, ?_⟩; replace HO_5 := Aside0.mk (Kd.R_mono (Kd.R_keep (IsS124.apart (show IsS124 w0 _ g s0_0 t652 t653 from y0_6) (rI HO_5.out) (by decide)) hk (fun _ h => h.2)) (fun _ h => h.1)); replace HO656 := Aside0.mk (Kd.R_mono (Kd.R_keep (IsS124.apart (show IsS124 w0 _ g s0_0 t652 t653 from y0_6) (rI HO656.out) (by decide)) hk (fun _ h => h.2)) (fun _ h => h.1)); replace HK := kt HK hk; replace HB := Aside0.mk (hb); replace HI0 := Aside0.mk (hi); (try clear hb); (try clear hb2); (try clear hk); (try clear hi)) | ((with_reducible refine gate_builtin (b := .append) (xs := #[.tmp 21, .tmp 25]) rfl ?_); at_builtin; refine Kd.R_append (Kd.int .i64) w.heap.size rfl (.tmp 21) (.tmp 25) 24 3 (.int .i64 0) 8 rfl Tryz.underlying24 info3 rfl (by decide) (by omega) u5 x5_1 t657 [.int .i64 t657] (fun k_ => some k_ ≠ (.slice Ao21 y654.length co21 : Value).ownBlock) (fun _ => False) rfl rfl ?aP (fun _ hk => hk.elim) ?aF ?aO (Below.refl _ _) ?aS ?aL ?_; (case aP => exact rfl); (case aF => exact (fun k_ hk => Kd.fresh' (Kd.R_lt (rI HO656.out)) k_ hk)); (case aO => exact (rI (Kd.R_mono HO_5.out (fun _ hk => hk.2)))); (case aS => exact (keep_size (w := w) (g := g) (row := none) (hI HK.out))); (case aL => have := LMc16.out; omega); intro v661 w23 ho hb hg hat; rw [← Ny660.out] at ho; have n0_ := Aside0.mk (IsS124.grown y0_6 hg (IsS124.own_ne HI0.out HO_5.out (by decide))); have n1_ := Aside0.mk (Kd.R_after (ok := (fun _ => True)) (rI HO656.out) hg hat); have n2_ := Aside0.mk (below_weaken y0_7 HL.out hb); have n3_ := Aside0.mk (KeepBut.trans (hI HK.out) (KeepBut.of_grown hg g) (Kd.R_base2 HO_5.out)); have n4_ := Aside0.mk (ho); clear HI0; clear HO656; clear HB; clear HK; clear HO_5; have HI0 := n0_; have HO656 := n1_; have HB := n2_; have HK := n3_; have HO662 := n4_; clear n0_ n1_ n2_ n3_ n4_; clear ho hb hg hat))
    go_ret
    exact ⟨_, y0_14, by (with_reducible repeat (first | apply Kd.R_alloc | apply Kd.R_drewN | apply Kd.R_drew)); exact Kd.R_mono HO662.out (fun _ hk => trivial), y0_6, y0_7, hI HK.out⟩
   replace c14 := Bool.eq_false_iff.mpr c14; subst c14
   rw [if_neg (show ¬ (false = true) by decide)] at H
   simp only [Option.some.injEq, Prod.mk.injEq] at H
   obtain ⟨rfl, rfl, rfl⟩ := H
   go_wp2_with (first | ((with_reducible refine gate_callee (f := 114) rfl ?_); refine gB (some 10) Tryz.func114 #[.pointer (some ⟨g, 0, none⟩), .int .i64 8] ?_; (with_reducible refine (spec_l1Below.calls g s0_0 x1001_1 x1002_1 8 t642 t643 t644 w0 _ ?side1 ?side2 A5.out).mono ?_); (case side1 => repeat (first | (with_reducible first | exact HI0.out | apply IsS124.alloc | apply IsS124.drewN | apply IsS124.drew | apply IsS124.set_1 | apply IsS124.set_2) | exact HI0.out)); (case side2 => repeat (first | (with_reducible first | exact HB.out | apply below_alloc | apply pw_below_drewN | apply below_drew1 | refine below_set ?_ (IsS124.ge HI0.out)) | exact HB.out)); rintro e w24 ⟨rfl, hi, hb, hk⟩; refine ⟨_, rfl, ?_⟩; replace HO_5 := Aside0.mk (Kd.R_mono (Kd.R_keep (IsS124.apart (show IsS124 w0 _ g s0_0 x1001_1 x1002_1 from y0_6) (rI HO_5.out) (by decide)) hk (fun _ h => h.2)) (fun _ h => h.1)); replace HK := kt HK hk; replace HB := Aside0.mk (hb); replace HI0 := Aside0.mk (hi); (try clear hb); (try clear hb2); (try clear hk); (try clear hi)) | ((with_reducible refine gate_callee (f := 93) rfl ?_); refine gB (some 20) Tryz.func93 #[.pointer (some ⟨g, 0, none⟩), .int .i64 12] ?_; (with_reducible refine (spec_l1Once.calls g s0_0 t643 t644 12 false t652 t653 w0 _ ?side1 ?side2 A13.out).mono ?_); (case side1 => repeat (first | (with_reducible first | exact HI0.out | apply IsS124.alloc | apply IsS124.drewN | apply IsS124.drew | apply IsS124.set_1 | apply IsS124.set_2) | exact HI0.out)); (case side2 => repeat (first | (with_reducible first | exact HB.out | apply below_alloc | apply pw_below_drewN | apply below_drew1 | refine below_set ?_ (IsS124.ge HI0.out)) | exact HB.out)); rintro e w25 ⟨rfl, hi, hb, hk⟩; refine ⟨_, rfl, ?_⟩; replace HO_5 := Aside0.mk (Kd.R_mono (Kd.R_keep (IsS124.apart (show IsS124 w0 _ g s0_0 t643 t644 from y0_6) (rI HO_5.out) (by decide)) hk (fun _ h => h.2)) (fun _ h => h.1)); replace HK := kt HK hk; replace HB := Aside0.mk (hb); replace HI0 := Aside0.mk (hi); (try clear hb); (try clear hb2); (try clear hk); (try clear hi)))
   go_ret
   exact ⟨_, y0_14, y0_12, y0_6, y0_7, hI HK.out⟩

/-! ### spec_l7Draw: function 91 -/
def spec_l7Draw.f (k : Nat) (s0_0 : List Int) (s0_1 : Int) (s0_2 : Int) (a1_0 : Int) (a1_1 : Int) : Option (Int × ByteArray × List Int × Int × Int) := (spec_l5DrawRight.f k s0_0 s0_1 s0_2).bind fun bt665 => ((spec_l7DrawOf.f k s0_0 bt665.2.1 bt665.2.2 a1_0 a1_1 bt665.1).bind fun bt668 => ((spec_l1Below.f s0_0 bt668.2.2.2.1 bt668.2.2.2.2 12).bind fun bt676 => (if bt676.1 = 0 then (some (wrap64 (bt668.1 + 1), bt668.2.1, bt668.2.2.1, bt676.2.1, bt676.2.2)) else (if bt676.1 = 1 then ((spec_l6DrawSet.f k s0_0 bt676.2.1 bt676.2.2 7).bind fun bt679 => (some (bt668.1, bt668.2.1, bt679.1, bt679.2.1, bt679.2.2))) else (if bt676.1 = 2 then ((spec_l5Draw.f k s0_0 bt676.2.1 bt676.2.2).bind fun bt684 => (some (bt668.1, bt684.1, bt668.2.2.1, bt684.2.1, bt684.2.2))) else (some (bt668.1, bt668.2.1, bt668.2.2.1, bt676.2.1, bt676.2.2)))))))
theorem spec_l7Draw.mono : ∀ a0 a1 a2 a3 a4 k, LeO (spec_l7Draw.f k a0 a1 a2 a3 a4) (spec_l7Draw.f (k + 1) a0 a1 a2 a3 a4) := by
 intro a0 a1 a2 a3 a4 k
 unfold spec_l7Draw.f
 repeat' first | (with_reducible exact spec_l5Draw.mono _ _ _ _) | (with_reducible exact spec_l5DrawRight.mono _ _ _ _) | (with_reducible exact spec_l6DrawSet.mono _ _ _ _ _) | (with_reducible exact spec_l7DrawOf.mono _ _ _ _ _ _ _) | (with_reducible exact LeO.refl _) | (with_reducible exact LeO.none _) | (with_reducible refine LeO.ite ?_ ?_) | (with_reducible refine LeO.bind ?_ (fun _ => ?_))
def spec_l7Draw.T1 : Bool × List (List Nat × List Nat) := (true, [([], []), ([], []), ([], []), ([2], [2]), ([0, 1, 3, 3], [0, 1, 3]), ([], []), ([5, 4, 4, 0, 1, 2, 3, 4, 5], [4, 5])])
def spec_l7Draw.B1 : List Nat := [0, 0, 0, 4, 15, 0, 63]
theorem spec_l7Draw.tab1 : rtab .any (opsOf Tryz.f91 1) = spec_l7Draw.T1 := by kernel_rfl
theorem spec_l7Draw.bits1 : waitsOk spec_l7Draw.T1.2 spec_l7Draw.B1 = true := by kernel_rfl
set_option maxHeartbeats 8000000 in
set_option maxRecDepth 100000 in
theorem spec_l7Draw.calls (k : Nat) (g : Nat) (s0_0 : List Int) (s0_1 : Int) (s0_2 : Int) (a1_0 : Int) (a1_1 : Int) (r1 : Int) (r2 : ByteArray) (r3 : List Int) (r4 : Int) (r5 : Int) (w0 w : World) (hI : IsS124 w0 w g s0_0 s0_1 s0_2) (hB : Below w0.heap.size w0 w) (h : spec_l7Draw.f k s0_0 s0_1 s0_2 a1_0 a1_1 = some (r1, r2, r3, r4, r5)) :
  Calls Tryz.prog 91 #[.pointer (some ⟨g, 0, none⟩), .agg #[.int .i64 a1_0, .int .i64 a1_1]] w fun e w' => ∃ v2_ : Value, e = .returned (.agg #[.int .i64 r1, .string r2, v2_]) ∧ Kd.R (Kd.int .i64) 3 w' w.heap.size (fun _ => True) v2_ r3 ∧ IsS124 w0 w' g s0_0 r4 r5 ∧ Below w0.heap.size w0 w' ∧ KeepBut w w' g none := by
 have hu38 := Tryz.underlying38; have hu33 := Tryz.underlying33; have HI0 := Aside0.mk hI; have HK := Aside0.mk (KeepBut.refl w g none); have HL := Aside0.mk hB.size; clear hI; have HW0 := Aside0.mk hB.size; have HB := Aside0.mk hB; clear hB
 have H : ((spec_l5DrawRight.f k s0_0 s0_1 s0_2).bind fun bt665 => ((spec_l7DrawOf.f k s0_0 bt665.2.1 bt665.2.2 a1_0 a1_1 bt665.1).bind fun bt668 => ((spec_l1Below.f s0_0 bt668.2.2.2.1 bt668.2.2.2.2 12).bind fun bt676 => (if bt676.1 = 0 then (some (wrap64 (bt668.1 + 1), bt668.2.1, bt668.2.2.1, bt676.2.1, bt676.2.2)) else (if bt676.1 = 1 then ((spec_l6DrawSet.f k s0_0 bt676.2.1 bt676.2.2 7).bind fun bt679 => (some (bt668.1, bt668.2.1, bt679.1, bt679.2.1, bt679.2.2))) else (if bt676.1 = 2 then ((spec_l5Draw.f k s0_0 bt676.2.1 bt676.2.2).bind fun bt684 => (some (bt668.1, bt684.1, bt668.2.2.1, bt684.2.1, bt684.2.2))) else (some (bt668.1, bt668.2.1, bt668.2.2.1, bt676.2.1, bt676.2.2)))))))) = some (r1, r2, r3, r4, r5) := h
 clear h; obtain ⟨⟨t665, t666, t667⟩, A30, H⟩ := Option.bind_eq_some_iff.mp H
 try dsimp only at H
 have A3 := Aside0.mk A30; clear A30; obtain ⟨⟨t668, t669, t670, t673, t674⟩, A40, H⟩ := Option.bind_eq_some_iff.mp H
 try dsimp only at H
 have A4 := Aside0.mk A40; clear A40; obtain ⟨⟨t676, t677, t678⟩, A50, H⟩ := Option.bind_eq_some_iff.mp H
 try dsimp only at H
 have A5 := Aside0.mk A50; clear A50
 by_cases c6 : t676 = 0
 ·
  rw [if_pos c6] at H
  have c6b0 : (t676 == 0) = true := beq_iff_eq.mpr c6; have c6b1 : (t676 != 0) = false := bne_eq_false_iff_eq.mpr c6; clear c6
  simp only [Option.some.injEq, Prod.mk.injEq] at H
  obtain ⟨rfl, rfl, rfl, rfl, rfl⟩ := H; have i0_ := iB124 HI0; have i1_ : LB w0 w := ⟨HB.out⟩
  go_enter Tryz.func91, Tryz.ntmps91
  try go_wp2_with (first | ((with_reducible refine gd 3 ?_); refine bL 3 #[.int .i64 a1_0, .int .i64 a1_1] 38 ?_; intro gb663 w7 _ _ _) | ((with_reducible refine gd 4 ?_); refine bL 4 #[.int .i64 0, .string (⟨#[]⟩ : ByteArray), .slice none 0 0] 33 ?_; intro gb664 w8 _ _ _))
  refine sB [g] spec_l7Draw.tab1 spec_l7Draw.bits1 ?_; intro w9 _ HT_ HW_
  refine pA 0 (some 6) (bz 7 1) HT_ ?_
  refine tB 1 (some 7) (bz 7 3) HT_ HW_ ?_
  refine pA 2 (some 8) (bz 7 7) HT_ ?_
  refine join_ (σ := Option Addr × Nat × Nat) 1 (bz 7 63) (fun s_ => [(9, .string t665), (10, .agg #[.int .i64 t668, .string t669, .slice s_.1 t670.length s_.2.1]), (5, .pointer (some ⟨s_.2.2, 0, none⟩))]) (fun s_ w' => Aside0 (Kd.R (Kd.int .i64) 3 w' w9.heap.size (iv w9 w') (.slice s_.1 t670.length s_.2.1) t670) ∧ BkI (s_.2.2) w' #[.int .i64 0, .string (⟨#[]⟩ : ByteArray), .slice none 0 0] 33 ∧ BornI (s_.2.2) w9 ∧ StB g w' 124 ∧ Aside0 (IsS124 w0 w' g s0_0 t673 t674) ∧ KL w9 [g] w' ∧ LB w0 w' ∧ KS w g w') ?_ ?_
  rotate_left
  ·
   intro hCont
   refine o2 3 5 (some 9) (some 5) (bz 7 15) (bz 7 39) HT_ rfl rfl (kK Tryz.func124 (spec_l5DrawRight.calls (hI := iS124 HI0) (hB := UpW.out) (w := _) (h := A3.out)) ?_) (kB #[.int .i64 0, .string (⟨#[]⟩ : ByteArray), .slice none 0 0] 33 ?_)
   ·
    intro w10 _ _ _ HI11
    refine nA (some 9) ?_
    refine o2 4 5 (some 10) (some 5) (bz 7 31) (bz 7 47) HT_ rfl rfl (kK1 Tryz.func123 (spec_l7DrawOf.calls (hI := iS124 HI11) (hB := UpW.out) (w := _) (h := A4.out)) ?_) (kB #[.int .i64 0, .string (⟨#[]⟩ : ByteArray), .slice none 0 0] 33 ?_)
    ·
     intro Ao671 co671 w13 _ _ _ HI14 HO672
     refine nA (some 10) ?_
     refine o1 5 (some 5) (bz 7 63) HT_ rfl (kB #[.int .i64 0, .string (⟨#[]⟩ : ByteArray), .slice none 0 0] 33 ?_); intro gb675 w16 _ _ _
     refine nA (some 5) ?_
     exact hJ (hCont (Ao671, co671, gb675) _ ⟨⟨rJ HO672⟩, ⟨xB⟩, ⟨GeI.out⟩, iB124 ⟨iS124 HI14⟩, ⟨iS124 HI14⟩, ⟨UpL.out⟩, ⟨UpW.out⟩, ⟨UpB.out⟩⟩)
    intro gb675 w15 _ _ _
    refine nA (some 5) ?_
    refine o1 4 (some 10) (bz 7 63) HT_ rfl (kK1 Tryz.func123 (spec_l7DrawOf.calls (hI := iS124 HI11) (hB := UpW.out) (w := _) (h := A4.out)) ?_); intro Ao671 co671 w17 _ _ _ HI18 HO672
    refine nA (some 10) ?_
    exact hJ (hCont (Ao671, co671, gb675) _ ⟨⟨rJ HO672⟩, ⟨xB⟩, ⟨GeI.out⟩, iB124 ⟨iS124 HI18⟩, ⟨iS124 HI18⟩, ⟨UpL.out⟩, ⟨UpW.out⟩, ⟨UpB.out⟩⟩)
   intro gb675 w12 _ _ _
   refine nA (some 5) ?_
   refine o1 3 (some 9) (bz 7 47) HT_ rfl (kK Tryz.func124 (spec_l5DrawRight.calls (hI := iS124 HI0) (hB := UpW.out) (w := _) (h := A3.out)) ?_); intro w19 _ _ _ HI20
   refine nA (some 9) ?_
   refine o1 4 (some 10) (bz 7 63) HT_ rfl (kK1 Tryz.func123 (spec_l7DrawOf.calls (hI := iS124 HI20) (hB := UpW.out) (w := _) (h := A4.out)) ?_); intro Ao671 co671 w21 _ _ _ HI22 HO672
   refine nA (some 10) ?_
   exact hJ (hCont (Ao671, co671, gb675) _ ⟨⟨rJ HO672⟩, ⟨xB⟩, ⟨GeI.out⟩, iB124 ⟨iS124 HI22⟩, ⟨iS124 HI22⟩, ⟨UpL.out⟩, ⟨UpW.out⟩, ⟨UpB.out⟩⟩)
  rintro ⟨Ao671, co671, gb675⟩ w23 ⟨HO672, _, _, _, HI24, _, _, _⟩
  refine nP ?_
  refine o1 6 none (bz 7 127) HT_ rfl (kS ?_)
  refine done_ (done_of HT_.out (by kernel_rfl)) ?_
  try go_wp2_with (first | ((with_reducible refine gate_callee (f := 114) rfl ?_); refine gK (some 12) Tryz.func114 (spec_l1Below.calls (hI := iS124 HI24) (hB := UpW.out) (w := _) (h := A5.out)) ?_; intro w25 _ _ _ HI26))
  refine bodyPost_ret (results_cell_row rfl _ _ gb664 33 #[.int .i64 (wrap64 (t668 + 1)), .string t669, .slice Ao671 t670.length co671] (0, 0) _ rfl xB Tryz.underlying33 rfl (by kernel_rfl)) rfl ?_
  exact ⟨_, y0_19, rR HO672, iS124 HI26, UpW.out, UpB.out⟩
 rw [if_neg c6] at H
 have c6b0 : (t676 == 0) = false := beq_eq_false_iff_ne.mpr c6; have c6b1 : (t676 != 0) = true := bne_iff_ne.mpr c6
 by_cases c27 : t676 = 1
 ·
  rw [if_pos c27] at H
  have c27b0 : (t676 == 1) = true := beq_iff_eq.mpr c27; have c27b1 : (t676 != 1) = false := bne_eq_false_iff_eq.mpr c27; clear c27; obtain ⟨⟨t679, t682, t683⟩, A280, H⟩ := Option.bind_eq_some_iff.mp H
  try dsimp only at H
  have A28 := Aside0.mk A280; clear A280
  simp only [Option.some.injEq, Prod.mk.injEq] at H
  obtain ⟨rfl, rfl, rfl, rfl, rfl⟩ := H; have i0_ := iB124 HI0; have i1_ : LB w0 w := ⟨HB.out⟩
  go_enter Tryz.func91, Tryz.ntmps91
  try go_wp2_with (first | ((with_reducible refine gd 3 ?_); refine bL 3 #[.int .i64 a1_0, .int .i64 a1_1] 38 ?_; intro gb663 w29 _ _ _) | ((with_reducible refine gd 4 ?_); refine bL 4 #[.int .i64 0, .string (⟨#[]⟩ : ByteArray), .slice none 0 0] 33 ?_; intro gb664 w30 _ _ _))
  refine sB [g] spec_l7Draw.tab1 spec_l7Draw.bits1 ?_; intro w31 _ HT_ HW_
  refine pA 0 (some 6) (bz 7 1) HT_ ?_
  refine tB 1 (some 7) (bz 7 3) HT_ HW_ ?_
  refine pA 2 (some 8) (bz 7 7) HT_ ?_
  refine join_ (σ := Option Addr × Nat × Nat) 1 (bz 7 63) (fun s_ => [(9, .string t665), (10, .agg #[.int .i64 t668, .string t669, .slice s_.1 t670.length s_.2.1]), (5, .pointer (some ⟨s_.2.2, 0, none⟩))]) (fun s_ w' => Aside0 (Kd.R (Kd.int .i64) 3 w' w31.heap.size (iv w31 w') (.slice s_.1 t670.length s_.2.1) t670) ∧ BkI (s_.2.2) w' #[.int .i64 0, .string (⟨#[]⟩ : ByteArray), .slice none 0 0] 33 ∧ BornI (s_.2.2) w31 ∧ StB g w' 124 ∧ Aside0 (IsS124 w0 w' g s0_0 t673 t674) ∧ KL w31 [g] w' ∧ LB w0 w' ∧ KS w g w') ?_ ?_
  rotate_left
  ·
   intro hCont
   refine o2 3 5 (some 9) (some 5) (bz 7 15) (bz 7 39) HT_ rfl rfl (kK Tryz.func124 (spec_l5DrawRight.calls (hI := iS124 HI0) (hB := UpW.out) (w := _) (h := A3.out)) ?_) (kB #[.int .i64 0, .string (⟨#[]⟩ : ByteArray), .slice none 0 0] 33 ?_)
   ·
    intro w32 _ _ _ HI33
    refine nA (some 9) ?_
    refine o2 4 5 (some 10) (some 5) (bz 7 31) (bz 7 47) HT_ rfl rfl (kK1 Tryz.func123 (spec_l7DrawOf.calls (hI := iS124 HI33) (hB := UpW.out) (w := _) (h := A4.out)) ?_) (kB #[.int .i64 0, .string (⟨#[]⟩ : ByteArray), .slice none 0 0] 33 ?_)
    ·
     intro Ao671 co671 w35 _ _ _ HI36 HO672
     refine nA (some 10) ?_
     refine o1 5 (some 5) (bz 7 63) HT_ rfl (kB #[.int .i64 0, .string (⟨#[]⟩ : ByteArray), .slice none 0 0] 33 ?_); intro gb675 w38 _ _ _
     refine nA (some 5) ?_
     exact hJ (hCont (Ao671, co671, gb675) _ ⟨⟨rJ HO672⟩, ⟨xB⟩, ⟨GeI.out⟩, iB124 ⟨iS124 HI36⟩, ⟨iS124 HI36⟩, ⟨UpL.out⟩, ⟨UpW.out⟩, ⟨UpB.out⟩⟩)
    intro gb675 w37 _ _ _
    refine nA (some 5) ?_
    refine o1 4 (some 10) (bz 7 63) HT_ rfl (kK1 Tryz.func123 (spec_l7DrawOf.calls (hI := iS124 HI33) (hB := UpW.out) (w := _) (h := A4.out)) ?_); intro Ao671 co671 w39 _ _ _ HI40 HO672
    refine nA (some 10) ?_
    exact hJ (hCont (Ao671, co671, gb675) _ ⟨⟨rJ HO672⟩, ⟨xB⟩, ⟨GeI.out⟩, iB124 ⟨iS124 HI40⟩, ⟨iS124 HI40⟩, ⟨UpL.out⟩, ⟨UpW.out⟩, ⟨UpB.out⟩⟩)
   intro gb675 w34 _ _ _
   refine nA (some 5) ?_
   refine o1 3 (some 9) (bz 7 47) HT_ rfl (kK Tryz.func124 (spec_l5DrawRight.calls (hI := iS124 HI0) (hB := UpW.out) (w := _) (h := A3.out)) ?_); intro w41 _ _ _ HI42
   refine nA (some 9) ?_
   refine o1 4 (some 10) (bz 7 63) HT_ rfl (kK1 Tryz.func123 (spec_l7DrawOf.calls (hI := iS124 HI42) (hB := UpW.out) (w := _) (h := A4.out)) ?_); intro Ao671 co671 w43 _ _ _ HI44 HO672
   refine nA (some 10) ?_
   exact hJ (hCont (Ao671, co671, gb675) _ ⟨⟨rJ HO672⟩, ⟨xB⟩, ⟨GeI.out⟩, iB124 ⟨iS124 HI44⟩, ⟨iS124 HI44⟩, ⟨UpL.out⟩, ⟨UpW.out⟩, ⟨UpB.out⟩⟩)
  rintro ⟨Ao671, co671, gb675⟩ w45 ⟨HO672, _, _, _, HI46, _, _, _⟩
  refine nP ?_
  refine o1 6 none (bz 7 127) HT_ rfl (kS ?_)
  refine done_ (done_of HT_.out (by kernel_rfl)) ?_
  try go_wp2_with (first | ((with_reducible refine gate_callee (f := 114) rfl ?_); refine gK (some 12) Tryz.func114 (spec_l1Below.calls (hI := iS124 HI46) (hB := UpW.out) (w := _) (h := A5.out)) ?_; intro w47 _ _ _ HI48) | ((with_reducible refine gate_callee (f := 125) rfl ?_); refine gK1 (some 22) Tryz.func125 (spec_l6DrawSet.calls (hI := iS124 HI48) (hB := UpW.out) (w := _) (h := A28.out)) ?_; intro Ao680 co680 w49 _ _ _ HI50 HO681))
  refine bodyPost_ret (results_cell_row rfl _ _ gb664 33 #[.int .i64 t668, .string t669, .slice Ao680 t679.length co680] (0, 0) _ rfl xB Tryz.underlying33 rfl (by kernel_rfl)) rfl ?_
  exact ⟨_, y0_19, rR HO681, iS124 HI50, UpW.out, UpB.out⟩
 rw [if_neg c27] at H
 have c27b0 : (t676 == 1) = false := beq_eq_false_iff_ne.mpr c27; have c27b1 : (t676 != 1) = true := bne_iff_ne.mpr c27
 by_cases c51 : t676 = 2
 ·
  rw [if_pos c51] at H
  have c51b0 : (t676 == 2) = true := beq_iff_eq.mpr c51; have c51b1 : (t676 != 2) = false := bne_eq_false_iff_eq.mpr c51; clear c51; obtain ⟨⟨t684, t685, t686⟩, A520, H⟩ := Option.bind_eq_some_iff.mp H
  try dsimp only at H
  have A52 := Aside0.mk A520; clear A520
  simp only [Option.some.injEq, Prod.mk.injEq] at H
  obtain ⟨rfl, rfl, rfl, rfl, rfl⟩ := H; have i0_ := iB124 HI0; have i1_ : LB w0 w := ⟨HB.out⟩
  go_enter Tryz.func91, Tryz.ntmps91
  try go_wp2_with (first | ((with_reducible refine gd 3 ?_); refine bL 3 #[.int .i64 a1_0, .int .i64 a1_1] 38 ?_; intro gb663 w53 _ _ _) | ((with_reducible refine gd 4 ?_); refine bL 4 #[.int .i64 0, .string (⟨#[]⟩ : ByteArray), .slice none 0 0] 33 ?_; intro gb664 w54 _ _ _))
  refine sB [g] spec_l7Draw.tab1 spec_l7Draw.bits1 ?_; intro w55 _ HT_ HW_
  refine pA 0 (some 6) (bz 7 1) HT_ ?_
  refine tB 1 (some 7) (bz 7 3) HT_ HW_ ?_
  refine pA 2 (some 8) (bz 7 7) HT_ ?_
  refine join_ (σ := Option Addr × Nat × Nat) 1 (bz 7 63) (fun s_ => [(9, .string t665), (10, .agg #[.int .i64 t668, .string t669, .slice s_.1 t670.length s_.2.1]), (5, .pointer (some ⟨s_.2.2, 0, none⟩))]) (fun s_ w' => Aside0 (Kd.R (Kd.int .i64) 3 w' w55.heap.size (iv w55 w') (.slice s_.1 t670.length s_.2.1) t670) ∧ BkI (s_.2.2) w' #[.int .i64 0, .string (⟨#[]⟩ : ByteArray), .slice none 0 0] 33 ∧ BornI (s_.2.2) w55 ∧ StB g w' 124 ∧ Aside0 (IsS124 w0 w' g s0_0 t673 t674) ∧ KL w55 [g] w' ∧ LB w0 w' ∧ KS w g w') ?_ ?_
  rotate_left
  ·
   intro hCont
   refine o2 3 5 (some 9) (some 5) (bz 7 15) (bz 7 39) HT_ rfl rfl (kK Tryz.func124 (spec_l5DrawRight.calls (hI := iS124 HI0) (hB := UpW.out) (w := _) (h := A3.out)) ?_) (kB #[.int .i64 0, .string (⟨#[]⟩ : ByteArray), .slice none 0 0] 33 ?_)
   ·
    intro w56 _ _ _ HI57
    refine nA (some 9) ?_
    refine o2 4 5 (some 10) (some 5) (bz 7 31) (bz 7 47) HT_ rfl rfl (kK1 Tryz.func123 (spec_l7DrawOf.calls (hI := iS124 HI57) (hB := UpW.out) (w := _) (h := A4.out)) ?_) (kB #[.int .i64 0, .string (⟨#[]⟩ : ByteArray), .slice none 0 0] 33 ?_)
    ·
     intro Ao671 co671 w59 _ _ _ HI60 HO672
     refine nA (some 10) ?_
     refine o1 5 (some 5) (bz 7 63) HT_ rfl (kB #[.int .i64 0, .string (⟨#[]⟩ : ByteArray), .slice none 0 0] 33 ?_); intro gb675 w62 _ _ _
     refine nA (some 5) ?_
     exact hJ (hCont (Ao671, co671, gb675) _ ⟨⟨rJ HO672⟩, ⟨xB⟩, ⟨GeI.out⟩, iB124 ⟨iS124 HI60⟩, ⟨iS124 HI60⟩, ⟨UpL.out⟩, ⟨UpW.out⟩, ⟨UpB.out⟩⟩)
    intro gb675 w61 _ _ _
    refine nA (some 5) ?_
    refine o1 4 (some 10) (bz 7 63) HT_ rfl (kK1 Tryz.func123 (spec_l7DrawOf.calls (hI := iS124 HI57) (hB := UpW.out) (w := _) (h := A4.out)) ?_); intro Ao671 co671 w63 _ _ _ HI64 HO672
    refine nA (some 10) ?_
    exact hJ (hCont (Ao671, co671, gb675) _ ⟨⟨rJ HO672⟩, ⟨xB⟩, ⟨GeI.out⟩, iB124 ⟨iS124 HI64⟩, ⟨iS124 HI64⟩, ⟨UpL.out⟩, ⟨UpW.out⟩, ⟨UpB.out⟩⟩)
   intro gb675 w58 _ _ _
   refine nA (some 5) ?_
   refine o1 3 (some 9) (bz 7 47) HT_ rfl (kK Tryz.func124 (spec_l5DrawRight.calls (hI := iS124 HI0) (hB := UpW.out) (w := _) (h := A3.out)) ?_); intro w65 _ _ _ HI66
   refine nA (some 9) ?_
   refine o1 4 (some 10) (bz 7 63) HT_ rfl (kK1 Tryz.func123 (spec_l7DrawOf.calls (hI := iS124 HI66) (hB := UpW.out) (w := _) (h := A4.out)) ?_); intro Ao671 co671 w67 _ _ _ HI68 HO672
   refine nA (some 10) ?_
   exact hJ (hCont (Ao671, co671, gb675) _ ⟨⟨rJ HO672⟩, ⟨xB⟩, ⟨GeI.out⟩, iB124 ⟨iS124 HI68⟩, ⟨iS124 HI68⟩, ⟨UpL.out⟩, ⟨UpW.out⟩, ⟨UpB.out⟩⟩)
  rintro ⟨Ao671, co671, gb675⟩ w69 ⟨HO672, _, _, _, HI70, _, _, _⟩
  refine nP ?_
  refine o1 6 none (bz 7 127) HT_ rfl (kS ?_)
  refine done_ (done_of HT_.out (by kernel_rfl)) ?_
  try go_wp2_with (first | ((with_reducible refine gate_callee (f := 114) rfl ?_); refine gK (some 12) Tryz.func114 (spec_l1Below.calls (hI := iS124 HI70) (hB := UpW.out) (w := _) (h := A5.out)) ?_; intro w71 _ _ _ HI72) | ((with_reducible refine gate_callee (f := 117) rfl ?_); refine gK (some 27) Tryz.func117 (spec_l5Draw.calls (hI := iS124 HI72) (hB := UpW.out) (w := _) (h := A52.out)) ?_; intro w73 _ _ _ HI74))
  refine bodyPost_ret (results_cell_row rfl _ _ gb664 33 #[.int .i64 t668, .string t684, .slice Ao671 t670.length co671] (0, 0) _ rfl xB Tryz.underlying33 rfl (by kernel_rfl)) rfl ?_
  exact ⟨_, y0_19, rR HO672, iS124 HI74, UpW.out, UpB.out⟩
 rw [if_neg c51] at H
 have c51b0 : (t676 == 2) = false := beq_eq_false_iff_ne.mpr c51; have c51b1 : (t676 != 2) = true := bne_iff_ne.mpr c51
 simp only [Option.some.injEq, Prod.mk.injEq] at H
 obtain ⟨rfl, rfl, rfl, rfl, rfl⟩ := H; have i0_ := iB124 HI0; have i1_ : LB w0 w := ⟨HB.out⟩
 go_enter Tryz.func91, Tryz.ntmps91
 try go_wp2_with (first | ((with_reducible refine gd 3 ?_); refine bL 3 #[.int .i64 a1_0, .int .i64 a1_1] 38 ?_; intro gb663 w75 _ _ _) | ((with_reducible refine gd 4 ?_); refine bL 4 #[.int .i64 0, .string (⟨#[]⟩ : ByteArray), .slice none 0 0] 33 ?_; intro gb664 w76 _ _ _))
 refine sB [g] spec_l7Draw.tab1 spec_l7Draw.bits1 ?_; intro w77 _ HT_ HW_
 refine pA 0 (some 6) (bz 7 1) HT_ ?_
 refine tB 1 (some 7) (bz 7 3) HT_ HW_ ?_
 refine pA 2 (some 8) (bz 7 7) HT_ ?_
 refine join_ (σ := Option Addr × Nat × Nat) 1 (bz 7 63) (fun s_ => [(9, .string t665), (10, .agg #[.int .i64 t668, .string t669, .slice s_.1 t670.length s_.2.1]), (5, .pointer (some ⟨s_.2.2, 0, none⟩))]) (fun s_ w' => Aside0 (Kd.R (Kd.int .i64) 3 w' w77.heap.size (iv w77 w') (.slice s_.1 t670.length s_.2.1) t670) ∧ BkI (s_.2.2) w' #[.int .i64 0, .string (⟨#[]⟩ : ByteArray), .slice none 0 0] 33 ∧ BornI (s_.2.2) w77 ∧ StB g w' 124 ∧ Aside0 (IsS124 w0 w' g s0_0 t673 t674) ∧ KL w77 [g] w' ∧ LB w0 w' ∧ KS w g w') ?_ ?_
 rotate_left
 ·
  intro hCont
  refine o2 3 5 (some 9) (some 5) (bz 7 15) (bz 7 39) HT_ rfl rfl (kK Tryz.func124 (spec_l5DrawRight.calls (hI := iS124 HI0) (hB := UpW.out) (w := _) (h := A3.out)) ?_) (kB #[.int .i64 0, .string (⟨#[]⟩ : ByteArray), .slice none 0 0] 33 ?_)
  ·
   intro w78 _ _ _ HI79
   refine nA (some 9) ?_
   refine o2 4 5 (some 10) (some 5) (bz 7 31) (bz 7 47) HT_ rfl rfl (kK1 Tryz.func123 (spec_l7DrawOf.calls (hI := iS124 HI79) (hB := UpW.out) (w := _) (h := A4.out)) ?_) (kB #[.int .i64 0, .string (⟨#[]⟩ : ByteArray), .slice none 0 0] 33 ?_)
   ·
    intro Ao671 co671 w81 _ _ _ HI82 HO672
    refine nA (some 10) ?_
    refine o1 5 (some 5) (bz 7 63) HT_ rfl (kB #[.int .i64 0, .string (⟨#[]⟩ : ByteArray), .slice none 0 0] 33 ?_); intro gb675 w84 _ _ _
    refine nA (some 5) ?_
    exact hJ (hCont (Ao671, co671, gb675) _ ⟨⟨rJ HO672⟩, ⟨xB⟩, ⟨GeI.out⟩, iB124 ⟨iS124 HI82⟩, ⟨iS124 HI82⟩, ⟨UpL.out⟩, ⟨UpW.out⟩, ⟨UpB.out⟩⟩)
   intro gb675 w83 _ _ _
   refine nA (some 5) ?_
   refine o1 4 (some 10) (bz 7 63) HT_ rfl (kK1 Tryz.func123 (spec_l7DrawOf.calls (hI := iS124 HI79) (hB := UpW.out) (w := _) (h := A4.out)) ?_); intro Ao671 co671 w85 _ _ _ HI86 HO672
   refine nA (some 10) ?_
   exact hJ (hCont (Ao671, co671, gb675) _ ⟨⟨rJ HO672⟩, ⟨xB⟩, ⟨GeI.out⟩, iB124 ⟨iS124 HI86⟩, ⟨iS124 HI86⟩, ⟨UpL.out⟩, ⟨UpW.out⟩, ⟨UpB.out⟩⟩)
  intro gb675 w80 _ _ _
  refine nA (some 5) ?_
  refine o1 3 (some 9) (bz 7 47) HT_ rfl (kK Tryz.func124 (spec_l5DrawRight.calls (hI := iS124 HI0) (hB := UpW.out) (w := _) (h := A3.out)) ?_); intro w87 _ _ _ HI88
  refine nA (some 9) ?_
  refine o1 4 (some 10) (bz 7 63) HT_ rfl (kK1 Tryz.func123 (spec_l7DrawOf.calls (hI := iS124 HI88) (hB := UpW.out) (w := _) (h := A4.out)) ?_); intro Ao671 co671 w89 _ _ _ HI90 HO672
  refine nA (some 10) ?_
  exact hJ (hCont (Ao671, co671, gb675) _ ⟨⟨rJ HO672⟩, ⟨xB⟩, ⟨GeI.out⟩, iB124 ⟨iS124 HI90⟩, ⟨iS124 HI90⟩, ⟨UpL.out⟩, ⟨UpW.out⟩, ⟨UpB.out⟩⟩)
 rintro ⟨Ao671, co671, gb675⟩ w91 ⟨HO672, _, _, _, HI92, _, _, _⟩
 refine nP ?_
 refine o1 6 none (bz 7 127) HT_ rfl (kS ?_)
 refine done_ (done_of HT_.out (by kernel_rfl)) ?_
 try go_wp2_with (first | ((with_reducible refine gate_callee (f := 114) rfl ?_); refine gK (some 12) Tryz.func114 (spec_l1Below.calls (hI := iS124 HI92) (hB := UpW.out) (w := _) (h := A5.out)) ?_; intro w93 _ _ _ HI94))
 refine bodyPost_ret (results_cell_row rfl _ _ gb664 33 #[.int .i64 t668, .string t669, .slice Ao671 t670.length co671] (0, 0) _ rfl xB Tryz.underlying33 rfl (by kernel_rfl)) rfl ?_
 exact ⟨_, y0_19, rR HO672, iS124 HI94, UpW.out, UpB.out⟩

/-! ### spec_BlockOk: function 80 -/
def spec_BlockOk.f (k : Nat) (a0_0 : Int) (a0_1 : Int) (a1_0 : ByteArray) (a1_1 : Int) (a1_2 : ByteArray) (l1_3 : List Int) : Option (Bool) := (spec_QcOk.f k a0_0 a0_1 a1_1 a1_2 l1_3).bind fun t689 => (if t689 = true then ((spec_NameOk.f k a1_0).bind fun t690 => (if t690 = true then (if a1_0.toList = ([] : List UInt8) then (some false) else ((spec_UpOf.f k a1_0).bind fun t691 => (some (t691.toList == a1_2.toList)))) else (some false))) else (some false))
theorem spec_BlockOk.mono : ∀ a0 a1 a2 a3 a4 a5 k, LeO (spec_BlockOk.f k a0 a1 a2 a3 a4 a5) (spec_BlockOk.f (k + 1) a0 a1 a2 a3 a4 a5) := by
 intro a0 a1 a2 a3 a4 a5 k
 unfold spec_BlockOk.f
 repeat' first | (with_reducible exact spec_NameOk.mono _ _) | (with_reducible exact spec_QcOk.mono _ _ _ _ _ _) | (with_reducible exact spec_UpOf.mono _ _) | (with_reducible exact LeO.refl _) | (with_reducible exact LeO.none _) | (with_reducible refine LeO.ite ?_ ?_) | (with_reducible refine LeO.bind ?_ (fun _ => ?_))
def spec_BlockOk.T1 : Bool × List (List Nat × List Nat) := (true, [([], []), ([], []), ([1], [1]), ([0, 2], [0, 2]), ([3, 3], [3]), ([4], [4]), ([5, 4], [4, 5]), ([6, 4, 4], [4, 6]), ([4, 7], [4, 7]), ([8, 7], [8]), ([9], [9]), ([10, 9], [9, 10]), ([11, 9], [9, 11]), ([9, 12], [9, 12]), ([13, 9], [13]), ([14], [14]), ([15, 14], [14, 15]), ([16, 14, 14], [14, 16]), ([14], [14]), ([18, 14], [14, 18]), ([19, 14], [14, 19]), ([17, 20, 14], [14, 17, 20]), ([14, 21], [14, 21]), ([22, 17, 0, 1, 2, 3, 4, 5, 6, 7, 8, 9, 10, 11, 12, 13, 14, 15, 16, 17, 18, 19, 20, 21, 22], [22])])
def spec_BlockOk.B1 : List Nat := [0, 0, 2, 7, 15, 31, 63, 127, 255, 511, 1023, 2047, 4095, 8191, 16383, 32767, 65535, 131071, 32767, 294911, 819199, 2097151, 4194303, 8388607]
theorem spec_BlockOk.tab1 : rtab .any (opsOf Tryz.f80 1) = spec_BlockOk.T1 := by kernel_rfl
theorem spec_BlockOk.bits1 : waitsOk spec_BlockOk.T1.2 spec_BlockOk.B1 = true := by kernel_rfl
set_option maxHeartbeats 8000000 in
set_option maxRecDepth 100000 in
theorem spec_BlockOk.calls (k : Nat) (a0_0 : Int) (a0_1 : Int) (a1_0 : ByteArray) (a1_1 : Int) (a1_2 : ByteArray) (A1_3 : Option Addr) (c1_3 : Nat) (l1_3 : List Int) (r : Bool) (w : World) (hr1_3 : Kd.C (Kd.int .i64) w A1_3 l1_3.length l1_3) (hc1_3 : l1_3.length ≤ c1_3) (h : spec_BlockOk.f k a0_0 a0_1 a1_0 a1_1 a1_2 l1_3 = some r) :
  Calls Tryz.prog 80 #[.agg #[.int .i64 a0_0, .int .i64 a0_1], .agg #[.string a1_0, .int .i64 a1_1, .string a1_2, .slice A1_3 l1_3.length c1_3]] w fun e w' => e = .returned (.bool r) ∧ Below w.heap.size w w' := by
 have hu38 := Tryz.underlying38; have hu42 := Tryz.underlying42; have hu33 := Tryz.underlying33; have HR1_3 := Aside0.mk hr1_3; have HC1_3 := Aside0.mk hc1_3; clear hr1_3 hc1_3; have HB := Aside0.mk (Below.refl w.heap.size w)
 have H : ((spec_QcOk.f k a0_0 a0_1 a1_1 a1_2 l1_3).bind fun t689 => (if t689 = true then ((spec_NameOk.f k a1_0).bind fun t690 => (if t690 = true then (if a1_0.toList = ([] : List UInt8) then (some false) else ((spec_UpOf.f k a1_0).bind fun t691 => (some (t691.toList == a1_2.toList)))) else (some false))) else (some false))) = some r := h
 clear h; obtain ⟨t689, A30, H⟩ := Option.bind_eq_some_iff.mp H
 try dsimp only at H
 have A3 := Aside0.mk A30; clear A30
 by_cases c4 : t689 = true
 ·
  subst c4
  rw [if_pos rfl] at H
  obtain ⟨t690, A50, H⟩ := Option.bind_eq_some_iff.mp H
  try dsimp only at H
  have A5 := Aside0.mk A50; clear A50
  by_cases c6 : t690 = true
  ·
   subst c6
   rw [if_pos rfl] at H
   by_cases c7 : a1_0.toList = ([] : List UInt8)
   ·
    rw [if_pos c7] at H
    have c7b0 : (a1_0.toList == ([] : List UInt8)) = true := beq_iff_eq.mpr c7; have c7b1 : (a1_0.toList != ([] : List UInt8)) = false := bne_eq_false_iff_eq.mpr c7; clear c7; obtain rfl := Option.some.inj H
    go_enter Tryz.func80, Tryz.ntmps80
    try go_wp2_with (first | ((with_reducible refine gd 2 ?_); refine bL 2 #[.int .i64 a0_0, .int .i64 a0_1] 38 ?_; intro gb687 w8 _ _ _) | ((with_reducible refine gd 3 ?_); refine bL 3 #[.string a1_0, .int .i64 a1_1, .string a1_2, .slice A1_3 l1_3.length c1_3] 42 ?_; intro gb688 w9 _ _ _))
    refine sB [] spec_BlockOk.tab1 spec_BlockOk.bits1 ?_; intro w10 _ HT_ HW_
    refine tB 0 (some 5) (bz 24 1) HT_ HW_ ?_
    refine pA 1 (some 6) (bz 24 3) HT_ ?_
    refine tB 2 (some 7) (bz 24 7) HT_ HW_ ?_
    refine o1 3 (some 8) (bz 24 15) HT_ rfl (kC Tryz.func49 (spec_QcOk.calls (hr1_2 := pC HR1_3) (hc1_2 := HC1_3.out) (w := _) (h := A3.out)) ?_); intro w11 _
    refine nA (some 8) ?_
    refine pA 4 (some 9) (bz 24 31) HT_ ?_
    refine pA 5 (some 10) (bz 24 63) HT_ ?_
    refine tB 6 (some 11) (bz 24 127) HT_ HW_ ?_
    refine o1 7 (some 12) (bz 24 255) HT_ rfl (kC Tryz.func97 (spec_NameOk.calls (w := _) (h := A5.out)) ?_); intro w12 _
    refine nA (some 12) ?_
    refine pA 8 (some 13) (bz 24 511) HT_ ?_
    refine pA 9 (some 14) (bz 24 1023) HT_ ?_
    refine pA 10 (some 15) (bz 24 2047) HT_ ?_
    refine tB 11 (some 16) (bz 24 4095) HT_ HW_ ?_
    refine pA 12 (some 17) (bz 24 0x1fff) HT_ ?_
    refine pA 13 (some 18) (bz 24 0x3fff) HT_ ?_
    refine pA 14 (some 19) (bz 24 0x7fff) HT_ ?_
    refine pU 15 (some 20) (bz 24 0xffff) HT_ ?_
    refine pU 16 (some 21) (bz 24 0x1ffff) HT_ ?_
    refine pU 17 (some 22) (bz 24 0x3ffff) HT_ ?_
    refine pU 18 (some 23) (bz 24 0x7ffff) HT_ ?_
    refine pU 19 (some 24) (bz 24 0xfffff) HT_ ?_
    refine pU 20 (some 25) (bz 24 0x1fffff) HT_ ?_
    refine pU 21 (some 26) (bz 24 0x3fffff) HT_ ?_
    refine pA 22 (some 27) (bz 24 0x7fffff) HT_ ?_
    refine pA 23 (some 4) (bz 24 0xffffff) HT_ ?_
    refine done_ (done_of HT_.out (by kernel_rfl)) ?_
    try go_wp2
    go_ret
    exact ⟨y0_19, UpW.out⟩
   rw [if_neg c7] at H
   have c7b0 : (a1_0.toList == ([] : List UInt8)) = false := beq_eq_false_iff_ne.mpr c7; have c7b1 : (a1_0.toList != ([] : List UInt8)) = true := bne_iff_ne.mpr c7; obtain ⟨t691, A130, H⟩ := Option.bind_eq_some_iff.mp H
   try dsimp only at H
   have A13 := Aside0.mk A130; clear A130; obtain rfl := Option.some.inj H
   go_enter Tryz.func80, Tryz.ntmps80
   try go_wp2_with (first | ((with_reducible refine gd 2 ?_); refine bL 2 #[.int .i64 a0_0, .int .i64 a0_1] 38 ?_; intro gb687 w14 _ _ _) | ((with_reducible refine gd 3 ?_); refine bL 3 #[.string a1_0, .int .i64 a1_1, .string a1_2, .slice A1_3 l1_3.length c1_3] 42 ?_; intro gb688 w15 _ _ _))
   refine sB [] spec_BlockOk.tab1 spec_BlockOk.bits1 ?_; intro w16 _ HT_ HW_
   refine tB 0 (some 5) (bz 24 1) HT_ HW_ ?_
   refine pA 1 (some 6) (bz 24 3) HT_ ?_
   refine tB 2 (some 7) (bz 24 7) HT_ HW_ ?_
   refine o1 3 (some 8) (bz 24 15) HT_ rfl (kC Tryz.func49 (spec_QcOk.calls (hr1_2 := pC HR1_3) (hc1_2 := HC1_3.out) (w := _) (h := A3.out)) ?_); intro w17 _
   refine nA (some 8) ?_
   refine pA 4 (some 9) (bz 24 31) HT_ ?_
   refine pA 5 (some 10) (bz 24 63) HT_ ?_
   refine tB 6 (some 11) (bz 24 127) HT_ HW_ ?_
   refine o1 7 (some 12) (bz 24 255) HT_ rfl (kC Tryz.func97 (spec_NameOk.calls (w := _) (h := A5.out)) ?_); intro w18 _
   refine nA (some 12) ?_
   refine pA 8 (some 13) (bz 24 511) HT_ ?_
   refine pA 9 (some 14) (bz 24 1023) HT_ ?_
   refine pA 10 (some 15) (bz 24 2047) HT_ ?_
   refine tB 11 (some 16) (bz 24 4095) HT_ HW_ ?_
   refine pA 12 (some 17) (bz 24 0x1fff) HT_ ?_
   refine pA 13 (some 18) (bz 24 0x3fff) HT_ ?_
   refine pA 14 (some 19) (bz 24 0x7fff) HT_ ?_
   refine pA 15 (some 20) (bz 24 0xffff) HT_ ?_
   refine tB 16 (some 21) (bz 24 0x1ffff) HT_ HW_ ?_
   refine pA 18 (some 23) (bz 24 0x5ffff) HT_ ?_
   refine pA 19 (some 24) (bz 24 0xdffff) HT_ ?_
   refine tB 20 (some 25) (bz 24 0x1dffff) HT_ HW_ ?_
   refine o1 17 (some 22) (bz 24 0x1fffff) HT_ rfl (kC Tryz.func68 (spec_UpOf.calls (w := _) (h := A13.out)) ?_); intro w19 _
   refine nA (some 22) ?_
   refine pA 21 (some 26) (bz 24 0x3fffff) HT_ ?_
   refine pA 22 (some 27) (bz 24 0x7fffff) HT_ ?_
   refine pA 23 (some 4) (bz 24 0xffffff) HT_ ?_
   refine done_ (done_of HT_.out (by kernel_rfl)) ?_
   try go_wp2
   go_ret
   exact ⟨y0_19, UpW.out⟩
  replace c6 := Bool.eq_false_iff.mpr c6; subst c6
  rw [if_neg (show ¬ (false = true) by decide)] at H
  obtain rfl := Option.some.inj H
  go_enter Tryz.func80, Tryz.ntmps80
  try go_wp2_with (first | ((with_reducible refine gd 2 ?_); refine bL 2 #[.int .i64 a0_0, .int .i64 a0_1] 38 ?_; intro gb687 w20 _ _ _) | ((with_reducible refine gd 3 ?_); refine bL 3 #[.string a1_0, .int .i64 a1_1, .string a1_2, .slice A1_3 l1_3.length c1_3] 42 ?_; intro gb688 w21 _ _ _))
  refine sB [] spec_BlockOk.tab1 spec_BlockOk.bits1 ?_; intro w22 _ HT_ HW_
  refine tB 0 (some 5) (bz 24 1) HT_ HW_ ?_
  refine pA 1 (some 6) (bz 24 3) HT_ ?_
  refine tB 2 (some 7) (bz 24 7) HT_ HW_ ?_
  refine o1 3 (some 8) (bz 24 15) HT_ rfl (kC Tryz.func49 (spec_QcOk.calls (hr1_2 := pC HR1_3) (hc1_2 := HC1_3.out) (w := _) (h := A3.out)) ?_); intro w23 _
  refine nA (some 8) ?_
  refine pA 4 (some 9) (bz 24 31) HT_ ?_
  refine pA 5 (some 10) (bz 24 63) HT_ ?_
  refine tB 6 (some 11) (bz 24 127) HT_ HW_ ?_
  refine o1 7 (some 12) (bz 24 255) HT_ rfl (kC Tryz.func97 (spec_NameOk.calls (w := _) (h := A5.out)) ?_); intro w24 _
  refine nA (some 12) ?_
  refine pA 8 (some 13) (bz 24 511) HT_ ?_
  refine pA 9 (some 14) (bz 24 1023) HT_ ?_
  refine pU 10 (some 15) (bz 24 2047) HT_ ?_
  refine pU 11 (some 16) (bz 24 4095) HT_ ?_
  refine pU 12 (some 17) (bz 24 0x1fff) HT_ ?_
  refine pA 13 (some 18) (bz 24 0x3fff) HT_ ?_
  refine pA 14 (some 19) (bz 24 0x7fff) HT_ ?_
  refine pU 15 (some 20) (bz 24 0xffff) HT_ ?_
  refine pU 16 (some 21) (bz 24 0x1ffff) HT_ ?_
  refine pU 17 (some 22) (bz 24 0x3ffff) HT_ ?_
  refine pU 18 (some 23) (bz 24 0x7ffff) HT_ ?_
  refine pU 19 (some 24) (bz 24 0xfffff) HT_ ?_
  refine pU 20 (some 25) (bz 24 0x1fffff) HT_ ?_
  refine pU 21 (some 26) (bz 24 0x3fffff) HT_ ?_
  refine pA 22 (some 27) (bz 24 0x7fffff) HT_ ?_
  refine pA 23 (some 4) (bz 24 0xffffff) HT_ ?_
  refine done_ (done_of HT_.out (by kernel_rfl)) ?_
  try go_wp2
  go_ret
  exact ⟨y0_19, UpW.out⟩
 replace c4 := Bool.eq_false_iff.mpr c4; subst c4
 rw [if_neg (show ¬ (false = true) by decide)] at H
 obtain rfl := Option.some.inj H
 go_enter Tryz.func80, Tryz.ntmps80
 try go_wp2_with (first | ((with_reducible refine gd 2 ?_); refine bL 2 #[.int .i64 a0_0, .int .i64 a0_1] 38 ?_; intro gb687 w25 _ _ _) | ((with_reducible refine gd 3 ?_); refine bL 3 #[.string a1_0, .int .i64 a1_1, .string a1_2, .slice A1_3 l1_3.length c1_3] 42 ?_; intro gb688 w26 _ _ _))
 refine sB [] spec_BlockOk.tab1 spec_BlockOk.bits1 ?_; intro w27 _ HT_ HW_
 refine tB 0 (some 5) (bz 24 1) HT_ HW_ ?_
 refine pA 1 (some 6) (bz 24 3) HT_ ?_
 refine tB 2 (some 7) (bz 24 7) HT_ HW_ ?_
 refine o1 3 (some 8) (bz 24 15) HT_ rfl (kC Tryz.func49 (spec_QcOk.calls (hr1_2 := pC HR1_3) (hc1_2 := HC1_3.out) (w := _) (h := A3.out)) ?_); intro w28 _
 refine nA (some 8) ?_
 refine pA 4 (some 9) (bz 24 31) HT_ ?_
 refine pU 5 (some 10) (bz 24 63) HT_ ?_
 refine pU 6 (some 11) (bz 24 127) HT_ ?_
 refine pU 7 (some 12) (bz 24 255) HT_ ?_
 refine pA 8 (some 13) (bz 24 511) HT_ ?_
 refine pA 9 (some 14) (bz 24 1023) HT_ ?_
 refine pU 10 (some 15) (bz 24 2047) HT_ ?_
 refine pU 11 (some 16) (bz 24 4095) HT_ ?_
 refine pU 12 (some 17) (bz 24 0x1fff) HT_ ?_
 refine pA 13 (some 18) (bz 24 0x3fff) HT_ ?_
 refine pA 14 (some 19) (bz 24 0x7fff) HT_ ?_
 refine pU 15 (some 20) (bz 24 0xffff) HT_ ?_
 refine pU 16 (some 21) (bz 24 0x1ffff) HT_ ?_
 refine pU 17 (some 22) (bz 24 0x3ffff) HT_ ?_
 refine pU 18 (some 23) (bz 24 0x7ffff) HT_ ?_
 refine pU 19 (some 24) (bz 24 0xfffff) HT_ ?_
 refine pU 20 (some 25) (bz 24 0x1fffff) HT_ ?_
 refine pU 21 (some 26) (bz 24 0x3fffff) HT_ ?_
 refine pA 22 (some 27) (bz 24 0x7fffff) HT_ ?_
 refine pA 23 (some 4) (bz 24 0xffffff) HT_ ?_
 refine done_ (done_of HT_.out (by kernel_rfl)) ?_
 try go_wp2
 go_ret
 exact ⟨y0_19, UpW.out⟩

end Go.Proofs.YtemjmefacifdeaaGreatDoor.PFnEitherOrder
