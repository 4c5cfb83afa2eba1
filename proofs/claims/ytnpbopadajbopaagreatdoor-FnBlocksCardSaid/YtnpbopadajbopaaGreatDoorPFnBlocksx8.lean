-- By a program of this session, out of the translation (the print of the kit, with turns of its own). Lean checks it.
import Derived.Test.YtnpbopadajbopaaGreatDoorPFnBlocksx0
import Derived.Test.YtnpbopadajbopaaGreatDoorPFnBlocksx3
import Derived.Test.YtnpbopadajbopaaGreatDoorPFnBlocksx4
import Derived.Test.YtnpbopadajbopaaGreatDoorPFnBlocksx5
import Derived.Test.YtnpbopadajbopaaGreatDoorPFnBlocksx6
import Derived.Test.YtnpbopadajbopaaGreatDoorPFnBlocksx7
namespace Go.Proofs.YtnpbopadajbopaaGreatDoor.PFnBlocks
open Go.RowKit Go.Proofs.YtnpbopadajbopaaGreatDoorW.PrintWords Go.Proofs.YtnpbopadajbopaaGreatDoorW.PrintLast Go.Proofs.YtnpbopadajbopaaGreatDoorW.PrintMore
attribute [local go_sem] max2_int min2_int max_two min_two max_three min_three max_four min_four   -- for this text's walks alone
attribute [local go_sem] cell_in frozen_in
set_option synthInstance.maxSize 1000000
set_option synthInstance.maxHeartbeats 2000000
set_option linter.unusedVariables false
set_option linter.unusedSimpArgs false

/-! ### spec_SetAdd: function 207 -/
def spec_SetAdd.l0 : Nat → List Int → Int → Int → Option (List Int)
 | 0, _, _, _ => none
 | k + 1, x0, x1, x5 => if x5 < (x0.length : Int) then (if 0 ≤ x5 then (if (rd x0 x5) < x1 then (spec_SetAdd.l0 k x0 x1 (wrap64 (x5 + 1))) else ((some (([] : List Int) : List Int)).bind fun y436 => (if x5 ≤ (x0.length : Int) then (if y436.length + (x0.take (x5 : Int).toNat).length < 17592186044416 then ((some (y436 ++ (x0.take (x5 : Int).toNat) : List Int)).bind fun y440 => (if y440.length < 17592186044416 then ((some (y440 ++ [x1] : List Int)).bind fun y443 => (if y443.length + (x0.drop (x5 : Int).toNat).length < 17592186044416 then (some (y443 ++ (x0.drop (x5 : Int).toNat))) else (none))) else (none))) else (none)) else (none)))) else (none)) else ((some (([] : List Int) : List Int)).bind fun y450 => (if 0 ≤ x5 then (if x5 ≤ (x0.length : Int) then (if y450.length + (x0.take (x5 : Int).toNat).length < 17592186044416 then ((some (y450 ++ (x0.take (x5 : Int).toNat) : List Int)).bind fun y454 => (if y454.length < 17592186044416 then ((some (y454 ++ [x1] : List Int)).bind fun y457 => (if y457.length + (x0.drop (x5 : Int).toNat).length < 17592186044416 then (some (y457 ++ (x0.drop (x5 : Int).toNat))) else (none))) else (none))) else (none)) else (none)) else (none)))
def spec_SetAdd.f (k : Nat) (l0 : List Int) (a1 : Int) : Option (List Int) := (spec_SetHas.f k l0 a1).bind fun t428 => (if t428 = true then ((some (([] : List Int) : List Int)).bind fun y429 => (if y429.length + l0.length < 17592186044416 then (some (y429 ++ l0)) else (none))) else (spec_SetAdd.l0 k l0 a1 0))
theorem spec_SetAdd.mono_l : ∀ k, (∀ y0 y1 y2, LeO (spec_SetAdd.l0 k y0 y1 y2) (spec_SetAdd.l0 (k + 1) y0 y1 y2))
 | 0 => fun _ _ _ r h => by simp [spec_SetAdd.l0] at h
 | k + 1 => by
  have ih0 := spec_SetAdd.mono_l k
  intro y0 y1 y2
  unfold spec_SetAdd.l0
  repeat' first | (with_reducible exact ih0 _ _ _) | (with_reducible exact spec_SetHas.mono _ _ _) | (with_reducible exact LeO.refl _) | (with_reducible exact LeO.none _) | (with_reducible refine LeO.ite ?_ ?_) | (with_reducible refine LeO.bind ?_ (fun _ => ?_))
theorem spec_SetAdd.mono : ∀ a0 a1 k, LeO (spec_SetAdd.f k a0 a1) (spec_SetAdd.f (k + 1) a0 a1) := by
 intro a0 a1 k
 have ih0 := spec_SetAdd.mono_l k
 unfold spec_SetAdd.f
 repeat' first | (with_reducible exact ih0 _ _ _) | (with_reducible exact spec_SetHas.mono _ _ _) | (with_reducible exact LeO.refl _) | (with_reducible exact LeO.none _) | (with_reducible refine LeO.ite ?_ ?_) | (with_reducible refine LeO.bind ?_ (fun _ => ?_))
set_option maxHeartbeats 8000000 in
set_option maxRecDepth 100000 in
theorem spec_SetAdd.calls (k : Nat) (A0 : Option Addr) (c0 : Nat) (l0 : List Int) (a1 : Int) (r : List Int) (w : World) (hr0 : Kd.C (Kd.int .i64) w A0 l0.length l0) (hc0 : l0.length ≤ c0) (h : spec_SetAdd.f k l0 a1 = some r) :
  Calls Tryz.prog 207 #[.slice A0 l0.length c0, .int .i64 a1] w fun e w' => ∃ v0_ : Value, e = .returned (v0_) ∧ Kd.R (Kd.int .i64) 3 w' w.heap.size (fun _ => True) v0_ r ∧ Below w.heap.size w w' := by
 have HR0 := Aside0.mk hr0; have HC0 := Aside0.mk hc0; clear hr0 hc0; have HB := Aside0.mk (Below.refl w.heap.size w)
 have H : ((spec_SetHas.f k l0 a1).bind fun t428 => (if t428 = true then ((some (([] : List Int) : List Int)).bind fun y429 => (if y429.length + l0.length < 17592186044416 then (some (y429 ++ l0)) else (none))) else (spec_SetAdd.l0 k l0 a1 0))) = some r := h
 clear h; obtain ⟨t428, A30, H⟩ := Option.bind_eq_some_iff.mp H
 try dsimp only at H
 have A3 := Aside0.mk A30; clear A30
 by_cases c4 : t428 = true
 ·
  subst c4
  rw [if_pos rfl] at H
  obtain ⟨y429, hy429⟩ : ∃ y_ : List Int, y_ = (([] : List Int)) := ⟨_, rfl⟩
  replace H : (if y429.length + l0.length < 17592186044416 then (some (y429 ++ l0)) else (none)) = some r := by first | (rw [hy429]; with_reducible exact H) | (have H2_ := (Option.bind_some _ _).symm.trans H; rw [hy429]; with_reducible exact H2_) | (have H2_ := (Option.bind_some _ _).symm.trans H; with_reducible exact H2_) | with_reducible exact H | (rw [hy429]; exact H) | exact H
  have Ny429 := Aside0.mk hy429; clear hy429
  by_cases c5 : y429.length + l0.length < 17592186044416
  rotate_left
  ·
   rw [if_neg c5] at H
   exact absurd H (by simp)
  rw [if_pos c5] at H
  have LMc5 := Aside0.mk c5; clear c5; obtain ⟨y432, hy432⟩ : ∃ y_ : List Int, y_ = (y429 ++ l0) := ⟨_, rfl⟩
  replace H : (some y432) = some r := by first | (rw [hy432]; with_reducible exact H) | (have H2_ := (Option.bind_some _ _).symm.trans H; rw [hy432]; with_reducible exact H2_) | (have H2_ := (Option.bind_some _ _).symm.trans H; with_reducible exact H2_) | with_reducible exact H | (rw [hy432]; exact H) | exact H
  have Ny432 := Aside0.mk hy432; clear hy432; obtain rfl := Option.some.inj H
  go_enter Tryz.func207, Tryz.ntmps207
  go_wp2_with (first | ((with_reducible refine gate_callee (f := 233) rfl ?_); refine gB (some 9) Tryz.func233 #[.slice A0 l0.length c0, .int .i64 a1] ?_; (with_reducible refine (spec_SetHas.calls k _ _ l0 a1 true _ ?side1 ?side2 A3.out).mono ?_); (case side1 => exact cI HR0.out); (case side2 => exact HC0.out); rintro e w' ⟨rfl, ⟨nd, rfl⟩⟩; refine ⟨_, rfl, ?_⟩) | ((with_reducible refine gate_dst (N := 10) rfl ?_); refine Kd.R_lit (Kd.int .i64) _ 3 ?hg (N := 10) ?hd (xs := ([] : List Int)) (inner := []) (ok := fun _ => True) (okp := fun _ => True) ?hr ?hp (fun _ hk => hk) trivial (Below.refl _ _) (Nat.le_refl _) (by simp) ?_; (case hd => rfl); (case hg => rfl); (case hr => first | (go_simp; done) | (go_simp; rfl)); (case hp => exact (Reps.none _ _)); intro v430 w6 ho7 hb hg_ hnew_; clear hg_ hnew_; (first | rw [← Ny429.out] at ho7 | (simp only [Int.reduceToNat] at ho7; rw [← Ny429.out] at ho7)); have HO431 := Aside0.mk (Kd.R_lower ho7 (below_size (bI HB.out))); replace HB := bs HB hb; clear hb ho7) | ((with_reducible refine gate_builtin (b := .append) (xs := #[.tmp 10, .tmp 11]) rfl ?_); at_builtin; refine Kd.R_append_rows (Kd.int .i64) (w0 := w) w.heap.size rfl (.tmp 10) (.tmp 11) 25 3 (.int .i64 0) 8 rfl Tryz.underlying25 info3 rfl (by decide) (by omega) v430 y429 l0 _ _ _ (fun _ => True) (fun _ => False) rfl rfl ?aO ?aR (fun _ _ h => h) (fun _ h => h.elim) ?aF ?aB ?aS ?aL ?_; (case aR => exact ch HR0 HB); (case aB => exact (bI HB.out)); (case aF => exact (fun _ _ => trivial)); (case aO => exact (rI HO431.out)); (case aS => exact (below_size (bI HB.out))); (case aL => have := LMc5.out; omega); intro v433 w8 ho hb hg hat; rw [← Ny432.out] at ho; have n0_ := Aside0.mk (hb); have n1_ := Aside0.mk (ho); clear HB; clear HO431; have HB := n0_; have HO434 := n1_; clear n0_ n1_; clear ho hb hg hat))
  go_ret
  exact ⟨_, y0_14, by (with_reducible repeat (first | apply Kd.R_alloc | apply Kd.R_drewN | apply Kd.R_drew)); exact HO434.out, bI HB.out⟩
 replace c4 := Bool.eq_false_iff.mpr c4; subst c4
 rw [if_neg (show ¬ (false = true) by decide)] at H
 have H' := Aside0.mk H; clear H
 go_enter Tryz.func207, Tryz.ntmps207
 go_wp2_with (first | ((with_reducible refine gate_callee (f := 233) rfl ?_); refine gB (some 9) Tryz.func233 #[.slice A0 l0.length c0, .int .i64 a1] ?_; (with_reducible refine (spec_SetHas.calls k _ _ l0 a1 false _ ?side1 ?side2 A3.out).mono ?_); (case side1 => exact cI HR0.out); (case side2 => exact HC0.out); rintro e w' ⟨rfl, ⟨nd, rfl⟩⟩; refine ⟨_, rfl, ?_⟩))
 go_loopg [5] k (fun kq v5 w' => ∃ (x5_1 : Int), v5 = .int .i64 x5_1 ∧ Aside0 (spec_SetAdd.l0 kq l0 a1 x5_1 = some r) ∧ Aside0 (kq ≤ k) ∧ Aside0 (Below w.heap.size w w'))
 case atStart => exact ⟨(0), y0_18, H', ⟨Nat.le_refl _⟩, ⟨bI HB.out⟩⟩
 case round =>
  clear H'
  try clear c2
  try clear p2
  try clear c4
  try clear c5
  obtain ⟨x5_1, rfl, HA, HK1, HB⟩ := hrel; cases gk with
  | zero => exact absurd HA.out (by simp [spec_SetAdd.l0])
  | succ k1 =>
   have H := HA.out; clear HA
   simp only [spec_SetAdd.l0] at H
   by_cases c9 : x5_1 < (l0.length : Int)
   ·
    rw [if_pos c9] at H
    have c9b0 : decide (x5_1 < (l0.length : Int)) = true := decide_eq_true c9; clear c9
    by_cases c10 : 0 ≤ x5_1
    rotate_left
    ·
     rw [if_neg c10] at H
     exact absurd H (by simp)
    rw [if_pos c10] at H
    have c10b0 : decide (0 ≤ x5_1) = true := decide_eq_true c10; clear c10
    by_cases c11 : (rd l0 x5_1) < a1
    ·
     rw [if_pos c11] at H
     have c11b0 : decide ((rd l0 x5_1) < a1) = true := decide_eq_true c11; clear c11; have H' := Aside0.mk H; clear H; have p435 : 0 ≤ (x5_1 : Int) := of_decide_eq_true y0_17; have q435 : x5_1 < (l0.length : Int) := of_decide_eq_true y0_17; obtain ⟨ad435, e435, hx435_0⟩ := Kd.at_int HR0.out x5_1 p435 q435; cases e435; replace hx435_0 := bx HB hx435_0; replace p435 := eq_true p435; replace q435 := eq_true q435
     go_wp2
     go_roundg k1
     case measure => have := HK1.out; omega
     case rel => exact ⟨(wrap64 (x5_1 + 1)), y0_18, H', ⟨y0_21⟩, ⟨bI HB.out⟩⟩
    rw [if_neg c11] at H
    have c11b0 : decide ((rd l0 x5_1) < a1) = false := decide_eq_false c11; clear c11; obtain ⟨y436, hy436⟩ : ∃ y_ : List Int, y_ = (([] : List Int)) := ⟨_, rfl⟩
    replace H : (if x5_1 ≤ (l0.length : Int) then (if y436.length + (l0.take (x5_1 : Int).toNat).length < 17592186044416 then ((some (y436 ++ (l0.take (x5_1 : Int).toNat) : List Int)).bind fun y440 => (if y440.length < 17592186044416 then ((some (y440 ++ [a1] : List Int)).bind fun y443 => (if y443.length + (l0.drop (x5_1 : Int).toNat).length < 17592186044416 then (some (y443 ++ (l0.drop (x5_1 : Int).toNat))) else (none))) else (none))) else (none)) else (none)) = some r := by first | (rw [hy436]; with_reducible exact H) | (have H2_ := (Option.bind_some _ _).symm.trans H; rw [hy436]; with_reducible exact H2_) | (have H2_ := (Option.bind_some _ _).symm.trans H; with_reducible exact H2_) | with_reducible exact H | (rw [hy436]; exact H) | exact H
    have Ny436 := Aside0.mk hy436; clear hy436; have c12b0 := eq_true (of_decide_eq_true y0_17 : 0 ≤ x5_1)
    by_cases c13 : x5_1 ≤ (l0.length : Int)
    rotate_left
    ·
     rw [if_neg c13] at H
     exact absurd H (by simp)
    rw [if_pos c13] at H
    have c13b0 := eq_true c13; have c13b1 : decide (x5_1 ≤ (l0.length : Int)) = true := decide_eq_true c13; clear c13
    by_cases c14 : y436.length + (l0.take (x5_1 : Int).toNat).length < 17592186044416
    rotate_left
    ·
     rw [if_neg c14] at H
     exact absurd H (by simp)
    rw [if_pos c14] at H
    have LMc14 := Aside0.mk c14; clear c14; obtain ⟨y440, hy440⟩ : ∃ y_ : List Int, y_ = (y436 ++ (l0.take (x5_1 : Int).toNat)) := ⟨_, rfl⟩
    replace H : (if y440.length < 17592186044416 then ((some (y440 ++ [a1] : List Int)).bind fun y443 => (if y443.length + (l0.drop (x5_1 : Int).toNat).length < 17592186044416 then (some (y443 ++ (l0.drop (x5_1 : Int).toNat))) else (none))) else (none)) = some r := by first | (rw [hy440]; with_reducible exact H) | (have H2_ := (Option.bind_some _ _).symm.trans H; rw [hy440]; with_reducible exact H2_) | (have H2_ := (Option.bind_some _ _).symm.trans H; with_reducible exact H2_) | with_reducible exact H | (rw [hy440]; exact H) | exact H
    have Ny440 := Aside0.mk hy440; clear hy440
    by_cases c15 : y440.length < 17592186044416
    rotate_left
    ·
     rw [if_neg c15] at H
     exact absurd H (by simp)
    rw [if_pos c15] at H
    have LMc15 := Aside0.mk c15; clear c15; obtain ⟨y443, hy443⟩ : ∃ y_ : List Int, y_ = (y440 ++ [a1]) := ⟨_, rfl⟩
    replace H : (if y443.length + (l0.drop (x5_1 : Int).toNat).length < 17592186044416 then (some (y443 ++ (l0.drop (x5_1 : Int).toNat))) else (none)) = some r := by first | (rw [hy443]; with_reducible exact H) | (have H2_ := (Option.bind_some _ _).symm.trans H; rw [hy443]; with_reducible exact H2_) | (have H2_ := (Option.bind_some _ _).symm.trans H; with_reducible exact H2_) | with_reducible exact H | (rw [hy443]; exact H) | exact H
    have Ny443 := Aside0.mk hy443; clear hy443; have c16b0 := eq_true (of_decide_eq_true y0_17 : 0 ≤ x5_1); have c17b0 := eq_true (of_decide_eq_true y0_17 : x5_1 ≤ (l0.length : Int))
    by_cases c18 : y443.length + (l0.drop (x5_1 : Int).toNat).length < 17592186044416
    rotate_left
    ·
     rw [if_neg c18] at H
     exact absurd H (by simp)
    rw [if_pos c18] at H
    have LMc18 := Aside0.mk c18; clear c18; obtain ⟨y447, hy447⟩ : ∃ y_ : List Int, y_ = (y443 ++ (l0.drop (x5_1 : Int).toNat)) := ⟨_, rfl⟩
    replace H : (some y447) = some r := by first | (rw [hy447]; with_reducible exact H) | (have H2_ := (Option.bind_some _ _).symm.trans H; rw [hy447]; with_reducible exact H2_) | (have H2_ := (Option.bind_some _ _).symm.trans H; with_reducible exact H2_) | with_reducible exact H | (rw [hy447]; exact H) | exact H
    have Ny447 := Aside0.mk hy447; clear hy447; obtain rfl := Option.some.inj H; have p435 : 0 ≤ (x5_1 : Int) := of_decide_eq_true y0_17; have q435 : x5_1 < (l0.length : Int) := of_decide_eq_true y0_17; obtain ⟨ad435, e435, hx435_0⟩ := Kd.at_int HR0.out x5_1 p435 q435; cases e435; replace hx435_0 := bx HB hx435_0; replace p435 := eq_true p435; replace q435 := eq_true q435
    go_wp2_with (first | ((with_reducible refine gate_dst (N := 27) rfl ?_); refine Kd.R_lit (Kd.int .i64) _ 3 ?hg (N := 27) ?hd (xs := ([] : List Int)) (inner := []) (ok := fun _ => True) (okp := fun _ => True) ?hr ?hp (fun _ hk => hk) trivial (Below.refl _ _) (Nat.le_refl _) (by simp) ?_; (case hd => rfl); (case hg => rfl); (case hr => first | (go_simp; done) | (go_simp; rfl)); (case hp => exact (Reps.none _ _)); intro v437 w19 ho20 hb hg_ hnew_; clear hg_ hnew_; (first | rw [← Ny436.out] at ho20 | (simp only [Int.reduceToNat] at ho20; rw [← Ny436.out] at ho20)); have HO438 := Aside0.mk (Kd.R_lower ho20 (below_size (bI HB.out))); replace HB := bs HB hb; clear hb ho20; obtain ⟨i021, hi021, _, hsz21, _⟩ := info_parts info3; obtain ⟨hcut21, hA21, hC21⟩ := print_take_of (P := Tryz.prog) (Value.int .i64) 0 25 3 .i64 Tryz.underlying25 hi021 hsz21 (some ad435) c0 l0 x5_1 (of_decide_eq_true y0_17) (of_decide_eq_true y0_17) HC0.out; have HR439 := Aside0.mk (Kd.C_of_reads (h1 := fun _ => rfl) (hA21 _ (Kd.reads_of_C HR0.out))); have HC439 := Aside0.mk hC21; clear hA21 hC21 hi021 hsz21) | ((with_reducible refine gate_builtin (b := .append) (xs := #[.tmp 27, .tmp 30]) rfl ?_); at_builtin; refine Kd.R_append_rows (Kd.int .i64) (w0 := w) w.heap.size rfl (.tmp 27) (.tmp 30) 25 3 (.int .i64 0) 8 rfl Tryz.underlying25 info3 rfl (by decide) (by omega) v437 y436 (l0.take (x5_1 : Int).toNat) _ _ _ (fun _ => True) (fun _ => False) rfl rfl ?aO ?aR (fun _ _ h => h) (fun _ h => h.elim) ?aF ?aB ?aS ?aL ?_; (case aR => first | exact cE (show (l0.take (x5_1 : Int).toNat).length = x5_1.toNat from y0_8) (Kd.C_below HR439.out HB.out) | (exact ch HR439 HB)); (case aB => exact (bI HB.out)); (case aF => exact (fun _ _ => trivial)); (case aO => exact (rI HO438.out)); (case aS => exact (below_size (bI HB.out))); (case aL => have := LMc14.out; have hlx_ := (show (l0.take (x5_1 : Int).toNat).length = x5_1.toNat from y0_8); omega); intro v441 w22 ho hb hg hat; rw [← Ny440.out] at ho; have n0_ := Aside0.mk (hb); have n1_ := Aside0.mk (ho); clear HB; clear HO438; have HB := n0_; have HO442 := n1_; clear n0_ n1_; clear ho hb hg hat) | ((with_reducible refine gate_builtin (b := .append) (xs := #[.tmp 32, .tmp 34]) rfl ?_); at_builtin; refine Kd.R_append (Kd.int .i64) (w0 := w) w.heap.size rfl (.tmp 32) (.tmp 34) 25 3 (.int .i64 0) 8 rfl Tryz.underlying25 info3 rfl (by decide) (by omega) v441 y440 a1 [.int .i64 a1] (fun _ => True) (fun _ => False) rfl rfl ?aP (fun _ hk => hk.elim) ?aF ?aO ?aB ?aS ?aL ?_; (case aP => exact rfl); (case aB => exact (bI HB.out)); (case aF => exact (fun _ _ => trivial)); (case aO => exact (rI HO442.out)); (case aS => exact (below_size (bI HB.out))); (case aL => have := LMc15.out; omega); intro v444 w23 ho hb hg hat; rw [← Ny443.out] at ho; have n0_ := Aside0.mk (hb); have n1_ := Aside0.mk (ho); clear HB; clear HO442; have HB := n0_; have HO445 := n1_; clear n0_ n1_; clear ho hb hg hat; obtain ⟨i024, hi024, _, hsz24, _⟩ := info_parts info3; obtain ⟨A24, hcut24, hA24, hC24⟩ := print_drop_of (P := Tryz.prog) (Value.int .i64) 0 25 3 .i64 Tryz.underlying25 hi024 hsz24 (some ad435) c0 l0 x5_1 (of_decide_eq_true y0_17) (of_decide_eq_true y0_17) HC0.out; have HR446 := Aside0.mk (Kd.C_of_reads (h1 := fun _ => rfl) (hA24 _ (Kd.reads_of_C HR0.out))); have HC446 := Aside0.mk hC24; clear hA24 hC24 hi024 hsz24) | ((with_reducible refine gate_builtin (b := .append) (xs := #[.tmp 36, .tmp 39]) rfl ?_); at_builtin; refine Kd.R_append_rows (Kd.int .i64) (w0 := w) w.heap.size rfl (.tmp 36) (.tmp 39) 25 3 (.int .i64 0) 8 rfl Tryz.underlying25 info3 rfl (by decide) (by omega) v444 y443 (l0.drop (x5_1 : Int).toNat) _ _ _ (fun _ => True) (fun _ => False) rfl rfl ?aO ?aR (fun _ _ h => h) (fun _ h => h.elim) ?aF ?aB ?aS ?aL ?_; (case aR => first | exact cE (show (l0.drop (x5_1 : Int).toNat).length = (l0.length - x5_1.toNat) from List.length_drop) (Kd.C_below HR446.out HB.out) | (exact ch HR446 HB)); (case aB => exact (bI HB.out)); (case aF => exact (fun _ _ => trivial)); (case aO => exact (rI HO445.out)); (case aS => exact (below_size (bI HB.out))); (case aL => have := LMc18.out; have hlx_ := (show (l0.drop (x5_1 : Int).toNat).length = (l0.length - x5_1.toNat) from List.length_drop); omega); intro v448 w25 ho hb hg hat; rw [← Ny447.out] at ho; have n0_ := Aside0.mk (hb); have n1_ := Aside0.mk (ho); clear HB; clear HO445; have HB := n0_; have HO449 := n1_; clear n0_ n1_; clear ho hb hg hat))
    go_ret
    exact ⟨_, y0_14, by (with_reducible repeat (first | apply Kd.R_alloc | apply Kd.R_drewN | apply Kd.R_drew)); exact HO449.out, bI HB.out⟩
   rw [if_neg c9] at H
   have c9b0 : decide (x5_1 < (l0.length : Int)) = false := decide_eq_false c9; clear c9; obtain ⟨y450, hy450⟩ : ∃ y_ : List Int, y_ = (([] : List Int)) := ⟨_, rfl⟩
   replace H : (if 0 ≤ x5_1 then (if x5_1 ≤ (l0.length : Int) then (if y450.length + (l0.take (x5_1 : Int).toNat).length < 17592186044416 then ((some (y450 ++ (l0.take (x5_1 : Int).toNat) : List Int)).bind fun y454 => (if y454.length < 17592186044416 then ((some (y454 ++ [a1] : List Int)).bind fun y457 => (if y457.length + (l0.drop (x5_1 : Int).toNat).length < 17592186044416 then (some (y457 ++ (l0.drop (x5_1 : Int).toNat))) else (none))) else (none))) else (none)) else (none)) else (none)) = some r := by first | (rw [hy450]; with_reducible exact H) | (have H2_ := (Option.bind_some _ _).symm.trans H; rw [hy450]; with_reducible exact H2_) | (have H2_ := (Option.bind_some _ _).symm.trans H; with_reducible exact H2_) | with_reducible exact H | (rw [hy450]; exact H) | exact H
   have Ny450 := Aside0.mk hy450; clear hy450
   by_cases c26 : 0 ≤ x5_1
   ·
    rw [if_pos c26] at H
    have c26b0 := eq_true c26; have c26b1 : decide (0 ≤ x5_1) = true := decide_eq_true c26; clear c26
    by_cases c27 : x5_1 ≤ (l0.length : Int)
    rotate_left
    ·
     rw [if_neg c27] at H
     exact absurd H (by simp)
    rw [if_pos c27] at H
    have c27b0 := eq_true c27; have c27b1 : decide (x5_1 ≤ (l0.length : Int)) = true := decide_eq_true c27; clear c27
    by_cases c28 : y450.length + (l0.take (x5_1 : Int).toNat).length < 17592186044416
    rotate_left
    ·
     rw [if_neg c28] at H
     exact absurd H (by simp)
    rw [if_pos c28] at H
    have LMc28 := Aside0.mk c28; clear c28; obtain ⟨y454, hy454⟩ : ∃ y_ : List Int, y_ = (y450 ++ (l0.take (x5_1 : Int).toNat)) := ⟨_, rfl⟩
    replace H : (if y454.length < 17592186044416 then ((some (y454 ++ [a1] : List Int)).bind fun y457 => (if y457.length + (l0.drop (x5_1 : Int).toNat).length < 17592186044416 then (some (y457 ++ (l0.drop (x5_1 : Int).toNat))) else (none))) else (none)) = some r := by first | (rw [hy454]; with_reducible exact H) | (have H2_ := (Option.bind_some _ _).symm.trans H; rw [hy454]; with_reducible exact H2_) | (have H2_ := (Option.bind_some _ _).symm.trans H; with_reducible exact H2_) | with_reducible exact H | (rw [hy454]; exact H) | exact H
    have Ny454 := Aside0.mk hy454; clear hy454
    by_cases c29 : y454.length < 17592186044416
    rotate_left
    ·
     rw [if_neg c29] at H
     exact absurd H (by simp)
    rw [if_pos c29] at H
    have LMc29 := Aside0.mk c29; clear c29; obtain ⟨y457, hy457⟩ : ∃ y_ : List Int, y_ = (y454 ++ [a1]) := ⟨_, rfl⟩
    replace H : (if y457.length + (l0.drop (x5_1 : Int).toNat).length < 17592186044416 then (some (y457 ++ (l0.drop (x5_1 : Int).toNat))) else (none)) = some r := by first | (rw [hy457]; with_reducible exact H) | (have H2_ := (Option.bind_some _ _).symm.trans H; rw [hy457]; with_reducible exact H2_) | (have H2_ := (Option.bind_some _ _).symm.trans H; with_reducible exact H2_) | with_reducible exact H | (rw [hy457]; exact H) | exact H
    have Ny457 := Aside0.mk hy457; clear hy457; have c30b0 := eq_true (of_decide_eq_true y0_17 : 0 ≤ x5_1); have c31b0 := eq_true (of_decide_eq_true y0_17 : x5_1 ≤ (l0.length : Int))
    by_cases c32 : y457.length + (l0.drop (x5_1 : Int).toNat).length < 17592186044416
    rotate_left
    ·
     rw [if_neg c32] at H
     exact absurd H (by simp)
    rw [if_pos c32] at H
    have LMc32 := Aside0.mk c32; clear c32; obtain ⟨y461, hy461⟩ : ∃ y_ : List Int, y_ = (y457 ++ (l0.drop (x5_1 : Int).toNat)) := ⟨_, rfl⟩
    replace H : (some y461) = some r := by first | (rw [hy461]; with_reducible exact H) | (have H2_ := (Option.bind_some _ _).symm.trans H; rw [hy461]; with_reducible exact H2_) | (have H2_ := (Option.bind_some _ _).symm.trans H; with_reducible exact H2_) | with_reducible exact H | (rw [hy461]; exact H) | exact H
    have Ny461 := Aside0.mk hy461; clear hy461; obtain rfl := Option.some.inj H
    go_wp2_with (first | ((with_reducible refine gate_dst (N := 27) rfl ?_); refine Kd.R_lit (Kd.int .i64) _ 3 ?hg (N := 27) ?hd (xs := ([] : List Int)) (inner := []) (ok := fun _ => True) (okp := fun _ => True) ?hr ?hp (fun _ hk => hk) trivial (Below.refl _ _) (Nat.le_refl _) (by simp) ?_; (case hd => rfl); (case hg => rfl); (case hr => first | (go_simp; done) | (go_simp; rfl)); (case hp => exact (Reps.none _ _)); intro v451 w33 ho34 hb hg_ hnew_; clear hg_ hnew_; (first | rw [← Ny450.out] at ho34 | (simp only [Int.reduceToNat] at ho34; rw [← Ny450.out] at ho34)); have HO452 := Aside0.mk (Kd.R_lower ho34 (below_size (bI HB.out))); replace HB := bs HB hb; clear hb ho34; obtain ⟨i035, hi035, _, hsz35, _⟩ := info_parts info3; obtain ⟨hcut35, hA35, hC35⟩ := print_take_of (P := Tryz.prog) (Value.int .i64) 0 25 3 .i64 Tryz.underlying25 hi035 hsz35 A0 c0 l0 x5_1 (of_decide_eq_true y0_17) (of_decide_eq_true y0_17) HC0.out; have HR453 := Aside0.mk (Kd.C_of_reads (h1 := fun _ => rfl) (hA35 _ (Kd.reads_of_C HR0.out))); have HC453 := Aside0.mk hC35; clear hA35 hC35 hi035 hsz35) | ((with_reducible refine gate_builtin (b := .append) (xs := #[.tmp 27, .tmp 30]) rfl ?_); at_builtin; refine Kd.R_append_rows (Kd.int .i64) (w0 := w) w.heap.size rfl (.tmp 27) (.tmp 30) 25 3 (.int .i64 0) 8 rfl Tryz.underlying25 info3 rfl (by decide) (by omega) v451 y450 (l0.take (x5_1 : Int).toNat) _ _ _ (fun _ => True) (fun _ => False) rfl rfl ?aO ?aR (fun _ _ h => h) (fun _ h => h.elim) ?aF ?aB ?aS ?aL ?_; (case aR => first | exact cE (show (l0.take (x5_1 : Int).toNat).length = x5_1.toNat from y0_8) (Kd.C_below HR453.out HB.out) | (exact ch HR453 HB)); (case aB => exact (bI HB.out)); (case aF => exact (fun _ _ => trivial)); (case aO => exact (rI HO452.out)); (case aS => exact (below_size (bI HB.out))); (case aL => have := LMc28.out; have hlx_ := (show (l0.take (x5_1 : Int).toNat).length = x5_1.toNat from y0_8); omega); intro v455 w36 ho hb hg hat; rw [← Ny454.out] at ho; have n0_ := Aside0.mk (hb); have n1_ := Aside0.mk (ho); clear HB; clear HO452; have HB := n0_; have HO456 := n1_; clear n0_ n1_; clear ho hb hg hat) | ((with_reducible refine gate_builtin (b := .append) (xs := #[.tmp 32, .tmp 34]) rfl ?_); at_builtin; refine Kd.R_append (Kd.int .i64) (w0 := w) w.heap.size rfl (.tmp 32) (.tmp 34) 25 3 (.int .i64 0) 8 rfl Tryz.underlying25 info3 rfl (by decide) (by omega) v455 y454 a1 [.int .i64 a1] (fun _ => True) (fun _ => False) rfl rfl ?aP (fun _ hk => hk.elim) ?aF ?aO ?aB ?aS ?aL ?_; (case aP => exact rfl); (case aB => exact (bI HB.out)); (case aF => exact (fun _ _ => trivial)); (case aO => exact (rI HO456.out)); (case aS => exact (below_size (bI HB.out))); (case aL => have := LMc29.out; omega); intro v458 w37 ho hb hg hat; rw [← Ny457.out] at ho; have n0_ := Aside0.mk (hb); have n1_ := Aside0.mk (ho); clear HB; clear HO456; have HB := n0_; have HO459 := n1_; clear n0_ n1_; clear ho hb hg hat; obtain ⟨i038, hi038, _, hsz38, _⟩ := info_parts info3; obtain ⟨A38, hcut38, hA38, hC38⟩ := print_drop_of (P := Tryz.prog) (Value.int .i64) 0 25 3 .i64 Tryz.underlying25 hi038 hsz38 A0 c0 l0 x5_1 (of_decide_eq_true y0_17) (of_decide_eq_true y0_17) HC0.out; have HR460 := Aside0.mk (Kd.C_of_reads (h1 := fun _ => rfl) (hA38 _ (Kd.reads_of_C HR0.out))); have HC460 := Aside0.mk hC38; clear hA38 hC38 hi038 hsz38) | ((with_reducible refine gate_builtin (b := .append) (xs := #[.tmp 36, .tmp 39]) rfl ?_); at_builtin; refine Kd.R_append_rows (Kd.int .i64) (w0 := w) w.heap.size rfl (.tmp 36) (.tmp 39) 25 3 (.int .i64 0) 8 rfl Tryz.underlying25 info3 rfl (by decide) (by omega) v458 y457 (l0.drop (x5_1 : Int).toNat) _ _ _ (fun _ => True) (fun _ => False) rfl rfl ?aO ?aR (fun _ _ h => h) (fun _ h => h.elim) ?aF ?aB ?aS ?aL ?_; (case aR => first | exact cE (show (l0.drop (x5_1 : Int).toNat).length = (l0.length - x5_1.toNat) from List.length_drop) (Kd.C_below HR460.out HB.out) | (exact ch HR460 HB)); (case aB => exact (bI HB.out)); (case aF => exact (fun _ _ => trivial)); (case aO => exact (rI HO459.out)); (case aS => exact (below_size (bI HB.out))); (case aL => have := LMc32.out; have hlx_ := (show (l0.drop (x5_1 : Int).toNat).length = (l0.length - x5_1.toNat) from List.length_drop); omega); intro v462 w39 ho hb hg hat; rw [← Ny461.out] at ho; have n0_ := Aside0.mk (hb); have n1_ := Aside0.mk (ho); clear HB; clear HO459; have HB := n0_; have HO463 := n1_; clear n0_ n1_; clear ho hb hg hat))
    go_ret
    exact ⟨_, y0_14, by (with_reducible repeat (first | apply Kd.R_alloc | apply Kd.R_drewN | apply Kd.R_drew)); exact HO463.out, bI HB.out⟩
   rw [if_neg c26] at H
   exact absurd H (by simp)

/-! ### spec_l6DrawSet: function 190 -/
def spec_l6DrawSet.l0 : Nat → Int → List Int → Int → List Int → Int → Int → Option (List Int × Int × Int)
 | 0, _, _, _, _, _, _ => none
 | k + 1, x1, x5, x6, x1000, x1001, x1002 => (spec_l1Below.f x1000 x1001 x1002 8).bind fun bt467 => (if x6 < bt467.1 then ((spec_l1Below.f x1000 bt467.2.1 bt467.2.2 x1).bind fun bt470 => ((spec_SetAdd.f k x5 bt470.1).bind fun t473 => (spec_l6DrawSet.l0 k x1 t473 (wrap64 (x6 + 1)) x1000 bt470.2.1 bt470.2.2))) else ((spec_l1Once.f x1000 bt467.2.1 bt467.2.2 12).bind fun bt476 => (if bt476.1 = true then ((spec_l1PickInt.f x1000 bt476.2.1 bt476.2.2 (([(-1), 0, 3, 9] : List Int))).bind fun bt482 => (if x5.length < 17592186044416 then (some ((x5 ++ [bt482.1]), bt482.2.1, bt482.2.2)) else (none))) else (some (x5, bt476.2.1, bt476.2.2)))))
def spec_l6DrawSet.f (k : Nat) (s0_0 : List Int) (s0_1 : Int) (s0_2 : Int) (a1 : Int) : Option (List Int × Int × Int) := spec_l6DrawSet.l0 k a1 (([] : List Int)) 0 s0_0 s0_1 s0_2
theorem spec_l6DrawSet.mono_l : ∀ k, (∀ y0 y1 y2 y3 y4 y5, LeO (spec_l6DrawSet.l0 k y0 y1 y2 y3 y4 y5) (spec_l6DrawSet.l0 (k + 1) y0 y1 y2 y3 y4 y5))
 | 0 => fun _ _ _ _ _ _ r h => by simp [spec_l6DrawSet.l0] at h
 | k + 1 => by
  have ih0 := spec_l6DrawSet.mono_l k
  intro y0 y1 y2 y3 y4 y5
  unfold spec_l6DrawSet.l0
  repeat' first | (with_reducible exact ih0 _ _ _ _ _ _) | (with_reducible exact spec_SetAdd.mono _ _ _) | (with_reducible exact LeO.refl _) | (with_reducible exact LeO.none _) | (with_reducible refine LeO.ite ?_ ?_) | (with_reducible refine LeO.bind ?_ (fun _ => ?_))
theorem spec_l6DrawSet.mono : ∀ a0 a1 a2 a3 k, LeO (spec_l6DrawSet.f k a0 a1 a2 a3) (spec_l6DrawSet.f (k + 1) a0 a1 a2 a3) := by
 intro a0 a1 a2 a3 k
 have ih0 := spec_l6DrawSet.mono_l k
 unfold spec_l6DrawSet.f
 repeat' first | (with_reducible exact ih0 _ _ _ _ _ _) | (with_reducible exact spec_SetAdd.mono _ _ _) | (with_reducible exact LeO.refl _) | (with_reducible exact LeO.none _) | (with_reducible refine LeO.ite ?_ ?_) | (with_reducible refine LeO.bind ?_ (fun _ => ?_))
set_option maxHeartbeats 8000000 in
set_option maxRecDepth 100000 in
theorem spec_l6DrawSet.calls (k : Nat) (g : Nat) (s0_0 : List Int) (s0_1 : Int) (s0_2 : Int) (a1 : Int) (r1 : List Int) (r2 : Int) (r3 : Int) (w0 w : World) (hI : IsS188 w0 w g s0_0 s0_1 s0_2) (hB : Below w0.heap.size w0 w) (h : spec_l6DrawSet.f k s0_0 s0_1 s0_2 a1 = some (r1, r2, r3)) :
  Calls Tryz.prog 190 #[.pointer (some ⟨g, 0, none⟩), .int .i64 a1] w fun e w' => ∃ v0_ : Value, e = .returned (v0_) ∧ Kd.R (Kd.int .i64) 3 w' w.heap.size (fun _ => True) v0_ r1 ∧ IsS188 w0 w' g s0_0 r2 r3 ∧ Below w0.heap.size w0 w' ∧ KeepBut w w' g none := by
 have HI0 := Aside0.mk hI; have HK := Aside0.mk (KeepBut.refl w g none); have HL := Aside0.mk hB.size; clear hI; have HW0 := Aside0.mk hB.size; have HB := Aside0.mk hB; clear hB; have H : (spec_l6DrawSet.l0 k a1 (([] : List Int)) 0 s0_0 s0_1 s0_2) = some (r1, r2, r3) := h; clear h; obtain ⟨y464, hy464⟩ : ∃ y_ : List Int, y_ = (([] : List Int)) := ⟨_, rfl⟩
 replace H : (spec_l6DrawSet.l0 k a1 y464 0 s0_0 s0_1 s0_2) = some (r1, r2, r3) := by first | (rw [hy464]; with_reducible exact H) | (have H2_ := (Option.bind_some _ _).symm.trans H; rw [hy464]; with_reducible exact H2_) | (have H2_ := (Option.bind_some _ _).symm.trans H; with_reducible exact H2_) | with_reducible exact H | (rw [hy464]; exact H) | exact H
 have Ny464 := Aside0.mk hy464; clear hy464; have H' := Aside0.mk H; clear H
 go_enter Tryz.func190, Tryz.ntmps190
 go_wp2_with (first | ((with_reducible refine gate_dst (N := 7) rfl ?_); refine Kd.R_lit (Kd.int .i64) _ 3 ?hg (N := 7) ?hd (xs := ([] : List Int)) (inner := []) (ok := fun _ => True) (okp := fun _ => True) ?hr ?hp (fun _ hk => hk) trivial (Below.refl _ _) (Nat.le_refl _) (by simp) ?_; (case hd => rfl); (case hg => rfl); (case hr => first | (go_simp; done) | (go_simp; rfl)); (case hp => exact (Reps.none _ _)); intro v465 w3 ho4 hb hg_ hnew_; clear hg_ hnew_; (first | rw [← Ny464.out] at ho4 | (simp only [Int.reduceToNat] at ho4; rw [← Ny464.out] at ho4)); have HO466 := Aside0.mk (Kd.R_lower ho4 (keep_size (w := w) (g := g) (row := none) (hI HK.out))); replace HK := kb HK hb; replace HB : Aside0 (Below w0.heap.size w0 _) := Aside0.mk (below_step y0_7 hb); replace HI0 := Aside0.mk (IsS188.below y0_6 hb); clear hb ho4))
 go_loopg [5, 6] k (fun kq v5 v6 w' => ∃ (x5_1 : List Int) (x6_1 : Int) (x1001_1 : Int) (x1002_1 : Int), v6 = .int .i64 x6_1 ∧ Aside0 (spec_l6DrawSet.l0 kq a1 x5_1 x6_1 s0_0 x1001_1 x1002_1 = some (r1, r2, r3)) ∧ Aside0 (kq ≤ k) ∧ Aside0 (Kd.R (Kd.int .i64) 3 w' w.heap.size (fun _ => True) v5 x5_1) ∧ Aside0 (IsS188 w0 w' g s0_0 x1001_1 x1002_1) ∧ Aside0 (KeepBut w w' g none) ∧ Aside0 (Below w0.heap.size w0 w'))
 case atStart => exact ⟨(y464), (0), (s0_1), (s0_2), y0_18, H', ⟨Nat.le_refl _⟩, ⟨by (with_reducible repeat (first | apply Kd.R_alloc | apply Kd.R_drewN | apply Kd.R_drew)); exact HO466.out⟩, ⟨y0_6⟩, ⟨hI HK.out⟩, ⟨y0_7⟩⟩
 case round =>
  clear H'
  try clear c1
  try clear p2
  obtain ⟨x5_1, x6_1, x1001_1, x1002_1, rfl, HA, HK1, HO_5, HI0, HK, HB⟩ := hrel; cases gk with
  | zero => exact absurd HA.out (by simp [spec_l6DrawSet.l0])
  | succ k1 =>
   have H := HA.out; clear HA
   simp only [spec_l6DrawSet.l0] at H
   obtain ⟨⟨t467, t468, t469⟩, A50, H⟩ := Option.bind_eq_some_iff.mp H
   try dsimp only at H
   have A5 := Aside0.mk A50; clear A50
   by_cases c6 : x6_1 < t467
   ·
    rw [if_pos c6] at H
    have c6b0 : decide (x6_1 < t467) = true := decide_eq_true c6; clear c6; obtain ⟨⟨t470, t471, t472⟩, A70, H⟩ := Option.bind_eq_some_iff.mp H
    try dsimp only at H
    have A7 := Aside0.mk A70; clear A70; obtain ⟨t473, A80, H⟩ := Option.bind_eq_some_iff.mp H
    try dsimp only at H
    have A8 := Aside0.mk A80; clear A80; have H' := Aside0.mk H; clear H
    go_wp2_with (first | ((with_reducible refine gate_callee (f := 150) rfl ?_); refine gB (some 10) Tryz.func150 #[.pointer (some ⟨g, 0, none⟩), .int .i64 8] ?_; (with_reducible refine (spec_l1Below.calls g s0_0 x1001_1 x1002_1 8 t467 t468 t469 w0 _ ?side1 ?side2 A5.out).mono ?_); (case side1 => repeat (first | (with_reducible first | exact HI0.out | apply IsS188.alloc | apply IsS188.drewN | apply IsS188.drew | apply IsS188.set_1 | apply IsS188.set_2) | exact HI0.out)); (case side2 => repeat (first | (with_reducible first | exact HB.out | apply below_alloc | apply pw_below_drewN | apply below_drew1 | refine below_set ?_ (IsS188.ge HI0.out)) | exact HB.out)); rintro e w9 ⟨rfl, hi, hb, hk⟩; refine ⟨_, rfl, ?_⟩; replace HO_5 := Aside0.mk (Kd.R_mono (Kd.R_keep (IsS188.apart (show IsS188 w0 _ g s0_0 x1001_1 x1002_1 from y0_6) (rI HO_5.out) (by decide)) hk (fun _ h => h.2)) (fun _ h => h.1)); replace HK := kt HK hk; replace HB := Aside0.mk (hb); replace HI0 := Aside0.mk (hi); (try clear hb); (try clear hb2); (try clear hk); (try clear hi)) | ((with_reducible refine gate_callee (f := 150) rfl ?_); refine gB (some 17) Tryz.func150 #[.pointer (some ⟨g, 0, none⟩), .int .i64 a1] ?_; (with_reducible refine (spec_l1Below.calls g s0_0 t468 t469 a1 t470 t471 t472 w0 _ ?side1 ?side2 A7.out).mono ?_); (case side1 => repeat (first | (with_reducible first | exact HI0.out | apply IsS188.alloc | apply IsS188.drewN | apply IsS188.drew | apply IsS188.set_1 | apply IsS188.set_2) | exact HI0.out)); (case side2 => repeat (first | (with_reducible first | exact HB.out | apply below_alloc | apply pw_below_drewN | apply below_drew1 | refine below_set ?_ (IsS188.ge HI0.out)) | exact HB.out)); rintro e w10 ⟨rfl, hi, hb, hk⟩; refine ⟨_, rfl, ?_⟩; replace HO_5 := Aside0.mk (Kd.R_mono (Kd.R_keep (IsS188.apart (show IsS188 w0 _ g s0_0 t468 t469 from y0_6) (rI HO_5.out) (by decide)) hk (fun _ h => h.2)) (fun _ h => h.1)); replace HK := kt HK hk; replace HB := Aside0.mk (hb); replace HI0 := Aside0.mk (hi); (try clear hb); (try clear hb2); (try clear hk); (try clear hi); obtain ⟨Ao11, co11, eo11⟩ := Kd.R_slice HO_5.out; subst eo11) | ((with_reducible refine gate_callee (f := 207) rfl ?_); refine gB (some 18) Tryz.func207 #[.slice Ao11 x5_1.length co11, .int .i64 t470] ?_; (with_reducible refine (spec_SetAdd.calls k1 _ _ x5_1 t470 t473 _ ?side1 ?side2 A8.out).mono ?_); (case side1 => repeat (first | exact (Kd.R_reads' HO_5.out).2.2 | (with_reducible refine Kd.C_alloc ?_ _) | (with_reducible refine Kd.C_drewN ?_ _) | (with_reducible refine Kd.C_drew ?_))); (case side2 => exact (Kd.R_reads' HO_5.out).2.1); rintro e w12 ⟨v474, rfl, ho0, hb⟩; refine ⟨_, rfl, ?_⟩; have HO475 := Aside0.mk (Kd.R_lower (Kd.R_new' ho0 (Kd.R_lt (rI HO_5.out))) (keep_size (w := w) (g := g) (row := none) (hI HK.out))); replace HO_5 := Aside0.mk (Kd.R_elder' (rI HO_5.out) (Kd.R_base ho0) hb); replace HK := kb HK hb; replace HB : Aside0 (Below w0.heap.size w0 _) := Aside0.mk (below_step y0_7 hb); replace HI0 := Aside0.mk (IsS188.below y0_6 hb); (try clear hb); (try clear hk); (try clear hi)))
    go_roundg k1
    case measure => have := HK1.out; omega
    case rel => exact ⟨(t473), (wrap64 (x6_1 + 1)), (t471), (t472), y0_18, H', ⟨y0_21⟩, ⟨by (with_reducible repeat (first | apply Kd.R_alloc | apply Kd.R_drewN | apply Kd.R_drew)); exact Kd.R_mono HO475.out (fun _ hk => trivial)⟩, ⟨y0_6⟩, ⟨hI HK.out⟩, ⟨y0_7⟩⟩
   rw [if_neg c6] at H
   have c6b0 : decide (x6_1 < t467) = false := decide_eq_false c6; clear c6; obtain ⟨⟨t476, t477, t478⟩, A130, H⟩ := Option.bind_eq_some_iff.mp H
   try dsimp only at H
   have A13 := Aside0.mk A130; clear A130
   by_cases c14 : t476 = true
   ·
    subst c14
    rw [if_pos rfl] at H
    obtain ⟨y479, hy479⟩ : ∃ y_ : List Int, y_ = (([(-1), 0, 3, 9] : List Int)) := ⟨_, rfl⟩
    replace H : ((spec_l1PickInt.f s0_0 t477 t478 y479).bind fun bt482 => (if x5_1.length < 17592186044416 then (some ((x5_1 ++ [bt482.1]), bt482.2.1, bt482.2.2)) else (none))) = some (r1, r2, r3) := by first | (rw [hy479]; with_reducible exact H) | (have H2_ := (Option.bind_some _ _).symm.trans H; rw [hy479]; with_reducible exact H2_) | (have H2_ := (Option.bind_some _ _).symm.trans H; with_reducible exact H2_) | with_reducible exact H | (rw [hy479]; exact H) | exact H
    have Ny479 := Aside0.mk hy479; clear hy479; obtain ⟨⟨t482, t483, t484⟩, A150, H⟩ := Option.bind_eq_some_iff.mp H
    try dsimp only at H
    have A15 := Aside0.mk A150; clear A150
    by_cases c16 : x5_1.length < 17592186044416
    rotate_left
    ·
     rw [if_neg c16] at H
     exact absurd H (by simp)
    rw [if_pos c16] at H
    have LMc16 := Aside0.mk c16; clear c16; obtain ⟨y485, hy485⟩ : ∃ y_ : List Int, y_ = (x5_1 ++ [t482]) := ⟨_, rfl⟩
    replace H : (some (y485, t483, t484)) = some (r1, r2, r3) := by first | (rw [hy485]; with_reducible exact H) | (have H2_ := (Option.bind_some _ _).symm.trans H; rw [hy485]; with_reducible exact H2_) | (have H2_ := (Option.bind_some _ _).symm.trans H; with_reducible exact H2_) | with_reducible exact H | (rw [hy485]; exact H) | exact H
    have Ny485 := Aside0.mk hy485; clear hy485
    simp only [Option.some.injEq, Prod.mk.injEq] at H
    obtain ⟨rfl, rfl, rfl⟩ := H
    go_wp2_with (first | ((with_reducible refine gate_callee (f := 150) rfl ?_); refine gB (some 10) Tryz.func150 #[.pointer (some ⟨g, 0, none⟩), .int .i64 8] ?_; (with_reducible refine (spec_l1Below.calls g s0_0 x1001_1 x1002_1 8 t467 t468 t469 w0 _ ?side1 ?side2 A5.out).mono ?_); (case side1 => repeat (first | (with_reducible first | exact HI0.out | apply IsS188.alloc | apply IsS188.drewN | apply IsS188.drew | apply IsS188.set_1 | apply IsS188.set_2) | exact HI0.out)); (case side2 => repeat (first | (with_reducible first | exact HB.out | apply below_alloc | apply pw_below_drewN | apply below_drew1 | refine below_set ?_ (IsS188.ge HI0.out)) | exact HB.out)); rintro e w17 ⟨rfl, hi, hb, hk⟩; refine ⟨_, rfl, ?_⟩; replace HO_5 := Aside0.mk (Kd.R_mono (Kd.R_keep (IsS188.apart (show IsS188 w0 _ g s0_0 x1001_1 x1002_1 from y0_6) (rI HO_5.out) (by decide)) hk (fun _ h => h.2)) (fun _ h => h.1)); replace HK := kt HK hk; replace HB := Aside0.mk (hb); replace HI0 := Aside0.mk (hi); (try clear hb); (try clear hb2); (try clear hk); (try clear hi)) | ((with_reducible refine gate_callee (f := 128) rfl ?_); refine gB (some 20) Tryz.func128 #[.pointer (some ⟨g, 0, none⟩), .int .i64 12] ?_; (with_reducible refine (spec_l1Once.calls g s0_0 t468 t469 12 true t477 t478 w0 _ ?side1 ?side2 A13.out).mono ?_); (case side1 => repeat (first | (with_reducible first | exact HI0.out | apply IsS188.alloc | apply IsS188.drewN | apply IsS188.drew | apply IsS188.set_1 | apply IsS188.set_2) | exact HI0.out)); (case side2 => repeat (first | (with_reducible first | exact HB.out | apply below_alloc | apply pw_below_drewN | apply below_drew1 | refine below_set ?_ (IsS188.ge HI0.out)) | exact HB.out)); rintro e w18 ⟨rfl, hi, hb, hk⟩; refine ⟨_, rfl, ?_⟩; replace HO_5 := Aside0.mk (Kd.R_mono (Kd.R_keep (IsS188.apart (show IsS188 w0 _ g s0_0 t468 t469 from y0_6) (rI HO_5.out) (by decide)) hk (fun _ h => h.2)) (fun _ h => h.1)); replace HK := kt HK hk; replace HB := Aside0.mk (hb); replace HI0 := Aside0.mk (hi); (try clear hb); (try clear hb2); (try clear hk); (try clear hi)) | ((with_reducible refine gate_dst (N := 23) rfl ?_); refine Kd.R_lit (Kd.int .i64) _ 3 ?hg (N := 23) ?hd (xs := ([(-1), 0, 3, 9] : List Int)) (inner := [.int .i64 (-1), .int .i64 0, .int .i64 3, .int .i64 9]) (ok := fun _ => True) (okp := fun _ => True) ?hr ?hp (fun _ hk => hk) trivial (Below.refl _ _) (Nat.le_refl _) (by simp) ?_; (case hd => rfl); (case hg => rfl); (case hr => first | (go_simp; done) | (go_simp; rfl)); (case hp => exact (Reps.one (show Kd.M (Kd.int .i64) _ _ _ (-1) [.int .i64 (-1)] from rfl) (Reps.one (show Kd.M (Kd.int .i64) _ _ _ 0 [.int .i64 0] from rfl) (Reps.one (show Kd.M (Kd.int .i64) _ _ _ 3 [.int .i64 3] from rfl) (Reps.one (show Kd.M (Kd.int .i64) _ _ _ 9 [.int .i64 9] from rfl) (Reps.none _ _)))))); intro v480 w19 ho20 hb hg_ hnew_; clear hg_ hnew_; (first | rw [← Ny479.out] at ho20 | (simp only [Int.reduceToNat] at ho20; rw [← Ny479.out] at ho20)); have HO481 := Aside0.mk (Kd.R_lower (Kd.R_new' ho20 (Kd.R_lt (rI HO_5.out))) (keep_size (w := w) (g := g) (row := none) (hI HK.out))); replace HO_5 := Aside0.mk (Kd.R_elder' (rI HO_5.out) (Kd.R_base ho20) hb); replace HK := kb HK hb; replace HB : Aside0 (Below w0.heap.size w0 _) := Aside0.mk (below_step y0_7 hb); replace HI0 := Aside0.mk (IsS188.below y0_6 hb); clear hb ho20; obtain ⟨Ao21, co21, eo21⟩ := Kd.R_slice HO481.out; subst eo21) | ((with_reducible refine gate_callee (f := 160) rfl ?_); refine gB (some 24) Tryz.func160 #[.pointer (some ⟨g, 0, none⟩), .slice Ao21 y479.length co21] ?_; (with_reducible refine (spec_l1PickInt.calls g s0_0 t477 t478 _ _ y479 t482 t483 t484 w0 _ ?side1 ?side2 ?side3 ?side4 ?side5 A15.out).mono ?_); (case side1 => repeat (first | (with_reducible first | exact HI0.out | apply IsS188.alloc | apply IsS188.drewN | apply IsS188.drew | apply IsS188.set_1 | apply IsS188.set_2) | exact HI0.out)); (case side2 => repeat (first | (with_reducible first | exact HB.out | apply below_alloc | apply pw_below_drewN | apply below_drew1 | refine below_set ?_ (IsS188.ge HI0.out)) | exact HB.out)); (case side3 => repeat (first | exact (Kd.R_reads' HO481.out).2.2 | (with_reducible refine Kd.C_alloc ?_ _) | (with_reducible refine Kd.C_drewN ?_ _) | (with_reducible refine Kd.C_drew ?_))); (case side4 => exact (Kd.R_reads' HO481.out).2.1); (case side5 => exact far_slice (IsS188.own_ne HI0.out HO481.out (by decide))); rintro e w22 ⟨rfl, hi, hb, hk⟩; refine ⟨_, rfl, ?_⟩; replace HO_5 := Aside0.mk (Kd.R_mono (Kd.R_keep (IsS188.apart (show IsS188 w0 _ g s0_0 t477 t478 from y0_6) (rI HO_5.out) (by decide)) hk (fun _ h => h.2)) (fun _ h => h.1)); replace HO481 := Aside0.mk (Kd.R_mono (Kd.R_keep (IsS188.apart (show IsS188 w0 _ g s0_0 t477 t478 from y0_6) (rI HO481.out) (by decide)) hk (fun _ h => h.2)) (fun _ h => h.1)); replace HK := kt HK hk; replace HB := Aside0.mk (hb); replace HI0 := Aside0.mk (hi); (try clear hb); (try clear hb2); (try clear hk); (try clear hi)) | ((with_reducible refine gate_builtin (b := .append) (xs := #[.tmp 21, .tmp 25]) rfl ?_); at_builtin; refine Kd.R_append (Kd.int .i64) w.heap.size rfl (.tmp 21) (.tmp 25) 25 3 (.int .i64 0) 8 rfl Tryz.underlying25 info3 rfl (by decide) (by omega) u5 x5_1 t482 [.int .i64 t482] (fun k_ => some k_ ≠ (.slice Ao21 y479.length co21 : Value).ownBlock) (fun _ => False) rfl rfl ?aP (fun _ hk => hk.elim) ?aF ?aO (Below.refl _ _) ?aS ?aL ?_; (case aP => exact rfl); (case aF => exact (fun k_ hk => Kd.fresh' (Kd.R_lt (rI HO481.out)) k_ hk)); (case aO => exact (rI (Kd.R_mono HO_5.out (fun _ hk => hk.2)))); (case aS => exact (keep_size (w := w) (g := g) (row := none) (hI HK.out))); (case aL => have := LMc16.out; omega); intro v486 w23 ho hb hg hat; rw [← Ny485.out] at ho; have n0_ := Aside0.mk (IsS188.grown y0_6 hg (IsS188.own_ne HI0.out HO_5.out (by decide))); have n1_ := Aside0.mk (Kd.R_after (ok := (fun _ => True)) (rI HO481.out) hg hat); have n2_ := Aside0.mk (below_weaken y0_7 HL.out hb); have n3_ := Aside0.mk (KeepBut.trans (hI HK.out) (KeepBut.of_grown hg g) (Kd.R_base2 HO_5.out)); have n4_ := Aside0.mk (ho); clear HI0; clear HO481; clear HB; clear HK; clear HO_5; have HI0 := n0_; have HO481 := n1_; have HB := n2_; have HK := n3_; have HO487 := n4_; clear n0_ n1_ n2_ n3_ n4_; clear ho hb hg hat))
    go_ret
    exact ⟨_, y0_14, by (with_reducible repeat (first | apply Kd.R_alloc | apply Kd.R_drewN | apply Kd.R_drew)); exact Kd.R_mono HO487.out (fun _ hk => trivial), y0_6, y0_7, hI HK.out⟩
   replace c14 := Bool.eq_false_iff.mpr c14; subst c14
   rw [if_neg (show ¬ (false = true) by decide)] at H
   simp only [Option.some.injEq, Prod.mk.injEq] at H
   obtain ⟨rfl, rfl, rfl⟩ := H
   go_wp2_with (first | ((with_reducible refine gate_callee (f := 150) rfl ?_); refine gB (some 10) Tryz.func150 #[.pointer (some ⟨g, 0, none⟩), .int .i64 8] ?_; (with_reducible refine (spec_l1Below.calls g s0_0 x1001_1 x1002_1 8 t467 t468 t469 w0 _ ?side1 ?side2 A5.out).mono ?_); (case side1 => repeat (first | (with_reducible first | exact HI0.out | apply IsS188.alloc | apply IsS188.drewN | apply IsS188.drew | apply IsS188.set_1 | apply IsS188.set_2) | exact HI0.out)); (case side2 => repeat (first | (with_reducible first | exact HB.out | apply below_alloc | apply pw_below_drewN | apply below_drew1 | refine below_set ?_ (IsS188.ge HI0.out)) | exact HB.out)); rintro e w24 ⟨rfl, hi, hb, hk⟩; refine ⟨_, rfl, ?_⟩; replace HO_5 := Aside0.mk (Kd.R_mono (Kd.R_keep (IsS188.apart (show IsS188 w0 _ g s0_0 x1001_1 x1002_1 from y0_6) (rI HO_5.out) (by decide)) hk (fun _ h => h.2)) (fun _ h => h.1)); replace HK := kt HK hk; replace HB := Aside0.mk (hb); replace HI0 := Aside0.mk (hi); (try clear hb); (try clear hb2); (try clear hk); (try clear hi)) | ((with_reducible refine gate_callee (f := 128) rfl ?_); refine gB (some 20) Tryz.func128 #[.pointer (some ⟨g, 0, none⟩), .int .i64 12] ?_; (with_reducible refine (spec_l1Once.calls g s0_0 t468 t469 12 false t477 t478 w0 _ ?side1 ?side2 A13.out).mono ?_); (case side1 => repeat (first | (with_reducible first | exact HI0.out | apply IsS188.alloc | apply IsS188.drewN | apply IsS188.drew | apply IsS188.set_1 | apply IsS188.set_2) | exact HI0.out)); (case side2 => repeat (first | (with_reducible first | exact HB.out | apply below_alloc | apply pw_below_drewN | apply below_drew1 | refine below_set ?_ (IsS188.ge HI0.out)) | exact HB.out)); rintro e w25 ⟨rfl, hi, hb, hk⟩; refine ⟨_, rfl, ?_⟩; replace HO_5 := Aside0.mk (Kd.R_mono (Kd.R_keep (IsS188.apart (show IsS188 w0 _ g s0_0 t468 t469 from y0_6) (rI HO_5.out) (by decide)) hk (fun _ h => h.2)) (fun _ h => h.1)); replace HK := kt HK hk; replace HB := Aside0.mk (hb); replace HI0 := Aside0.mk (hi); (try clear hb); (try clear hb2); (try clear hk); (try clear hi)))
   go_ret
   exact ⟨_, y0_14, y0_12, y0_6, y0_7, hI HK.out⟩

/-! ### spec_l7Draw: function 121 -/
def spec_l7Draw.f (k : Nat) (s0_0 : List Int) (s0_1 : Int) (s0_2 : Int) (a1_0 : Int) (a1_1 : Int) : Option (Int × ByteArray × List Int × Int × Int) := (spec_l5DrawRight.f k s0_0 s0_1 s0_2).bind fun bt490 => ((spec_l7DrawOf.f k s0_0 bt490.2.1 bt490.2.2 a1_0 a1_1 bt490.1).bind fun bt493 => ((spec_l1Below.f s0_0 bt493.2.2.2.1 bt493.2.2.2.2 12).bind fun bt501 => (if bt501.1 = 0 then (some (wrap64 (bt493.1 + 1), bt493.2.1, bt493.2.2.1, bt501.2.1, bt501.2.2)) else (if bt501.1 = 1 then ((spec_l6DrawSet.f k s0_0 bt501.2.1 bt501.2.2 7).bind fun bt504 => (some (bt493.1, bt493.2.1, bt504.1, bt504.2.1, bt504.2.2))) else (if bt501.1 = 2 then ((spec_l5Draw.f k s0_0 bt501.2.1 bt501.2.2).bind fun bt509 => (some (bt493.1, bt509.1, bt493.2.2.1, bt509.2.1, bt509.2.2))) else (some (bt493.1, bt493.2.1, bt493.2.2.1, bt501.2.1, bt501.2.2)))))))
theorem spec_l7Draw.mono : ∀ a0 a1 a2 a3 a4 k, LeO (spec_l7Draw.f k a0 a1 a2 a3 a4) (spec_l7Draw.f (k + 1) a0 a1 a2 a3 a4) := by
 intro a0 a1 a2 a3 a4 k
 unfold spec_l7Draw.f
 repeat' first | (with_reducible exact spec_l5Draw.mono _ _ _ _) | (with_reducible exact spec_l5DrawRight.mono _ _ _ _) | (with_reducible exact spec_l6DrawSet.mono _ _ _ _ _) | (with_reducible exact spec_l7DrawOf.mono _ _ _ _ _ _ _) | (with_reducible exact LeO.refl _) | (with_reducible exact LeO.none _) | (with_reducible refine LeO.ite ?_ ?_) | (with_reducible refine LeO.bind ?_ (fun _ => ?_))
def spec_l7Draw.T1 : Bool × List (List Nat × List Nat) := (true, [([], []), ([], []), ([], []), ([2], [2]), ([0, 1, 3, 3], [0, 1, 3]), ([], []), ([5, 4, 4, 0, 1, 2, 3, 4, 5], [4, 5])])
def spec_l7Draw.B1 : List Nat := [0, 0, 0, 4, 15, 0, 63]
theorem spec_l7Draw.tab1 : rtab .any (opsOf Tryz.f121 1) = spec_l7Draw.T1 := by kernel_rfl
theorem spec_l7Draw.bits1 : waitsOk spec_l7Draw.T1.2 spec_l7Draw.B1 = true := by kernel_rfl
set_option maxHeartbeats 8000000 in
set_option maxRecDepth 100000 in
theorem spec_l7Draw.calls (k : Nat) (g : Nat) (s0_0 : List Int) (s0_1 : Int) (s0_2 : Int) (a1_0 : Int) (a1_1 : Int) (r1 : Int) (r2 : ByteArray) (r3 : List Int) (r4 : Int) (r5 : Int) (w0 w : World) (hI : IsS188 w0 w g s0_0 s0_1 s0_2) (hB : Below w0.heap.size w0 w) (h : spec_l7Draw.f k s0_0 s0_1 s0_2 a1_0 a1_1 = some (r1, r2, r3, r4, r5)) :
  Calls Tryz.prog 121 #[.pointer (some ⟨g, 0, none⟩), .agg #[.int .i64 a1_0, .int .i64 a1_1]] w fun e w' => ∃ v2_ : Value, e = .returned (.agg #[.int .i64 r1, .string r2, v2_]) ∧ Kd.R (Kd.int .i64) 3 w' w.heap.size (fun _ => True) v2_ r3 ∧ IsS188 w0 w' g s0_0 r4 r5 ∧ Below w0.heap.size w0 w' ∧ KeepBut w w' g none := by
 have hu32 := Tryz.underlying32; have hu27 := Tryz.underlying27; have HI0 := Aside0.mk hI; have HK := Aside0.mk (KeepBut.refl w g none); have HL := Aside0.mk hB.size; clear hI; have HW0 := Aside0.mk hB.size; have HB := Aside0.mk hB; clear hB
 have H : ((spec_l5DrawRight.f k s0_0 s0_1 s0_2).bind fun bt490 => ((spec_l7DrawOf.f k s0_0 bt490.2.1 bt490.2.2 a1_0 a1_1 bt490.1).bind fun bt493 => ((spec_l1Below.f s0_0 bt493.2.2.2.1 bt493.2.2.2.2 12).bind fun bt501 => (if bt501.1 = 0 then (some (wrap64 (bt493.1 + 1), bt493.2.1, bt493.2.2.1, bt501.2.1, bt501.2.2)) else (if bt501.1 = 1 then ((spec_l6DrawSet.f k s0_0 bt501.2.1 bt501.2.2 7).bind fun bt504 => (some (bt493.1, bt493.2.1, bt504.1, bt504.2.1, bt504.2.2))) else (if bt501.1 = 2 then ((spec_l5Draw.f k s0_0 bt501.2.1 bt501.2.2).bind fun bt509 => (some (bt493.1, bt509.1, bt493.2.2.1, bt509.2.1, bt509.2.2))) else (some (bt493.1, bt493.2.1, bt493.2.2.1, bt501.2.1, bt501.2.2)))))))) = some (r1, r2, r3, r4, r5) := h
 clear h; obtain ⟨⟨t490, t491, t492⟩, A30, H⟩ := Option.bind_eq_some_iff.mp H
 try dsimp only at H
 have A3 := Aside0.mk A30; clear A30; obtain ⟨⟨t493, t494, t495, t498, t499⟩, A40, H⟩ := Option.bind_eq_some_iff.mp H
 try dsimp only at H
 have A4 := Aside0.mk A40; clear A40; obtain ⟨⟨t501, t502, t503⟩, A50, H⟩ := Option.bind_eq_some_iff.mp H
 try dsimp only at H
 have A5 := Aside0.mk A50; clear A50
 by_cases c6 : t501 = 0
 ·
  rw [if_pos c6] at H
  have c6b0 : (t501 == 0) = true := beq_iff_eq.mpr c6; have c6b1 : (t501 != 0) = false := bne_eq_false_iff_eq.mpr c6; clear c6
  simp only [Option.some.injEq, Prod.mk.injEq] at H
  obtain ⟨rfl, rfl, rfl, rfl, rfl⟩ := H; have i0_ := iB188 HI0; have i1_ : LB w0 w := ⟨HB.out⟩
  go_enter Tryz.func121, Tryz.ntmps121
  try go_wp2_with (first | ((with_reducible refine gd 3 ?_); refine bL 3 #[.int .i64 a1_0, .int .i64 a1_1] 32 ?_; intro gb488 w7 _ _ _) | ((with_reducible refine gd 4 ?_); refine bL 4 #[.int .i64 0, .string (⟨#[]⟩ : ByteArray), .slice none 0 0] 27 ?_; intro gb489 w8 _ _ _))
  refine sB [g] spec_l7Draw.tab1 spec_l7Draw.bits1 ?_; intro w9 _ HT_ HW_
  refine pA 0 (some 6) (bz 7 1) HT_ ?_
  refine tB 1 (some 7) (bz 7 3) HT_ HW_ ?_
  refine pA 2 (some 8) (bz 7 7) HT_ ?_
  refine join_ (σ := Option Addr × Nat × Nat) 1 (bz 7 63) (fun s_ => [(9, .string t490), (10, .agg #[.int .i64 t493, .string t494, .slice s_.1 t495.length s_.2.1]), (5, .pointer (some ⟨s_.2.2, 0, none⟩))]) (fun s_ w' => Aside0 (Kd.R (Kd.int .i64) 3 w' w9.heap.size (iv w9 w') (.slice s_.1 t495.length s_.2.1) t495) ∧ BkI (s_.2.2) w' #[.int .i64 0, .string (⟨#[]⟩ : ByteArray), .slice none 0 0] 27 ∧ BornI (s_.2.2) w9 ∧ StB g w' 188 ∧ Aside0 (IsS188 w0 w' g s0_0 t498 t499) ∧ KL w9 [g] w' ∧ LB w0 w' ∧ KS w g w') ?_ ?_
  rotate_left
  ·
   intro hCont
   refine o2 3 5 (some 9) (some 5) (bz 7 15) (bz 7 39) HT_ rfl rfl (kK Tryz.func152 (spec_l5DrawRight.calls (hI := iS188 HI0) (hB := UpW.out) (w := _) (h := A3.out)) ?_) (kB #[.int .i64 0, .string (⟨#[]⟩ : ByteArray), .slice none 0 0] 27 ?_)
   ·
    intro w10 _ _ _ HI11
    refine nA (some 9) ?_
    refine o2 4 5 (some 10) (some 5) (bz 7 31) (bz 7 47) HT_ rfl rfl (kK1 Tryz.func189 (spec_l7DrawOf.calls (hI := iS188 HI11) (hB := UpW.out) (w := _) (h := A4.out)) ?_) (kB #[.int .i64 0, .string (⟨#[]⟩ : ByteArray), .slice none 0 0] 27 ?_)
    ·
     intro Ao496 co496 w13 _ _ _ HI14 HO497
     refine nA (some 10) ?_
     refine o1 5 (some 5) (bz 7 63) HT_ rfl (kB #[.int .i64 0, .string (⟨#[]⟩ : ByteArray), .slice none 0 0] 27 ?_); intro gb500 w16 _ _ _
     refine nA (some 5) ?_
     exact hJ (hCont (Ao496, co496, gb500) _ ⟨⟨rJ HO497⟩, ⟨xB⟩, ⟨GeI.out⟩, iB188 ⟨iS188 HI14⟩, ⟨iS188 HI14⟩, ⟨UpL.out⟩, ⟨UpW.out⟩, ⟨UpB.out⟩⟩)
    intro gb500 w15 _ _ _
    refine nA (some 5) ?_
    refine o1 4 (some 10) (bz 7 63) HT_ rfl (kK1 Tryz.func189 (spec_l7DrawOf.calls (hI := iS188 HI11) (hB := UpW.out) (w := _) (h := A4.out)) ?_); intro Ao496 co496 w17 _ _ _ HI18 HO497
    refine nA (some 10) ?_
    exact hJ (hCont (Ao496, co496, gb500) _ ⟨⟨rJ HO497⟩, ⟨xB⟩, ⟨GeI.out⟩, iB188 ⟨iS188 HI18⟩, ⟨iS188 HI18⟩, ⟨UpL.out⟩, ⟨UpW.out⟩, ⟨UpB.out⟩⟩)
   intro gb500 w12 _ _ _
   refine nA (some 5) ?_
   refine o1 3 (some 9) (bz 7 47) HT_ rfl (kK Tryz.func152 (spec_l5DrawRight.calls (hI := iS188 HI0) (hB := UpW.out) (w := _) (h := A3.out)) ?_); intro w19 _ _ _ HI20
   refine nA (some 9) ?_
   refine o1 4 (some 10) (bz 7 63) HT_ rfl (kK1 Tryz.func189 (spec_l7DrawOf.calls (hI := iS188 HI20) (hB := UpW.out) (w := _) (h := A4.out)) ?_); intro Ao496 co496 w21 _ _ _ HI22 HO497
   refine nA (some 10) ?_
   exact hJ (hCont (Ao496, co496, gb500) _ ⟨⟨rJ HO497⟩, ⟨xB⟩, ⟨GeI.out⟩, iB188 ⟨iS188 HI22⟩, ⟨iS188 HI22⟩, ⟨UpL.out⟩, ⟨UpW.out⟩, ⟨UpB.out⟩⟩)
  rintro ⟨Ao496, co496, gb500⟩ w23 ⟨HO497, _, _, _, HI24, _, _, _⟩
  refine nP ?_
  refine o1 6 none (bz 7 127) HT_ rfl (kS ?_)
  refine done_ (done_of HT_.out (by kernel_rfl)) ?_
  try go_wp2_with (first | ((with_reducible refine gate_callee (f := 150) rfl ?_); refine gK (some 12) Tryz.func150 (spec_l1Below.calls (hI := iS188 HI24) (hB := UpW.out) (w := _) (h := A5.out)) ?_; intro w25 _ _ _ HI26))
  refine bodyPost_ret (results_cell_row rfl _ _ gb489 27 #[.int .i64 (wrap64 (t493 + 1)), .string t494, .slice Ao496 t495.length co496] (0, 0) _ rfl xB Tryz.underlying27 rfl (by kernel_rfl)) rfl ?_
  exact ⟨_, y0_18, rR HO497, iS188 HI26, UpW.out, UpB.out⟩
 rw [if_neg c6] at H
 have c6b0 : (t501 == 0) = false := beq_eq_false_iff_ne.mpr c6; have c6b1 : (t501 != 0) = true := bne_iff_ne.mpr c6
 by_cases c27 : t501 = 1
 ·
  rw [if_pos c27] at H
  have c27b0 : (t501 == 1) = true := beq_iff_eq.mpr c27; have c27b1 : (t501 != 1) = false := bne_eq_false_iff_eq.mpr c27; clear c27; obtain ⟨⟨t504, t507, t508⟩, A280, H⟩ := Option.bind_eq_some_iff.mp H
  try dsimp only at H
  have A28 := Aside0.mk A280; clear A280
  simp only [Option.some.injEq, Prod.mk.injEq] at H
  obtain ⟨rfl, rfl, rfl, rfl, rfl⟩ := H; have i0_ := iB188 HI0; have i1_ : LB w0 w := ⟨HB.out⟩
  go_enter Tryz.func121, Tryz.ntmps121
  try go_wp2_with (first | ((with_reducible refine gd 3 ?_); refine bL 3 #[.int .i64 a1_0, .int .i64 a1_1] 32 ?_; intro gb488 w29 _ _ _) | ((with_reducible refine gd 4 ?_); refine bL 4 #[.int .i64 0, .string (⟨#[]⟩ : ByteArray), .slice none 0 0] 27 ?_; intro gb489 w30 _ _ _))
  refine sB [g] spec_l7Draw.tab1 spec_l7Draw.bits1 ?_; intro w31 _ HT_ HW_
  refine pA 0 (some 6) (bz 7 1) HT_ ?_
  refine tB 1 (some 7) (bz 7 3) HT_ HW_ ?_
  refine pA 2 (some 8) (bz 7 7) HT_ ?_
  refine join_ (σ := Option Addr × Nat × Nat) 1 (bz 7 63) (fun s_ => [(9, .string t490), (10, .agg #[.int .i64 t493, .string t494, .slice s_.1 t495.length s_.2.1]), (5, .pointer (some ⟨s_.2.2, 0, none⟩))]) (fun s_ w' => Aside0 (Kd.R (Kd.int .i64) 3 w' w31.heap.size (iv w31 w') (.slice s_.1 t495.length s_.2.1) t495) ∧ BkI (s_.2.2) w' #[.int .i64 0, .string (⟨#[]⟩ : ByteArray), .slice none 0 0] 27 ∧ BornI (s_.2.2) w31 ∧ StB g w' 188 ∧ Aside0 (IsS188 w0 w' g s0_0 t498 t499) ∧ KL w31 [g] w' ∧ LB w0 w' ∧ KS w g w') ?_ ?_
  rotate_left
  ·
   intro hCont
   refine o2 3 5 (some 9) (some 5) (bz 7 15) (bz 7 39) HT_ rfl rfl (kK Tryz.func152 (spec_l5DrawRight.calls (hI := iS188 HI0) (hB := UpW.out) (w := _) (h := A3.out)) ?_) (kB #[.int .i64 0, .string (⟨#[]⟩ : ByteArray), .slice none 0 0] 27 ?_)
   ·
    intro w32 _ _ _ HI33
    refine nA (some 9) ?_
    refine o2 4 5 (some 10) (some 5) (bz 7 31) (bz 7 47) HT_ rfl rfl (kK1 Tryz.func189 (spec_l7DrawOf.calls (hI := iS188 HI33) (hB := UpW.out) (w := _) (h := A4.out)) ?_) (kB #[.int .i64 0, .string (⟨#[]⟩ : ByteArray), .slice none 0 0] 27 ?_)
    ·
     intro Ao496 co496 w35 _ _ _ HI36 HO497
     refine nA (some 10) ?_
     refine o1 5 (some 5) (bz 7 63) HT_ rfl (kB #[.int .i64 0, .string (⟨#[]⟩ : ByteArray), .slice none 0 0] 27 ?_); intro gb500 w38 _ _ _
     refine nA (some 5) ?_
     exact hJ (hCont (Ao496, co496, gb500) _ ⟨⟨rJ HO497⟩, ⟨xB⟩, ⟨GeI.out⟩, iB188 ⟨iS188 HI36⟩, ⟨iS188 HI36⟩, ⟨UpL.out⟩, ⟨UpW.out⟩, ⟨UpB.out⟩⟩)
    intro gb500 w37 _ _ _
    refine nA (some 5) ?_
    refine o1 4 (some 10) (bz 7 63) HT_ rfl (kK1 Tryz.func189 (spec_l7DrawOf.calls (hI := iS188 HI33) (hB := UpW.out) (w := _) (h := A4.out)) ?_); intro Ao496 co496 w39 _ _ _ HI40 HO497
    refine nA (some 10) ?_
    exact hJ (hCont (Ao496, co496, gb500) _ ⟨⟨rJ HO497⟩, ⟨xB⟩, ⟨GeI.out⟩, iB188 ⟨iS188 HI40⟩, ⟨iS188 HI40⟩, ⟨UpL.out⟩, ⟨UpW.out⟩, ⟨UpB.out⟩⟩)
   intro gb500 w34 _ _ _
   refine nA (some 5) ?_
   refine o1 3 (some 9) (bz 7 47) HT_ rfl (kK Tryz.func152 (spec_l5DrawRight.calls (hI := iS188 HI0) (hB := UpW.out) (w := _) (h := A3.out)) ?_); intro w41 _ _ _ HI42
   refine nA (some 9) ?_
   refine o1 4 (some 10) (bz 7 63) HT_ rfl (kK1 Tryz.func189 (spec_l7DrawOf.calls (hI := iS188 HI42) (hB := UpW.out) (w := _) (h := A4.out)) ?_); intro Ao496 co496 w43 _ _ _ HI44 HO497
   refine nA (some 10) ?_
   exact hJ (hCont (Ao496, co496, gb500) _ ⟨⟨rJ HO497⟩, ⟨xB⟩, ⟨GeI.out⟩, iB188 ⟨iS188 HI44⟩, ⟨iS188 HI44⟩, ⟨UpL.out⟩, ⟨UpW.out⟩, ⟨UpB.out⟩⟩)
  rintro ⟨Ao496, co496, gb500⟩ w45 ⟨HO497, _, _, _, HI46, _, _, _⟩
  refine nP ?_
  refine o1 6 none (bz 7 127) HT_ rfl (kS ?_)
  refine done_ (done_of HT_.out (by kernel_rfl)) ?_
  try go_wp2_with (first | ((with_reducible refine gate_callee (f := 150) rfl ?_); refine gK (some 12) Tryz.func150 (spec_l1Below.calls (hI := iS188 HI46) (hB := UpW.out) (w := _) (h := A5.out)) ?_; intro w47 _ _ _ HI48) | ((with_reducible refine gate_callee (f := 190) rfl ?_); refine gK1 (some 22) Tryz.func190 (spec_l6DrawSet.calls (hI := iS188 HI48) (hB := UpW.out) (w := _) (h := A28.out)) ?_; intro Ao505 co505 w49 _ _ _ HI50 HO506))
  refine bodyPost_ret (results_cell_row rfl _ _ gb489 27 #[.int .i64 t493, .string t494, .slice Ao505 t504.length co505] (0, 0) _ rfl xB Tryz.underlying27 rfl (by kernel_rfl)) rfl ?_
  exact ⟨_, y0_18, rR HO506, iS188 HI50, UpW.out, UpB.out⟩
 rw [if_neg c27] at H
 have c27b0 : (t501 == 1) = false := beq_eq_false_iff_ne.mpr c27; have c27b1 : (t501 != 1) = true := bne_iff_ne.mpr c27
 by_cases c51 : t501 = 2
 ·
  rw [if_pos c51] at H
  have c51b0 : (t501 == 2) = true := beq_iff_eq.mpr c51; have c51b1 : (t501 != 2) = false := bne_eq_false_iff_eq.mpr c51; clear c51; obtain ⟨⟨t509, t510, t511⟩, A520, H⟩ := Option.bind_eq_some_iff.mp H
  try dsimp only at H
  have A52 := Aside0.mk A520; clear A520
  simp only [Option.some.injEq, Prod.mk.injEq] at H
  obtain ⟨rfl, rfl, rfl, rfl, rfl⟩ := H; have i0_ := iB188 HI0; have i1_ : LB w0 w := ⟨HB.out⟩
  go_enter Tryz.func121, Tryz.ntmps121
  try go_wp2_with (first | ((with_reducible refine gd 3 ?_); refine bL 3 #[.int .i64 a1_0, .int .i64 a1_1] 32 ?_; intro gb488 w53 _ _ _) | ((with_reducible refine gd 4 ?_); refine bL 4 #[.int .i64 0, .string (⟨#[]⟩ : ByteArray), .slice none 0 0] 27 ?_; intro gb489 w54 _ _ _))
  refine sB [g] spec_l7Draw.tab1 spec_l7Draw.bits1 ?_; intro w55 _ HT_ HW_
  refine pA 0 (some 6) (bz 7 1) HT_ ?_
  refine tB 1 (some 7) (bz 7 3) HT_ HW_ ?_
  refine pA 2 (some 8) (bz 7 7) HT_ ?_
  refine join_ (σ := Option Addr × Nat × Nat) 1 (bz 7 63) (fun s_ => [(9, .string t490), (10, .agg #[.int .i64 t493, .string t494, .slice s_.1 t495.length s_.2.1]), (5, .pointer (some ⟨s_.2.2, 0, none⟩))]) (fun s_ w' => Aside0 (Kd.R (Kd.int .i64) 3 w' w55.heap.size (iv w55 w') (.slice s_.1 t495.length s_.2.1) t495) ∧ BkI (s_.2.2) w' #[.int .i64 0, .string (⟨#[]⟩ : ByteArray), .slice none 0 0] 27 ∧ BornI (s_.2.2) w55 ∧ StB g w' 188 ∧ Aside0 (IsS188 w0 w' g s0_0 t498 t499) ∧ KL w55 [g] w' ∧ LB w0 w' ∧ KS w g w') ?_ ?_
  rotate_left
  ·
   intro hCont
   refine o2 3 5 (some 9) (some 5) (bz 7 15) (bz 7 39) HT_ rfl rfl (kK Tryz.func152 (spec_l5DrawRight.calls (hI := iS188 HI0) (hB := UpW.out) (w := _) (h := A3.out)) ?_) (kB #[.int .i64 0, .string (⟨#[]⟩ : ByteArray), .slice none 0 0] 27 ?_)
   ·
    intro w56 _ _ _ HI57
    refine nA (some 9) ?_
    refine o2 4 5 (some 10) (some 5) (bz 7 31) (bz 7 47) HT_ rfl rfl (kK1 Tryz.func189 (spec_l7DrawOf.calls (hI := iS188 HI57) (hB := UpW.out) (w := _) (h := A4.out)) ?_) (kB #[.int .i64 0, .string (⟨#[]⟩ : ByteArray), .slice none 0 0] 27 ?_)
    ·
     intro Ao496 co496 w59 _ _ _ HI60 HO497
     refine nA (some 10) ?_
     refine o1 5 (some 5) (bz 7 63) HT_ rfl (kB #[.int .i64 0, .string (⟨#[]⟩ : ByteArray), .slice none 0 0] 27 ?_); intro gb500 w62 _ _ _
     refine nA (some 5) ?_
     exact hJ (hCont (Ao496, co496, gb500) _ ⟨⟨rJ HO497⟩, ⟨xB⟩, ⟨GeI.out⟩, iB188 ⟨iS188 HI60⟩, ⟨iS188 HI60⟩, ⟨UpL.out⟩, ⟨UpW.out⟩, ⟨UpB.out⟩⟩)
    intro gb500 w61 _ _ _
    refine nA (some 5) ?_
    refine o1 4 (some 10) (bz 7 63) HT_ rfl (kK1 Tryz.func189 (spec_l7DrawOf.calls (hI := iS188 HI57) (hB := UpW.out) (w := _) (h := A4.out)) ?_); intro Ao496 co496 w63 _ _ _ HI64 HO497
    refine nA (some 10) ?_
    exact hJ (hCont (Ao496, co496, gb500) _ ⟨⟨rJ HO497⟩, ⟨xB⟩, ⟨GeI.out⟩, iB188 ⟨iS188 HI64⟩, ⟨iS188 HI64⟩, ⟨UpL.out⟩, ⟨UpW.out⟩, ⟨UpB.out⟩⟩)
   intro gb500 w58 _ _ _
   refine nA (some 5) ?_
   refine o1 3 (some 9) (bz 7 47) HT_ rfl (kK Tryz.func152 (spec_l5DrawRight.calls (hI := iS188 HI0) (hB := UpW.out) (w := _) (h := A3.out)) ?_); intro w65 _ _ _ HI66
   refine nA (some 9) ?_
   refine o1 4 (some 10) (bz 7 63) HT_ rfl (kK1 Tryz.func189 (spec_l7DrawOf.calls (hI := iS188 HI66) (hB := UpW.out) (w := _) (h := A4.out)) ?_); intro Ao496 co496 w67 _ _ _ HI68 HO497
   refine nA (some 10) ?_
   exact hJ (hCont (Ao496, co496, gb500) _ ⟨⟨rJ HO497⟩, ⟨xB⟩, ⟨GeI.out⟩, iB188 ⟨iS188 HI68⟩, ⟨iS188 HI68⟩, ⟨UpL.out⟩, ⟨UpW.out⟩, ⟨UpB.out⟩⟩)
  rintro ⟨Ao496, co496, gb500⟩ w69 ⟨HO497, _, _, _, HI70, _, _, _⟩
  refine nP ?_
  refine o1 6 none (bz 7 127) HT_ rfl (kS ?_)
  refine done_ (done_of HT_.out (by kernel_rfl)) ?_
  try go_wp2_with (first | ((with_reducible refine gate_callee (f := 150) rfl ?_); refine gK (some 12) Tryz.func150 (spec_l1Below.calls (hI := iS188 HI70) (hB := UpW.out) (w := _) (h := A5.out)) ?_; intro w71 _ _ _ HI72) | ((with_reducible refine gate_callee (f := 129) rfl ?_); refine gK (some 27) Tryz.func129 (spec_l5Draw.calls (hI := iS188 HI72) (hB := UpW.out) (w := _) (h := A52.out)) ?_; intro w73 _ _ _ HI74))
  refine bodyPost_ret (results_cell_row rfl _ _ gb489 27 #[.int .i64 t493, .string t509, .slice Ao496 t495.length co496] (0, 0) _ rfl xB Tryz.underlying27 rfl (by kernel_rfl)) rfl ?_
  exact ⟨_, y0_18, rR HO497, iS188 HI74, UpW.out, UpB.out⟩
 rw [if_neg c51] at H
 have c51b0 : (t501 == 2) = false := beq_eq_false_iff_ne.mpr c51; have c51b1 : (t501 != 2) = true := bne_iff_ne.mpr c51
 simp only [Option.some.injEq, Prod.mk.injEq] at H
 obtain ⟨rfl, rfl, rfl, rfl, rfl⟩ := H; have i0_ := iB188 HI0; have i1_ : LB w0 w := ⟨HB.out⟩
 go_enter Tryz.func121, Tryz.ntmps121
 try go_wp2_with (first | ((with_reducible refine gd 3 ?_); refine bL 3 #[.int .i64 a1_0, .int .i64 a1_1] 32 ?_; intro gb488 w75 _ _ _) | ((with_reducible refine gd 4 ?_); refine bL 4 #[.int .i64 0, .string (⟨#[]⟩ : ByteArray), .slice none 0 0] 27 ?_; intro gb489 w76 _ _ _))
 refine sB [g] spec_l7Draw.tab1 spec_l7Draw.bits1 ?_; intro w77 _ HT_ HW_
 refine pA 0 (some 6) (bz 7 1) HT_ ?_
 refine tB 1 (some 7) (bz 7 3) HT_ HW_ ?_
 refine pA 2 (some 8) (bz 7 7) HT_ ?_
 refine join_ (σ := Option Addr × Nat × Nat) 1 (bz 7 63) (fun s_ => [(9, .string t490), (10, .agg #[.int .i64 t493, .string t494, .slice s_.1 t495.length s_.2.1]), (5, .pointer (some ⟨s_.2.2, 0, none⟩))]) (fun s_ w' => Aside0 (Kd.R (Kd.int .i64) 3 w' w77.heap.size (iv w77 w') (.slice s_.1 t495.length s_.2.1) t495) ∧ BkI (s_.2.2) w' #[.int .i64 0, .string (⟨#[]⟩ : ByteArray), .slice none 0 0] 27 ∧ BornI (s_.2.2) w77 ∧ StB g w' 188 ∧ Aside0 (IsS188 w0 w' g s0_0 t498 t499) ∧ KL w77 [g] w' ∧ LB w0 w' ∧ KS w g w') ?_ ?_
 rotate_left
 ·
  intro hCont
  refine o2 3 5 (some 9) (some 5) (bz 7 15) (bz 7 39) HT_ rfl rfl (kK Tryz.func152 (spec_l5DrawRight.calls (hI := iS188 HI0) (hB := UpW.out) (w := _) (h := A3.out)) ?_) (kB #[.int .i64 0, .string (⟨#[]⟩ : ByteArray), .slice none 0 0] 27 ?_)
  ·
   intro w78 _ _ _ HI79
   refine nA (some 9) ?_
   refine o2 4 5 (some 10) (some 5) (bz 7 31) (bz 7 47) HT_ rfl rfl (kK1 Tryz.func189 (spec_l7DrawOf.calls (hI := iS188 HI79) (hB := UpW.out) (w := _) (h := A4.out)) ?_) (kB #[.int .i64 0, .string (⟨#[]⟩ : ByteArray), .slice none 0 0] 27 ?_)
   ·
    intro Ao496 co496 w81 _ _ _ HI82 HO497
    refine nA (some 10) ?_
    refine o1 5 (some 5) (bz 7 63) HT_ rfl (kB #[.int .i64 0, .string (⟨#[]⟩ : ByteArray), .slice none 0 0] 27 ?_); intro gb500 w84 _ _ _
    refine nA (some 5) ?_
    exact hJ (hCont (Ao496, co496, gb500) _ ⟨⟨rJ HO497⟩, ⟨xB⟩, ⟨GeI.out⟩, iB188 ⟨iS188 HI82⟩, ⟨iS188 HI82⟩, ⟨UpL.out⟩, ⟨UpW.out⟩, ⟨UpB.out⟩⟩)
   intro gb500 w83 _ _ _
   refine nA (some 5) ?_
   refine o1 4 (some 10) (bz 7 63) HT_ rfl (kK1 Tryz.func189 (spec_l7DrawOf.calls (hI := iS188 HI79) (hB := UpW.out) (w := _) (h := A4.out)) ?_); intro Ao496 co496 w85 _ _ _ HI86 HO497
   refine nA (some 10) ?_
   exact hJ (hCont (Ao496, co496, gb500) _ ⟨⟨rJ HO497⟩, ⟨xB⟩, ⟨GeI.out⟩, iB188 ⟨iS188 HI86⟩, ⟨iS188 HI86⟩, ⟨UpL.out⟩, ⟨UpW.out⟩, ⟨UpB.out⟩⟩)
  intro gb500 w80 _ _ _
  refine nA (some 5) ?_
  refine o1 3 (some 9) (bz 7 47) HT_ rfl (kK Tryz.func152 (spec_l5DrawRight.calls (hI := iS188 HI0) (hB := UpW.out) (w := _) (h := A3.out)) ?_); intro w87 _ _ _ HI88
  refine nA (some 9) ?_
  refine o1 4 (some 10) (bz 7 63) HT_ rfl (kK1 Tryz.func189 (spec_l7DrawOf.calls (hI := iS188 HI88) (hB := UpW.out) (w := _) (h := A4.out)) ?_); intro Ao496 co496 w89 _ _ _ HI90 HO497
  refine nA (some 10) ?_
  exact hJ (hCont (Ao496, co496, gb500) _ ⟨⟨rJ HO497⟩, ⟨xB⟩, ⟨GeI.out⟩, iB188 ⟨iS188 HI90⟩, ⟨iS188 HI90⟩, ⟨UpL.out⟩, ⟨UpW.out⟩, ⟨UpB.out⟩⟩)
 rintro ⟨Ao496, co496, gb500⟩ w91 ⟨HO497, _, _, _, HI92, _, _, _⟩
 refine nP ?_
 refine o1 6 none (bz 7 127) HT_ rfl (kS ?_)
 refine done_ (done_of HT_.out (by kernel_rfl)) ?_
 try go_wp2_with (first | ((with_reducible refine gate_callee (f := 150) rfl ?_); refine gK (some 12) Tryz.func150 (spec_l1Below.calls (hI := iS188 HI92) (hB := UpW.out) (w := _) (h := A5.out)) ?_; intro w93 _ _ _ HI94))
 refine bodyPost_ret (results_cell_row rfl _ _ gb489 27 #[.int .i64 t493, .string t494, .slice Ao496 t495.length co496] (0, 0) _ rfl xB Tryz.underlying27 rfl (by kernel_rfl)) rfl ?_
 exact ⟨_, y0_18, rR HO497, iS188 HI94, UpW.out, UpB.out⟩

/-! ### spec_l1Max: function 135 -/
def spec_l1Max.f (a0 : Int) (a1 : Int) : Option (Int) := if a0 > a1 then (some a0) else (some a1)
set_option maxHeartbeats 8000000 in
set_option maxRecDepth 100000 in
theorem spec_l1Max.calls (a0 : Int) (a1 : Int) (r : Int) (w : World) (h : spec_l1Max.f a0 a1 = some r) :
  Calls Tryz.prog 135 #[.int .i64 a0, .int .i64 a1] w fun e w' => e = .returned (.int .i64 r) ∧ Drawn0 w w' := by
 have H : (if a0 > a1 then (some a0) else (some a1)) = some r := h; clear h
 by_cases c3 : a0 > a1
 ·
  rw [if_pos c3] at H
  have c3b0 : decide (a1 < a0) = true := decide_eq_true c3; clear c3; obtain rfl := Option.some.inj H
  go_enter Tryz.func135, Tryz.ntmps135
  go_wp2
  go_ret
  exact ⟨y0_18, y0_16⟩
 rw [if_neg c3] at H
 have c3b0 : decide (a1 < a0) = false := decide_eq_false c3; clear c3; obtain rfl := Option.some.inj H
 go_enter Tryz.func135, Tryz.ntmps135
 go_wp2
 go_ret
 exact ⟨y0_18, y0_16⟩

/-! ### spec_UpOf: function 132 -/
def spec_UpOf.l0 : Nat → ByteArray → Int → Option (ByteArray)
 | 0, _, _ => none
 | k + 1, x0, x3 => if x3 > 0 then (if 0 ≤ (wrap64 (x3 - 1)) then (if (wrap64 (x3 - 1)) < (x0.size : Int) then (if (bt x0 (wrap64 (x3 - 1))) = 47 then ((spec_l1Max.f (wrap64 (x3 - 1)) 0).bind fun t513 => (if 0 ≤ t513 then (if t513 ≤ (x0.size : Int) then (some (x0.extract 0 (t513 : Int).toNat)) else (none)) else (none))) else (spec_UpOf.l0 k x0 (wrap64 (x3 - 1)))) else (none)) else (none)) else ((spec_l1Max.f (wrap64 (x3 - 1)) 0).bind fun t514 => (if 0 ≤ t514 then (if t514 ≤ (x0.size : Int) then (some (x0.extract 0 (t514 : Int).toNat)) else (none)) else (none)))
def spec_UpOf.f (k : Nat) (a0 : ByteArray) : Option (ByteArray) := (spec_NameOk.f k a0).bind fun t512 => (if t512 = true then (spec_UpOf.l0 k a0 (a0.size : Int)) else (some (⟨#[]⟩ : ByteArray)))
theorem spec_UpOf.mono_l : ∀ k, (∀ y0 y1, LeO (spec_UpOf.l0 k y0 y1) (spec_UpOf.l0 (k + 1) y0 y1))
 | 0 => fun _ _ r h => by simp [spec_UpOf.l0] at h
 | k + 1 => by
  have ih0 := spec_UpOf.mono_l k
  intro y0 y1
  unfold spec_UpOf.l0
  repeat' first | (with_reducible exact ih0 _ _) | (with_reducible exact spec_NameOk.mono _ _) | (with_reducible exact LeO.refl _) | (with_reducible exact LeO.none _) | (with_reducible refine LeO.ite ?_ ?_) | (with_reducible refine LeO.bind ?_ (fun _ => ?_))
theorem spec_UpOf.mono : ∀ a0 k, LeO (spec_UpOf.f k a0) (spec_UpOf.f (k + 1) a0) := by
 intro a0 k
 have ih0 := spec_UpOf.mono_l k
 unfold spec_UpOf.f
 repeat' first | (with_reducible exact ih0 _ _) | (with_reducible exact spec_NameOk.mono _ _) | (with_reducible exact LeO.refl _) | (with_reducible exact LeO.none _) | (with_reducible refine LeO.ite ?_ ?_) | (with_reducible refine LeO.bind ?_ (fun _ => ?_))
set_option maxHeartbeats 8000000 in
set_option maxRecDepth 100000 in
theorem spec_UpOf.calls (k : Nat) (a0 : ByteArray) (r : ByteArray) (w : World) (h : spec_UpOf.f k a0 = some r) :
  Calls Tryz.prog 132 #[.string a0] w fun e w' => e = .returned (.string r) ∧ Below w.heap.size w w' := by
 have HB := Aside0.mk (Below.refl w.heap.size w)
 have H : ((spec_NameOk.f k a0).bind fun t512 => (if t512 = true then (spec_UpOf.l0 k a0 (a0.size : Int)) else (some (⟨#[]⟩ : ByteArray)))) = some r := h
 clear h; obtain ⟨t512, A20, H⟩ := Option.bind_eq_some_iff.mp H
 try dsimp only at H
 have A2 := Aside0.mk A20; clear A20
 by_cases c3 : t512 = true
 ·
  subst c3
  rw [if_pos rfl] at H
  have H' := Aside0.mk H; clear H
  go_enter Tryz.func132, Tryz.ntmps132
  go_wp2_with (first | ((with_reducible refine gate_callee (f := 141) rfl ?_); refine gB (some 5) Tryz.func141 #[.string a0] ?_; (with_reducible refine (spec_NameOk.calls k a0 true _ A2.out).mono ?_); rintro e w4 ⟨rfl, hb⟩; refine ⟨_, rfl, ?_⟩; replace HB := bs HB hb; (try clear hb); (try clear hb2); (try clear hk); (try clear hi)))
  go_loopg [3] k (fun kq v3 w' => ∃ (x3_1 : Int), v3 = .int .i64 x3_1 ∧ Aside0 (spec_UpOf.l0 kq a0 x3_1 = some r) ∧ Aside0 (kq ≤ k) ∧ Aside0 (Below w.heap.size w w'))
  case atStart => exact ⟨((a0.size : Int)), y0_18, H', ⟨Nat.le_refl _⟩, ⟨bI HB.out⟩⟩
  case round =>
   clear H'
   try clear c1
   try clear p2
   try clear c3
   obtain ⟨x3_1, rfl, HA, HK1, HB⟩ := hrel; cases gk with
   | zero => exact absurd HA.out (by simp [spec_UpOf.l0])
   | succ k1 =>
    have H := HA.out; clear HA
    simp only [spec_UpOf.l0] at H
    by_cases c5 : x3_1 > 0
    ·
     rw [if_pos c5] at H
     have c5b0 : decide (0 < x3_1) = true := decide_eq_true c5; clear c5; obtain ⟨ji6, hji6⟩ : ∃ j_ : Int, (wrap64 (x3_1 - 1)) = j_ := ⟨_, rfl⟩
     replace H : (if 0 ≤ (ji6) then (if (ji6) < (a0.size : Int) then (if (bt a0 (ji6)) = 47 then ((spec_l1Max.f (ji6) 0).bind fun t513 => (if 0 ≤ t513 then (if t513 ≤ (a0.size : Int) then (some (a0.extract 0 (t513 : Int).toNat)) else (none)) else (none))) else (spec_UpOf.l0 k1 a0 ji6)) else (none)) else (none)) = some r := by first | (rw [hji6] at H; exact H) | (simp only [hji6] at H ⊢; exact H)
     have hji6w : (IntKind.i64.wrap (x3_1 - 1)) = ji6 := (i64_w _).trans hji6
     by_cases c7 : 0 ≤ (ji6)
     rotate_left
     ·
      rw [if_neg c7] at H
      exact absurd H (by simp)
     rw [if_pos c7] at H
     have c7b0 : decide (0 ≤ (ji6)) = true := decide_eq_true c7; clear c7
     by_cases c8 : (ji6) < (a0.size : Int)
     rotate_left
     ·
      rw [if_neg c8] at H
      exact absurd H (by simp)
     rw [if_pos c8] at H
     have c8b0 : decide ((ji6) < (a0.size : Int)) = true := decide_eq_true c8; clear c8
     by_cases c10 : (bt a0 (ji6)) = 47
     ·
      rw [if_pos c10] at H
      have c10b0 : ((bt a0 (ji6)) == 47) = true := beq_iff_eq.mpr c10; have c10b1 : ((bt a0 (ji6)) != 47) = false := bne_eq_false_iff_eq.mpr c10; clear c10; obtain ⟨t513, A110, H⟩ := Option.bind_eq_some_iff.mp H
      try dsimp only at H
      have A11 := Aside0.mk A110; clear A110
      by_cases c12 : 0 ≤ t513
      rotate_left
      ·
       rw [if_neg c12] at H
       exact absurd H (by simp)
      rw [if_pos c12] at H
      have c12b0 := eq_true c12; have c12b1 : decide (0 ≤ t513) = true := decide_eq_true c12; clear c12
      by_cases c13 : t513 ≤ (a0.size : Int)
      rotate_left
      ·
       rw [if_neg c13] at H
       exact absurd H (by simp)
      rw [if_pos c13] at H
      have c13b0 := eq_true c13; have c13b1 : decide (t513 ≤ (a0.size : Int)) = true := decide_eq_true c13; clear c13; obtain rfl := Option.some.inj H; have p9 : 0 ≤ ((ji6) : Int) := of_decide_eq_true y0_17; have q9 : (ji6) < (a0.size : Int) := of_decide_eq_true y0_17; have hx9 := bt_at a0 (ji6); replace p9 := eq_true p9; replace q9 := eq_true q9
      go_wp2_with (first | ((with_reducible refine gate_callee (f := 135) rfl ?_); refine goesL_ (some 23) rfl rfl Tryz.func135 (by kernel_rfl) rfl #[.int .i64 ji6, .int .i64 0] rfl (by (try simp only [List.map_toArray, List.map_cons, List.map_nil]); first | done | (simp only [hji6]; rfl) | rfl | (simp only [List.length_drop, List.length_take]; rfl)) ?_; (with_reducible refine (spec_l1Max.calls ji6 0 t513 _ A11.out).mono ?_); rintro e w' ⟨rfl, ⟨nd, rfl⟩⟩; refine ⟨_, rfl, ?_⟩))
      go_ret
      exact ⟨by first | rfl | (simp [errW_none, errW_some] <;> rfl) | (simp only [← hji6]; first | rfl | (simp [errW_none, errW_some] <;> rfl)) | (simp [*, errW_none, errW_some] <;> rfl), bI HB.out⟩
     rw [if_neg c10] at H
     have c10b0 : ((bt a0 (ji6)) == 47) = false := beq_eq_false_iff_ne.mpr c10; have c10b1 : ((bt a0 (ji6)) != 47) = true := bne_iff_ne.mpr c10; have H' := Aside0.mk H; clear H; have p9 : 0 ≤ ((ji6) : Int) := of_decide_eq_true y0_17; have q9 : (ji6) < (a0.size : Int) := of_decide_eq_true y0_17; have hx9 := bt_at a0 (ji6); replace p9 := eq_true p9; replace q9 := eq_true q9
     go_wp2
     go_roundg k1
     case measure => have := HK1.out; omega
     case rel => exact ⟨(ji6), (by first | rfl | (simp; done) | (simp only [← hji6] <;> (first | rfl | simp)) | (simp [*]; done)), H', ⟨y0_21⟩, ⟨bI HB.out⟩⟩
    rw [if_neg c5] at H
    have c5b0 : decide (0 < x3_1) = false := decide_eq_false c5; clear c5; obtain ⟨t514, A140, H⟩ := Option.bind_eq_some_iff.mp H
    try dsimp only at H
    have A14 := Aside0.mk A140; clear A140
    by_cases c15 : 0 ≤ t514
    rotate_left
    ·
     rw [if_neg c15] at H
     exact absurd H (by simp)
    rw [if_pos c15] at H
    have c15b0 := eq_true c15; have c15b1 : decide (0 ≤ t514) = true := decide_eq_true c15; clear c15
    by_cases c16 : t514 ≤ (a0.size : Int)
    rotate_left
    ·
     rw [if_neg c16] at H
     exact absurd H (by simp)
    rw [if_pos c16] at H
    have c16b0 := eq_true c16; have c16b1 : decide (t514 ≤ (a0.size : Int)) = true := decide_eq_true c16; clear c16; obtain rfl := Option.some.inj H
    go_wp2_with (first | ((with_reducible refine gate_callee (f := 135) rfl ?_); refine gB (some 23) Tryz.func135 #[.int .i64 (wrap64 (x3_1 - 1)), .int .i64 0] ?_; (with_reducible refine (spec_l1Max.calls (wrap64 (x3_1 - 1)) 0 t514 _ A14.out).mono ?_); rintro e w' ⟨rfl, ⟨nd, rfl⟩⟩; refine ⟨_, rfl, ?_⟩))
    go_ret
    exact ⟨y0_14, bI HB.out⟩
 replace c3 := Bool.eq_false_iff.mpr c3; subst c3
 rw [if_neg (show ¬ (false = true) by decide)] at H
 obtain rfl := Option.some.inj H
 go_enter Tryz.func132, Tryz.ntmps132
 go_wp2_with (first | ((with_reducible refine gate_callee (f := 141) rfl ?_); refine gB (some 5) Tryz.func141 #[.string a0] ?_; (with_reducible refine (spec_NameOk.calls k a0 false _ A2.out).mono ?_); rintro e w17 ⟨rfl, hb⟩; refine ⟨_, rfl, ?_⟩; replace HB := bs HB hb; (try clear hb); (try clear hb2); (try clear hk); (try clear hi)))
 go_ret
 exact ⟨y0_14, bI HB.out⟩

/-! ### spec_ConfOk: function 156 -/
def spec_ConfOk.f (a0_0 : Int) (a0_1 : Int) : Option (Bool) := (spec_l1In.f a0_0 4 7).bind fun t516 => (if t516 = true then ((spec_l1In.f a0_1 1 6).bind fun t517 => (some t517)) else (some false))
set_option maxHeartbeats 8000000 in
set_option maxRecDepth 100000 in
theorem spec_ConfOk.calls (a0_0 : Int) (a0_1 : Int) (r : Bool) (w : World) (h : spec_ConfOk.f a0_0 a0_1 = some r) :
  Calls Tryz.prog 156 #[.agg #[.int .i64 a0_0, .int .i64 a0_1]] w fun e w' => e = .returned (.bool r) ∧ Below w.heap.size w w' := by
 have hu32 := Tryz.underlying32; have HB := Aside0.mk (Below.refl w.heap.size w)
 have H : ((spec_l1In.f a0_0 4 7).bind fun t516 => (if t516 = true then ((spec_l1In.f a0_1 1 6).bind fun t517 => (some t517)) else (some false))) = some r := h
 clear h; obtain ⟨t516, A20, H⟩ := Option.bind_eq_some_iff.mp H
 try dsimp only at H
 have A2 := Aside0.mk A20; clear A20
 by_cases c3 : t516 = true
 ·
  subst c3
  rw [if_pos rfl] at H
  obtain ⟨t517, A40, H⟩ := Option.bind_eq_some_iff.mp H
  try dsimp only at H
  have A4 := Aside0.mk A40; clear A40; obtain rfl := Option.some.inj H
  go_enter Tryz.func156, Tryz.ntmps156
  go_wp2_with (first | ((with_reducible refine gd 1 ?_); refine bL 1 #[.int .i64 a0_0, .int .i64 a0_1] 32 ?_; intro gb515 w5 _ _ _) | ((with_reducible refine gate_callee (f := 140) rfl ?_); refine gD (some 5) Tryz.func140 (spec_l1In.calls (w := _) (h := A2.out)) ?_; intro w6 _) | (go_at_call 140; refine aD (spec_l1In.calls (w := _) (h := A4.out)) ?_; intro w7 _))
  go_ret
  exact ⟨y0_18, UpW.out⟩
 replace c3 := Bool.eq_false_iff.mpr c3; subst c3
 rw [if_neg (show ¬ (false = true) by decide)] at H
 obtain rfl := Option.some.inj H
 go_enter Tryz.func156, Tryz.ntmps156
 go_wp2_with (first | ((with_reducible refine gd 1 ?_); refine bL 1 #[.int .i64 a0_0, .int .i64 a0_1] 32 ?_; intro gb515 w8 _ _ _) | ((with_reducible refine gate_callee (f := 140) rfl ?_); refine gD (some 5) Tryz.func140 (spec_l1In.calls (w := _) (h := A2.out)) ?_; intro w9 _))
 go_ret
 exact ⟨y0_18, UpW.out⟩

end Go.Proofs.YtnpbopadajbopaaGreatDoor.PFnBlocks
