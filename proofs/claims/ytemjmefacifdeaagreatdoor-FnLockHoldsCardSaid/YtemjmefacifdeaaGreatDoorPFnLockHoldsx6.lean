-- By a program of this session, out of the translation (the print of the kit, with turns of its own). Lean checks it.
import Derived.Test.YtemjmefacifdeaaGreatDoorPFnLockHoldsx0
import Derived.Test.YtemjmefacifdeaaGreatDoorPFnLockHoldsx1
import Derived.Test.YtemjmefacifdeaaGreatDoorPFnLockHoldsx2
import Derived.Test.YtemjmefacifdeaaGreatDoorPFnLockHoldsx4
import Derived.Test.YtemjmefacifdeaaGreatDoorPFnLockHoldsx5
namespace Go.Proofs.YtemjmefacifdeaaGreatDoor.PFnLockHolds
open Go.RowKit Go.Proofs.YtemjmefacifdeaaGreatDoorW.PrintWords Go.Proofs.YtemjmefacifdeaaGreatDoorW.PrintLast Go.Proofs.YtemjmefacifdeaaGreatDoorW.PrintMore
attribute [local go_sem] max2_int min2_int max_two min_two max_three min_three max_four min_four   -- for this text's walks alone
attribute [local go_sem] cell_in frozen_in
set_option synthInstance.maxSize 1000000
set_option synthInstance.maxHeartbeats 2000000
set_option linter.unusedVariables false
set_option linter.unusedSimpArgs false

/-! ### spec_SetAdd: function 144 -/
def spec_SetAdd.l0 : Nat → List Int → Int → Int → Option (List Int)
 | 0, _, _, _ => none
 | k + 1, x0, x1, x5 => if x5 < (x0.length : Int) then (if 0 ≤ x5 then (if (rd x0 x5) < x1 then (spec_SetAdd.l0 k x0 x1 (wrap64 (x5 + 1))) else ((some (([] : List Int) : List Int)).bind fun y349 => (if x5 ≤ (x0.length : Int) then (if y349.length + (x0.take (x5 : Int).toNat).length < 17592186044416 then ((some (y349 ++ (x0.take (x5 : Int).toNat) : List Int)).bind fun y353 => (if y353.length < 17592186044416 then ((some (y353 ++ [x1] : List Int)).bind fun y356 => (if y356.length + (x0.drop (x5 : Int).toNat).length < 17592186044416 then (some (y356 ++ (x0.drop (x5 : Int).toNat))) else (none))) else (none))) else (none)) else (none)))) else (none)) else ((some (([] : List Int) : List Int)).bind fun y363 => (if 0 ≤ x5 then (if x5 ≤ (x0.length : Int) then (if y363.length + (x0.take (x5 : Int).toNat).length < 17592186044416 then ((some (y363 ++ (x0.take (x5 : Int).toNat) : List Int)).bind fun y367 => (if y367.length < 17592186044416 then ((some (y367 ++ [x1] : List Int)).bind fun y370 => (if y370.length + (x0.drop (x5 : Int).toNat).length < 17592186044416 then (some (y370 ++ (x0.drop (x5 : Int).toNat))) else (none))) else (none))) else (none)) else (none)) else (none)))
def spec_SetAdd.f (k : Nat) (l0 : List Int) (a1 : Int) : Option (List Int) := (spec_SetHas.f k l0 a1).bind fun t341 => (if t341 = true then ((some (([] : List Int) : List Int)).bind fun y342 => (if y342.length + l0.length < 17592186044416 then (some (y342 ++ l0)) else (none))) else (spec_SetAdd.l0 k l0 a1 0))
theorem spec_SetAdd.mono_l : ∀ k, (∀ y0 y1 y2, LeO (spec_SetAdd.l0 k y0 y1 y2) (spec_SetAdd.l0 (k + 1) y0 y1 y2))
 | 0 => fun _ _ _ r h => by simp [spec_SetAdd.l0] at h
 | k + 1 => by
  have ih0 := spec_SetAdd.mono_l k
  intro y0 y1 y2
  unfold spec_SetAdd.l0
  repeat' first | (with_reducible exact ih0 _ _ _) | (with_reducible exact spec_SetHas.mono _ _ _) | (with_reducible exact LeO.refl _) | (with_reducible exact LeO.none _) | (with_reducible refine LeO.ite ?_ ?_) | (with_reducible refine LeO.bind ?_ (fun _ => ?_))
theorem spec_SetAdd.mono : ∀ a0 a1 k, LeO (spec_SetAdd.f k a0 a1) (spec_SetAdd.f (k + 1) a0 a1) := by
 intro a0 a1 k
 have ih0 := spec_SetAdd.mono_l k
 unfold spec_SetAdd.f
 repeat' first | (with_reducible exact ih0 _ _ _) | (with_reducible exact spec_SetHas.mono _ _ _) | (with_reducible exact LeO.refl _) | (with_reducible exact LeO.none _) | (with_reducible refine LeO.ite ?_ ?_) | (with_reducible refine LeO.bind ?_ (fun _ => ?_))
set_option maxHeartbeats 8000000 in
set_option maxRecDepth 100000 in
theorem spec_SetAdd.calls (k : Nat) (A0 : Option Addr) (c0 : Nat) (l0 : List Int) (a1 : Int) (r : List Int) (w : World) (hr0 : Kd.C (Kd.int .i64) w A0 l0.length l0) (hc0 : l0.length ≤ c0) (h : spec_SetAdd.f k l0 a1 = some r) :
  Calls Tryz.prog 144 #[.slice A0 l0.length c0, .int .i64 a1] w fun e w' => ∃ v0_ : Value, e = .returned (v0_) ∧ Kd.R (Kd.int .i64) 3 w' w.heap.size (fun _ => True) v0_ r ∧ Below w.heap.size w w' := by
 have HR0 := Aside0.mk hr0; have HC0 := Aside0.mk hc0; clear hr0 hc0; have HB := Aside0.mk (Below.refl w.heap.size w)
 have H : ((spec_SetHas.f k l0 a1).bind fun t341 => (if t341 = true then ((some (([] : List Int) : List Int)).bind fun y342 => (if y342.length + l0.length < 17592186044416 then (some (y342 ++ l0)) else (none))) else (spec_SetAdd.l0 k l0 a1 0))) = some r := h
 clear h; obtain ⟨t341, A30, H⟩ := Option.bind_eq_some_iff.mp H
 try dsimp only at H
 have A3 := Aside0.mk A30; clear A30
 by_cases c4 : t341 = true
 ·
  subst c4
  rw [if_pos rfl] at H
  obtain ⟨y342, hy342⟩ : ∃ y_ : List Int, y_ = (([] : List Int)) := ⟨_, rfl⟩
  replace H : (if y342.length + l0.length < 17592186044416 then (some (y342 ++ l0)) else (none)) = some r := by first | (rw [hy342]; with_reducible exact H) | (have H2_ := (Option.bind_some _ _).symm.trans H; rw [hy342]; with_reducible exact H2_) | (have H2_ := (Option.bind_some _ _).symm.trans H; with_reducible exact H2_) | with_reducible exact H | (rw [hy342]; exact H) | exact H
  have Ny342 := Aside0.mk hy342; clear hy342
  by_cases c5 : y342.length + l0.length < 17592186044416
  rotate_left
  ·
   rw [if_neg c5] at H
   exact absurd H (by simp)
  rw [if_pos c5] at H
  have LMc5 := Aside0.mk c5; clear c5; obtain ⟨y345, hy345⟩ : ∃ y_ : List Int, y_ = (y342 ++ l0) := ⟨_, rfl⟩
  replace H : (some y345) = some r := by first | (rw [hy345]; with_reducible exact H) | (have H2_ := (Option.bind_some _ _).symm.trans H; rw [hy345]; with_reducible exact H2_) | (have H2_ := (Option.bind_some _ _).symm.trans H; with_reducible exact H2_) | with_reducible exact H | (rw [hy345]; exact H) | exact H
  have Ny345 := Aside0.mk hy345; clear hy345; obtain rfl := Option.some.inj H
  go_enter Tryz.func144, Tryz.ntmps144
  go_wp2_with (first | ((with_reducible refine gate_callee (f := 154) rfl ?_); refine gB (some 9) Tryz.func154 #[.slice A0 l0.length c0, .int .i64 a1] ?_; (with_reducible refine (spec_SetHas.calls k _ _ l0 a1 true _ ?side1 ?side2 A3.out).mono ?_); (case side1 => exact cI HR0.out); (case side2 => exact HC0.out); rintro e w' ⟨rfl, ⟨nd, rfl⟩⟩; refine ⟨_, rfl, ?_⟩) | ((with_reducible refine gate_dst (N := 10) rfl ?_); refine Kd.R_lit (Kd.int .i64) _ 3 ?hg (N := 10) ?hd (xs := ([] : List Int)) (inner := []) (ok := fun _ => True) (okp := fun _ => True) ?hr ?hp (fun _ hk => hk) trivial (Below.refl _ _) (Nat.le_refl _) (by simp) ?_; (case hd => rfl); (case hg => rfl); (case hr => first | (go_simp; done) | (go_simp; rfl)); (case hp => exact (Reps.none _ _)); intro v343 w6 ho7 hb hg_ hnew_; clear hg_ hnew_; (first | rw [← Ny342.out] at ho7 | (simp only [Int.reduceToNat] at ho7; rw [← Ny342.out] at ho7)); have HO344 := Aside0.mk (Kd.R_lower ho7 (below_size (bI HB.out))); replace HB := bs HB hb; clear hb ho7) | ((with_reducible refine gate_builtin (b := .append) (xs := #[.tmp 10, .tmp 11]) rfl ?_); at_builtin; refine Kd.R_append_rows (Kd.int .i64) (w0 := w) w.heap.size rfl (.tmp 10) (.tmp 11) 24 3 (.int .i64 0) 8 rfl Tryz.underlying24 info3 rfl (by decide) (by omega) v343 y342 l0 _ _ _ (fun _ => True) (fun _ => False) rfl rfl ?aO ?aR (fun _ _ h => h) (fun _ h => h.elim) ?aF ?aB ?aS ?aL ?_; (case aR => exact ch HR0 HB); (case aB => exact (bI HB.out)); (case aF => exact (fun _ _ => trivial)); (case aO => exact (rI HO344.out)); (case aS => exact (below_size (bI HB.out))); (case aL => have := LMc5.out; omega); intro v346 w8 ho hb hg hat; rw [← Ny345.out] at ho; have n0_ := Aside0.mk (hb); have n1_ := Aside0.mk (ho); clear HB; clear HO344; have HB := n0_; have HO347 := n1_; clear n0_ n1_; clear ho hb hg hat))
  go_ret
  exact ⟨_, y0_14, by (with_reducible repeat (first | apply Kd.R_alloc | apply Kd.R_drewN | apply Kd.R_drew)); exact HO347.out, bI HB.out⟩
 replace c4 := Bool.eq_false_iff.mpr c4; subst c4
 rw [if_neg (show ¬ (false = true) by decide)] at H
 have H' := Aside0.mk H; clear H
 go_enter Tryz.func144, Tryz.ntmps144
 go_wp2_with (first | ((with_reducible refine gate_callee (f := 154) rfl ?_); refine gB (some 9) Tryz.func154 #[.slice A0 l0.length c0, .int .i64 a1] ?_; (with_reducible refine (spec_SetHas.calls k _ _ l0 a1 false _ ?side1 ?side2 A3.out).mono ?_); (case side1 => exact cI HR0.out); (case side2 => exact HC0.out); rintro e w' ⟨rfl, ⟨nd, rfl⟩⟩; refine ⟨_, rfl, ?_⟩))
 go_loopg [5] k (fun kq v5 w' => ∃ (x5_1 : Int), v5 = .int .i64 x5_1 ∧ Aside0 (spec_SetAdd.l0 kq l0 a1 x5_1 = some r) ∧ Aside0 (kq ≤ k) ∧ Aside0 (Below w.heap.size w w'))
 case atStart => exact ⟨(0), y0_18, H', ⟨Nat.le_refl _⟩, ⟨bI HB.out⟩⟩
 case round =>
  clear H'
  try clear c1
  try clear p2
  try clear c4
  try clear c5
  obtain ⟨x5_1, rfl, HA, HK1, HB⟩ := hrel; cases gk with
  | zero => exact absurd HA.out (by simp [spec_SetAdd.l0])
  | succ k1 =>
   have H := HA.out; clear HA
   simp only [spec_SetAdd.l0] at H
   by_cases c9 : x5_1 < (l0.length : Int)
   ·
    rw [if_pos c9] at H
    have c9b0 : decide (x5_1 < (l0.length : Int)) = true := decide_eq_true c9; clear c9
    by_cases c10 : 0 ≤ x5_1
    rotate_left
    ·
     rw [if_neg c10] at H
     exact absurd H (by simp)
    rw [if_pos c10] at H
    have c10b0 : decide (0 ≤ x5_1) = true := decide_eq_true c10; clear c10
    by_cases c11 : (rd l0 x5_1) < a1
    ·
     rw [if_pos c11] at H
     have c11b0 : decide ((rd l0 x5_1) < a1) = true := decide_eq_true c11; clear c11; have H' := Aside0.mk H; clear H; have p348 : 0 ≤ (x5_1 : Int) := of_decide_eq_true y0_17; have q348 : x5_1 < (l0.length : Int) := of_decide_eq_true y0_17; obtain ⟨ad348, e348, hx348_0⟩ := Kd.at_int HR0.out x5_1 p348 q348; cases e348; replace hx348_0 := bx HB hx348_0; replace p348 := eq_true p348; replace q348 := eq_true q348
     go_wp2
     go_roundg k1
     case measure => have := HK1.out; omega
     case rel => exact ⟨(wrap64 (x5_1 + 1)), y0_18, H', ⟨y0_20⟩, ⟨bI HB.out⟩⟩
    rw [if_neg c11] at H
    have c11b0 : decide ((rd l0 x5_1) < a1) = false := decide_eq_false c11; clear c11; obtain ⟨y349, hy349⟩ : ∃ y_ : List Int, y_ = (([] : List Int)) := ⟨_, rfl⟩
    replace H : (if x5_1 ≤ (l0.length : Int) then (if y349.length + (l0.take (x5_1 : Int).toNat).length < 17592186044416 then ((some (y349 ++ (l0.take (x5_1 : Int).toNat) : List Int)).bind fun y353 => (if y353.length < 17592186044416 then ((some (y353 ++ [a1] : List Int)).bind fun y356 => (if y356.length + (l0.drop (x5_1 : Int).toNat).length < 17592186044416 then (some (y356 ++ (l0.drop (x5_1 : Int).toNat))) else (none))) else (none))) else (none)) else (none)) = some r := by first | (rw [hy349]; with_reducible exact H) | (have H2_ := (Option.bind_some _ _).symm.trans H; rw [hy349]; with_reducible exact H2_) | (have H2_ := (Option.bind_some _ _).symm.trans H; with_reducible exact H2_) | with_reducible exact H | (rw [hy349]; exact H) | exact H
    have Ny349 := Aside0.mk hy349; clear hy349; have c12b0 := eq_true (of_decide_eq_true y0_17 : 0 ≤ x5_1)
    by_cases c13 : x5_1 ≤ (l0.length : Int)
    rotate_left
    ·
     rw [if_neg c13] at H
     exact absurd H (by simp)
    rw [if_pos c13] at H
    have c13b0 := eq_true c13; have c13b1 : decide (x5_1 ≤ (l0.length : Int)) = true := decide_eq_true c13; clear c13
    by_cases c14 : y349.length + (l0.take (x5_1 : Int).toNat).length < 17592186044416
    rotate_left
    ·
     rw [if_neg c14] at H
     exact absurd H (by simp)
    rw [if_pos c14] at H
    have LMc14 := Aside0.mk c14; clear c14; obtain ⟨y353, hy353⟩ : ∃ y_ : List Int, y_ = (y349 ++ (l0.take (x5_1 : Int).toNat)) := ⟨_, rfl⟩
    replace H : (if y353.length < 17592186044416 then ((some (y353 ++ [a1] : List Int)).bind fun y356 => (if y356.length + (l0.drop (x5_1 : Int).toNat).length < 17592186044416 then (some (y356 ++ (l0.drop (x5_1 : Int).toNat))) else (none))) else (none)) = some r := by first | (rw [hy353]; with_reducible exact H) | (have H2_ := (Option.bind_some _ _).symm.trans H; rw [hy353]; with_reducible exact H2_) | (have H2_ := (Option.bind_some _ _).symm.trans H; with_reducible exact H2_) | with_reducible exact H | (rw [hy353]; exact H) | exact H
    have Ny353 := Aside0.mk hy353; clear hy353
    by_cases c15 : y353.length < 17592186044416
    rotate_left
    ·
     rw [if_neg c15] at H
     exact absurd H (by simp)
    rw [if_pos c15] at H
    have LMc15 := Aside0.mk c15; clear c15; obtain ⟨y356, hy356⟩ : ∃ y_ : List Int, y_ = (y353 ++ [a1]) := ⟨_, rfl⟩
    replace H : (if y356.length + (l0.drop (x5_1 : Int).toNat).length < 17592186044416 then (some (y356 ++ (l0.drop (x5_1 : Int).toNat))) else (none)) = some r := by first | (rw [hy356]; with_reducible exact H) | (have H2_ := (Option.bind_some _ _).symm.trans H; rw [hy356]; with_reducible exact H2_) | (have H2_ := (Option.bind_some _ _).symm.trans H; with_reducible exact H2_) | with_reducible exact H | (rw [hy356]; exact H) | exact H
    have Ny356 := Aside0.mk hy356; clear hy356; have c16b0 := eq_true (of_decide_eq_true y0_17 : 0 ≤ x5_1); have c17b0 := eq_true (of_decide_eq_true y0_17 : x5_1 ≤ (l0.length : Int))
    by_cases c18 : y356.length + (l0.drop (x5_1 : Int).toNat).length < 17592186044416
    rotate_left
    ·
     rw [if_neg c18] at H
     exact absurd H (by simp)
    rw [if_pos c18] at H
    have LMc18 := Aside0.mk c18; clear c18; obtain ⟨y360, hy360⟩ : ∃ y_ : List Int, y_ = (y356 ++ (l0.drop (x5_1 : Int).toNat)) := ⟨_, rfl⟩
    replace H : (some y360) = some r := by first | (rw [hy360]; with_reducible exact H) | (have H2_ := (Option.bind_some _ _).symm.trans H; rw [hy360]; with_reducible exact H2_) | (have H2_ := (Option.bind_some _ _).symm.trans H; with_reducible exact H2_) | with_reducible exact H | (rw [hy360]; exact H) | exact H
    have Ny360 := Aside0.mk hy360; clear hy360; obtain rfl := Option.some.inj H; have p348 : 0 ≤ (x5_1 : Int) := of_decide_eq_true y0_17; have q348 : x5_1 < (l0.length : Int) := of_decide_eq_true y0_17; obtain ⟨ad348, e348, hx348_0⟩ := Kd.at_int HR0.out x5_1 p348 q348; cases e348; replace hx348_0 := bx HB hx348_0; replace p348 := eq_true p348; replace q348 := eq_true q348
    go_wp2_with (first | ((with_reducible refine gate_dst (N := 27) rfl ?_); refine Kd.R_lit (Kd.int .i64) _ 3 ?hg (N := 27) ?hd (xs := ([] : List Int)) (inner := []) (ok := fun _ => True) (okp := fun _ => True) ?hr ?hp (fun _ hk => hk) trivial (Below.refl _ _) (Nat.le_refl _) (by simp) ?_; (case hd => rfl); (case hg => rfl); (case hr => first | (go_simp; done) | (go_simp; rfl)); (case hp => exact (Reps.none _ _)); intro v350 w19 ho20 hb hg_ hnew_; clear hg_ hnew_; (first | rw [← Ny349.out] at ho20 | (simp only [Int.reduceToNat] at ho20; rw [← Ny349.out] at ho20)); have HO351 := Aside0.mk (Kd.R_lower ho20 (below_size (bI HB.out))); replace HB := bs HB hb; clear hb ho20; obtain ⟨i021, hi021, _, hsz21, _⟩ := info_parts info3; obtain ⟨hcut21, hA21, hC21⟩ := print_take_of (P := Tryz.prog) (Value.int .i64) 0 24 3 .i64 Tryz.underlying24 hi021 hsz21 (some ad348) c0 l0 x5_1 (of_decide_eq_true y0_17) (of_decide_eq_true y0_17) HC0.out; have HR352 := Aside0.mk (Kd.C_of_reads (h1 := fun _ => rfl) (hA21 _ (Kd.reads_of_C HR0.out))); have HC352 := Aside0.mk hC21; clear hA21 hC21 hi021 hsz21) | ((with_reducible refine gate_builtin (b := .append) (xs := #[.tmp 27, .tmp 30]) rfl ?_); at_builtin; refine Kd.R_append_rows (Kd.int .i64) (w0 := w) w.heap.size rfl (.tmp 27) (.tmp 30) 24 3 (.int .i64 0) 8 rfl Tryz.underlying24 info3 rfl (by decide) (by omega) v350 y349 (l0.take (x5_1 : Int).toNat) _ _ _ (fun _ => True) (fun _ => False) rfl rfl ?aO ?aR (fun _ _ h => h) (fun _ h => h.elim) ?aF ?aB ?aS ?aL ?_; (case aR => first | exact cE (show (l0.take (x5_1 : Int).toNat).length = x5_1.toNat from y0_8) (Kd.C_below HR352.out HB.out) | (exact ch HR352 HB)); (case aB => exact (bI HB.out)); (case aF => exact (fun _ _ => trivial)); (case aO => exact (rI HO351.out)); (case aS => exact (below_size (bI HB.out))); (case aL => have := LMc14.out; have hlx_ := (show (l0.take (x5_1 : Int).toNat).length = x5_1.toNat from y0_8); omega); intro v354 w22 ho hb hg hat; rw [← Ny353.out] at ho; have n0_ := Aside0.mk (hb); have n1_ := Aside0.mk (ho); clear HB; clear HO351; have HB := n0_; have HO355 := n1_; clear n0_ n1_; clear ho hb hg hat) | ((with_reducible refine gate_builtin (b := .append) (xs := #[.tmp 32, .tmp 34]) rfl ?_); at_builtin; refine Kd.R_append (Kd.int .i64) (w0 := w) w.heap.size rfl (.tmp 32) (.tmp 34) 24 3 (.int .i64 0) 8 rfl Tryz.underlying24 info3 rfl (by decide) (by omega) v354 y353 a1 [.int .i64 a1] (fun _ => True) (fun _ => False) rfl rfl ?aP (fun _ hk => hk.elim) ?aF ?aO ?aB ?aS ?aL ?_; (case aP => exact rfl); (case aB => exact (bI HB.out)); (case aF => exact (fun _ _ => trivial)); (case aO => exact (rI HO355.out)); (case aS => exact (below_size (bI HB.out))); (case aL => have := LMc15.out; omega); intro v357 w23 ho hb hg hat; rw [← Ny356.out] at ho; have n0_ := Aside0.mk (hb); have n1_ := Aside0.mk (ho); clear HB; clear HO355; have HB := n0_; have HO358 := n1_; clear n0_ n1_; clear ho hb hg hat; obtain ⟨i024, hi024, _, hsz24, _⟩ := info_parts info3; obtain ⟨A24, hcut24, hA24, hC24⟩ := print_drop_of (P := Tryz.prog) (Value.int .i64) 0 24 3 .i64 Tryz.underlying24 hi024 hsz24 (some ad348) c0 l0 x5_1 (of_decide_eq_true y0_17) (of_decide_eq_true y0_17) HC0.out; have HR359 := Aside0.mk (Kd.C_of_reads (h1 := fun _ => rfl) (hA24 _ (Kd.reads_of_C HR0.out))); have HC359 := Aside0.mk hC24; clear hA24 hC24 hi024 hsz24) | ((with_reducible refine gate_builtin (b := .append) (xs := #[.tmp 36, .tmp 39]) rfl ?_); at_builtin; refine Kd.R_append_rows (Kd.int .i64) (w0 := w) w.heap.size rfl (.tmp 36) (.tmp 39) 24 3 (.int .i64 0) 8 rfl Tryz.underlying24 info3 rfl (by decide) (by omega) v357 y356 (l0.drop (x5_1 : Int).toNat) _ _ _ (fun _ => True) (fun _ => False) rfl rfl ?aO ?aR (fun _ _ h => h) (fun _ h => h.elim) ?aF ?aB ?aS ?aL ?_; (case aR => first | exact cE (show (l0.drop (x5_1 : Int).toNat).length = (l0.length - x5_1.toNat) from List.length_drop) (Kd.C_below HR359.out HB.out) | (exact ch HR359 HB)); (case aB => exact (bI HB.out)); (case aF => exact (fun _ _ => trivial)); (case aO => exact (rI HO358.out)); (case aS => exact (below_size (bI HB.out))); (case aL => have := LMc18.out; have hlx_ := (show (l0.drop (x5_1 : Int).toNat).length = (l0.length - x5_1.toNat) from List.length_drop); omega); intro v361 w25 ho hb hg hat; rw [← Ny360.out] at ho; have n0_ := Aside0.mk (hb); have n1_ := Aside0.mk (ho); clear HB; clear HO358; have HB := n0_; have HO362 := n1_; clear n0_ n1_; clear ho hb hg hat))
    go_ret
    exact ⟨_, y0_14, by (with_reducible repeat (first | apply Kd.R_alloc | apply Kd.R_drewN | apply Kd.R_drew)); exact HO362.out, bI HB.out⟩
   rw [if_neg c9] at H
   have c9b0 : decide (x5_1 < (l0.length : Int)) = false := decide_eq_false c9; clear c9; obtain ⟨y363, hy363⟩ : ∃ y_ : List Int, y_ = (([] : List Int)) := ⟨_, rfl⟩
   replace H : (if 0 ≤ x5_1 then (if x5_1 ≤ (l0.length : Int) then (if y363.length + (l0.take (x5_1 : Int).toNat).length < 17592186044416 then ((some (y363 ++ (l0.take (x5_1 : Int).toNat) : List Int)).bind fun y367 => (if y367.length < 17592186044416 then ((some (y367 ++ [a1] : List Int)).bind fun y370 => (if y370.length + (l0.drop (x5_1 : Int).toNat).length < 17592186044416 then (some (y370 ++ (l0.drop (x5_1 : Int).toNat))) else (none))) else (none))) else (none)) else (none)) else (none)) = some r := by first | (rw [hy363]; with_reducible exact H) | (have H2_ := (Option.bind_some _ _).symm.trans H; rw [hy363]; with_reducible exact H2_) | (have H2_ := (Option.bind_some _ _).symm.trans H; with_reducible exact H2_) | with_reducible exact H | (rw [hy363]; exact H) | exact H
   have Ny363 := Aside0.mk hy363; clear hy363
   by_cases c26 : 0 ≤ x5_1
   ·
    rw [if_pos c26] at H
    have c26b0 := eq_true c26; have c26b1 : decide (0 ≤ x5_1) = true := decide_eq_true c26; clear c26
    by_cases c27 : x5_1 ≤ (l0.length : Int)
    rotate_left
    ·
     rw [if_neg c27] at H
     exact absurd H (by simp)
    rw [if_pos c27] at H
    have c27b0 := eq_true c27; have c27b1 : decide (x5_1 ≤ (l0.length : Int)) = true := decide_eq_true c27; clear c27
    by_cases c28 : y363.length + (l0.take (x5_1 : Int).toNat).length < 17592186044416
    rotate_left
    ·
     rw [if_neg c28] at H
     exact absurd H (by simp)
    rw [if_pos c28] at H
    have LMc28 := Aside0.mk c28; clear c28; obtain ⟨y367, hy367⟩ : ∃ y_ : List Int, y_ = (y363 ++ (l0.take (x5_1 : Int).toNat)) := ⟨_, rfl⟩
    replace H : (if y367.length < 17592186044416 then ((some (y367 ++ [a1] : List Int)).bind fun y370 => (if y370.length + (l0.drop (x5_1 : Int).toNat).length < 17592186044416 then (some (y370 ++ (l0.drop (x5_1 : Int).toNat))) else (none))) else (none)) = some r := by first | (rw [hy367]; with_reducible exact H) | (have H2_ := (Option.bind_some _ _).symm.trans H; rw [hy367]; with_reducible exact H2_) | (have H2_ := (Option.bind_some _ _).symm.trans H; with_reducible exact H2_) | with_reducible exact H | (rw [hy367]; exact H) | exact H
    have Ny367 := Aside0.mk hy367; clear hy367
    by_cases c29 : y367.length < 17592186044416
    rotate_left
    ·
     rw [if_neg c29] at H
     exact absurd H (by simp)
    rw [if_pos c29] at H
    have LMc29 := Aside0.mk c29; clear c29; obtain ⟨y370, hy370⟩ : ∃ y_ : List Int, y_ = (y367 ++ [a1]) := ⟨_, rfl⟩
    replace H : (if y370.length + (l0.drop (x5_1 : Int).toNat).length < 17592186044416 then (some (y370 ++ (l0.drop (x5_1 : Int).toNat))) else (none)) = some r := by first | (rw [hy370]; with_reducible exact H) | (have H2_ := (Option.bind_some _ _).symm.trans H; rw [hy370]; with_reducible exact H2_) | (have H2_ := (Option.bind_some _ _).symm.trans H; with_reducible exact H2_) | with_reducible exact H | (rw [hy370]; exact H) | exact H
    have Ny370 := Aside0.mk hy370; clear hy370; have c30b0 := eq_true (of_decide_eq_true y0_17 : 0 ≤ x5_1); have c31b0 := eq_true (of_decide_eq_true y0_17 : x5_1 ≤ (l0.length : Int))
    by_cases c32 : y370.length + (l0.drop (x5_1 : Int).toNat).length < 17592186044416
    rotate_left
    ·
     rw [if_neg c32] at H
     exact absurd H (by simp)
    rw [if_pos c32] at H
    have LMc32 := Aside0.mk c32; clear c32; obtain ⟨y374, hy374⟩ : ∃ y_ : List Int, y_ = (y370 ++ (l0.drop (x5_1 : Int).toNat)) := ⟨_, rfl⟩
    replace H : (some y374) = some r := by first | (rw [hy374]; with_reducible exact H) | (have H2_ := (Option.bind_some _ _).symm.trans H; rw [hy374]; with_reducible exact H2_) | (have H2_ := (Option.bind_some _ _).symm.trans H; with_reducible exact H2_) | with_reducible exact H | (rw [hy374]; exact H) | exact H
    have Ny374 := Aside0.mk hy374; clear hy374; obtain rfl := Option.some.inj H
    go_wp2_with (first | ((with_reducible refine gate_dst (N := 27) rfl ?_); refine Kd.R_lit (Kd.int .i64) _ 3 ?hg (N := 27) ?hd (xs := ([] : List Int)) (inner := []) (ok := fun _ => True) (okp := fun _ => True) ?hr ?hp (fun _ hk => hk) trivial (Below.refl _ _) (Nat.le_refl _) (by simp) ?_; (case hd => rfl); (case hg => rfl); (case hr => first | (go_simp; done) | (go_simp; rfl)); (case hp => exact (Reps.none _ _)); intro v364 w33 ho34 hb hg_ hnew_; clear hg_ hnew_; (first | rw [← Ny363.out] at ho34 | (simp only [Int.reduceToNat] at ho34; rw [← Ny363.out] at ho34)); have HO365 := Aside0.mk (Kd.R_lower ho34 (below_size (bI HB.out))); replace HB := bs HB hb; clear hb ho34; obtain ⟨i035, hi035, _, hsz35, _⟩ := info_parts info3; obtain ⟨hcut35, hA35, hC35⟩ := print_take_of (P := Tryz.prog) (Value.int .i64) 0 24 3 .i64 Tryz.underlying24 hi035 hsz35 A0 c0 l0 x5_1 (of_decide_eq_true y0_17) (of_decide_eq_true y0_17) HC0.out; have HR366 := Aside0.mk (Kd.C_of_reads (h1 := fun _ => rfl) (hA35 _ (Kd.reads_of_C HR0.out))); have HC366 := Aside0.mk hC35; clear hA35 hC35 hi035 hsz35) | ((with_reducible refine gate_builtin (b := .append) (xs := #[.tmp 27, .tmp 30]) rfl ?_); at_builtin; refine Kd.R_append_rows (Kd.int .i64) (w0 := w) w.heap.size rfl (.tmp 27) (.tmp 30) 24 3 (.int .i64 0) 8 rfl Tryz.underlying24 info3 rfl (by decide) (by omega) v364 y363 (l0.take (x5_1 : Int).toNat) _ _ _ (fun _ => True) (fun _ => False) rfl rfl ?aO ?aR (fun _ _ h => h) (fun _ h => h.elim) ?aF ?aB ?aS ?aL ?_; (case aR => first | exact cE (show (l0.take (x5_1 : Int).toNat).length = x5_1.toNat from y0_8) (Kd.C_below HR366.out HB.out) | (exact ch HR366 HB)); (case aB => exact (bI HB.out)); (case aF => exact (fun _ _ => trivial)); (case aO => exact (rI HO365.out)); (case aS => exact (below_size (bI HB.out))); (case aL => have := LMc28.out; have hlx_ := (show (l0.take (x5_1 : Int).toNat).length = x5_1.toNat from y0_8); omega); intro v368 w36 ho hb hg hat; rw [← Ny367.out] at ho; have n0_ := Aside0.mk (hb); have n1_ := Aside0.mk (ho); clear HB; clear HO365; have HB := n0_; have HO369 := n1_; clear n0_ n1_; clear ho hb hg hat) | ((with_reducible refine gate_builtin (b := .append) (xs := #[.tmp 32, .tmp 34]) rfl ?_); at_builtin; refine Kd.R_append (Kd.int .i64) (w0 := w) w.heap.size rfl (.tmp 32) (.tmp 34) 24 3 (.int .i64 0) 8 rfl Tryz.underlying24 info3 rfl (by decide) (by omega) v368 y367 a1 [.int .i64 a1] (fun _ => True) (fun _ => False) rfl rfl ?aP (fun _ hk => hk.elim) ?aF ?aO ?aB ?aS ?aL ?_; (case aP => exact rfl); (case aB => exact (bI HB.out)); (case aF => exact (fun _ _ => trivial)); (case aO => exact (rI HO369.out)); (case aS => exact (below_size (bI HB.out))); (case aL => have := LMc29.out; omega); intro v371 w37 ho hb hg hat; rw [← Ny370.out] at ho; have n0_ := Aside0.mk (hb); have n1_ := Aside0.mk (ho); clear HB; clear HO369; have HB := n0_; have HO372 := n1_; clear n0_ n1_; clear ho hb hg hat; obtain ⟨i038, hi038, _, hsz38, _⟩ := info_parts info3; obtain ⟨A38, hcut38, hA38, hC38⟩ := print_drop_of (P := Tryz.prog) (Value.int .i64) 0 24 3 .i64 Tryz.underlying24 hi038 hsz38 A0 c0 l0 x5_1 (of_decide_eq_true y0_17) (of_decide_eq_true y0_17) HC0.out; have HR373 := Aside0.mk (Kd.C_of_reads (h1 := fun _ => rfl) (hA38 _ (Kd.reads_of_C HR0.out))); have HC373 := Aside0.mk hC38; clear hA38 hC38 hi038 hsz38) | ((with_reducible refine gate_builtin (b := .append) (xs := #[.tmp 36, .tmp 39]) rfl ?_); at_builtin; refine Kd.R_append_rows (Kd.int .i64) (w0 := w) w.heap.size rfl (.tmp 36) (.tmp 39) 24 3 (.int .i64 0) 8 rfl Tryz.underlying24 info3 rfl (by decide) (by omega) v371 y370 (l0.drop (x5_1 : Int).toNat) _ _ _ (fun _ => True) (fun _ => False) rfl rfl ?aO ?aR (fun _ _ h => h) (fun _ h => h.elim) ?aF ?aB ?aS ?aL ?_; (case aR => first | exact cE (show (l0.drop (x5_1 : Int).toNat).length = (l0.length - x5_1.toNat) from List.length_drop) (Kd.C_below HR373.out HB.out) | (exact ch HR373 HB)); (case aB => exact (bI HB.out)); (case aF => exact (fun _ _ => trivial)); (case aO => exact (rI HO372.out)); (case aS => exact (below_size (bI HB.out))); (case aL => have := LMc32.out; have hlx_ := (show (l0.drop (x5_1 : Int).toNat).length = (l0.length - x5_1.toNat) from List.length_drop); omega); intro v375 w39 ho hb hg hat; rw [← Ny374.out] at ho; have n0_ := Aside0.mk (hb); have n1_ := Aside0.mk (ho); clear HB; clear HO372; have HB := n0_; have HO376 := n1_; clear n0_ n1_; clear ho hb hg hat))
    go_ret
    exact ⟨_, y0_14, by (with_reducible repeat (first | apply Kd.R_alloc | apply Kd.R_drewN | apply Kd.R_drew)); exact HO376.out, bI HB.out⟩
   rw [if_neg c26] at H
   exact absurd H (by simp)

/-! ### spec_l6DrawSet: function 125 -/
def spec_l6DrawSet.l0 : Nat → Int → List Int → Int → List Int → Int → Int → Option (List Int × Int × Int)
 | 0, _, _, _, _, _, _ => none
 | k + 1, x1, x5, x6, x1000, x1001, x1002 => (spec_l1Below.f x1000 x1001 x1002 8).bind fun bt380 => (if x6 < bt380.1 then ((spec_l1Below.f x1000 bt380.2.1 bt380.2.2 x1).bind fun bt383 => ((spec_SetAdd.f k x5 bt383.1).bind fun t386 => (spec_l6DrawSet.l0 k x1 t386 (wrap64 (x6 + 1)) x1000 bt383.2.1 bt383.2.2))) else ((spec_l1Once.f x1000 bt380.2.1 bt380.2.2 12).bind fun bt389 => (if bt389.1 = true then ((spec_l1PickInt.f x1000 bt389.2.1 bt389.2.2 (([(-1), 0, 3, 9] : List Int))).bind fun bt395 => (if x5.length < 17592186044416 then (some ((x5 ++ [bt395.1]), bt395.2.1, bt395.2.2)) else (none))) else (some (x5, bt389.2.1, bt389.2.2)))))
def spec_l6DrawSet.f (k : Nat) (s0_0 : List Int) (s0_1 : Int) (s0_2 : Int) (a1 : Int) : Option (List Int × Int × Int) := spec_l6DrawSet.l0 k a1 (([] : List Int)) 0 s0_0 s0_1 s0_2
theorem spec_l6DrawSet.mono_l : ∀ k, (∀ y0 y1 y2 y3 y4 y5, LeO (spec_l6DrawSet.l0 k y0 y1 y2 y3 y4 y5) (spec_l6DrawSet.l0 (k + 1) y0 y1 y2 y3 y4 y5))
 | 0 => fun _ _ _ _ _ _ r h => by simp [spec_l6DrawSet.l0] at h
 | k + 1 => by
  have ih0 := spec_l6DrawSet.mono_l k
  intro y0 y1 y2 y3 y4 y5
  unfold spec_l6DrawSet.l0
  repeat' first | (with_reducible exact ih0 _ _ _ _ _ _) | (with_reducible exact spec_SetAdd.mono _ _ _) | (with_reducible exact LeO.refl _) | (with_reducible exact LeO.none _) | (with_reducible refine LeO.ite ?_ ?_) | (with_reducible refine LeO.bind ?_ (fun _ => ?_))
theorem spec_l6DrawSet.mono : ∀ a0 a1 a2 a3 k, LeO (spec_l6DrawSet.f k a0 a1 a2 a3) (spec_l6DrawSet.f (k + 1) a0 a1 a2 a3) := by
 intro a0 a1 a2 a3 k
 have ih0 := spec_l6DrawSet.mono_l k
 unfold spec_l6DrawSet.f
 repeat' first | (with_reducible exact ih0 _ _ _ _ _ _) | (with_reducible exact spec_SetAdd.mono _ _ _) | (with_reducible exact LeO.refl _) | (with_reducible exact LeO.none _) | (with_reducible refine LeO.ite ?_ ?_) | (with_reducible refine LeO.bind ?_ (fun _ => ?_))
set_option maxHeartbeats 8000000 in
set_option maxRecDepth 100000 in
theorem spec_l6DrawSet.calls (k : Nat) (g : Nat) (s0_0 : List Int) (s0_1 : Int) (s0_2 : Int) (a1 : Int) (r1 : List Int) (r2 : Int) (r3 : Int) (w0 w : World) (hI : IsS124 w0 w g s0_0 s0_1 s0_2) (hB : Below w0.heap.size w0 w) (h : spec_l6DrawSet.f k s0_0 s0_1 s0_2 a1 = some (r1, r2, r3)) :
  Calls Tryz.prog 125 #[.pointer (some ⟨g, 0, none⟩), .int .i64 a1] w fun e w' => ∃ v0_ : Value, e = .returned (v0_) ∧ Kd.R (Kd.int .i64) 3 w' w.heap.size (fun _ => True) v0_ r1 ∧ IsS124 w0 w' g s0_0 r2 r3 ∧ Below w0.heap.size w0 w' ∧ KeepBut w w' g none := by
 have HI0 := Aside0.mk hI; have HK := Aside0.mk (KeepBut.refl w g none); have HL := Aside0.mk hB.size; clear hI; have HW0 := Aside0.mk hB.size; have HB := Aside0.mk hB; clear hB; have H : (spec_l6DrawSet.l0 k a1 (([] : List Int)) 0 s0_0 s0_1 s0_2) = some (r1, r2, r3) := h; clear h; obtain ⟨y377, hy377⟩ : ∃ y_ : List Int, y_ = (([] : List Int)) := ⟨_, rfl⟩
 replace H : (spec_l6DrawSet.l0 k a1 y377 0 s0_0 s0_1 s0_2) = some (r1, r2, r3) := by first | (rw [hy377]; with_reducible exact H) | (have H2_ := (Option.bind_some _ _).symm.trans H; rw [hy377]; with_reducible exact H2_) | (have H2_ := (Option.bind_some _ _).symm.trans H; with_reducible exact H2_) | with_reducible exact H | (rw [hy377]; exact H) | exact H
 have Ny377 := Aside0.mk hy377; clear hy377; have H' := Aside0.mk H; clear H
 go_enter Tryz.func125, Tryz.ntmps125
 go_wp2_with (first | ((with_reducible refine gate_dst (N := 7) rfl ?_); refine Kd.R_lit (Kd.int .i64) _ 3 ?hg (N := 7) ?hd (xs := ([] : List Int)) (inner := []) (ok := fun _ => True) (okp := fun _ => True) ?hr ?hp (fun _ hk => hk) trivial (Below.refl _ _) (Nat.le_refl _) (by simp) ?_; (case hd => rfl); (case hg => rfl); (case hr => first | (go_simp; done) | (go_simp; rfl)); (case hp => exact (Reps.none _ _)); intro v378 w3 ho4 hb hg_ hnew_; clear hg_ hnew_; (first | rw [← Ny377.out] at ho4 | (simp only [Int.reduceToNat] at ho4; rw [← Ny377.out] at ho4)); have HO379 := Aside0.mk (Kd.R_lower ho4 (keep_size (w := w) (g := g) (row := none) (hI HK.out))); replace HK := kb HK hb; replace HB : Aside0 (Below w0.heap.size w0 _) := Aside0.mk (below_step y0_7 hb); replace HI0 := Aside0.mk (IsS124.below y0_6 hb); clear hb ho4))
 go_loopg [5, 6] k (fun kq v5 v6 w' => ∃ (x5_1 : List Int) (x6_1 : Int) (x1001_1 : Int) (x1002_1 : Int), v6 = .int .i64 x6_1 ∧ Aside0 (spec_l6DrawSet.l0 kq a1 x5_1 x6_1 s0_0 x1001_1 x1002_1 = some (r1, r2, r3)) ∧ Aside0 (kq ≤ k) ∧ Aside0 (Kd.R (Kd.int .i64) 3 w' w.heap.size (fun _ => True) v5 x5_1) ∧ Aside0 (IsS124 w0 w' g s0_0 x1001_1 x1002_1) ∧ Aside0 (KeepBut w w' g none) ∧ Aside0 (Below w0.heap.size w0 w'))
 case atStart => exact ⟨(y377), (0), (s0_1), (s0_2), y0_18, H', ⟨Nat.le_refl _⟩, ⟨by (with_reducible repeat (first | apply Kd.R_alloc | apply Kd.R_drewN | apply Kd.R_drew)); exact HO379.out⟩, ⟨y0_6⟩, ⟨hI HK.out⟩, ⟨y0_7⟩⟩
 case round =>
  clear H'
  try clear c1
  try clear p2
  obtain ⟨x5_1, x6_1, x1001_1, x1002_1, rfl, HA, HK1, HO_5, HI0, HK, HB⟩ := hrel; cases gk with
  | zero => exact absurd HA.out (by simp [spec_l6DrawSet.l0])
  | succ k1 =>
   have H := HA.out; clear HA
   simp only [spec_l6DrawSet.l0] at H
   obtain ⟨⟨t380, t381, t382⟩, A50, H⟩ := Option.bind_eq_some_iff.mp H
   try dsimp only at H
   have A5 := Aside0.mk A50; clear A50
   by_cases c6 : x6_1 < t380
   ·
    rw [if_pos c6] at H
    have c6b0 : decide (x6_1 < t380) = true := decide_eq_true c6; clear c6; obtain ⟨⟨t383, t384, t385⟩, A70, H⟩ := Option.bind_eq_some_iff.mp H
    try dsimp only at H
    have A7 := Aside0.mk A70; clear A70; obtain ⟨t386, A80, H⟩ := Option.bind_eq_some_iff.mp H
    try dsimp only at H
    have A8 := Aside0.mk A80; clear A80; have H' := Aside0.mk H; clear H
    go_wp2_with (first | ((with_reducible refine gate_callee (f := 114) rfl ?_); refine gB (some 10) Tryz.func114 #[.pointer (some ⟨g, 0, none⟩), .int .i64 8] ?_; (with_reducible refine (spec_l1Below.calls g s0_0 x1001_1 x1002_1 8 t380 t381 t382 w0 _ ?side1 ?side2 A5.out).mono ?_); (case side1 => repeat (first | (with_reducible first | exact HI0.out | apply IsS124.alloc | apply IsS124.drewN | apply IsS124.drew | apply IsS124.set_1 | apply IsS124.set_2) | exact HI0.out)); (case side2 => repeat (first | (with_reducible first | exact HB.out | apply below_alloc | apply pw_below_drewN | apply below_drew1 | refine below_set ?_ (IsS124.ge HI0.out)) | exact HB.out)); rintro e w9 ⟨rfl, hi, hb, hk⟩; refine ⟨_, rfl, ?_⟩; replace HO_5 := Aside0.mk (Kd.R_mono (Kd.R_keep (IsS124.apart (show IsS124 w0 _ g s0_0 x1001_1 x1002_1 from y0_6) (rI HO_5.out) (by decide)) hk (fun _ h => h.2)) (fun _ h => h.1)); replace HK := kt HK hk; replace HB := Aside0.mk (hb); replace HI0 := Aside0.mk (hi); (try clear hb); (try clear hb2); (try clear hk); (try clear hi)) | ((with_reducible refine gate_callee (f := 114) rfl ?_); refine gB (some 17) Tryz.func114 #[.pointer (some ⟨g, 0, none⟩), .int .i64 a1] ?_; (with_reducible refine (spec_l1Below.calls g s0_0 t381 t382 a1 t383 t384 t385 w0 _ ?side1 ?side2 A7.out).mono ?_); (case side1 => repeat (first | (with_reducible first | exact HI0.out | apply IsS124.alloc | apply IsS124.drewN | apply IsS124.drew | apply IsS124.set_1 | apply IsS124.set_2) | exact HI0.out)); (case side2 => repeat (first | (with_reducible first | exact HB.out | apply below_alloc | apply pw_below_drewN | apply below_drew1 | refine below_set ?_ (IsS124.ge HI0.out)) | exact HB.out)); rintro e w10 ⟨rfl, hi, hb, hk⟩; refine ⟨_, rfl, ?_⟩; replace HO_5 := Aside0.mk (Kd.R_mono (Kd.R_keep (IsS124.apart (show IsS124 w0 _ g s0_0 t381 t382 from y0_6) (rI HO_5.out) (by decide)) hk (fun _ h => h.2)) (fun _ h => h.1)); replace HK := kt HK hk; replace HB := Aside0.mk (hb); replace HI0 := Aside0.mk (hi); (try clear hb); (try clear hb2); (try clear hk); (try clear hi); obtain ⟨Ao11, co11, eo11⟩ := Kd.R_slice HO_5.out; subst eo11) | ((with_reducible refine gate_callee (f := 144) rfl ?_); refine gB (some 18) Tryz.func144 #[.slice Ao11 x5_1.length co11, .int .i64 t383] ?_; (with_reducible refine (spec_SetAdd.calls k1 _ _ x5_1 t383 t386 _ ?side1 ?side2 A8.out).mono ?_); (case side1 => repeat (first | exact (Kd.R_reads' HO_5.out).2.2 | (with_reducible refine Kd.C_alloc ?_ _) | (with_reducible refine Kd.C_drewN ?_ _) | (with_reducible refine Kd.C_drew ?_))); (case side2 => exact (Kd.R_reads' HO_5.out).2.1); rintro e w12 ⟨v387, rfl, ho0, hb⟩; refine ⟨_, rfl, ?_⟩; have HO388 := Aside0.mk (Kd.R_lower (Kd.R_new' ho0 (Kd.R_lt (rI HO_5.out))) (keep_size (w := w) (g := g) (row := none) (hI HK.out))); replace HO_5 := Aside0.mk (Kd.R_elder' (rI HO_5.out) (Kd.R_base ho0) hb); replace HK := kb HK hb; replace HB : Aside0 (Below w0.heap.size w0 _) := Aside0.mk (below_step y0_7 hb); replace HI0 := Aside0.mk (IsS124.below y0_6 hb); (try clear hb); (try clear hk); (try clear hi)))
    go_roundg k1
    case measure => have := HK1.out; omega
    case rel => exact ⟨(t386), (wrap64 (x6_1 + 1)), (t384), (t385), y0_18, H', ⟨y0_20⟩, ⟨by (with_reducible repeat (first | apply Kd.R_alloc | apply Kd.R_drewN | apply Kd.R_drew)); exact Kd.R_mono HO388.out (fun _ hk => trivial)⟩, ⟨y0_6⟩, ⟨hI HK.out⟩, ⟨y0_7⟩⟩
   rw [if_neg c6] at H
   have c6b0 : decide (x6_1 < t380) = false := decide_eq_false c6; clear c6; obtain ⟨⟨t389, t390, t391⟩, A130, H⟩ := Option.bind_eq_some_iff.mp H
   try dsimp only at H
   have A13 := Aside0.mk A130; clear A130
   by_cases c14 : t389 = true
   ·
    subst c14
    rw [if_pos rfl] at H
    obtain ⟨y392, hy392⟩ : ∃ y_ : List Int, y_ = (([(-1), 0, 3, 9] : List Int)) := ⟨_, rfl⟩
    replace H : ((spec_l1PickInt.f s0_0 t390 t391 y392).bind fun bt395 => (if x5_1.length < 17592186044416 then (some ((x5_1 ++ [bt395.1]), bt395.2.1, bt395.2.2)) else (none))) = some (r1, r2, r3) := by first | (rw [hy392]; with_reducible exact H) | (have H2_ := (Option.bind_some _ _).symm.trans H; rw [hy392]; with_reducible exact H2_) | (have H2_ := (Option.bind_some _ _).symm.trans H; with_reducible exact H2_) | with_reducible exact H | (rw [hy392]; exact H) | exact H
    have Ny392 := Aside0.mk hy392; clear hy392; obtain ⟨⟨t395, t396, t397⟩, A150, H⟩ := Option.bind_eq_some_iff.mp H
    try dsimp only at H
    have A15 := Aside0.mk A150; clear A150
    by_cases c16 : x5_1.length < 17592186044416
    rotate_left
    ·
     rw [if_neg c16] at H
     exact absurd H (by simp)
    rw [if_pos c16] at H
    have LMc16 := Aside0.mk c16; clear c16; obtain ⟨y398, hy398⟩ : ∃ y_ : List Int, y_ = (x5_1 ++ [t395]) := ⟨_, rfl⟩
    replace H : (some (y398, t396, t397)) = some (r1, r2, r3) := by first | (rw [hy398]; with_reducible exact H) | (have H2_ := (Option.bind_some _ _).symm.trans H; rw [hy398]; with_reducible exact H2_) | (have H2_ := (Option.bind_some _ _).symm.trans H; with_reducible exact H2_) | with_reducible exact H | (rw [hy398]; exact H) | exact H
    have Ny398 := Aside0.mk hy398; clear hy398
    simp only [Option.some.injEq, Prod.mk.injEq] at H
    obtain ⟨rfl, rfl, rfl⟩ := H
    go_wp2_with (first | ((with_reducible refine gate_callee (f := 114) rfl ?_); refine gB (some 10) Tryz.func114 #[.pointer (some ⟨g, 0, none⟩), .int .i64 8] ?_; (with_reducible refine (spec_l1Below.calls g s0_0 x1001_1 x1002_1 8 t380 t381 t382 w0 _ ?side1 ?side2 A5.out).mono ?_); (case side1 => repeat (first | (with_reducible first | exact HI0.out | apply IsS124.alloc | apply IsS124.drewN | apply IsS124.drew | apply IsS124.set_1 | apply IsS124.set_2) | exact HI0.out)); (case side2 => repeat (first | (with_reducible first | exact HB.out | apply below_alloc | apply pw_below_drewN | apply below_drew1 | refine below_set ?_ (IsS124.ge HI0.out)) | exact HB.out)); rintro e w17 ⟨rfl, hi, hb, hk⟩; refine ⟨_, rfl, ?_⟩; replace HO_5 := Aside0.mk (Kd.R_mono (Kd.R_keep (IsS124.apart (show IsS124 w0 _ g s0_0 x1001_1 x1002_1 from y0_6) (rI HO_5.out) (by decide)) hk (fun _ h => h.2)) (fun _ h => h.1)); replace HK := kt HK hk; replace HB := Aside0.mk (hb); replace HI0 := Aside0.mk (hi); (try clear hb); (try clear hb2); (try clear hk); (try clear hi)) | ((with_reducible refine gate_callee (f := 93) rfl ?_); refine gB (some 20) Tryz.func93 #[.pointer (some ⟨g, 0, none⟩), .int .i64 12] ?_; (with_reducible refine (spec_l1Once.calls g s0_0 t381 t382 12 true t390 t391 w0 _ ?side1 ?side2 A13.out).mono ?_); (case side1 => repeat (first | (with_reducible first | exact HI0.out | apply IsS124.alloc | apply IsS124.drewN | apply IsS124.drew | apply IsS124.set_1 | apply IsS124.set_2) | exact HI0.out)); (case side2 => repeat (first | (with_reducible first | exact HB.out | apply below_alloc | apply pw_below_drewN | apply below_drew1 | refine below_set ?_ (IsS124.ge HI0.out)) | exact HB.out)); rintro e w18 ⟨rfl, hi, hb, hk⟩; refine ⟨_, rfl, ?_⟩; replace HO_5 := Aside0.mk (Kd.R_mono (Kd.R_keep (IsS124.apart (show IsS124 w0 _ g s0_0 t381 t382 from y0_6) (rI HO_5.out) (by decide)) hk (fun _ h => h.2)) (fun _ h => h.1)); replace HK := kt HK hk; replace HB := Aside0.mk (hb); replace HI0 := Aside0.mk (hi); (try clear hb); (try clear hb2); (try clear hk); (try clear hi)) | ((with_reducible refine gate_dst (N := 23) rfl ?_); refine Kd.R_lit (Kd.int .i64) _ 3 ?hg (N := 23) ?hd (xs := ([(-1), 0, 3, 9] : List Int)) (inner := [.int .i64 (-1), .int .i64 0, .int .i64 3, .int .i64 9]) (ok := fun _ => True) (okp := fun _ => True) ?hr ?hp (fun _ hk => hk) trivial (Below.refl _ _) (Nat.le_refl _) (by simp) ?_; (case hd => rfl); (case hg => rfl); (case hr => first | (go_simp; done) | (go_simp; rfl)); (case hp => exact (Reps.one (show Kd.M (Kd.int .i64) _ _ _ (-1) [.int .i64 (-1)] from rfl) (Reps.one (show Kd.M (Kd.int .i64) _ _ _ 0 [.int .i64 0] from rfl) (Reps.one (show Kd.M (Kd.int .i64) _ _ _ 3 [.int .i64 3] from rfl) (Reps.one (show Kd.M (Kd.int .i64) _ _ _ 9 [.int .i64 9] from rfl) (Reps.none _ _)))))); intro v393 w19 ho20 hb hg_ hnew_; clear hg_ hnew_; (first | rw [← Ny392.out] at ho20 | (simp only [Int.reduceToNat] at ho20; rw [← Ny392.out] at ho20)); have HO394 := Aside0.mk (Kd.R_lower (Kd.R_new' ho20 (Kd.R_lt (rI HO_5.out))) (keep_size (w := w) (g := g) (row := none) (hI HK.out))); replace HO_5 := Aside0.mk (Kd.R_elder' (rI HO_5.out) (Kd.R_base ho20) hb); replace HK := kb HK hb; replace HB : Aside0 (Below w0.heap.size w0 _) := Aside0.mk (below_step y0_7 hb); replace HI0 := Aside0.mk (IsS124.below y0_6 hb); clear hb ho20; obtain ⟨Ao21, co21, eo21⟩ := Kd.R_slice HO394.out; subst eo21) | ((with_reducible refine gate_callee (f := 116) rfl ?_); refine gB (some 24) Tryz.func116 #[.pointer (some ⟨g, 0, none⟩), .slice Ao21 y392.length co21] ?_; (with_reducible refine (spec_l1PickInt.calls g s0_0 t390 t391 _ _ y392 t395 t396 t397 w0 _ ?side1 ?side2 ?side3 ?side4 ?side5 A15.out).mono ?_); (case side1 => repeat (first | (with_reducible first | exact HI0.out | apply IsS124.alloc | apply IsS124.drewN | apply IsS124.drew | apply IsS124.set_1 | apply IsS124.set_2) | exact HI0.out)); (case side2 => repeat (first | (with_reducible first | exact HB.out | apply below_alloc | apply pw_below_drewN | apply below_drew1 | refine below_set ?_ (IsS124.ge HI0.out)) | exact HB.out)); (case side3 => repeat (first | exact (Kd.R_reads' HO394.out).2.2 | (with_reducible refine Kd.C_alloc ?_ _) | (with_reducible refine Kd.C_drewN ?_ _) | (with_reducible refine Kd.C_drew ?_))); (case side4 => exact (Kd.R_reads' HO394.out).2.1); (case side5 => exact far_slice (IsS124.own_ne HI0.out HO394.out (by decide))); rintro e w22 ⟨rfl, hi, hb, hk⟩; refine ⟨_, rfl, ?_⟩; replace HO_5 := Aside0.mk (Kd.R_mono (Kd.R_keep (IsS124.apart (show IsS124 w0 _ g s0_0 t390 t391 from y0_6) (rI HO_5.out) (by decide)) hk (fun _ h => h.2)) (fun _ h => h.1)); replace HO394 := Aside0.mk (Kd.R_mono (Kd.R_keep (IsS124.apart (show IsS124 w0 _ g s0_0 t390 t391 from y0_6) (rI HO394.out) (by decide)) hk (fun _ h => h.2)) (fun _ h => h.1)); replace HK := kt HK hk; replace HB := Aside0.mk (hb); replace HI0 := Aside0.mk (hi); (try clear hb); (try clear hb2); (try clear hk); (try clear hi)) | ((with_reducible refine gate_builtin (b := .append) (xs := #[.tmp 21, .tmp 25]) rfl ?_); at_builtin; refine Kd.R_append (Kd.int .i64) w.heap.size rfl (.tmp 21) (.tmp 25) 24 3 (.int .i64 0) 8 rfl Tryz.underlying24 info3 rfl (by decide) (by omega) u5 x5_1 t395 [.int .i64 t395] (fun k_ => some k_ ≠ (.slice Ao21 y392.length co21 : Value).ownBlock) (fun _ => False) rfl rfl ?aP (fun _ hk => hk.elim) ?aF ?aO (Below.refl _ _) ?aS ?aL ?_; (case aP => exact rfl); (case aF => exact (fun k_ hk => Kd.fresh' (Kd.R_lt (rI HO394.out)) k_ hk)); (case aO => exact (rI (Kd.R_mono HO_5.out (fun _ hk => hk.2)))); (case aS => exact (keep_size (w := w) (g := g) (row := none) (hI HK.out))); (case aL => have := LMc16.out; omega); intro v399 w23 ho hb hg hat; rw [← Ny398.out] at ho; have n0_ := Aside0.mk (IsS124.grown y0_6 hg (IsS124.own_ne HI0.out HO_5.out (by decide))); have n1_ := Aside0.mk (Kd.R_after (ok := (fun _ => True)) (rI HO394.out) hg hat); have n2_ := Aside0.mk (below_weaken y0_7 HL.out hb); have n3_ := Aside0.mk (KeepBut.trans (hI HK.out) (KeepBut.of_grown hg g) (Kd.R_base2 HO_5.out)); have n4_ := Aside0.mk (ho); clear HI0; clear HO394; clear HB; clear HK; clear HO_5; have HI0 := n0_; have HO394 := n1_; have HB := n2_; have HK := n3_; have HO400 := n4_; clear n0_ n1_ n2_ n3_ n4_; clear ho hb hg hat))
    go_ret
    exact ⟨_, y0_14, by (with_reducible repeat (first | apply Kd.R_alloc | apply Kd.R_drewN | apply Kd.R_drew)); exact Kd.R_mono HO400.out (fun _ hk => trivial), y0_6, y0_7, hI HK.out⟩
   replace c14 := Bool.eq_false_iff.mpr c14; subst c14
   rw [if_neg (show ¬ (false = true) by decide)] at H
   simp only [Option.some.injEq, Prod.mk.injEq] at H
   obtain ⟨rfl, rfl, rfl⟩ := H
   go_wp2_with (first | ((with_reducible refine gate_callee (f := 114) rfl ?_); refine gB (some 10) Tryz.func114 #[.pointer (some ⟨g, 0, none⟩), .int .i64 8] ?_; (with_reducible refine (spec_l1Below.calls g s0_0 x1001_1 x1002_1 8 t380 t381 t382 w0 _ ?side1 ?side2 A5.out).mono ?_); (case side1 => repeat (first | (with_reducible first | exact HI0.out | apply IsS124.alloc | apply IsS124.drewN | apply IsS124.drew | apply IsS124.set_1 | apply IsS124.set_2) | exact HI0.out)); (case side2 => repeat (first | (with_reducible first | exact HB.out | apply below_alloc | apply pw_below_drewN | apply below_drew1 | refine below_set ?_ (IsS124.ge HI0.out)) | exact HB.out)); rintro e w24 ⟨rfl, hi, hb, hk⟩; refine ⟨_, rfl, ?_⟩; replace HO_5 := Aside0.mk (Kd.R_mono (Kd.R_keep (IsS124.apart (show IsS124 w0 _ g s0_0 x1001_1 x1002_1 from y0_6) (rI HO_5.out) (by decide)) hk (fun _ h => h.2)) (fun _ h => h.1)); replace HK := kt HK hk; replace HB := Aside0.mk (hb); replace HI0 := Aside0.mk (hi); (try clear hb); (try clear hb2); (try clear hk); (try clear hi)) | ((with_reducible refine gate_callee (f := 93) rfl ?_); refine gB (some 20) Tryz.func93 #[.pointer (some ⟨g, 0, none⟩), .int .i64 12] ?_; (with_reducible refine (spec_l1Once.calls g s0_0 t381 t382 12 false t390 t391 w0 _ ?side1 ?side2 A13.out).mono ?_); (case side1 => repeat (first | (with_reducible first | exact HI0.out | apply IsS124.alloc | apply IsS124.drewN | apply IsS124.drew | apply IsS124.set_1 | apply IsS124.set_2) | exact HI0.out)); (case side2 => repeat (first | (with_reducible first | exact HB.out | apply below_alloc | apply pw_below_drewN | apply below_drew1 | refine below_set ?_ (IsS124.ge HI0.out)) | exact HB.out)); rintro e w25 ⟨rfl, hi, hb, hk⟩; refine ⟨_, rfl, ?_⟩; replace HO_5 := Aside0.mk (Kd.R_mono (Kd.R_keep (IsS124.apart (show IsS124 w0 _ g s0_0 t381 t382 from y0_6) (rI HO_5.out) (by decide)) hk (fun _ h => h.2)) (fun _ h => h.1)); replace HK := kt HK hk; replace HB := Aside0.mk (hb); replace HI0 := Aside0.mk (hi); (try clear hb); (try clear hb2); (try clear hk); (try clear hi)))
   go_ret
   exact ⟨_, y0_14, y0_12, y0_6, y0_7, hI HK.out⟩

/-! ### spec_l7Draw: function 91 -/
def spec_l7Draw.f (k : Nat) (s0_0 : List Int) (s0_1 : Int) (s0_2 : Int) (a1_0 : Int) (a1_1 : Int) : Option (Int × ByteArray × List Int × Int × Int) := (spec_l5DrawRight.f k s0_0 s0_1 s0_2).bind fun bt403 => ((spec_l7DrawOf.f k s0_0 bt403.2.1 bt403.2.2 a1_0 a1_1 bt403.1).bind fun bt406 => ((spec_l1Below.f s0_0 bt406.2.2.2.1 bt406.2.2.2.2 12).bind fun bt414 => (if bt414.1 = 0 then (some (wrap64 (bt406.1 + 1), bt406.2.1, bt406.2.2.1, bt414.2.1, bt414.2.2)) else (if bt414.1 = 1 then ((spec_l6DrawSet.f k s0_0 bt414.2.1 bt414.2.2 7).bind fun bt417 => (some (bt406.1, bt406.2.1, bt417.1, bt417.2.1, bt417.2.2))) else (if bt414.1 = 2 then ((spec_l5Draw.f k s0_0 bt414.2.1 bt414.2.2).bind fun bt422 => (some (bt406.1, bt422.1, bt406.2.2.1, bt422.2.1, bt422.2.2))) else (some (bt406.1, bt406.2.1, bt406.2.2.1, bt414.2.1, bt414.2.2)))))))
theorem spec_l7Draw.mono : ∀ a0 a1 a2 a3 a4 k, LeO (spec_l7Draw.f k a0 a1 a2 a3 a4) (spec_l7Draw.f (k + 1) a0 a1 a2 a3 a4) := by
 intro a0 a1 a2 a3 a4 k
 unfold spec_l7Draw.f
 repeat' first | (with_reducible exact spec_l5Draw.mono _ _ _ _) | (with_reducible exact spec_l5DrawRight.mono _ _ _ _) | (with_reducible exact spec_l6DrawSet.mono _ _ _ _ _) | (with_reducible exact spec_l7DrawOf.mono _ _ _ _ _ _ _) | (with_reducible exact LeO.refl _) | (with_reducible exact LeO.none _) | (with_reducible refine LeO.ite ?_ ?_) | (with_reducible refine LeO.bind ?_ (fun _ => ?_))
def spec_l7Draw.T1 : Bool × List (List Nat × List Nat) := (true, [([], []), ([], []), ([], []), ([2], [2]), ([0, 1, 3, 3], [0, 1, 3]), ([], []), ([5, 4, 4, 0, 1, 2, 3, 4, 5], [4, 5])])
def spec_l7Draw.B1 : List Nat := [0, 0, 0, 4, 15, 0, 63]
theorem spec_l7Draw.tab1 : rtab .any (opsOf Tryz.f91 1) = spec_l7Draw.T1 := by kernel_rfl
theorem spec_l7Draw.bits1 : waitsOk spec_l7Draw.T1.2 spec_l7Draw.B1 = true := by kernel_rfl
set_option maxHeartbeats 8000000 in
set_option maxRecDepth 100000 in
theorem spec_l7Draw.calls (k : Nat) (g : Nat) (s0_0 : List Int) (s0_1 : Int) (s0_2 : Int) (a1_0 : Int) (a1_1 : Int) (r1 : Int) (r2 : ByteArray) (r3 : List Int) (r4 : Int) (r5 : Int) (w0 w : World) (hI : IsS124 w0 w g s0_0 s0_1 s0_2) (hB : Below w0.heap.size w0 w) (h : spec_l7Draw.f k s0_0 s0_1 s0_2 a1_0 a1_1 = some (r1, r2, r3, r4, r5)) :
  Calls Tryz.prog 91 #[.pointer (some ⟨g, 0, none⟩), .agg #[.int .i64 a1_0, .int .i64 a1_1]] w fun e w' => ∃ v2_ : Value, e = .returned (.agg #[.int .i64 r1, .string r2, v2_]) ∧ Kd.R (Kd.int .i64) 3 w' w.heap.size (fun _ => True) v2_ r3 ∧ IsS124 w0 w' g s0_0 r4 r5 ∧ Below w0.heap.size w0 w' ∧ KeepBut w w' g none := by
 have hu38 := Tryz.underlying38; have hu33 := Tryz.underlying33; have HI0 := Aside0.mk hI; have HK := Aside0.mk (KeepBut.refl w g none); have HL := Aside0.mk hB.size; clear hI; have HW0 := Aside0.mk hB.size; have HB := Aside0.mk hB; clear hB
 have H : ((spec_l5DrawRight.f k s0_0 s0_1 s0_2).bind fun bt403 => ((spec_l7DrawOf.f k s0_0 bt403.2.1 bt403.2.2 a1_0 a1_1 bt403.1).bind fun bt406 => ((spec_l1Below.f s0_0 bt406.2.2.2.1 bt406.2.2.2.2 12).bind fun bt414 => (if bt414.1 = 0 then (some (wrap64 (bt406.1 + 1), bt406.2.1, bt406.2.2.1, bt414.2.1, bt414.2.2)) else (if bt414.1 = 1 then ((spec_l6DrawSet.f k s0_0 bt414.2.1 bt414.2.2 7).bind fun bt417 => (some (bt406.1, bt406.2.1, bt417.1, bt417.2.1, bt417.2.2))) else (if bt414.1 = 2 then ((spec_l5Draw.f k s0_0 bt414.2.1 bt414.2.2).bind fun bt422 => (some (bt406.1, bt422.1, bt406.2.2.1, bt422.2.1, bt422.2.2))) else (some (bt406.1, bt406.2.1, bt406.2.2.1, bt414.2.1, bt414.2.2)))))))) = some (r1, r2, r3, r4, r5) := h
 clear h; obtain ⟨⟨t403, t404, t405⟩, A30, H⟩ := Option.bind_eq_some_iff.mp H
 try dsimp only at H
 have A3 := Aside0.mk A30; clear A30; obtain ⟨⟨t406, t407, t408, t411, t412⟩, A40, H⟩ := Option.bind_eq_some_iff.mp H
 try dsimp only at H
 have A4 := Aside0.mk A40; clear A40; obtain ⟨⟨t414, t415, t416⟩, A50, H⟩ := Option.bind_eq_some_iff.mp H
 try dsimp only at H
 have A5 := Aside0.mk A50; clear A50
 by_cases c6 : t414 = 0
 ·
  rw [if_pos c6] at H
  have c6b0 : (t414 == 0) = true := beq_iff_eq.mpr c6; have c6b1 : (t414 != 0) = false := bne_eq_false_iff_eq.mpr c6; clear c6
  simp only [Option.some.injEq, Prod.mk.injEq] at H
  obtain ⟨rfl, rfl, rfl, rfl, rfl⟩ := H; have i0_ := iB124 HI0; have i1_ : LB w0 w := ⟨HB.out⟩
  go_enter Tryz.func91, Tryz.ntmps91
  try go_wp2_with (first | ((with_reducible refine gd 3 ?_); refine bL 3 #[.int .i64 a1_0, .int .i64 a1_1] 38 ?_; intro gb401 w7 _ _ _) | ((with_reducible refine gd 4 ?_); refine bL 4 #[.int .i64 0, .string (⟨#[]⟩ : ByteArray), .slice none 0 0] 33 ?_; intro gb402 w8 _ _ _))
  refine sB [g] spec_l7Draw.tab1 spec_l7Draw.bits1 ?_; intro w9 _ HT_ HW_
  refine pA 0 (some 6) (bz 7 1) HT_ ?_
  refine tB 1 (some 7) (bz 7 3) HT_ HW_ ?_
  refine pA 2 (some 8) (bz 7 7) HT_ ?_
  refine join_ (σ := Option Addr × Nat × Nat) 1 (bz 7 63) (fun s_ => [(9, .string t403), (10, .agg #[.int .i64 t406, .string t407, .slice s_.1 t408.length s_.2.1]), (5, .pointer (some ⟨s_.2.2, 0, none⟩))]) (fun s_ w' => Aside0 (Kd.R (Kd.int .i64) 3 w' w9.heap.size (iv w9 w') (.slice s_.1 t408.length s_.2.1) t408) ∧ BkI (s_.2.2) w' #[.int .i64 0, .string (⟨#[]⟩ : ByteArray), .slice none 0 0] 33 ∧ BornI (s_.2.2) w9 ∧ StB g w' 124 ∧ Aside0 (IsS124 w0 w' g s0_0 t411 t412) ∧ KL w9 [g] w' ∧ LB w0 w' ∧ KS w g w') ?_ ?_
  rotate_left
  ·
   intro hCont
   refine o2 3 5 (some 9) (some 5) (bz 7 15) (bz 7 39) HT_ rfl rfl (kK Tryz.func124 (spec_l5DrawRight.calls (hI := iS124 HI0) (hB := UpW.out) (w := _) (h := A3.out)) ?_) (kB #[.int .i64 0, .string (⟨#[]⟩ : ByteArray), .slice none 0 0] 33 ?_)
   ·
    intro w10 _ _ _ HI11
    refine nA (some 9) ?_
    refine o2 4 5 (some 10) (some 5) (bz 7 31) (bz 7 47) HT_ rfl rfl (kK1 Tryz.func123 (spec_l7DrawOf.calls (hI := iS124 HI11) (hB := UpW.out) (w := _) (h := A4.out)) ?_) (kB #[.int .i64 0, .string (⟨#[]⟩ : ByteArray), .slice none 0 0] 33 ?_)
    ·
     intro Ao409 co409 w13 _ _ _ HI14 HO410
     refine nA (some 10) ?_
     refine o1 5 (some 5) (bz 7 63) HT_ rfl (kB #[.int .i64 0, .string (⟨#[]⟩ : ByteArray), .slice none 0 0] 33 ?_); intro gb413 w16 _ _ _
     refine nA (some 5) ?_
     exact hJ (hCont (Ao409, co409, gb413) _ ⟨⟨rJ HO410⟩, ⟨xB⟩, ⟨GeI.out⟩, iB124 ⟨iS124 HI14⟩, ⟨iS124 HI14⟩, ⟨UpL.out⟩, ⟨UpW.out⟩, ⟨UpB.out⟩⟩)
    intro gb413 w15 _ _ _
    refine nA (some 5) ?_
    refine o1 4 (some 10) (bz 7 63) HT_ rfl (kK1 Tryz.func123 (spec_l7DrawOf.calls (hI := iS124 HI11) (hB := UpW.out) (w := _) (h := A4.out)) ?_); intro Ao409 co409 w17 _ _ _ HI18 HO410
    refine nA (some 10) ?_
    exact hJ (hCont (Ao409, co409, gb413) _ ⟨⟨rJ HO410⟩, ⟨xB⟩, ⟨GeI.out⟩, iB124 ⟨iS124 HI18⟩, ⟨iS124 HI18⟩, ⟨UpL.out⟩, ⟨UpW.out⟩, ⟨UpB.out⟩⟩)
   intro gb413 w12 _ _ _
   refine nA (some 5) ?_
   refine o1 3 (some 9) (bz 7 47) HT_ rfl (kK Tryz.func124 (spec_l5DrawRight.calls (hI := iS124 HI0) (hB := UpW.out) (w := _) (h := A3.out)) ?_); intro w19 _ _ _ HI20
   refine nA (some 9) ?_
   refine o1 4 (some 10) (bz 7 63) HT_ rfl (kK1 Tryz.func123 (spec_l7DrawOf.calls (hI := iS124 HI20) (hB := UpW.out) (w := _) (h := A4.out)) ?_); intro Ao409 co409 w21 _ _ _ HI22 HO410
   refine nA (some 10) ?_
   exact hJ (hCont (Ao409, co409, gb413) _ ⟨⟨rJ HO410⟩, ⟨xB⟩, ⟨GeI.out⟩, iB124 ⟨iS124 HI22⟩, ⟨iS124 HI22⟩, ⟨UpL.out⟩, ⟨UpW.out⟩, ⟨UpB.out⟩⟩)
  rintro ⟨Ao409, co409, gb413⟩ w23 ⟨HO410, _, _, _, HI24, _, _, _⟩
  refine nP ?_
  refine o1 6 none (bz 7 127) HT_ rfl (kS ?_)
  refine done_ (done_of HT_.out (by kernel_rfl)) ?_
  try go_wp2_with (first | ((with_reducible refine gate_callee (f := 114) rfl ?_); refine gK (some 12) Tryz.func114 (spec_l1Below.calls (hI := iS124 HI24) (hB := UpW.out) (w := _) (h := A5.out)) ?_; intro w25 _ _ _ HI26))
  refine bodyPost_ret (results_cell_row rfl _ _ gb402 33 #[.int .i64 (wrap64 (t406 + 1)), .string t407, .slice Ao409 t408.length co409] (0, 0) _ rfl xB Tryz.underlying33 rfl (by kernel_rfl)) rfl ?_
  exact ⟨_, y0_18, rR HO410, iS124 HI26, UpW.out, UpB.out⟩
 rw [if_neg c6] at H
 have c6b0 : (t414 == 0) = false := beq_eq_false_iff_ne.mpr c6; have c6b1 : (t414 != 0) = true := bne_iff_ne.mpr c6
 by_cases c27 : t414 = 1
 ·
  rw [if_pos c27] at H
  have c27b0 : (t414 == 1) = true := beq_iff_eq.mpr c27; have c27b1 : (t414 != 1) = false := bne_eq_false_iff_eq.mpr c27; clear c27; obtain ⟨⟨t417, t420, t421⟩, A280, H⟩ := Option.bind_eq_some_iff.mp H
  try dsimp only at H
  have A28 := Aside0.mk A280; clear A280
  simp only [Option.some.injEq, Prod.mk.injEq] at H
  obtain ⟨rfl, rfl, rfl, rfl, rfl⟩ := H; have i0_ := iB124 HI0; have i1_ : LB w0 w := ⟨HB.out⟩
  go_enter Tryz.func91, Tryz.ntmps91
  try go_wp2_with (first | ((with_reducible refine gd 3 ?_); refine bL 3 #[.int .i64 a1_0, .int .i64 a1_1] 38 ?_; intro gb401 w29 _ _ _) | ((with_reducible refine gd 4 ?_); refine bL 4 #[.int .i64 0, .string (⟨#[]⟩ : ByteArray), .slice none 0 0] 33 ?_; intro gb402 w30 _ _ _))
  refine sB [g] spec_l7Draw.tab1 spec_l7Draw.bits1 ?_; intro w31 _ HT_ HW_
  refine pA 0 (some 6) (bz 7 1) HT_ ?_
  refine tB 1 (some 7) (bz 7 3) HT_ HW_ ?_
  refine pA 2 (some 8) (bz 7 7) HT_ ?_
  refine join_ (σ := Option Addr × Nat × Nat) 1 (bz 7 63) (fun s_ => [(9, .string t403), (10, .agg #[.int .i64 t406, .string t407, .slice s_.1 t408.length s_.2.1]), (5, .pointer (some ⟨s_.2.2, 0, none⟩))]) (fun s_ w' => Aside0 (Kd.R (Kd.int .i64) 3 w' w31.heap.size (iv w31 w') (.slice s_.1 t408.length s_.2.1) t408) ∧ BkI (s_.2.2) w' #[.int .i64 0, .string (⟨#[]⟩ : ByteArray), .slice none 0 0] 33 ∧ BornI (s_.2.2) w31 ∧ StB g w' 124 ∧ Aside0 (IsS124 w0 w' g s0_0 t411 t412) ∧ KL w31 [g] w' ∧ LB w0 w' ∧ KS w g w') ?_ ?_
  rotate_left
  ·
   intro hCont
   refine o2 3 5 (some 9) (some 5) (bz 7 15) (bz 7 39) HT_ rfl rfl (kK Tryz.func124 (spec_l5DrawRight.calls (hI := iS124 HI0) (hB := UpW.out) (w := _) (h := A3.out)) ?_) (kB #[.int .i64 0, .string (⟨#[]⟩ : ByteArray), .slice none 0 0] 33 ?_)
   ·
    intro w32 _ _ _ HI33
    refine nA (some 9) ?_
    refine o2 4 5 (some 10) (some 5) (bz 7 31) (bz 7 47) HT_ rfl rfl (kK1 Tryz.func123 (spec_l7DrawOf.calls (hI := iS124 HI33) (hB := UpW.out) (w := _) (h := A4.out)) ?_) (kB #[.int .i64 0, .string (⟨#[]⟩ : ByteArray), .slice none 0 0] 33 ?_)
    ·
     intro Ao409 co409 w35 _ _ _ HI36 HO410
     refine nA (some 10) ?_
     refine o1 5 (some 5) (bz 7 63) HT_ rfl (kB #[.int .i64 0, .string (⟨#[]⟩ : ByteArray), .slice none 0 0] 33 ?_); intro gb413 w38 _ _ _
     refine nA (some 5) ?_
     exact hJ (hCont (Ao409, co409, gb413) _ ⟨⟨rJ HO410⟩, ⟨xB⟩, ⟨GeI.out⟩, iB124 ⟨iS124 HI36⟩, ⟨iS124 HI36⟩, ⟨UpL.out⟩, ⟨UpW.out⟩, ⟨UpB.out⟩⟩)
    intro gb413 w37 _ _ _
    refine nA (some 5) ?_
    refine o1 4 (some 10) (bz 7 63) HT_ rfl (kK1 Tryz.func123 (spec_l7DrawOf.calls (hI := iS124 HI33) (hB := UpW.out) (w := _) (h := A4.out)) ?_); intro Ao409 co409 w39 _ _ _ HI40 HO410
    refine nA (some 10) ?_
    exact hJ (hCont (Ao409, co409, gb413) _ ⟨⟨rJ HO410⟩, ⟨xB⟩, ⟨GeI.out⟩, iB124 ⟨iS124 HI40⟩, ⟨iS124 HI40⟩, ⟨UpL.out⟩, ⟨UpW.out⟩, ⟨UpB.out⟩⟩)
   intro gb413 w34 _ _ _
   refine nA (some 5) ?_
   refine o1 3 (some 9) (bz 7 47) HT_ rfl (kK Tryz.func124 (spec_l5DrawRight.calls (hI := iS124 HI0) (hB := UpW.out) (w := _) (h := A3.out)) ?_); intro w41 _ _ _ HI42
   refine nA (some 9) ?_
   refine o1 4 (some 10) (bz 7 63) HT_ rfl (kK1 Tryz.func123 (spec_l7DrawOf.calls (hI := iS124 HI42) (hB := UpW.out) (w := _) (h := A4.out)) ?_); intro Ao409 co409 w43 _ _ _ HI44 HO410
   refine nA (some 10) ?_
   exact hJ (hCont (Ao409, co409, gb413) _ ⟨⟨rJ HO410⟩, ⟨xB⟩, ⟨GeI.out⟩, iB124 ⟨iS124 HI44⟩, ⟨iS124 HI44⟩, ⟨UpL.out⟩, ⟨UpW.out⟩, ⟨UpB.out⟩⟩)
  rintro ⟨Ao409, co409, gb413⟩ w45 ⟨HO410, _, _, _, HI46, _, _, _⟩
  refine nP ?_
  refine o1 6 none (bz 7 127) HT_ rfl (kS ?_)
  refine done_ (done_of HT_.out (by kernel_rfl)) ?_
  try go_wp2_with (first | ((with_reducible refine gate_callee (f := 114) rfl ?_); refine gK (some 12) Tryz.func114 (spec_l1Below.calls (hI := iS124 HI46) (hB := UpW.out) (w := _) (h := A5.out)) ?_; intro w47 _ _ _ HI48) | ((with_reducible refine gate_callee (f := 125) rfl ?_); refine gK1 (some 22) Tryz.func125 (spec_l6DrawSet.calls (hI := iS124 HI48) (hB := UpW.out) (w := _) (h := A28.out)) ?_; intro Ao418 co418 w49 _ _ _ HI50 HO419))
  refine bodyPost_ret (results_cell_row rfl _ _ gb402 33 #[.int .i64 t406, .string t407, .slice Ao418 t417.length co418] (0, 0) _ rfl xB Tryz.underlying33 rfl (by kernel_rfl)) rfl ?_
  exact ⟨_, y0_18, rR HO419, iS124 HI50, UpW.out, UpB.out⟩
 rw [if_neg c27] at H
 have c27b0 : (t414 == 1) = false := beq_eq_false_iff_ne.mpr c27; have c27b1 : (t414 != 1) = true := bne_iff_ne.mpr c27
 by_cases c51 : t414 = 2
 ·
  rw [if_pos c51] at H
  have c51b0 : (t414 == 2) = true := beq_iff_eq.mpr c51; have c51b1 : (t414 != 2) = false := bne_eq_false_iff_eq.mpr c51; clear c51; obtain ⟨⟨t422, t423, t424⟩, A520, H⟩ := Option.bind_eq_some_iff.mp H
  try dsimp only at H
  have A52 := Aside0.mk A520; clear A520
  simp only [Option.some.injEq, Prod.mk.injEq] at H
  obtain ⟨rfl, rfl, rfl, rfl, rfl⟩ := H; have i0_ := iB124 HI0; have i1_ : LB w0 w := ⟨HB.out⟩
  go_enter Tryz.func91, Tryz.ntmps91
  try go_wp2_with (first | ((with_reducible refine gd 3 ?_); refine bL 3 #[.int .i64 a1_0, .int .i64 a1_1] 38 ?_; intro gb401 w53 _ _ _) | ((with_reducible refine gd 4 ?_); refine bL 4 #[.int .i64 0, .string (⟨#[]⟩ : ByteArray), .slice none 0 0] 33 ?_; intro gb402 w54 _ _ _))
  refine sB [g] spec_l7Draw.tab1 spec_l7Draw.bits1 ?_; intro w55 _ HT_ HW_
  refine pA 0 (some 6) (bz 7 1) HT_ ?_
  refine tB 1 (some 7) (bz 7 3) HT_ HW_ ?_
  refine pA 2 (some 8) (bz 7 7) HT_ ?_
  refine join_ (σ := Option Addr × Nat × Nat) 1 (bz 7 63) (fun s_ => [(9, .string t403), (10, .agg #[.int .i64 t406, .string t407, .slice s_.1 t408.length s_.2.1]), (5, .pointer (some ⟨s_.2.2, 0, none⟩))]) (fun s_ w' => Aside0 (Kd.R (Kd.int .i64) 3 w' w55.heap.size (iv w55 w') (.slice s_.1 t408.length s_.2.1) t408) ∧ BkI (s_.2.2) w' #[.int .i64 0, .string (⟨#[]⟩ : ByteArray), .slice none 0 0] 33 ∧ BornI (s_.2.2) w55 ∧ StB g w' 124 ∧ Aside0 (IsS124 w0 w' g s0_0 t411 t412) ∧ KL w55 [g] w' ∧ LB w0 w' ∧ KS w g w') ?_ ?_
  rotate_left
  ·
   intro hCont
   refine o2 3 5 (some 9) (some 5) (bz 7 15) (bz 7 39) HT_ rfl rfl (kK Tryz.func124 (spec_l5DrawRight.calls (hI := iS124 HI0) (hB := UpW.out) (w := _) (h := A3.out)) ?_) (kB #[.int .i64 0, .string (⟨#[]⟩ : ByteArray), .slice none 0 0] 33 ?_)
   ·
    intro w56 _ _ _ HI57
    refine nA (some 9) ?_
    refine o2 4 5 (some 10) (some 5) (bz 7 31) (bz 7 47) HT_ rfl rfl (kK1 Tryz.func123 (spec_l7DrawOf.calls (hI := iS124 HI57) (hB := UpW.out) (w := _) (h := A4.out)) ?_) (kB #[.int .i64 0, .string (⟨#[]⟩ : ByteArray), .slice none 0 0] 33 ?_)
    ·
     intro Ao409 co409 w59 _ _ _ HI60 HO410
     refine nA (some 10) ?_
     refine o1 5 (some 5) (bz 7 63) HT_ rfl (kB #[.int .i64 0, .string (⟨#[]⟩ : ByteArray), .slice none 0 0] 33 ?_); intro gb413 w62 _ _ _
     refine nA (some 5) ?_
     exact hJ (hCont (Ao409, co409, gb413) _ ⟨⟨rJ HO410⟩, ⟨xB⟩, ⟨GeI.out⟩, iB124 ⟨iS124 HI60⟩, ⟨iS124 HI60⟩, ⟨UpL.out⟩, ⟨UpW.out⟩, ⟨UpB.out⟩⟩)
    intro gb413 w61 _ _ _
    refine nA (some 5) ?_
    refine o1 4 (some 10) (bz 7 63) HT_ rfl (kK1 Tryz.func123 (spec_l7DrawOf.calls (hI := iS124 HI57) (hB := UpW.out) (w := _) (h := A4.out)) ?_); intro Ao409 co409 w63 _ _ _ HI64 HO410
    refine nA (some 10) ?_
    exact hJ (hCont (Ao409, co409, gb413) _ ⟨⟨rJ HO410⟩, ⟨xB⟩, ⟨GeI.out⟩, iB124 ⟨iS124 HI64⟩, ⟨iS124 HI64⟩, ⟨UpL.out⟩, ⟨UpW.out⟩, ⟨UpB.out⟩⟩)
   intro gb413 w58 _ _ _
   refine nA (some 5) ?_
   refine o1 3 (some 9) (bz 7 47) HT_ rfl (kK Tryz.func124 (spec_l5DrawRight.calls (hI := iS124 HI0) (hB := UpW.out) (w := _) (h := A3.out)) ?_); intro w65 _ _ _ HI66
   refine nA (some 9) ?_
   refine o1 4 (some 10) (bz 7 63) HT_ rfl (kK1 Tryz.func123 (spec_l7DrawOf.calls (hI := iS124 HI66) (hB := UpW.out) (w := _) (h := A4.out)) ?_); intro Ao409 co409 w67 _ _ _ HI68 HO410
   refine nA (some 10) ?_
   exact hJ (hCont (Ao409, co409, gb413) _ ⟨⟨rJ HO410⟩, ⟨xB⟩, ⟨GeI.out⟩, iB124 ⟨iS124 HI68⟩, ⟨iS124 HI68⟩, ⟨UpL.out⟩, ⟨UpW.out⟩, ⟨UpB.out⟩⟩)
  rintro ⟨Ao409, co409, gb413⟩ w69 ⟨HO410, _, _, _, HI70, _, _, _⟩
  refine nP ?_
  refine o1 6 none (bz 7 127) HT_ rfl (kS ?_)
  refine done_ (done_of HT_.out (by kernel_rfl)) ?_
  try go_wp2_with (first | ((with_reducible refine gate_callee (f := 114) rfl ?_); refine gK (some 12) Tryz.func114 (spec_l1Below.calls (hI := iS124 HI70) (hB := UpW.out) (w := _) (h := A5.out)) ?_; intro w71 _ _ _ HI72) | ((with_reducible refine gate_callee (f := 117) rfl ?_); refine gK (some 27) Tryz.func117 (spec_l5Draw.calls (hI := iS124 HI72) (hB := UpW.out) (w := _) (h := A52.out)) ?_; intro w73 _ _ _ HI74))
  refine bodyPost_ret (results_cell_row rfl _ _ gb402 33 #[.int .i64 t406, .string t422, .slice Ao409 t408.length co409] (0, 0) _ rfl xB Tryz.underlying33 rfl (by kernel_rfl)) rfl ?_
  exact ⟨_, y0_18, rR HO410, iS124 HI74, UpW.out, UpB.out⟩
 rw [if_neg c51] at H
 have c51b0 : (t414 == 2) = false := beq_eq_false_iff_ne.mpr c51; have c51b1 : (t414 != 2) = true := bne_iff_ne.mpr c51
 simp only [Option.some.injEq, Prod.mk.injEq] at H
 obtain ⟨rfl, rfl, rfl, rfl, rfl⟩ := H; have i0_ := iB124 HI0; have i1_ : LB w0 w := ⟨HB.out⟩
 go_enter Tryz.func91, Tryz.ntmps91
 try go_wp2_with (first | ((with_reducible refine gd 3 ?_); refine bL 3 #[.int .i64 a1_0, .int .i64 a1_1] 38 ?_; intro gb401 w75 _ _ _) | ((with_reducible refine gd 4 ?_); refine bL 4 #[.int .i64 0, .string (⟨#[]⟩ : ByteArray), .slice none 0 0] 33 ?_; intro gb402 w76 _ _ _))
 refine sB [g] spec_l7Draw.tab1 spec_l7Draw.bits1 ?_; intro w77 _ HT_ HW_
 refine pA 0 (some 6) (bz 7 1) HT_ ?_
 refine tB 1 (some 7) (bz 7 3) HT_ HW_ ?_
 refine pA 2 (some 8) (bz 7 7) HT_ ?_
 refine join_ (σ := Option Addr × Nat × Nat) 1 (bz 7 63) (fun s_ => [(9, .string t403), (10, .agg #[.int .i64 t406, .string t407, .slice s_.1 t408.length s_.2.1]), (5, .pointer (some ⟨s_.2.2, 0, none⟩))]) (fun s_ w' => Aside0 (Kd.R (Kd.int .i64) 3 w' w77.heap.size (iv w77 w') (.slice s_.1 t408.length s_.2.1) t408) ∧ BkI (s_.2.2) w' #[.int .i64 0, .string (⟨#[]⟩ : ByteArray), .slice none 0 0] 33 ∧ BornI (s_.2.2) w77 ∧ StB g w' 124 ∧ Aside0 (IsS124 w0 w' g s0_0 t411 t412) ∧ KL w77 [g] w' ∧ LB w0 w' ∧ KS w g w') ?_ ?_
 rotate_left
 ·
  intro hCont
  refine o2 3 5 (some 9) (some 5) (bz 7 15) (bz 7 39) HT_ rfl rfl (kK Tryz.func124 (spec_l5DrawRight.calls (hI := iS124 HI0) (hB := UpW.out) (w := _) (h := A3.out)) ?_) (kB #[.int .i64 0, .string (⟨#[]⟩ : ByteArray), .slice none 0 0] 33 ?_)
  ·
   intro w78 _ _ _ HI79
   refine nA (some 9) ?_
   refine o2 4 5 (some 10) (some 5) (bz 7 31) (bz 7 47) HT_ rfl rfl (kK1 Tryz.func123 (spec_l7DrawOf.calls (hI := iS124 HI79) (hB := UpW.out) (w := _) (h := A4.out)) ?_) (kB #[.int .i64 0, .string (⟨#[]⟩ : ByteArray), .slice none 0 0] 33 ?_)
   ·
    intro Ao409 co409 w81 _ _ _ HI82 HO410
    refine nA (some 10) ?_
    refine o1 5 (some 5) (bz 7 63) HT_ rfl (kB #[.int .i64 0, .string (⟨#[]⟩ : ByteArray), .slice none 0 0] 33 ?_); intro gb413 w84 _ _ _
    refine nA (some 5) ?_
    exact hJ (hCont (Ao409, co409, gb413) _ ⟨⟨rJ HO410⟩, ⟨xB⟩, ⟨GeI.out⟩, iB124 ⟨iS124 HI82⟩, ⟨iS124 HI82⟩, ⟨UpL.out⟩, ⟨UpW.out⟩, ⟨UpB.out⟩⟩)
   intro gb413 w83 _ _ _
   refine nA (some 5) ?_
   refine o1 4 (some 10) (bz 7 63) HT_ rfl (kK1 Tryz.func123 (spec_l7DrawOf.calls (hI := iS124 HI79) (hB := UpW.out) (w := _) (h := A4.out)) ?_); intro Ao409 co409 w85 _ _ _ HI86 HO410
   refine nA (some 10) ?_
   exact hJ (hCont (Ao409, co409, gb413) _ ⟨⟨rJ HO410⟩, ⟨xB⟩, ⟨GeI.out⟩, iB124 ⟨iS124 HI86⟩, ⟨iS124 HI86⟩, ⟨UpL.out⟩, ⟨UpW.out⟩, ⟨UpB.out⟩⟩)
  intro gb413 w80 _ _ _
  refine nA (some 5) ?_
  refine o1 3 (some 9) (bz 7 47) HT_ rfl (kK Tryz.func124 (spec_l5DrawRight.calls (hI := iS124 HI0) (hB := UpW.out) (w := _) (h := A3.out)) ?_); intro w87 _ _ _ HI88
  refine nA (some 9) ?_
  refine o1 4 (some 10) (bz 7 63) HT_ rfl (kK1 Tryz.func123 (spec_l7DrawOf.calls (hI := iS124 HI88) (hB := UpW.out) (w := _) (h := A4.out)) ?_); intro Ao409 co409 w89 _ _ _ HI90 HO410
  refine nA (some 10) ?_
  exact hJ (hCont (Ao409, co409, gb413) _ ⟨⟨rJ HO410⟩, ⟨xB⟩, ⟨GeI.out⟩, iB124 ⟨iS124 HI90⟩, ⟨iS124 HI90⟩, ⟨UpL.out⟩, ⟨UpW.out⟩, ⟨UpB.out⟩⟩)
 rintro ⟨Ao409, co409, gb413⟩ w91 ⟨HO410, _, _, _, HI92, _, _, _⟩
 refine nP ?_
 refine o1 6 none (bz 7 127) HT_ rfl (kS ?_)
 refine done_ (done_of HT_.out (by kernel_rfl)) ?_
 try go_wp2_with (first | ((with_reducible refine gate_callee (f := 114) rfl ?_); refine gK (some 12) Tryz.func114 (spec_l1Below.calls (hI := iS124 HI92) (hB := UpW.out) (w := _) (h := A5.out)) ?_; intro w93 _ _ _ HI94))
 refine bodyPost_ret (results_cell_row rfl _ _ gb402 33 #[.int .i64 t406, .string t407, .slice Ao409 t408.length co409] (0, 0) _ rfl xB Tryz.underlying33 rfl (by kernel_rfl)) rfl ?_
 exact ⟨_, y0_18, rR HO410, iS124 HI94, UpW.out, UpB.out⟩

/-! ### spec_ConfOk: function 55 -/
def spec_ConfOk.f (a0_0 : Int) (a0_1 : Int) : Option (Bool) := (spec_l1In.f a0_0 4 7).bind fun t426 => (if t426 = true then ((spec_l1In.f a0_1 1 6).bind fun t427 => (some t427)) else (some false))
set_option maxHeartbeats 8000000 in
set_option maxRecDepth 100000 in
theorem spec_ConfOk.calls (a0_0 : Int) (a0_1 : Int) (r : Bool) (w : World) (h : spec_ConfOk.f a0_0 a0_1 = some r) :
  Calls Tryz.prog 55 #[.agg #[.int .i64 a0_0, .int .i64 a0_1]] w fun e w' => e = .returned (.bool r) ∧ Below w.heap.size w w' := by
 have hu38 := Tryz.underlying38; have HB := Aside0.mk (Below.refl w.heap.size w)
 have H : ((spec_l1In.f a0_0 4 7).bind fun t426 => (if t426 = true then ((spec_l1In.f a0_1 1 6).bind fun t427 => (some t427)) else (some false))) = some r := h
 clear h; obtain ⟨t426, A20, H⟩ := Option.bind_eq_some_iff.mp H
 try dsimp only at H
 have A2 := Aside0.mk A20; clear A20
 by_cases c3 : t426 = true
 ·
  subst c3
  rw [if_pos rfl] at H
  obtain ⟨t427, A40, H⟩ := Option.bind_eq_some_iff.mp H
  try dsimp only at H
  have A4 := Aside0.mk A40; clear A40; obtain rfl := Option.some.inj H
  go_enter Tryz.func55, Tryz.ntmps55
  go_wp2_with (first | ((with_reducible refine gd 1 ?_); refine bL 1 #[.int .i64 a0_0, .int .i64 a0_1] 38 ?_; intro gb425 w5 _ _ _) | ((with_reducible refine gate_callee (f := 100) rfl ?_); refine gD (some 5) Tryz.func100 (spec_l1In.calls (w := _) (h := A2.out)) ?_; intro w6 _) | (go_at_call 100; refine aD (spec_l1In.calls (w := _) (h := A4.out)) ?_; intro w7 _))
  go_ret
  exact ⟨y0_18, UpW.out⟩
 replace c3 := Bool.eq_false_iff.mpr c3; subst c3
 rw [if_neg (show ¬ (false = true) by decide)] at H
 obtain rfl := Option.some.inj H
 go_enter Tryz.func55, Tryz.ntmps55
 go_wp2_with (first | ((with_reducible refine gd 1 ?_); refine bL 1 #[.int .i64 a0_0, .int .i64 a0_1] 38 ?_; intro gb425 w8 _ _ _) | ((with_reducible refine gate_callee (f := 100) rfl ?_); refine gD (some 5) Tryz.func100 (spec_l1In.calls (w := _) (h := A2.out)) ?_; intro w9 _))
 go_ret
 exact ⟨y0_18, UpW.out⟩

/-! ### spec_Quorum: function 53 -/
def spec_Quorum.f (a0_0 : Int) (a0_1 : Int) : Option (Int) := (spec_ConfOk.f a0_0 a0_1).bind fun t429 => (if t429 = true then (some (wrap64 (a0_0 - (wrap64 (Int.tdiv (wrap64 (a0_0 - 1)) 3))))) else (some 0))
set_option maxHeartbeats 8000000 in
set_option maxRecDepth 100000 in
theorem spec_Quorum.calls (a0_0 : Int) (a0_1 : Int) (r : Int) (w : World) (h : spec_Quorum.f a0_0 a0_1 = some r) :
  Calls Tryz.prog 53 #[.agg #[.int .i64 a0_0, .int .i64 a0_1]] w fun e w' => e = .returned (.int .i64 r) ∧ Below w.heap.size w w' := by
 have hu38 := Tryz.underlying38; have HB := Aside0.mk (Below.refl w.heap.size w)
 have H : ((spec_ConfOk.f a0_0 a0_1).bind fun t429 => (if t429 = true then (some (wrap64 (a0_0 - (wrap64 (Int.tdiv (wrap64 (a0_0 - 1)) 3))))) else (some 0))) = some r := h
 clear h; obtain ⟨t429, A20, H⟩ := Option.bind_eq_some_iff.mp H
 try dsimp only at H
 have A2 := Aside0.mk A20; clear A20
 by_cases c3 : t429 = true
 ·
  subst c3
  rw [if_pos rfl] at H
  obtain rfl := Option.some.inj H
  go_enter Tryz.func53, Tryz.ntmps53
  go_wp2_with (first | ((with_reducible refine gd 1 ?_); refine bL 1 #[.int .i64 a0_0, .int .i64 a0_1] 38 ?_; intro gb428 w4 _ _ _) | ((with_reducible refine gate_callee (f := 55) rfl ?_); refine gC (some 4) Tryz.func55 (spec_ConfOk.calls (w := _) (h := A2.out)) ?_; intro w5 _))
  go_ret
  exact ⟨y0_18, UpW.out⟩
 replace c3 := Bool.eq_false_iff.mpr c3; subst c3
 rw [if_neg (show ¬ (false = true) by decide)] at H
 obtain rfl := Option.some.inj H
 go_enter Tryz.func53, Tryz.ntmps53
 go_wp2_with (first | ((with_reducible refine gd 1 ?_); refine bL 1 #[.int .i64 a0_0, .int .i64 a0_1] 38 ?_; intro gb428 w6 _ _ _) | ((with_reducible refine gate_callee (f := 55) rfl ?_); refine gC (some 4) Tryz.func55 (spec_ConfOk.calls (w := _) (h := A2.out)) ?_; intro w7 _))
 go_ret
 exact ⟨y0_18, UpW.out⟩

end Go.Proofs.YtemjmefacifdeaaGreatDoor.PFnLockHolds
