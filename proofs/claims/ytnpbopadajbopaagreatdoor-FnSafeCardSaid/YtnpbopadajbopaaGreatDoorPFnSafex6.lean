-- By a program of this session, out of the translation (the print of the kit, with turns of its own). Lean checks it.
import Derived.Test.YtnpbopadajbopaaGreatDoorPFnSafex0
import Derived.Test.YtnpbopadajbopaaGreatDoorPFnSafex1
import Derived.Test.YtnpbopadajbopaaGreatDoorPFnSafex2
import Derived.Test.YtnpbopadajbopaaGreatDoorPFnSafex4
import Derived.Test.YtnpbopadajbopaaGreatDoorPFnSafex5
namespace Go.Proofs.YtnpbopadajbopaaGreatDoor.PFnSafe
open Go.RowKit Go.Proofs.YtnpbopadajbopaaGreatDoorW.PrintWords Go.Proofs.YtnpbopadajbopaaGreatDoorW.PrintLast Go.Proofs.YtnpbopadajbopaaGreatDoorW.PrintMore
attribute [local go_sem] max2_int min2_int max_two min_two max_three min_three max_four min_four   -- for this text's walks alone
attribute [local go_sem] cell_in frozen_in
set_option synthInstance.maxSize 1000000
set_option synthInstance.maxHeartbeats 2000000
set_option linter.unusedVariables false
set_option linter.unusedSimpArgs false

/-! ### spec_SetAdd: function 207 -/
def spec_SetAdd.l0 : Nat → List Int → Int → Int → Option (List Int)
 | 0, _, _, _ => none
 | k + 1, x0, x1, x5 => if x5 < (x0.length : Int) then (if 0 ≤ x5 then (if (rd x0 x5) < x1 then (spec_SetAdd.l0 k x0 x1 (wrap64 (x5 + 1))) else ((some (([] : List Int) : List Int)).bind fun y349 => (if x5 ≤ (x0.length : Int) then (if y349.length + (x0.take (x5 : Int).toNat).length < 17592186044416 then ((some (y349 ++ (x0.take (x5 : Int).toNat) : List Int)).bind fun y353 => (if y353.length < 17592186044416 then ((some (y353 ++ [x1] : List Int)).bind fun y356 => (if y356.length + (x0.drop (x5 : Int).toNat).length < 17592186044416 then (some (y356 ++ (x0.drop (x5 : Int).toNat))) else (none))) else (none))) else (none)) else (none)))) else (none)) else ((some (([] : List Int) : List Int)).bind fun y363 => (if 0 ≤ x5 then (if x5 ≤ (x0.length : Int) then (if y363.length + (x0.take (x5 : Int).toNat).length < 17592186044416 then ((some (y363 ++ (x0.take (x5 : Int).toNat) : List Int)).bind fun y367 => (if y367.length < 17592186044416 then ((some (y367 ++ [x1] : List Int)).bind fun y370 => (if y370.length + (x0.drop (x5 : Int).toNat).length < 17592186044416 then (some (y370 ++ (x0.drop (x5 : Int).toNat))) else (none))) else (none))) else (none)) else (none)) else (none)))
def spec_SetAdd.f (k : Nat) (l0 : List Int) (a1 : Int) : Option (List Int) := (spec_SetHas.f k l0 a1).bind fun t341 => (if t341 = true then ((some (([] : List Int) : List Int)).bind fun y342 => (if y342.length + l0.length < 17592186044416 then (some (y342 ++ l0)) else (none))) else (spec_SetAdd.l0 k l0 a1 0))
theorem spec_SetAdd.mono_l : ∀ k, (∀ y0 y1 y2, LeO (spec_SetAdd.l0 k y0 y1 y2) (spec_SetAdd.l0 (k + 1) y0 y1 y2))
 | 0 => fun _ _ _ r h => by simp [spec_SetAdd.l0] at h
 | k + 1 => by
  have ih0 := spec_SetAdd.mono_l k
  intro y0 y1 y2
  unfold spec_SetAdd.l0
  repeat' first | (with_reducible exact ih0 _ _ _) | (with_reducible exact spec_SetHas.mono _ _ _) | (with_reducible exact LeO.refl _) | (with_reducible exact LeO.none _) | (with_reducible refine LeO.ite ?_ ?_) | (with_reducible refine LeO.bind ?_ (fun _ => ?_))
theorem spec_SetAdd.mono : ∀ a0 a1 k, LeO (spec_SetAdd.f k a0 a1) (spec_SetAdd.f (k + 1) a0 a1) := by
 intro a0 a1 k
 have ih0 := spec_SetAdd.mono_l k
 unfold spec_SetAdd.f
 repeat' first | (with_reducible exact ih0 _ _ _) | (with_reducible exact spec_SetHas.mono _ _ _) | (with_reducible exact LeO.refl _) | (with_reducible exact LeO.none _) | (with_reducible refine LeO.ite ?_ ?_) | (with_reducible refine LeO.bind ?_ (fun _ => ?_))
set_option maxHeartbeats 8000000 in
set_option maxRecDepth 100000 in
theorem spec_SetAdd.calls (k : Nat) (A0 : Option Addr) (c0 : Nat) (l0 : List Int) (a1 : Int) (r : List Int) (w : World) (hr0 : Kd.C (Kd.int .i64) w A0 l0.length l0) (hc0 : l0.length ≤ c0) (h : spec_SetAdd.f k l0 a1 = some r) :
  Calls Tryz.prog 207 #[.slice A0 l0.length c0, .int .i64 a1] w fun e w' => ∃ v0_ : Value, e = .returned (v0_) ∧ Kd.R (Kd.int .i64) 3 w' w.heap.size (fun _ => True) v0_ r ∧ Below w.heap.size w w' := by
 have HR0 := Aside0.mk hr0; have HC0 := Aside0.mk hc0; clear hr0 hc0; have HB := Aside0.mk (Below.refl w.heap.size w)
 have H := h; unfold spec_SetAdd.f at H
 clear h; obtain ⟨t341, A3, H⟩ := oB H; (try dsimp only at H)
 by_cases c4 : t341 = true
 ·
  subst c4
  rw [if_pos rfl] at H
  obtain ⟨y342, hy342⟩ : ∃ y_ : List Int, y_ = (([] : List Int)) := ⟨_, rfl⟩
  replace H : (if y342.length + l0.length < 17592186044416 then (some (y342 ++ l0)) else (none)) = some r := by first | (rw [hy342]; with_reducible exact H) | (have H2_ := (Option.bind_some _ _).symm.trans H; rw [hy342]; with_reducible exact H2_) | (have H2_ := (Option.bind_some _ _).symm.trans H; with_reducible exact H2_) | with_reducible exact H | (rw [hy342]; exact H) | exact H
  have Ny342 := Aside0.mk hy342; clear hy342
  by_cases c5 : y342.length + l0.length < 17592186044416
  rotate_left
  ·
   rw [if_neg c5] at H
   exact absurd H (by simp)
  rw [if_pos c5] at H
  have LMc5 := Aside0.mk c5; clear c5; obtain ⟨y345, hy345⟩ : ∃ y_ : List Int, y_ = (y342 ++ l0) := ⟨_, rfl⟩
  replace H : (some y345) = some r := by first | (rw [hy345]; with_reducible exact H) | (have H2_ := (Option.bind_some _ _).symm.trans H; rw [hy345]; with_reducible exact H2_) | (have H2_ := (Option.bind_some _ _).symm.trans H; with_reducible exact H2_) | with_reducible exact H | (rw [hy345]; exact H) | exact H
  have Ny345 := Aside0.mk hy345; clear hy345; obtain rfl := Option.some.inj H
  go_enter Tryz.func207, Tryz.ntmps207
  go_wp2_with (first | ((with_reducible refine gate_callee (f := 233) rfl ?_); refine gB (some 9) Tryz.func233 #[.slice A0 l0.length c0, .int .i64 a1] ?_; (with_reducible refine (spec_SetHas.calls k _ _ l0 a1 true _ ?side1 ?side2 A3.out).mono ?_); (case side1 => exact cI HR0.out); (case side2 => exact HC0.out); rintro e w' ⟨rfl, ⟨nd, rfl⟩⟩; refine ⟨_, rfl, ?_⟩) | ((with_reducible refine gate_dst (N := 10) rfl ?_); refine Kd.R_lit (Kd.int .i64) _ 3 ?hg (N := 10) ?hd (xs := ([] : List Int)) (inner := []) (ok := fun _ => True) (okp := fun _ => True) ?hr ?hp (fun _ hk => hk) trivial (Below.refl _ _) (Nat.le_refl _) (by simp) ?_; (case hd => rfl); (case hg => rfl); (case hr => first | (go_simp; done) | (go_simp; rfl)); (case hp => exact (Reps.none _ _)); intro v343 w6 ho7 hb hg_ hnew_; clear hg_ hnew_; (first | rw [← Ny342.out] at ho7 | (simp only [Int.reduceToNat] at ho7; rw [← Ny342.out] at ho7)); have HO344 := Aside0.mk (Kd.R_lower ho7 (below_size (bI HB.out))); replace HB := bs HB hb; clear hb ho7) | ((with_reducible refine gate_builtin (b := .append) (xs := #[.tmp 10, .tmp 11]) rfl ?_); at_builtin; refine Kd.R_append_rows (Kd.int .i64) (w0 := w) w.heap.size rfl (.tmp 10) (.tmp 11) 25 3 (.int .i64 0) 8 rfl Tryz.underlying25 info3 rfl (by decide) (by omega) v343 y342 l0 _ _ _ (fun _ => True) (fun _ => False) rfl rfl ?aO ?aR (fun _ _ h => h) (fun _ h => h.elim) ?aF ?aB ?aS ?aL ?_; (case aR => exact ch HR0 HB); (case aB => exact (bI HB.out)); (case aF => exact (fun _ _ => trivial)); (case aO => exact (rI HO344.out)); (case aS => exact (below_size (bI HB.out))); (case aL => have := LMc5.out; omega); intro v346 w8 ho hb hg hat; rw [← Ny345.out] at ho; have n0_ := Aside0.mk (hb); have n1_ := Aside0.mk (ho); clear HB; clear HO344; have HB := n0_; have HO347 := n1_; clear n0_ n1_; clear ho hb hg hat))
  go_ret
  exact ⟨_, y0_11, by (with_reducible repeat (first | apply Kd.R_alloc | apply Kd.R_drewN | apply Kd.R_drew)); exact HO347.out, bI HB.out⟩
 replace c4 := Bool.eq_false_iff.mpr c4; subst c4
 rw [if_neg (show ¬ (false = true) by decide)] at H
 have H' := Aside0.mk H; clear H
 go_enter Tryz.func207, Tryz.ntmps207
 go_wp2_with (first | ((with_reducible refine gate_callee (f := 233) rfl ?_); refine gB (some 9) Tryz.func233 #[.slice A0 l0.length c0, .int .i64 a1] ?_; (with_reducible refine (spec_SetHas.calls k _ _ l0 a1 false _ ?side1 ?side2 A3.out).mono ?_); (case side1 => exact cI HR0.out); (case side2 => exact HC0.out); rintro e w' ⟨rfl, ⟨nd, rfl⟩⟩; refine ⟨_, rfl, ?_⟩))
 go_loopg [5] k (fun kq v5 w' => ∃ (x5_1 : Int), v5 = .int .i64 x5_1 ∧ Aside0 (spec_SetAdd.l0 kq l0 a1 x5_1 = some r) ∧ Aside0 (kq ≤ k) ∧ Aside0 (Below w.heap.size w w'))
 case atStart => exact ⟨(0), y0_16, H', ⟨Nat.le_refl _⟩, ⟨bI HB.out⟩⟩
 case round =>
  clear H'
  try clear c2
  try clear p2
  try clear c4
  try clear c5
  obtain ⟨x5_1, rfl, HA, HK1, HB⟩ := hrel; cases gk with
  | zero => exact absurd HA.out (by simp [spec_SetAdd.l0])
  | succ k1 =>
   have H := HA.out; clear HA
   simp only [spec_SetAdd.l0] at H
   by_cases c9 : x5_1 < (l0.length : Int)
   ·
    rw [if_pos c9] at H
    have c9b0 : decide (x5_1 < (l0.length : Int)) = true := decide_eq_true c9; clear c9
    by_cases c10 : 0 ≤ x5_1
    rotate_left
    ·
     rw [if_neg c10] at H
     exact absurd H (by simp)
    rw [if_pos c10] at H
    have c10b0 : decide (0 ≤ x5_1) = true := decide_eq_true c10; clear c10
    by_cases c11 : (rd l0 x5_1) < a1
    ·
     rw [if_pos c11] at H
     have c11b0 : decide ((rd l0 x5_1) < a1) = true := decide_eq_true c11; clear c11; have H' := Aside0.mk H; clear H; have p348 : 0 ≤ (x5_1 : Int) := of_decide_eq_true y0_15; have q348 : x5_1 < (l0.length : Int) := of_decide_eq_true y0_15; obtain ⟨ad348, e348, hx348_0⟩ := Kd.at_int HR0.out x5_1 p348 q348; cases e348; replace hx348_0 := bx HB hx348_0; replace p348 := eq_true p348; replace q348 := eq_true q348
     go_wp2
     go_roundg k1
     case measure => have := HK1.out; omega
     case rel => exact ⟨(wrap64 (x5_1 + 1)), y0_16, H', ⟨y0_18⟩, ⟨bI HB.out⟩⟩
    rw [if_neg c11] at H
    have c11b0 : decide ((rd l0 x5_1) < a1) = false := decide_eq_false c11; clear c11; obtain ⟨y349, hy349⟩ : ∃ y_ : List Int, y_ = (([] : List Int)) := ⟨_, rfl⟩
    replace H : (if x5_1 ≤ (l0.length : Int) then (if y349.length + (l0.take (x5_1 : Int).toNat).length < 17592186044416 then ((some (y349 ++ (l0.take (x5_1 : Int).toNat) : List Int)).bind fun y353 => (if y353.length < 17592186044416 then ((some (y353 ++ [a1] : List Int)).bind fun y356 => (if y356.length + (l0.drop (x5_1 : Int).toNat).length < 17592186044416 then (some (y356 ++ (l0.drop (x5_1 : Int).toNat))) else (none))) else (none))) else (none)) else (none)) = some r := by first | (rw [hy349]; with_reducible exact H) | (have H2_ := (Option.bind_some _ _).symm.trans H; rw [hy349]; with_reducible exact H2_) | (have H2_ := (Option.bind_some _ _).symm.trans H; with_reducible exact H2_) | with_reducible exact H | (rw [hy349]; exact H) | exact H
    have Ny349 := Aside0.mk hy349; clear hy349; have c12b0 := eq_true (of_decide_eq_true y0_15 : 0 ≤ x5_1)
    by_cases c13 : x5_1 ≤ (l0.length : Int)
    rotate_left
    ·
     rw [if_neg c13] at H
     exact absurd H (by simp)
    rw [if_pos c13] at H
    have c13b0 := eq_true c13; have c13b1 : decide (x5_1 ≤ (l0.length : Int)) = true := decide_eq_true c13; clear c13
    by_cases c14 : y349.length + (l0.take (x5_1 : Int).toNat).length < 17592186044416
    rotate_left
    ·
     rw [if_neg c14] at H
     exact absurd H (by simp)
    rw [if_pos c14] at H
    have LMc14 := Aside0.mk c14; clear c14; obtain ⟨y353, hy353⟩ : ∃ y_ : List Int, y_ = (y349 ++ (l0.take (x5_1 : Int).toNat)) := ⟨_, rfl⟩
    replace H : (if y353.length < 17592186044416 then ((some (y353 ++ [a1] : List Int)).bind fun y356 => (if y356.length + (l0.drop (x5_1 : Int).toNat).length < 17592186044416 then (some (y356 ++ (l0.drop (x5_1 : Int).toNat))) else (none))) else (none)) = some r := by first | (rw [hy353]; with_reducible exact H) | (have H2_ := (Option.bind_some _ _).symm.trans H; rw [hy353]; with_reducible exact H2_) | (have H2_ := (Option.bind_some _ _).symm.trans H; with_reducible exact H2_) | with_reducible exact H | (rw [hy353]; exact H) | exact H
    have Ny353 := Aside0.mk hy353; clear hy353
    by_cases c15 : y353.length < 17592186044416
    rotate_left
    ·
     rw [if_neg c15] at H
     exact absurd H (by simp)
    rw [if_pos c15] at H
    have LMc15 := Aside0.mk c15; clear c15; obtain ⟨y356, hy356⟩ : ∃ y_ : List Int, y_ = (y353 ++ [a1]) := ⟨_, rfl⟩
    replace H : (if y356.length + (l0.drop (x5_1 : Int).toNat).length < 17592186044416 then (some (y356 ++ (l0.drop (x5_1 : Int).toNat))) else (none)) = some r := by first | (rw [hy356]; with_reducible exact H) | (have H2_ := (Option.bind_some _ _).symm.trans H; rw [hy356]; with_reducible exact H2_) | (have H2_ := (Option.bind_some _ _).symm.trans H; with_reducible exact H2_) | with_reducible exact H | (rw [hy356]; exact H) | exact H
    have Ny356 := Aside0.mk hy356; clear hy356; have c16b0 := eq_true (of_decide_eq_true y0_15 : 0 ≤ x5_1); have c17b0 := eq_true (of_decide_eq_true y0_15 : x5_1 ≤ (l0.length : Int))
    by_cases c18 : y356.length + (l0.drop (x5_1 : Int).toNat).length < 17592186044416
    rotate_left
    ·
     rw [if_neg c18] at H
     exact absurd H (by simp)
    rw [if_pos c18] at H
    have LMc18 := Aside0.mk c18; clear c18; obtain ⟨y360, hy360⟩ : ∃ y_ : List Int, y_ = (y356 ++ (l0.drop (x5_1 : Int).toNat)) := ⟨_, rfl⟩
    replace H : (some y360) = some r := by first | (rw [hy360]; with_reducible exact H) | (have H2_ := (Option.bind_some _ _).symm.trans H; rw [hy360]; with_reducible exact H2_) | (have H2_ := (Option.bind_some _ _).symm.trans H; with_reducible exact H2_) | with_reducible exact H | (rw [hy360]; exact H) | exact H
    have Ny360 := Aside0.mk hy360; clear hy360; obtain rfl := Option.some.inj H; have p348 : 0 ≤ (x5_1 : Int) := of_decide_eq_true y0_15; have q348 : x5_1 < (l0.length : Int) := of_decide_eq_true y0_15; obtain ⟨ad348, e348, hx348_0⟩ := Kd.at_int HR0.out x5_1 p348 q348; cases e348; replace hx348_0 := bx HB hx348_0; replace p348 := eq_true p348; replace q348 := eq_true q348
    go_wp2_with (first | ((with_reducible refine gate_dst (N := 27) rfl ?_); refine Kd.R_lit (Kd.int .i64) _ 3 ?hg (N := 27) ?hd (xs := ([] : List Int)) (inner := []) (ok := fun _ => True) (okp := fun _ => True) ?hr ?hp (fun _ hk => hk) trivial (Below.refl _ _) (Nat.le_refl _) (by simp) ?_; (case hd => rfl); (case hg => rfl); (case hr => first | (go_simp; done) | (go_simp; rfl)); (case hp => exact (Reps.none _ _)); intro v350 w19 ho20 hb hg_ hnew_; clear hg_ hnew_; (first | rw [← Ny349.out] at ho20 | (simp only [Int.reduceToNat] at ho20; rw [← Ny349.out] at ho20)); have HO351 := Aside0.mk (Kd.R_lower ho20 (below_size (bI HB.out))); replace HB := bs HB hb; clear hb ho20; obtain ⟨i021, hi021, _, hsz21, _⟩ := info_parts info3; obtain ⟨hcut21, hA21, hC21⟩ := print_take_of (P := Tryz.prog) (Value.int .i64) 0 25 3 .i64 Tryz.underlying25 hi021 hsz21 (some ad348) c0 l0 x5_1 (of_decide_eq_true y0_15) (of_decide_eq_true y0_15) HC0.out; have HR352 := Aside0.mk (Kd.C_of_reads (h1 := fun _ => rfl) (hA21 _ (Kd.reads_of_C HR0.out))); have HC352 := Aside0.mk hC21; clear hA21 hC21 hi021 hsz21) | ((with_reducible refine gate_builtin (b := .append) (xs := #[.tmp 27, .tmp 30]) rfl ?_); at_builtin; refine Kd.R_append_rows (Kd.int .i64) (w0 := w) w.heap.size rfl (.tmp 27) (.tmp 30) 25 3 (.int .i64 0) 8 rfl Tryz.underlying25 info3 rfl (by decide) (by omega) v350 y349 (l0.take (x5_1 : Int).toNat) _ _ _ (fun _ => True) (fun _ => False) rfl rfl ?aO ?aR (fun _ _ h => h) (fun _ h => h.elim) ?aF ?aB ?aS ?aL ?_; (case aR => first | exact cE (show (l0.take (x5_1 : Int).toNat).length = x5_1.toNat from y0_6) (Kd.C_below HR352.out HB.out) | (exact ch HR352 HB)); (case aB => exact (bI HB.out)); (case aF => exact (fun _ _ => trivial)); (case aO => exact (rI HO351.out)); (case aS => exact (below_size (bI HB.out))); (case aL => have := LMc14.out; have hlx_ := (show (l0.take (x5_1 : Int).toNat).length = x5_1.toNat from y0_6); omega); intro v354 w22 ho hb hg hat; rw [← Ny353.out] at ho; have n0_ := Aside0.mk (hb); have n1_ := Aside0.mk (ho); clear HB; clear HO351; have HB := n0_; have HO355 := n1_; clear n0_ n1_; clear ho hb hg hat) | ((with_reducible refine gate_builtin (b := .append) (xs := #[.tmp 32, .tmp 34]) rfl ?_); at_builtin; refine Kd.R_append (Kd.int .i64) (w0 := w) w.heap.size rfl (.tmp 32) (.tmp 34) 25 3 (.int .i64 0) 8 rfl Tryz.underlying25 info3 rfl (by decide) (by omega) v354 y353 a1 [.int .i64 a1] (fun _ => True) (fun _ => False) rfl rfl ?aP (fun _ hk => hk.elim) ?aF ?aO ?aB ?aS ?aL ?_; (case aP => exact rfl); (case aB => exact (bI HB.out)); (case aF => exact (fun _ _ => trivial)); (case aO => exact (rI HO355.out)); (case aS => exact (below_size (bI HB.out))); (case aL => have := LMc15.out; omega); intro v357 w23 ho hb hg hat; rw [← Ny356.out] at ho; have n0_ := Aside0.mk (hb); have n1_ := Aside0.mk (ho); clear HB; clear HO355; have HB := n0_; have HO358 := n1_; clear n0_ n1_; clear ho hb hg hat; obtain ⟨i024, hi024, _, hsz24, _⟩ := info_parts info3; obtain ⟨A24, hcut24, hA24, hC24⟩ := print_drop_of (P := Tryz.prog) (Value.int .i64) 0 25 3 .i64 Tryz.underlying25 hi024 hsz24 (some ad348) c0 l0 x5_1 (of_decide_eq_true y0_15) (of_decide_eq_true y0_15) HC0.out; have HR359 := Aside0.mk (Kd.C_of_reads (h1 := fun _ => rfl) (hA24 _ (Kd.reads_of_C HR0.out))); have HC359 := Aside0.mk hC24; clear hA24 hC24 hi024 hsz24) | ((with_reducible refine gate_builtin (b := .append) (xs := #[.tmp 36, .tmp 39]) rfl ?_); at_builtin; refine Kd.R_append_rows (Kd.int .i64) (w0 := w) w.heap.size rfl (.tmp 36) (.tmp 39) 25 3 (.int .i64 0) 8 rfl Tryz.underlying25 info3 rfl (by decide) (by omega) v357 y356 (l0.drop (x5_1 : Int).toNat) _ _ _ (fun _ => True) (fun _ => False) rfl rfl ?aO ?aR (fun _ _ h => h) (fun _ h => h.elim) ?aF ?aB ?aS ?aL ?_; (case aR => first | exact cE (show (l0.drop (x5_1 : Int).toNat).length = (l0.length - x5_1.toNat) from List.length_drop) (Kd.C_below HR359.out HB.out) | (exact ch HR359 HB)); (case aB => exact (bI HB.out)); (case aF => exact (fun _ _ => trivial)); (case aO => exact (rI HO358.out)); (case aS => exact (below_size (bI HB.out))); (case aL => have := LMc18.out; have hlx_ := (show (l0.drop (x5_1 : Int).toNat).length = (l0.length - x5_1.toNat) from List.length_drop); omega); intro v361 w25 ho hb hg hat; rw [← Ny360.out] at ho; have n0_ := Aside0.mk (hb); have n1_ := Aside0.mk (ho); clear HB; clear HO358; have HB := n0_; have HO362 := n1_; clear n0_ n1_; clear ho hb hg hat))
    go_ret
    exact ⟨_, y0_11, by (with_reducible repeat (first | apply Kd.R_alloc | apply Kd.R_drewN | apply Kd.R_drew)); exact HO362.out, bI HB.out⟩
   rw [if_neg c9] at H
   have c9b0 : decide (x5_1 < (l0.length : Int)) = false := decide_eq_false c9; clear c9; obtain ⟨y363, hy363⟩ : ∃ y_ : List Int, y_ = (([] : List Int)) := ⟨_, rfl⟩
   replace H : (if 0 ≤ x5_1 then (if x5_1 ≤ (l0.length : Int) then (if y363.length + (l0.take (x5_1 : Int).toNat).length < 17592186044416 then ((some (y363 ++ (l0.take (x5_1 : Int).toNat) : List Int)).bind fun y367 => (if y367.length < 17592186044416 then ((some (y367 ++ [a1] : List Int)).bind fun y370 => (if y370.length + (l0.drop (x5_1 : Int).toNat).length < 17592186044416 then (some (y370 ++ (l0.drop (x5_1 : Int).toNat))) else (none))) else (none))) else (none)) else (none)) else (none)) = some r := by first | (rw [hy363]; with_reducible exact H) | (have H2_ := (Option.bind_some _ _).symm.trans H; rw [hy363]; with_reducible exact H2_) | (have H2_ := (Option.bind_some _ _).symm.trans H; with_reducible exact H2_) | with_reducible exact H | (rw [hy363]; exact H) | exact H
   have Ny363 := Aside0.mk hy363; clear hy363
   by_cases c26 : 0 ≤ x5_1
   ·
    rw [if_pos c26] at H
    have c26b0 := eq_true c26; have c26b1 : decide (0 ≤ x5_1) = true := decide_eq_true c26; clear c26
    by_cases c27 : x5_1 ≤ (l0.length : Int)
    rotate_left
    ·
     rw [if_neg c27] at H
     exact absurd H (by simp)
    rw [if_pos c27] at H
    have c27b0 := eq_true c27; have c27b1 : decide (x5_1 ≤ (l0.length : Int)) = true := decide_eq_true c27; clear c27
    by_cases c28 : y363.length + (l0.take (x5_1 : Int).toNat).length < 17592186044416
    rotate_left
    ·
     rw [if_neg c28] at H
     exact absurd H (by simp)
    rw [if_pos c28] at H
    have LMc28 := Aside0.mk c28; clear c28; obtain ⟨y367, hy367⟩ : ∃ y_ : List Int, y_ = (y363 ++ (l0.take (x5_1 : Int).toNat)) := ⟨_, rfl⟩
    replace H : (if y367.length < 17592186044416 then ((some (y367 ++ [a1] : List Int)).bind fun y370 => (if y370.length + (l0.drop (x5_1 : Int).toNat).length < 17592186044416 then (some (y370 ++ (l0.drop (x5_1 : Int).toNat))) else (none))) else (none)) = some r := by first | (rw [hy367]; with_reducible exact H) | (have H2_ := (Option.bind_some _ _).symm.trans H; rw [hy367]; with_reducible exact H2_) | (have H2_ := (Option.bind_some _ _).symm.trans H; with_reducible exact H2_) | with_reducible exact H | (rw [hy367]; exact H) | exact H
    have Ny367 := Aside0.mk hy367; clear hy367
    by_cases c29 : y367.length < 17592186044416
    rotate_left
    ·
     rw [if_neg c29] at H
     exact absurd H (by simp)
    rw [if_pos c29] at H
    have LMc29 := Aside0.mk c29; clear c29; obtain ⟨y370, hy370⟩ : ∃ y_ : List Int, y_ = (y367 ++ [a1]) := ⟨_, rfl⟩
    replace H : (if y370.length + (l0.drop (x5_1 : Int).toNat).length < 17592186044416 then (some (y370 ++ (l0.drop (x5_1 : Int).toNat))) else (none)) = some r := by first | (rw [hy370]; with_reducible exact H) | (have H2_ := (Option.bind_some _ _).symm.trans H; rw [hy370]; with_reducible exact H2_) | (have H2_ := (Option.bind_some _ _).symm.trans H; with_reducible exact H2_) | with_reducible exact H | (rw [hy370]; exact H) | exact H
    have Ny370 := Aside0.mk hy370; clear hy370; have c30b0 := eq_true (of_decide_eq_true y0_15 : 0 ≤ x5_1); have c31b0 := eq_true (of_decide_eq_true y0_15 : x5_1 ≤ (l0.length : Int))
    by_cases c32 : y370.length + (l0.drop (x5_1 : Int).toNat).length < 17592186044416
    rotate_left
    ·
     rw [if_neg c32] at H
     exact absurd H (by simp)
    rw [if_pos c32] at H
    have LMc32 := Aside0.mk c32; clear c32; obtain ⟨y374, hy374⟩ : ∃ y_ : List Int, y_ = (y370 ++ (l0.drop (x5_1 : Int).toNat)) := ⟨_, rfl⟩
    replace H : (some y374) = some r := by first | (rw [hy374]; with_reducible exact H) | (have H2_ := (Option.bind_some _ _).symm.trans H; rw [hy374]; with_reducible exact H2_) | (have H2_ := (Option.bind_some _ _).symm.trans H; with_reducible exact H2_) | with_reducible exact H | (rw [hy374]; exact H) | exact H
    have Ny374 := Aside0.mk hy374; clear hy374; obtain rfl := Option.some.inj H
    go_wp2_with (first | ((with_reducible refine gate_dst (N := 27) rfl ?_); refine Kd.R_lit (Kd.int .i64) _ 3 ?hg (N := 27) ?hd (xs := ([] : List Int)) (inner := []) (ok := fun _ => True) (okp := fun _ => True) ?hr ?hp (fun _ hk => hk) trivial (Below.refl _ _) (Nat.le_refl _) (by simp) ?_; (case hd => rfl); (case hg => rfl); (case hr => first | (go_simp; done) | (go_simp; rfl)); (case hp => exact (Reps.none _ _)); intro v364 w33 ho34 hb hg_ hnew_; clear hg_ hnew_; (first | rw [← Ny363.out] at ho34 | (simp only [Int.reduceToNat] at ho34; rw [← Ny363.out] at ho34)); have HO365 := Aside0.mk (Kd.R_lower ho34 (below_size (bI HB.out))); replace HB := bs HB hb; clear hb ho34; obtain ⟨i035, hi035, _, hsz35, _⟩ := info_parts info3; obtain ⟨hcut35, hA35, hC35⟩ := print_take_of (P := Tryz.prog) (Value.int .i64) 0 25 3 .i64 Tryz.underlying25 hi035 hsz35 A0 c0 l0 x5_1 (of_decide_eq_true y0_15) (of_decide_eq_true y0_15) HC0.out; have HR366 := Aside0.mk (Kd.C_of_reads (h1 := fun _ => rfl) (hA35 _ (Kd.reads_of_C HR0.out))); have HC366 := Aside0.mk hC35; clear hA35 hC35 hi035 hsz35) | ((with_reducible refine gate_builtin (b := .append) (xs := #[.tmp 27, .tmp 30]) rfl ?_); at_builtin; refine Kd.R_append_rows (Kd.int .i64) (w0 := w) w.heap.size rfl (.tmp 27) (.tmp 30) 25 3 (.int .i64 0) 8 rfl Tryz.underlying25 info3 rfl (by decide) (by omega) v364 y363 (l0.take (x5_1 : Int).toNat) _ _ _ (fun _ => True) (fun _ => False) rfl rfl ?aO ?aR (fun _ _ h => h) (fun _ h => h.elim) ?aF ?aB ?aS ?aL ?_; (case aR => first | exact cE (show (l0.take (x5_1 : Int).toNat).length = x5_1.toNat from y0_6) (Kd.C_below HR366.out HB.out) | (exact ch HR366 HB)); (case aB => exact (bI HB.out)); (case aF => exact (fun _ _ => trivial)); (case aO => exact (rI HO365.out)); (case aS => exact (below_size (bI HB.out))); (case aL => have := LMc28.out; have hlx_ := (show (l0.take (x5_1 : Int).toNat).length = x5_1.toNat from y0_6); omega); intro v368 w36 ho hb hg hat; rw [← Ny367.out] at ho; have n0_ := Aside0.mk (hb); have n1_ := Aside0.mk (ho); clear HB; clear HO365; have HB := n0_; have HO369 := n1_; clear n0_ n1_; clear ho hb hg hat) | ((with_reducible refine gate_builtin (b := .append) (xs := #[.tmp 32, .tmp 34]) rfl ?_); at_builtin; refine Kd.R_append (Kd.int .i64) (w0 := w) w.heap.size rfl (.tmp 32) (.tmp 34) 25 3 (.int .i64 0) 8 rfl Tryz.underlying25 info3 rfl (by decide) (by omega) v368 y367 a1 [.int .i64 a1] (fun _ => True) (fun _ => False) rfl rfl ?aP (fun _ hk => hk.elim) ?aF ?aO ?aB ?aS ?aL ?_; (case aP => exact rfl); (case aB => exact (bI HB.out)); (case aF => exact (fun _ _ => trivial)); (case aO => exact (rI HO369.out)); (case aS => exact (below_size (bI HB.out))); (case aL => have := LMc29.out; omega); intro v371 w37 ho hb hg hat; rw [← Ny370.out] at ho; have n0_ := Aside0.mk (hb); have n1_ := Aside0.mk (ho); clear HB; clear HO369; have HB := n0_; have HO372 := n1_; clear n0_ n1_; clear ho hb hg hat; obtain ⟨i038, hi038, _, hsz38, _⟩ := info_parts info3; obtain ⟨A38, hcut38, hA38, hC38⟩ := print_drop_of (P := Tryz.prog) (Value.int .i64) 0 25 3 .i64 Tryz.underlying25 hi038 hsz38 A0 c0 l0 x5_1 (of_decide_eq_true y0_15) (of_decide_eq_true y0_15) HC0.out; have HR373 := Aside0.mk (Kd.C_of_reads (h1 := fun _ => rfl) (hA38 _ (Kd.reads_of_C HR0.out))); have HC373 := Aside0.mk hC38; clear hA38 hC38 hi038 hsz38) | ((with_reducible refine gate_builtin (b := .append) (xs := #[.tmp 36, .tmp 39]) rfl ?_); at_builtin; refine Kd.R_append_rows (Kd.int .i64) (w0 := w) w.heap.size rfl (.tmp 36) (.tmp 39) 25 3 (.int .i64 0) 8 rfl Tryz.underlying25 info3 rfl (by decide) (by omega) v371 y370 (l0.drop (x5_1 : Int).toNat) _ _ _ (fun _ => True) (fun _ => False) rfl rfl ?aO ?aR (fun _ _ h => h) (fun _ h => h.elim) ?aF ?aB ?aS ?aL ?_; (case aR => first | exact cE (show (l0.drop (x5_1 : Int).toNat).length = (l0.length - x5_1.toNat) from List.length_drop) (Kd.C_below HR373.out HB.out) | (exact ch HR373 HB)); (case aB => exact (bI HB.out)); (case aF => exact (fun _ _ => trivial)); (case aO => exact (rI HO372.out)); (case aS => exact (below_size (bI HB.out))); (case aL => have := LMc32.out; have hlx_ := (show (l0.drop (x5_1 : Int).toNat).length = (l0.length - x5_1.toNat) from List.length_drop); omega); intro v375 w39 ho hb hg hat; rw [← Ny374.out] at ho; have n0_ := Aside0.mk (hb); have n1_ := Aside0.mk (ho); clear HB; clear HO372; have HB := n0_; have HO376 := n1_; clear n0_ n1_; clear ho hb hg hat))
    go_ret
    exact ⟨_, y0_11, by (with_reducible repeat (first | apply Kd.R_alloc | apply Kd.R_drewN | apply Kd.R_drew)); exact HO376.out, bI HB.out⟩
   rw [if_neg c26] at H
   exact absurd H (by simp)

/-! ### spec_l6DrawSet: function 190 -/
def spec_l6DrawSet.l0 : Nat → Int → List Int → Int → List Int → Int → Int → Option (List Int × Int × Int)
 | 0, _, _, _, _, _, _ => none
 | k + 1, x1, x5, x6, x1000, x1001, x1002 => (spec_l1Below.f x1000 x1001 x1002 8).bind fun bt380 => (if x6 < bt380.1 then ((spec_l1Below.f x1000 bt380.2.1 bt380.2.2 x1).bind fun bt383 => ((spec_SetAdd.f k x5 bt383.1).bind fun t386 => (spec_l6DrawSet.l0 k x1 t386 (wrap64 (x6 + 1)) x1000 bt383.2.1 bt383.2.2))) else ((spec_l1Once.f x1000 bt380.2.1 bt380.2.2 12).bind fun bt389 => (if bt389.1 = true then ((spec_l1PickInt.f x1000 bt389.2.1 bt389.2.2 (([(-1), 0, 3, 9] : List Int))).bind fun bt395 => (if x5.length < 17592186044416 then (some ((x5 ++ [bt395.1]), bt395.2.1, bt395.2.2)) else (none))) else (some (x5, bt389.2.1, bt389.2.2)))))
def spec_l6DrawSet.f (k : Nat) (s0_0 : List Int) (s0_1 : Int) (s0_2 : Int) (a1 : Int) : Option (List Int × Int × Int) := spec_l6DrawSet.l0 k a1 (([] : List Int)) 0 s0_0 s0_1 s0_2
theorem spec_l6DrawSet.mono_l : ∀ k, (∀ y0 y1 y2 y3 y4 y5, LeO (spec_l6DrawSet.l0 k y0 y1 y2 y3 y4 y5) (spec_l6DrawSet.l0 (k + 1) y0 y1 y2 y3 y4 y5))
 | 0 => fun _ _ _ _ _ _ r h => by simp [spec_l6DrawSet.l0] at h
 | k + 1 => by
  have ih0 := spec_l6DrawSet.mono_l k
  intro y0 y1 y2 y3 y4 y5
  unfold spec_l6DrawSet.l0
  repeat' first | (with_reducible exact ih0 _ _ _ _ _ _) | (with_reducible exact spec_SetAdd.mono _ _ _) | (with_reducible exact LeO.refl _) | (with_reducible exact LeO.none _) | (with_reducible refine LeO.ite ?_ ?_) | (with_reducible refine LeO.bind ?_ (fun _ => ?_))
theorem spec_l6DrawSet.mono : ∀ a0 a1 a2 a3 k, LeO (spec_l6DrawSet.f k a0 a1 a2 a3) (spec_l6DrawSet.f (k + 1) a0 a1 a2 a3) := by
 intro a0 a1 a2 a3 k
 have ih0 := spec_l6DrawSet.mono_l k
 unfold spec_l6DrawSet.f
 repeat' first | (with_reducible exact ih0 _ _ _ _ _ _) | (with_reducible exact spec_SetAdd.mono _ _ _) | (with_reducible exact LeO.refl _) | (with_reducible exact LeO.none _) | (with_reducible refine LeO.ite ?_ ?_) | (with_reducible refine LeO.bind ?_ (fun _ => ?_))
set_option maxHeartbeats 8000000 in
set_option maxRecDepth 100000 in
theorem spec_l6DrawSet.calls (k : Nat) (g : Nat) (s0_0 : List Int) (s0_1 : Int) (s0_2 : Int) (a1 : Int) (r1 : List Int) (r2 : Int) (r3 : Int) (w0 w : World) (hI : IsS188 w0 w g s0_0 s0_1 s0_2) (hB : Below w0.heap.size w0 w) (h : spec_l6DrawSet.f k s0_0 s0_1 s0_2 a1 = some (r1, r2, r3)) :
  Calls Tryz.prog 190 #[.pointer (some ⟨g, 0, none⟩), .int .i64 a1] w fun e w' => ∃ v0_ : Value, e = .returned (v0_) ∧ Kd.R (Kd.int .i64) 3 w' w.heap.size (fun _ => True) v0_ r1 ∧ IsS188 w0 w' g s0_0 r2 r3 ∧ Below w0.heap.size w0 w' ∧ KeepBut w w' g none := by
 have HI0 := Aside0.mk hI; have HK := Aside0.mk (KeepBut.refl w g none); have HL := Aside0.mk hB.size; clear hI; have HW0 := Aside0.mk hB.size; have HB := Aside0.mk hB; clear hB; have H := h; unfold spec_l6DrawSet.f at H; clear h; obtain ⟨y377, hy377⟩ : ∃ y_ : List Int, y_ = (([] : List Int)) := ⟨_, rfl⟩
 replace H : (spec_l6DrawSet.l0 k a1 y377 0 s0_0 s0_1 s0_2) = some (r1, r2, r3) := by first | (rw [hy377]; with_reducible exact H) | (have H2_ := (Option.bind_some _ _).symm.trans H; rw [hy377]; with_reducible exact H2_) | (have H2_ := (Option.bind_some _ _).symm.trans H; with_reducible exact H2_) | with_reducible exact H | (rw [hy377]; exact H) | exact H
 have Ny377 := Aside0.mk hy377; clear hy377; have i0_ := iB188 HI0; have i1_ : LB w0 w := ⟨HB.out⟩
 go_enter Tryz.func190, Tryz.ntmps190
 have H' := Aside0.mk H; clear H
 go_wp2_with (first | ((with_reducible refine gate_dst (N := 7) rfl ?_); refine lL 7 3 (Kd.int .i64) rfl Ny377 ?_; intro Ao378 co378 w3 _ HO379))
 refine wC ?_; intro w4 _
 go_loopg [5, 6] k (fun kq v5 v6 w' => ∃ (x5_1 : List Int) (x6_1 : Int) (x1001_1 : Int) (x1002_1 : Int) (Ao5_1 : Option Addr) (co5_1 : Nat), v5 = .slice Ao5_1 x5_1.length co5_1 ∧ v6 = .int .i64 x6_1 ∧ Aside0 (spec_l6DrawSet.l0 kq a1 x5_1 x6_1 s0_0 x1001_1 x1002_1 = some (r1, r2, r3)) ∧ Aside0 (kq ≤ k) ∧ Aside0 (Kd.R (Kd.int .i64) 3 w' w.heap.size (iv w w') (.slice Ao5_1 x5_1.length co5_1) x5_1) ∧ StB g w' 188 ∧ Aside0 (IsS188 w0 w' g s0_0 x1001_1 x1002_1) ∧ KT w4 [g] w _ (Kd.int .i64) 3 w' ∧ LB w0 w' ∧ KS w g w')
 case atStart => exact ⟨(y377), (0), (s0_1), (s0_2), (Ao378), (co378), y0_16, y0_16, H', ⟨Nat.le_refl _⟩, ⟨rJ HO379⟩, iB188 ⟨iS188 HI0⟩, ⟨iS188 HI0⟩, ⟨UpT.out⟩, ⟨UpW.out⟩, ⟨UpB.out⟩⟩
 case round =>
  clear H'; obtain ⟨x5_1, x6_1, x1001_1, x1002_1, Ao5_1, co5_1, rfl, rfl, HA, HK1, HO_5, _, HI5, _, _, _⟩ := hrel; have HO_7 := HO379; cases gk with
  | zero => exact absurd HA.out (by simp [spec_l6DrawSet.l0])
  | succ k1 =>
   have H := HA.out; clear HA
   simp only [spec_l6DrawSet.l0] at H
   obtain ⟨⟨t380, t381, t382⟩, A6, H⟩ := oB H; (try dsimp only at H); have H' := Aside0.mk H; clear H
   go_upto_if 11 with (first | ((with_reducible refine gate_callee (f := 150) rfl ?_); refine gK (some 10) Tryz.func150 (spec_l1Below.calls (hI := iS188 HI5) (hB := UpW.out) (w := _) (h := A6.out)) ?_; intro w7 _ _ _ HI8))
   have H := H'.out; clear H'
   by_cases c9 : x6_1 < t380
   ·
    rw [if_pos c9] at H
    have c9b0 : decide (x6_1 < t380) = true := decide_eq_true c9; clear c9
    (first | rw [c9b0] | (simp only [i64_w, i32_w]; rw [c9b0]) | skip)
    obtain ⟨⟨t383, t384, t385⟩, A10, H⟩ := oB H; (try dsimp only at H); obtain ⟨t386, A11, H⟩ := oB H; (try dsimp only at H); have H' := Aside0.mk H; clear H
    go_wp2_with (first | ((with_reducible refine gate_callee (f := 150) rfl ?_); refine gK (some 17) Tryz.func150 (spec_l1Below.calls (hI := iS188 HI8) (hB := UpW.out) (w := _) (h := A10.out)) ?_; intro w12 _ _ _ HI13) | ((with_reducible refine gate_callee (f := 207) rfl ?_); refine gC1 (some 18) Tryz.func207 (spec_SetAdd.calls (hr0 := rC HO_5) (hc0 := rL HO_5) (w := _) (h := A11.out)) ?_; intro Ao387 co387 w14 _ HO388))
    go_roundg k1
    case measure => have := HK1.out; omega
    case rel => exact ⟨(t386), (wrap64 (x6_1 + 1)), (t384), (t385), (Ao387), (co387), y0_16, y0_16, H', ⟨y0_18⟩, ⟨rJ HO388⟩, iB188 ⟨iS188 HI13⟩, ⟨iS188 HI13⟩, ⟨UpT.out⟩, ⟨UpW.out⟩, ⟨UpB.out⟩⟩
   rw [if_neg c9] at H
   have c9b0 : decide (x6_1 < t380) = false := decide_eq_false c9; clear c9
   (first | rw [c9b0] | (simp only [i64_w, i32_w]; rw [c9b0]) | skip)
   obtain ⟨⟨t389, t390, t391⟩, A15, H⟩ := oB H; (try dsimp only at H); have H' := Aside0.mk H; clear H
   go_upto_if 20 with (first | ((with_reducible refine gate_callee (f := 128) rfl ?_); refine gK (some 20) Tryz.func128 (spec_l1Once.calls (hI := iS188 HI8) (hB := UpW.out) (w := _) (h := A15.out)) ?_; intro w16 _ _ _ HI17))
   have H := H'.out; clear H'
   by_cases c18 : t389 = true
   ·
    subst c18
    rw [if_pos rfl] at H
    obtain ⟨y392, hy392⟩ : ∃ y_ : List Int, y_ = (([(-1), 0, 3, 9] : List Int)) := ⟨_, rfl⟩
    replace H : ((spec_l1PickInt.f s0_0 t390 t391 y392).bind fun bt395 => (if x5_1.length < 17592186044416 then (some ((x5_1 ++ [bt395.1]), bt395.2.1, bt395.2.2)) else (none))) = some (r1, r2, r3) := by first | (rw [hy392]; with_reducible exact H) | (have H2_ := (Option.bind_some _ _).symm.trans H; rw [hy392]; with_reducible exact H2_) | (have H2_ := (Option.bind_some _ _).symm.trans H; with_reducible exact H2_) | with_reducible exact H | (rw [hy392]; exact H) | exact H
    have Ny392 := Aside0.mk hy392; clear hy392; obtain ⟨⟨t395, t396, t397⟩, A19, H⟩ := oB H; (try dsimp only at H)
    by_cases c20 : x5_1.length < 17592186044416
    rotate_left
    ·
     rw [if_neg c20] at H
     exact absurd H (by simp)
    rw [if_pos c20] at H
    have LMc20 := Aside0.mk c20; clear c20; obtain ⟨y398, hy398⟩ : ∃ y_ : List Int, y_ = (x5_1 ++ [t395]) := ⟨_, rfl⟩
    replace H : (some (y398, t396, t397)) = some (r1, r2, r3) := by first | (rw [hy398]; with_reducible exact H) | (have H2_ := (Option.bind_some _ _).symm.trans H; rw [hy398]; with_reducible exact H2_) | (have H2_ := (Option.bind_some _ _).symm.trans H; with_reducible exact H2_) | with_reducible exact H | (rw [hy398]; exact H) | exact H
    have Ny398 := Aside0.mk hy398; clear hy398
    simp only [Option.some.injEq, Prod.mk.injEq] at H
    obtain ⟨rfl, rfl, rfl⟩ := H
    go_wp2_with (first | ((with_reducible refine gate_dst (N := 23) rfl ?_); refine lL 23 3 (Kd.int .i64) rfl Ny392 ?_; intro Ao393 co393 w21 _ HO394) | ((with_reducible refine gate_callee (f := 160) rfl ?_); refine gK (some 24) Tryz.func160 (spec_l1PickInt.calls (hI := iS188 HI17) (hB := UpW.out) (hr1 := rC HO394) (hc1 := rL HO394) (hf1 := fS HO394) (w := _) (h := A19.out)) ?_; intro w22 _ _ _ HI23) | ((with_reducible refine gate_builtin (b := .append) (xs := #[.tmp 21, .tmp 25]) rfl ?_); at_builtin; refine gA (Kd.int .i64) (.tmp 21) (.tmp 25) 25 3 (.int .i64 0) 8 t395 [.int .i64 t395] w Ny398 HO_5 rfl (by have := LMc20.out; omega) ?_ (ht := Tryz.underlying25) (hinfo := info3); intro Ao399 co399 w24 _ _ HO400))
    go_ret
    exact ⟨_, y0_16, rR HO400, iS188 HI23, UpW.out, UpB.out⟩
   replace c18 := Bool.eq_false_iff.mpr c18; subst c18
   rw [if_neg (show ¬ (false = true) by decide)] at H
   simp only [Option.some.injEq, Prod.mk.injEq] at H
   obtain ⟨rfl, rfl, rfl⟩ := H
   go_wp2
   go_ret
   exact ⟨_, y0_16, rR HO_5, iS188 HI17, UpW.out, UpB.out⟩

/-! ### spec_l7Draw: function 121 -/
def spec_l7Draw.f (k : Nat) (s0_0 : List Int) (s0_1 : Int) (s0_2 : Int) (a1_0 : Int) (a1_1 : Int) : Option (Int × ByteArray × List Int × Int × Int) := (spec_l5DrawRight.f k s0_0 s0_1 s0_2).bind fun bt403 => ((spec_l7DrawOf.f k s0_0 bt403.2.1 bt403.2.2 a1_0 a1_1 bt403.1).bind fun bt406 => ((spec_l1Below.f s0_0 bt406.2.2.2.1 bt406.2.2.2.2 12).bind fun bt414 => (if bt414.1 = 0 then (some (wrap64 (bt406.1 + 1), bt406.2.1, bt406.2.2.1, bt414.2.1, bt414.2.2)) else (if bt414.1 = 1 then ((spec_l6DrawSet.f k s0_0 bt414.2.1 bt414.2.2 7).bind fun bt417 => (some (bt406.1, bt406.2.1, bt417.1, bt417.2.1, bt417.2.2))) else (if bt414.1 = 2 then ((spec_l5Draw.f k s0_0 bt414.2.1 bt414.2.2).bind fun bt422 => (some (bt406.1, bt422.1, bt406.2.2.1, bt422.2.1, bt422.2.2))) else (some (bt406.1, bt406.2.1, bt406.2.2.1, bt414.2.1, bt414.2.2)))))))
theorem spec_l7Draw.mono : ∀ a0 a1 a2 a3 a4 k, LeO (spec_l7Draw.f k a0 a1 a2 a3 a4) (spec_l7Draw.f (k + 1) a0 a1 a2 a3 a4) := by
 intro a0 a1 a2 a3 a4 k
 unfold spec_l7Draw.f
 repeat' first | (with_reducible exact spec_l5Draw.mono _ _ _ _) | (with_reducible exact spec_l5DrawRight.mono _ _ _ _) | (with_reducible exact spec_l6DrawSet.mono _ _ _ _ _) | (with_reducible exact spec_l7DrawOf.mono _ _ _ _ _ _ _) | (with_reducible exact LeO.refl _) | (with_reducible exact LeO.none _) | (with_reducible refine LeO.ite ?_ ?_) | (with_reducible refine LeO.bind ?_ (fun _ => ?_))
def spec_l7Draw.T1 : Bool × List (List Nat × List Nat) := (true, [([], []), ([], []), ([], []), ([2], [2]), ([0, 1, 3, 3], [0, 1, 3]), ([], []), ([5, 4, 4, 0, 1, 2, 3, 4, 5], [4, 5])])
def spec_l7Draw.B1 : List Nat := [0, 0, 0, 4, 15, 0, 63]
theorem spec_l7Draw.tab1 : rtab .any (opsOf Tryz.f121 1) = spec_l7Draw.T1 := by kernel_rfl
theorem spec_l7Draw.bits1 : waitsOk spec_l7Draw.T1.2 spec_l7Draw.B1 = true := by kernel_rfl
set_option maxHeartbeats 8000000 in
set_option maxRecDepth 100000 in
theorem spec_l7Draw.calls (k : Nat) (g : Nat) (s0_0 : List Int) (s0_1 : Int) (s0_2 : Int) (a1_0 : Int) (a1_1 : Int) (r1 : Int) (r2 : ByteArray) (r3 : List Int) (r4 : Int) (r5 : Int) (w0 w : World) (hI : IsS188 w0 w g s0_0 s0_1 s0_2) (hB : Below w0.heap.size w0 w) (h : spec_l7Draw.f k s0_0 s0_1 s0_2 a1_0 a1_1 = some (r1, r2, r3, r4, r5)) :
  Calls Tryz.prog 121 #[.pointer (some ⟨g, 0, none⟩), .agg #[.int .i64 a1_0, .int .i64 a1_1]] w fun e w' => ∃ v2_ : Value, e = .returned (.agg #[.int .i64 r1, .string r2, v2_]) ∧ Kd.R (Kd.int .i64) 3 w' w.heap.size (fun _ => True) v2_ r3 ∧ IsS188 w0 w' g s0_0 r4 r5 ∧ Below w0.heap.size w0 w' ∧ KeepBut w w' g none := by
 have hu32 := Tryz.underlying32; have hu27 := Tryz.underlying27; have HI0 := Aside0.mk hI; have HK := Aside0.mk (KeepBut.refl w g none); have HL := Aside0.mk hB.size; clear hI; have HW0 := Aside0.mk hB.size; have HB := Aside0.mk hB; clear hB
 have H := h; unfold spec_l7Draw.f at H
 clear h; obtain ⟨⟨t403, t404, t405⟩, A3, H⟩ := oB H; (try dsimp only at H); obtain ⟨⟨t406, t407, t408, t411, t412⟩, A4, H⟩ := oB H; (try dsimp only at H); obtain ⟨⟨t414, t415, t416⟩, A5, H⟩ := oB H; (try dsimp only at H); have i0_ := iB188 HI0; have i1_ : LB w0 w := ⟨HB.out⟩
 go_enter Tryz.func121, Tryz.ntmps121
 have H' := Aside0.mk H; clear H
 try go_wp2_with (first | ((with_reducible refine gd 3 ?_); refine bL 3 #[.int .i64 a1_0, .int .i64 a1_1] 32 ?_; intro gb401 w6 _ _ _) | ((with_reducible refine gd 4 ?_); refine bL 4 #[.int .i64 0, .string (⟨#[]⟩ : ByteArray), .slice none 0 0] 27 ?_; intro gb402 w7 _ _ _))
 refine sB [g] spec_l7Draw.tab1 spec_l7Draw.bits1 ?_; intro w8 _ HT_ HW_
 refine pA 0 (some 6) (bz 7 1) HT_ ?_
 refine tB 1 (some 7) (bz 7 3) HT_ HW_ ?_
 refine pA 2 (some 8) (bz 7 7) HT_ ?_
 refine join_ (σ := Option Addr × Nat × Nat) 1 (bz 7 63) (fun s_ => [(9, .string t403), (10, .agg #[.int .i64 t406, .string t407, .slice s_.1 t408.length s_.2.1]), (5, .pointer (some ⟨s_.2.2, 0, none⟩))]) (fun s_ w' => Aside0 (Kd.R (Kd.int .i64) 3 w' w8.heap.size (iv w8 w') (.slice s_.1 t408.length s_.2.1) t408) ∧ BkI (s_.2.2) w' #[.int .i64 0, .string (⟨#[]⟩ : ByteArray), .slice none 0 0] 27 ∧ BornI (s_.2.2) w8 ∧ StB g w' 188 ∧ Aside0 (IsS188 w0 w' g s0_0 t411 t412) ∧ KL w8 [g] w' ∧ LB w0 w' ∧ KS w g w') ?_ ?_
 rotate_left
 ·
  intro hCont
  refine o2 3 5 (some 9) (some 5) (bz 7 15) (bz 7 39) HT_ rfl rfl (kK Tryz.func152 (spec_l5DrawRight.calls (hI := iS188 HI0) (hB := UpW.out) (w := _) (h := A3.out)) ?_) (kB #[.int .i64 0, .string (⟨#[]⟩ : ByteArray), .slice none 0 0] 27 ?_)
  ·
   intro w9 _ _ _ HI10
   refine nA (some 9) ?_
   refine o2 4 5 (some 10) (some 5) (bz 7 31) (bz 7 47) HT_ rfl rfl (kK1 Tryz.func189 (spec_l7DrawOf.calls (hI := iS188 HI10) (hB := UpW.out) (w := _) (h := A4.out)) ?_) (kB #[.int .i64 0, .string (⟨#[]⟩ : ByteArray), .slice none 0 0] 27 ?_)
   ·
    intro Ao409 co409 w12 _ _ _ HI13 HO410
    refine nA (some 10) ?_
    refine o1 5 (some 5) (bz 7 63) HT_ rfl (kB #[.int .i64 0, .string (⟨#[]⟩ : ByteArray), .slice none 0 0] 27 ?_); intro gb413 w15 _ _ _
    refine nA (some 5) ?_
    exact hJ (hCont (Ao409, co409, gb413) _ ⟨⟨rJ HO410⟩, ⟨xB⟩, ⟨GeI.out⟩, iB188 ⟨iS188 HI13⟩, ⟨iS188 HI13⟩, ⟨UpL.out⟩, ⟨UpW.out⟩, ⟨UpB.out⟩⟩)
   intro gb413 w14 _ _ _
   refine nA (some 5) ?_
   refine o1 4 (some 10) (bz 7 63) HT_ rfl (kK1 Tryz.func189 (spec_l7DrawOf.calls (hI := iS188 HI10) (hB := UpW.out) (w := _) (h := A4.out)) ?_); intro Ao409 co409 w16 _ _ _ HI17 HO410
   refine nA (some 10) ?_
   exact hJ (hCont (Ao409, co409, gb413) _ ⟨⟨rJ HO410⟩, ⟨xB⟩, ⟨GeI.out⟩, iB188 ⟨iS188 HI17⟩, ⟨iS188 HI17⟩, ⟨UpL.out⟩, ⟨UpW.out⟩, ⟨UpB.out⟩⟩)
  intro gb413 w11 _ _ _
  refine nA (some 5) ?_
  refine o1 3 (some 9) (bz 7 47) HT_ rfl (kK Tryz.func152 (spec_l5DrawRight.calls (hI := iS188 HI0) (hB := UpW.out) (w := _) (h := A3.out)) ?_); intro w18 _ _ _ HI19
  refine nA (some 9) ?_
  refine o1 4 (some 10) (bz 7 63) HT_ rfl (kK1 Tryz.func189 (spec_l7DrawOf.calls (hI := iS188 HI19) (hB := UpW.out) (w := _) (h := A4.out)) ?_); intro Ao409 co409 w20 _ _ _ HI21 HO410
  refine nA (some 10) ?_
  exact hJ (hCont (Ao409, co409, gb413) _ ⟨⟨rJ HO410⟩, ⟨xB⟩, ⟨GeI.out⟩, iB188 ⟨iS188 HI21⟩, ⟨iS188 HI21⟩, ⟨UpL.out⟩, ⟨UpW.out⟩, ⟨UpB.out⟩⟩)
 rintro ⟨Ao409, co409, gb413⟩ w22 ⟨HO410, _, _, _, HI23, _, _, _⟩
 refine nP ?_
 refine o1 6 none (bz 7 127) HT_ rfl (kS ?_)
 refine done_ (done_of HT_.out (by kernel_rfl)) ?_
 go_upto_if 13 with (first | ((with_reducible refine gate_callee (f := 150) rfl ?_); refine gK (some 12) Tryz.func150 (spec_l1Below.calls (hI := iS188 HI23) (hB := UpW.out) (w := _) (h := A5.out)) ?_; intro w24 _ _ _ HI25))
 have H := H'.out; clear H'
 by_cases c26 : t414 = 0
 ·
  rw [if_pos c26] at H
  have c26b0 : (t414 == 0) = true := beq_iff_eq.mpr c26; have c26b1 : (t414 != 0) = false := bne_eq_false_iff_eq.mpr c26; clear c26
  (first | rw [c26b0] | (simp only [i64_w, i32_w]; rw [c26b0]) | skip)
  simp only [Option.some.injEq, Prod.mk.injEq] at H
  obtain ⟨rfl, rfl, rfl, rfl, rfl⟩ := H
  go_wp2
  refine bodyPost_ret (results_cell_row rfl _ _ gb402 27 #[.int .i64 (wrap64 (t406 + 1)), .string t407, .slice Ao409 t408.length co409] (0, 0) _ rfl xB Tryz.underlying27 rfl (by kernel_rfl)) rfl ?_
  exact ⟨_, y0_16, rR HO410, iS188 HI25, UpW.out, UpB.out⟩
 rw [if_neg c26] at H
 have c26b0 : (t414 == 0) = false := beq_eq_false_iff_ne.mpr c26; have c26b1 : (t414 != 0) = true := bne_iff_ne.mpr c26
 (first | rw [c26b0] | (simp only [i64_w, i32_w]; rw [c26b0]) | skip)
 by_cases c27 : t414 = 1
 ·
  rw [if_pos c27] at H
  have c27b0 : (t414 == 1) = true := beq_iff_eq.mpr c27; have c27b1 : (t414 != 1) = false := bne_eq_false_iff_eq.mpr c27; clear c27; obtain ⟨⟨t417, t420, t421⟩, A28, H⟩ := oB H; (try dsimp only at H)
  simp only [Option.some.injEq, Prod.mk.injEq] at H
  obtain ⟨rfl, rfl, rfl, rfl, rfl⟩ := H
  go_wp2_with (first | ((with_reducible refine gate_callee (f := 190) rfl ?_); refine gK1 (some 22) Tryz.func190 (spec_l6DrawSet.calls (hI := iS188 HI25) (hB := UpW.out) (w := _) (h := A28.out)) ?_; intro Ao418 co418 w29 _ _ _ HI30 HO419))
  refine bodyPost_ret (results_cell_row rfl _ _ gb402 27 #[.int .i64 t406, .string t407, .slice Ao418 t417.length co418] (0, 0) _ rfl xB Tryz.underlying27 rfl (by kernel_rfl)) rfl ?_
  exact ⟨_, y0_16, rR HO419, iS188 HI30, UpW.out, UpB.out⟩
 rw [if_neg c27] at H
 have c27b0 : (t414 == 1) = false := beq_eq_false_iff_ne.mpr c27; have c27b1 : (t414 != 1) = true := bne_iff_ne.mpr c27
 by_cases c31 : t414 = 2
 ·
  rw [if_pos c31] at H
  have c31b0 : (t414 == 2) = true := beq_iff_eq.mpr c31; have c31b1 : (t414 != 2) = false := bne_eq_false_iff_eq.mpr c31; clear c31; obtain ⟨⟨t422, t423, t424⟩, A32, H⟩ := oB H; (try dsimp only at H)
  simp only [Option.some.injEq, Prod.mk.injEq] at H
  obtain ⟨rfl, rfl, rfl, rfl, rfl⟩ := H
  go_wp2_with (first | ((with_reducible refine gate_callee (f := 129) rfl ?_); refine gK (some 27) Tryz.func129 (spec_l5Draw.calls (hI := iS188 HI25) (hB := UpW.out) (w := _) (h := A32.out)) ?_; intro w33 _ _ _ HI34))
  refine bodyPost_ret (results_cell_row rfl _ _ gb402 27 #[.int .i64 t406, .string t422, .slice Ao409 t408.length co409] (0, 0) _ rfl xB Tryz.underlying27 rfl (by kernel_rfl)) rfl ?_
  exact ⟨_, y0_16, rR HO410, iS188 HI34, UpW.out, UpB.out⟩
 rw [if_neg c31] at H
 have c31b0 : (t414 == 2) = false := beq_eq_false_iff_ne.mpr c31; have c31b1 : (t414 != 2) = true := bne_iff_ne.mpr c31
 simp only [Option.some.injEq, Prod.mk.injEq] at H
 obtain ⟨rfl, rfl, rfl, rfl, rfl⟩ := H
 go_wp2
 refine bodyPost_ret (results_cell_row rfl _ _ gb402 27 #[.int .i64 t406, .string t407, .slice Ao409 t408.length co409] (0, 0) _ rfl xB Tryz.underlying27 rfl (by kernel_rfl)) rfl ?_
 exact ⟨_, y0_16, rR HO410, iS188 HI25, UpW.out, UpB.out⟩

/-! ### spec_l7Copy: function 164 -/
def spec_l7Copy.f (a0_0 : Int) (a0_1 : ByteArray) (l0_2 : List Int) : Option (Int × ByteArray × List Int) := (some (([] : List Int) : List Int)).bind fun y427 => (if y427.length + l0_2.length < 17592186044416 then (some (a0_0, a0_1, (y427 ++ l0_2))) else (none))
set_option maxHeartbeats 8000000 in
set_option maxRecDepth 100000 in
theorem spec_l7Copy.calls (a0_0 : Int) (a0_1 : ByteArray) (A0_2 : Option Addr) (c0_2 : Nat) (l0_2 : List Int) (r1 : Int) (r2 : ByteArray) (r3 : List Int) (w : World) (hr0_2 : Kd.C (Kd.int .i64) w A0_2 l0_2.length l0_2) (hc0_2 : l0_2.length ≤ c0_2) (h : spec_l7Copy.f a0_0 a0_1 l0_2 = some (r1, r2, r3)) :
  Calls Tryz.prog 164 #[.agg #[.int .i64 a0_0, .string a0_1, .slice A0_2 l0_2.length c0_2]] w fun e w' => ∃ v2_ : Value, e = .returned (.agg #[.int .i64 r1, .string r2, v2_]) ∧ Kd.R (Kd.int .i64) 3 w' w.heap.size (fun _ => True) v2_ r3 ∧ Below w.heap.size w w' := by
 have hu27 := Tryz.underlying27; have HR0_2 := Aside0.mk hr0_2; have HC0_2 := Aside0.mk hc0_2; clear hr0_2 hc0_2; have HB := Aside0.mk (Below.refl w.heap.size w)
 have H := h; unfold spec_l7Copy.f at H
 clear h; obtain ⟨y427, hy427⟩ : ∃ y_ : List Int, y_ = (([] : List Int)) := ⟨_, rfl⟩
 replace H : (if y427.length + l0_2.length < 17592186044416 then (some (a0_0, a0_1, (y427 ++ l0_2))) else (none)) = some (r1, r2, r3) := by first | (rw [hy427]; with_reducible exact H) | (have H2_ := (Option.bind_some _ _).symm.trans H; rw [hy427]; with_reducible exact H2_) | (have H2_ := (Option.bind_some _ _).symm.trans H; with_reducible exact H2_) | with_reducible exact H | (rw [hy427]; exact H) | exact H
 have Ny427 := Aside0.mk hy427; clear hy427
 by_cases c2 : y427.length + l0_2.length < 17592186044416
 ·
  rw [if_pos c2] at H
  have LMc2 := Aside0.mk c2; clear c2; obtain ⟨y430, hy430⟩ : ∃ y_ : List Int, y_ = (y427 ++ l0_2) := ⟨_, rfl⟩
  replace H : (some (a0_0, a0_1, y430)) = some (r1, r2, r3) := by first | (rw [hy430]; with_reducible exact H) | (have H2_ := (Option.bind_some _ _).symm.trans H; rw [hy430]; with_reducible exact H2_) | (have H2_ := (Option.bind_some _ _).symm.trans H; with_reducible exact H2_) | with_reducible exact H | (rw [hy430]; exact H) | exact H
  have Ny430 := Aside0.mk hy430; clear hy430
  simp only [Option.some.injEq, Prod.mk.injEq] at H
  obtain ⟨rfl, rfl, rfl⟩ := H
  go_enter Tryz.func164, Tryz.ntmps164
  go_wp2_with (first | ((with_reducible refine gd 1 ?_); refine bA 1 #[.int .i64 a0_0, .string a0_1, .slice A0_2 l0_2.length c0_2] 27 ?_; intro gb425 hg w3 hbox hb; have BK425 := Aside0.mk (hbox); have GW425 := bg hg HB; have GJ425 := gi GW425; have GE425 := GW425; replace HB := bs HB hb; clear hb hbox hg) | ((with_reducible refine gd 2 ?_); refine bA 2 #[.int .i64 0, .string (⟨#[]⟩ : ByteArray), .slice none 0 0] 27 ?_; intro gb426 hg w4 hbox hb; have BK426 := Aside0.mk (hbox); have GW426 := bg hg HB; have GJ426 := gi GW426; have GE426 := GW426; replace HB := bs HB hb; have NB425_426 := b1 BK425 hg; have NI425_426 := ni NB425_426; have NB426_425 := b2 BK425 hg; have NI426_425 := ni NB426_425; replace BK425 := bk BK425 hb; clear hb hbox hg) | ((with_reducible refine gate_dst (N := 3) rfl ?_); refine Kd.R_lit (Kd.int .i64) _ 3 ?hg (N := 3) ?hd (xs := ([] : List Int)) (inner := []) (ok := fun _ => True) (okp := fun _ => True) ?hr ?hp (fun _ hk => hk) trivial (Below.refl _ _) (Nat.le_refl _) (by simp) ?_; (case hd => rfl); (case hg => rfl); (case hr => first | (go_simp; done) | (go_simp; rfl)); (case hp => exact (Reps.none _ _)); intro v428 w5 ho6 hb hg_ hnew_; clear hg_ hnew_; (first | rw [← Ny427.out] at ho6 | (simp only [Int.reduceToNat] at ho6; rw [← Ny427.out] at ho6)); have HO429 := Aside0.mk (Kd.R_lower ho6 (below_size (bI HB.out))); replace BK425 := bk BK425 hb; replace BK426 := bk BK426 hb; replace HB := bs HB hb; clear hb ho6; have hnb7 := NB425_426.out; have hnc7 := NB426_425.out; obtain ⟨hcz8_0, hcz8_1, hcz8_2, hfz8_0, hfz8_1, hfz8_2⟩ := cs3 BK425) | ((with_reducible refine gate_builtin (b := .append) (xs := #[.tmp 3, .tmp 5]) rfl ?_); at_builtin; refine Kd.R_append_rows (Kd.int .i64) (w0 := w) w.heap.size rfl (.tmp 3) (.tmp 5) 25 3 (.int .i64 0) 8 rfl Tryz.underlying25 info3 rfl (by decide) (by omega) v428 y427 l0_2 _ _ _ (fun _ => True) (fun _ => False) rfl rfl ?aO ?aR (fun _ _ h => h) (fun _ h => h.elim) ?aF ?aB ?aS ?aL ?_; (case aR => exact ch HR0_2 HB); (case aB => exact (bI HB.out)); (case aF => exact (fun _ _ => trivial)); (case aO => exact (rI HO429.out)); (case aS => exact (below_size (bI HB.out))); (case aL => have := LMc2.out; omega); intro v431 w9 ho hb hg hat; rw [← Ny430.out] at ho; have n0_ := bn BK425 hg (Kd.R_ne HO429.out BK425.out (by decide)); have n1_ := bn BK426 hg (Kd.R_ne HO429.out BK426.out (by decide)); have n2_ := Aside0.mk (hb); have n3_ := Aside0.mk (ho); clear BK425; clear BK426; clear HB; clear HO429; have BK425 := n0_; have BK426 := n1_; have HB := n2_; have HO432 := n3_; clear n0_ n1_ n2_ n3_; clear ho hb hg hat; obtain ⟨Ao10, co10, eo10⟩ := Kd.R_slice HO432.out; subst eo10; obtain ⟨hcz11_0, hcz11_1, hcz11_2, hfz11_0, hfz11_1, hfz11_2⟩ := cs3 BK425; obtain ⟨hcz12_0, hcz12_1, hcz12_2, hfz12_0, hfz12_1, hfz12_2⟩ := cs3 BK426))
  refine bodyPost_ret (results_cell_row rfl _ _ gb426 27 #[.int .i64 a0_0, .string a0_1, .slice Ao10 y430.length co10] (0, 0) _ rfl (pI BK426) Tryz.underlying27 rfl (by kernel_rfl)) rfl ?_
  exact ⟨_, y0_11, by (with_reducible repeat (first | apply Kd.R_alloc | apply Kd.R_drewN | apply Kd.R_drew)); exact Kd.R_mono (Kd.R_far (p := ⟨gb426, 2, none⟩) (Kd.R_far (p := ⟨gb426, 1, none⟩) (Kd.R_far (p := ⟨gb426, 0, none⟩) (Kd.R_far (p := ⟨gb425, 2, none⟩) (Kd.R_types (Kd.R_types HO432.out BK425.out (by decide)) BK426.out (by decide)) (fun _ hk => hk.1.2) (.slice Ao10 y430.length co10)) (fun _ hk => hk.2) (.int .i64 a0_0)) (fun _ hk => hk.2) (.string a0_1)) (fun _ hk => hk.2) (.slice Ao10 y430.length co10)) (fun _ hk => trivial), bI HB.out⟩
 rw [if_neg c2] at H
 exact absurd H (by simp)

/-! ### spec_l11Copy: function 125 -/
def spec_l11Copy.f (a0_0 : Int) (a0_1 : Int) (a0_2 : Int) (a0_3 : ByteArray) (l0_4 : List Int) (a0_5 : ByteArray) : Option (Int × Int × Int × ByteArray × List Int × ByteArray) := (spec_l7Copy.f a0_2 a0_3 l0_4).bind fun bt435 => (some (a0_0, a0_1, bt435.1, bt435.2.1, bt435.2.2, a0_5))
set_option maxHeartbeats 8000000 in
set_option maxRecDepth 100000 in
theorem spec_l11Copy.calls (a0_0 : Int) (a0_1 : Int) (a0_2 : Int) (a0_3 : ByteArray) (A0_4 : Option Addr) (c0_4 : Nat) (l0_4 : List Int) (a0_5 : ByteArray) (r1 : Int) (r2 : Int) (r3 : Int) (r4 : ByteArray) (r5 : List Int) (r6 : ByteArray) (w : World) (hr0_4 : Kd.C (Kd.int .i64) w A0_4 l0_4.length l0_4) (hc0_4 : l0_4.length ≤ c0_4) (h : spec_l11Copy.f a0_0 a0_1 a0_2 a0_3 l0_4 a0_5 = some (r1, r2, r3, r4, r5, r6)) :
  Calls Tryz.prog 125 #[.agg #[.int .i64 a0_0, .int .i64 a0_1, .int .i64 a0_2, .string a0_3, .slice A0_4 l0_4.length c0_4, .string a0_5]] w fun e w' => ∃ v4_ : Value, e = .returned (.agg #[.int .i64 r1, .int .i64 r2, .int .i64 r3, .string r4, v4_, .string r6]) ∧ Kd.R (Kd.int .i64) 3 w' w.heap.size (fun _ => True) v4_ r5 ∧ Below w.heap.size w w' := by
 have hu29 := Tryz.underlying29; have hu27 := Tryz.underlying27; have HR0_4 := Aside0.mk hr0_4; have HC0_4 := Aside0.mk hc0_4; clear hr0_4 hc0_4; have HB := Aside0.mk (Below.refl w.heap.size w)
 have H := h; unfold spec_l11Copy.f at H
 clear h; obtain ⟨⟨t435, t436, t437⟩, A2, H⟩ := oB H; (try dsimp only at H)
 simp only [Option.some.injEq, Prod.mk.injEq] at H
 obtain ⟨rfl, rfl, rfl, rfl, rfl, rfl⟩ := H
 go_enter Tryz.func125, Tryz.ntmps125
 go_wp2_with (first | ((with_reducible refine gd 1 ?_); refine bL 1 #[.int .i64 a0_0, .int .i64 a0_1, .int .i64 a0_2, .string a0_3, .slice A0_4 l0_4.length c0_4, .string a0_5] 29 ?_; intro gb433 w3 _ _ _) | ((with_reducible refine gd 2 ?_); refine bL 2 #[.int .i64 0, .int .i64 0, .int .i64 0, .string (⟨#[]⟩ : ByteArray), .slice none 0 0, .string (⟨#[]⟩ : ByteArray)] 29 ?_; intro gb434 w4 _ _ _) | ((with_reducible refine gate_callee (f := 164) rfl ?_); refine gC1 (some 5) Tryz.func164 (spec_l7Copy.calls (hr0_2 := pC HR0_4) (hc0_2 := HC0_4.out) (w := _) (h := A2.out)) ?_; intro Ao438 co438 w5 _ HO439))
 refine bodyPost_ret (results_cell_row rfl _ _ gb434 29 #[.int .i64 a0_0, .int .i64 a0_1, .int .i64 t435, .string t436, .slice Ao438 t437.length co438, .string a0_5] (0, 0) _ rfl xB Tryz.underlying29 rfl (by kernel_rfl)) rfl ?_
 exact ⟨_, y0_16, rR HO439, UpW.out⟩

/-! ### spec_ConfOk: function 156 -/
def spec_ConfOk.f (a0_0 : Int) (a0_1 : Int) : Option (Bool) := (spec_l1In.f a0_0 4 7).bind fun t441 => (if t441 = true then ((spec_l1In.f a0_1 1 6).bind fun t442 => (some t442)) else (some false))
set_option maxHeartbeats 8000000 in
set_option maxRecDepth 100000 in
theorem spec_ConfOk.calls (a0_0 : Int) (a0_1 : Int) (r : Bool) (w : World) (h : spec_ConfOk.f a0_0 a0_1 = some r) :
  Calls Tryz.prog 156 #[.agg #[.int .i64 a0_0, .int .i64 a0_1]] w fun e w' => e = .returned (.bool r) ∧ Below w.heap.size w w' := by
 have hu32 := Tryz.underlying32; have HB := Aside0.mk (Below.refl w.heap.size w)
 have H := h; unfold spec_ConfOk.f at H
 clear h
 go_enter Tryz.func156, Tryz.ntmps156
 have H' := Aside0.mk H; clear H
 go_upto_region 1 with (first | ((with_reducible refine gd 1 ?_); refine bL 1 #[.int .i64 a0_0, .int .i64 a0_1] 32 ?_; intro gb440 w2 _ _ _))
 have H := H'.out; clear H'; obtain ⟨t441, A3, H⟩ := oB H; (try dsimp only at H)
 by_cases c4 : t441 = true
 ·
  subst c4
  rw [if_pos rfl] at H
  obtain ⟨t442, A5, H⟩ := oB H; (try dsimp only at H); obtain rfl := Option.some.inj H
  go_wp2_with (first | ((with_reducible refine gate_callee (f := 140) rfl ?_); refine gD (some 5) Tryz.func140 (spec_l1In.calls (w := _) (h := A3.out)) ?_; intro w6 _) | (go_at_call 140; refine aD (spec_l1In.calls (w := _) (h := A5.out)) ?_; intro w7 _))
  go_ret
  exact ⟨y0_16, UpW.out⟩
 replace c4 := Bool.eq_false_iff.mpr c4; subst c4
 rw [if_neg (show ¬ (false = true) by decide)] at H
 obtain rfl := Option.some.inj H
 go_wp2_with (first | ((with_reducible refine gate_callee (f := 140) rfl ?_); refine gD (some 5) Tryz.func140 (spec_l1In.calls (w := _) (h := A3.out)) ?_; intro w8 _))
 go_ret
 exact ⟨y0_16, UpW.out⟩

/-! ### spec_SetOk: function 157 -/
def spec_SetOk.l0 : Nat → Int → List Int → Int → Option (Bool)
 | 0, _, _, _ => none
 | k + 1, x0, x1, x5 => if x5 < (x1.length : Int) then (if 0 ≤ x5 then (if (rd x1 x5) < 0 then (some false) else (if (rd x1 x5) ≥ x0 then (some false) else (if x5 > 0 then (if 0 ≤ (wrap64 (x5 - 1)) then (if (wrap64 (x5 - 1)) < (x1.length : Int) then (if (rd x1 (wrap64 (x5 - 1))) ≥ (rd x1 x5) then (some false) else (spec_SetOk.l0 k x0 x1 (wrap64 (x5 + 1)))) else (none)) else (none)) else (spec_SetOk.l0 k x0 x1 (wrap64 (x5 + 1)))))) else (none)) else (some true)
def spec_SetOk.f (k : Nat) (a0 : Int) (l1 : List Int) : Option (Bool) := spec_SetOk.l0 k a0 l1 0
theorem spec_SetOk.mono_l : ∀ k, (∀ y0 y1 y2, LeO (spec_SetOk.l0 k y0 y1 y2) (spec_SetOk.l0 (k + 1) y0 y1 y2))
 | 0 => fun _ _ _ r h => by simp [spec_SetOk.l0] at h
 | k + 1 => by
  have ih0 := spec_SetOk.mono_l k
  intro y0 y1 y2
  unfold spec_SetOk.l0
  repeat' first | (with_reducible exact ih0 _ _ _) | (with_reducible exact LeO.refl _) | (with_reducible exact LeO.none _) | (with_reducible refine LeO.ite ?_ ?_) | (with_reducible refine LeO.bind ?_ (fun _ => ?_))
theorem spec_SetOk.mono : ∀ a0 a1 k, LeO (spec_SetOk.f k a0 a1) (spec_SetOk.f (k + 1) a0 a1) := by
 intro a0 a1 k
 have ih0 := spec_SetOk.mono_l k
 unfold spec_SetOk.f
 repeat' first | (with_reducible exact ih0 _ _ _) | (with_reducible exact LeO.refl _) | (with_reducible exact LeO.none _) | (with_reducible refine LeO.ite ?_ ?_) | (with_reducible refine LeO.bind ?_ (fun _ => ?_))
set_option maxHeartbeats 8000000 in
set_option maxRecDepth 100000 in
theorem spec_SetOk.calls (k : Nat) (a0 : Int) (A1 : Option Addr) (c1 : Nat) (l1 : List Int) (r : Bool) (w : World) (hr1 : Kd.C (Kd.int .i64) w A1 l1.length l1) (hc1 : l1.length ≤ c1) (h : spec_SetOk.f k a0 l1 = some r) :
  Calls Tryz.prog 157 #[.int .i64 a0, .slice A1 l1.length c1] w fun e w' => e = .returned (.bool r) ∧ Drawn0 w w' := by
 have HR1 := Aside0.mk hr1; have HC1 := Aside0.mk hc1; clear hr1 hc1; have H := h; unfold spec_SetOk.f at H; clear h; have H' := Aside0.mk H; clear H
 go_enter Tryz.func157, Tryz.ntmps157
 go_wp2
 repeat (go_quiet (fail); try go_wp2)
 go_loopg [5] k (fun kq v5 w' => ∃ (x5_1 : Int), v5 = .int .i64 x5_1 ∧ Aside0 (spec_SetOk.l0 kq a0 l1 x5_1 = some r) ∧ Aside0 (kq ≤ k) ∧ Drawn0 w w')
 case atStart => exact ⟨(0), y0_16, H', ⟨Nat.le_refl _⟩, y0_14⟩
 case round =>
  clear H'
  try clear c1
  try clear p2
  obtain ⟨x5_1, rfl, HA, HK1, ⟨m1, rfl⟩⟩ := hrel; cases gk with
  | zero => exact absurd HA.out (by simp [spec_SetOk.l0])
  | succ k1 =>
   have H := HA.out; clear HA
   simp only [spec_SetOk.l0] at H
   by_cases c3 : x5_1 < (l1.length : Int)
   ·
    rw [if_pos c3] at H
    have c3b0 : decide (x5_1 < (l1.length : Int)) = true := decide_eq_true c3; clear c3
    by_cases c4 : 0 ≤ x5_1
    rotate_left
    ·
     rw [if_neg c4] at H
     exact absurd H (by simp)
    rw [if_pos c4] at H
    have c4b0 : decide (0 ≤ x5_1) = true := decide_eq_true c4; clear c4
    by_cases c5 : (rd l1 x5_1) < 0
    ·
     rw [if_pos c5] at H
     have c5b0 : decide ((rd l1 x5_1) < 0) = true := decide_eq_true c5; clear c5; obtain rfl := Option.some.inj H; have p443 : 0 ≤ (x5_1 : Int) := of_decide_eq_true y0_15; have q443 : x5_1 < (l1.length : Int) := of_decide_eq_true y0_15; obtain ⟨ad443, e443, hx443_0⟩ := Kd.at_int HR1.out x5_1 p443 q443; cases e443; replace p443 := eq_true p443; replace q443 := eq_true q443
     go_wp2
     repeat (go_quiet (fail); try go_wp2)
     go_ret
     exact ⟨y0_16, y0_14⟩
    rw [if_neg c5] at H
    have c5b0 : decide ((rd l1 x5_1) < 0) = false := decide_eq_false c5; clear c5
    by_cases c6 : (rd l1 x5_1) ≥ a0
    ·
     rw [if_pos c6] at H
     have c6b0 : decide (a0 ≤ (rd l1 x5_1)) = true := decide_eq_true c6; clear c6; obtain rfl := Option.some.inj H; have p443 : 0 ≤ (x5_1 : Int) := of_decide_eq_true y0_15; have q443 : x5_1 < (l1.length : Int) := of_decide_eq_true y0_15; obtain ⟨ad443, e443, hx443_0⟩ := Kd.at_int HR1.out x5_1 p443 q443; cases e443; replace p443 := eq_true p443; replace q443 := eq_true q443; have p444 : 0 ≤ (x5_1 : Int) := of_decide_eq_true y0_15; have q444 : x5_1 < (l1.length : Int) := of_decide_eq_true y0_15; obtain ⟨ad444, e444, hx444_0⟩ := Kd.at_int HR1.out x5_1 p444 q444
     obtain rfl : ad443 = ad444 := (by injection e444)
     replace p444 := eq_true p444; replace q444 := eq_true q444
     go_wp2
     repeat (go_quiet (fail); try go_wp2)
     go_ret
     exact ⟨y0_16, y0_14⟩
    rw [if_neg c6] at H
    have c6b0 : decide (a0 ≤ (rd l1 x5_1)) = false := decide_eq_false c6; clear c6
    by_cases c7 : x5_1 > 0
    ·
     rw [if_pos c7] at H
     have c7b0 : decide (0 < x5_1) = true := decide_eq_true c7; clear c7; obtain ⟨ji8, hji8⟩ : ∃ j_ : Int, (wrap64 (x5_1 - 1)) = j_ := ⟨_, rfl⟩
     replace H : (if 0 ≤ (ji8) then (if (ji8) < (l1.length : Int) then (if (rd l1 (ji8)) ≥ (rd l1 x5_1) then (some false) else (spec_SetOk.l0 k1 a0 l1 (wrap64 (x5_1 + 1)))) else (none)) else (none)) = some r := by first | (rw [hji8] at H; exact H) | (simp only [hji8] at H ⊢; exact H)
     have hji8w : (IntKind.i64.wrap (x5_1 - 1)) = ji8 := (i64_w _).trans hji8
     by_cases c9 : 0 ≤ (ji8)
     rotate_left
     ·
      rw [if_neg c9] at H
      exact absurd H (by simp)
     rw [if_pos c9] at H
     have c9b0 : decide (0 ≤ (ji8)) = true := decide_eq_true c9; clear c9
     by_cases c10 : (ji8) < (l1.length : Int)
     rotate_left
     ·
      rw [if_neg c10] at H
      exact absurd H (by simp)
     rw [if_pos c10] at H
     have c10b0 : decide ((ji8) < (l1.length : Int)) = true := decide_eq_true c10; clear c10
     by_cases c11 : (rd l1 (ji8)) ≥ (rd l1 x5_1)
     ·
      rw [if_pos c11] at H
      have c11b0 : decide ((rd l1 x5_1) ≤ (rd l1 (ji8))) = true := decide_eq_true c11; clear c11; obtain rfl := Option.some.inj H; have p443 : 0 ≤ (x5_1 : Int) := of_decide_eq_true y0_15; have q443 : x5_1 < (l1.length : Int) := of_decide_eq_true y0_15; obtain ⟨ad443, e443, hx443_0⟩ := Kd.at_int HR1.out x5_1 p443 q443; cases e443; replace p443 := eq_true p443; replace q443 := eq_true q443; have p444 : 0 ≤ (x5_1 : Int) := of_decide_eq_true y0_15; have q444 : x5_1 < (l1.length : Int) := of_decide_eq_true y0_15; obtain ⟨ad444, e444, hx444_0⟩ := Kd.at_int HR1.out x5_1 p444 q444
      obtain rfl : ad443 = ad444 := (by injection e444)
      replace p444 := eq_true p444; replace q444 := eq_true q444; have p445 : 0 ≤ ((ji8) : Int) := of_decide_eq_true y0_15; have q445 : (ji8) < (l1.length : Int) := of_decide_eq_true y0_15; obtain ⟨ad445, e445, hx445_0⟩ := Kd.at_int HR1.out (ji8) p445 q445
      obtain rfl : ad443 = ad445 := (by injection e445)
      replace p445 := eq_true p445; replace q445 := eq_true q445; have p446 : 0 ≤ (x5_1 : Int) := of_decide_eq_true y0_15; have q446 : x5_1 < (l1.length : Int) := of_decide_eq_true y0_15; obtain ⟨ad446, e446, hx446_0⟩ := Kd.at_int HR1.out x5_1 p446 q446
      obtain rfl : ad443 = ad446 := (by injection e446)
      replace p446 := eq_true p446; replace q446 := eq_true q446
      go_wp2
      repeat (go_quiet (fail); try go_wp2)
      go_ret
      exact ⟨by first | rfl | (simp; done) | (simp only [← hji8] <;> (first | rfl | simp)) | (simp [*]; done), y0_14⟩
     rw [if_neg c11] at H
     have c11b0 : decide ((rd l1 x5_1) ≤ (rd l1 (ji8))) = false := decide_eq_false c11; clear c11; have H' := Aside0.mk H; clear H; have p443 : 0 ≤ (x5_1 : Int) := of_decide_eq_true y0_15; have q443 : x5_1 < (l1.length : Int) := of_decide_eq_true y0_15; obtain ⟨ad443, e443, hx443_0⟩ := Kd.at_int HR1.out x5_1 p443 q443; cases e443; replace p443 := eq_true p443; replace q443 := eq_true q443; have p444 : 0 ≤ (x5_1 : Int) := of_decide_eq_true y0_15; have q444 : x5_1 < (l1.length : Int) := of_decide_eq_true y0_15; obtain ⟨ad444, e444, hx444_0⟩ := Kd.at_int HR1.out x5_1 p444 q444
     obtain rfl : ad443 = ad444 := (by injection e444)
     replace p444 := eq_true p444; replace q444 := eq_true q444; have p445 : 0 ≤ ((ji8) : Int) := of_decide_eq_true y0_15; have q445 : (ji8) < (l1.length : Int) := of_decide_eq_true y0_15; obtain ⟨ad445, e445, hx445_0⟩ := Kd.at_int HR1.out (ji8) p445 q445
     obtain rfl : ad443 = ad445 := (by injection e445)
     replace p445 := eq_true p445; replace q445 := eq_true q445; have p446 : 0 ≤ (x5_1 : Int) := of_decide_eq_true y0_15; have q446 : x5_1 < (l1.length : Int) := of_decide_eq_true y0_15; obtain ⟨ad446, e446, hx446_0⟩ := Kd.at_int HR1.out x5_1 p446 q446
     obtain rfl : ad443 = ad446 := (by injection e446)
     replace p446 := eq_true p446; replace q446 := eq_true q446
     go_wp2
     repeat (go_quiet (fail); try go_wp2)
     go_roundg k1
     case measure => have := HK1.out; omega
     case rel => exact ⟨(wrap64 (x5_1 + 1)), y0_16, H', ⟨y0_18⟩, y0_14⟩
    rw [if_neg c7] at H
    have c7b0 : decide (0 < x5_1) = false := decide_eq_false c7; clear c7; have H' := Aside0.mk H; clear H; have p443 : 0 ≤ (x5_1 : Int) := of_decide_eq_true y0_15; have q443 : x5_1 < (l1.length : Int) := of_decide_eq_true y0_15; obtain ⟨ad443, e443, hx443_0⟩ := Kd.at_int HR1.out x5_1 p443 q443; cases e443; replace p443 := eq_true p443; replace q443 := eq_true q443; have p444 : 0 ≤ (x5_1 : Int) := of_decide_eq_true y0_15; have q444 : x5_1 < (l1.length : Int) := of_decide_eq_true y0_15; obtain ⟨ad444, e444, hx444_0⟩ := Kd.at_int HR1.out x5_1 p444 q444
    obtain rfl : ad443 = ad444 := (by injection e444)
    replace p444 := eq_true p444; replace q444 := eq_true q444
    go_wp2
    repeat (go_quiet (fail); try go_wp2)
    go_roundg k1
    case measure => have := HK1.out; omega
    case rel => exact ⟨(wrap64 (x5_1 + 1)), y0_16, H', ⟨y0_18⟩, y0_14⟩
   rw [if_neg c3] at H
   have c3b0 : decide (x5_1 < (l1.length : Int)) = false := decide_eq_false c3; clear c3; obtain rfl := Option.some.inj H
   go_wp2
   repeat (go_quiet (fail); try go_wp2)
   go_ret
   exact ⟨y0_16, y0_14⟩

end Go.Proofs.YtnpbopadajbopaaGreatDoor.PFnSafe
