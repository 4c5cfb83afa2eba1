-- By a program of this session, out of the translation (the print of the kit, with turns of its own). Lean checks it.
import Derived.Test.YtagpeafaiofkjaaGreatDoorPFnQuorumsx0
import Derived.Test.YtagpeafaiofkjaaGreatDoorPFnQuorumsx2
import Derived.Test.YtagpeafaiofkjaaGreatDoorPFnQuorumsx5
import Derived.Test.YtagpeafaiofkjaaGreatDoorPFnQuorumsx6
namespace Go.Proofs.YtagpeafaiofkjaaGreatDoor.PFnQuorums
open Go.RowKit Go.Proofs.YtagpeafaiofkjaaGreatDoorW.PrintWords Go.Proofs.YtagpeafaiofkjaaGreatDoorW.PrintLast Go.Proofs.YtagpeafaiofkjaaGreatDoorW.PrintMore
attribute [local go_sem] max2_int min2_int max_two min_two max_three min_three max_four min_four   -- for this text's walks alone
attribute [local go_sem] cell_in frozen_in
set_option synthInstance.maxSize 1000000
set_option synthInstance.maxHeartbeats 2000000
set_option linter.unusedVariables false
set_option linter.unusedSimpArgs false

/-! ### spec_SetAdd: function 52 -/
def spec_SetAdd.l0 : Nat → List Int → Int → Int → Option (List Int)
 | 0, _, _, _ => none
 | k + 1, x0, x1, x5 => if x5 < (x0.length : Int) then (if 0 ≤ x5 then (if (rd x0 x5) < x1 then (spec_SetAdd.l0 k x0 x1 (wrap64 (x5 + 1))) else ((some (([] : List Int) : List Int)).bind fun y320 => (if x5 ≤ (x0.length : Int) then (if y320.length + (x0.take (x5 : Int).toNat).length < 17592186044416 then ((some (y320 ++ (x0.take (x5 : Int).toNat) : List Int)).bind fun y324 => (if y324.length < 17592186044416 then ((some (y324 ++ [x1] : List Int)).bind fun y327 => (if y327.length + (x0.drop (x5 : Int).toNat).length < 17592186044416 then (some (y327 ++ (x0.drop (x5 : Int).toNat))) else (none))) else (none))) else (none)) else (none)))) else (none)) else ((some (([] : List Int) : List Int)).bind fun y334 => (if 0 ≤ x5 then (if x5 ≤ (x0.length : Int) then (if y334.length + (x0.take (x5 : Int).toNat).length < 17592186044416 then ((some (y334 ++ (x0.take (x5 : Int).toNat) : List Int)).bind fun y338 => (if y338.length < 17592186044416 then ((some (y338 ++ [x1] : List Int)).bind fun y341 => (if y341.length + (x0.drop (x5 : Int).toNat).length < 17592186044416 then (some (y341 ++ (x0.drop (x5 : Int).toNat))) else (none))) else (none))) else (none)) else (none)) else (none)))
def spec_SetAdd.f (k : Nat) (l0 : List Int) (a1 : Int) : Option (List Int) := (spec_SetHas.f k l0 a1).bind fun t312 => (if t312 = true then ((some (([] : List Int) : List Int)).bind fun y313 => (if y313.length + l0.length < 17592186044416 then (some (y313 ++ l0)) else (none))) else (spec_SetAdd.l0 k l0 a1 0))
theorem spec_SetAdd.mono_l : ∀ k, (∀ y0 y1 y2, LeO (spec_SetAdd.l0 k y0 y1 y2) (spec_SetAdd.l0 (k + 1) y0 y1 y2))
 | 0 => fun _ _ _ r h => by simp [spec_SetAdd.l0] at h
 | k + 1 => by
  have ih0 := spec_SetAdd.mono_l k
  intro y0 y1 y2
  unfold spec_SetAdd.l0
  repeat' first | (with_reducible exact ih0 _ _ _) | (with_reducible exact spec_SetHas.mono _ _ _) | (with_reducible exact LeO.refl _) | (with_reducible exact LeO.none _) | (with_reducible refine LeO.ite ?_ ?_) | (with_reducible refine LeO.bind ?_ (fun _ => ?_))
theorem spec_SetAdd.mono : ∀ a0 a1 k, LeO (spec_SetAdd.f k a0 a1) (spec_SetAdd.f (k + 1) a0 a1) := by
 intro a0 a1 k
 have ih0 := spec_SetAdd.mono_l k
 unfold spec_SetAdd.f
 repeat' first | (with_reducible exact ih0 _ _ _) | (with_reducible exact spec_SetHas.mono _ _ _) | (with_reducible exact LeO.refl _) | (with_reducible exact LeO.none _) | (with_reducible refine LeO.ite ?_ ?_) | (with_reducible refine LeO.bind ?_ (fun _ => ?_))
set_option maxHeartbeats 8000000 in
set_option maxRecDepth 100000 in
theorem spec_SetAdd.calls (k : Nat) (A0 : Option Addr) (c0 : Nat) (l0 : List Int) (a1 : Int) (r : List Int) (w : World) (hr0 : Kd.C (Kd.int .i64) w A0 l0.length l0) (hc0 : l0.length ≤ c0) (h : spec_SetAdd.f k l0 a1 = some r) :
  Calls Tryz.prog 52 #[.slice A0 l0.length c0, .int .i64 a1] w fun e w' => ∃ v0_ : Value, e = .returned (v0_) ∧ Kd.R (Kd.int .i64) 3 w' w.heap.size (fun _ => True) v0_ r ∧ Below w.heap.size w w' := by
 have HR0 := Aside0.mk hr0; have HC0 := Aside0.mk hc0; clear hr0 hc0; have HB := Aside0.mk (Below.refl w.heap.size w)
 have H := h; unfold spec_SetAdd.f at H
 clear h; obtain ⟨t312, A3, H⟩ := oB H; (try dsimp only at H)
 by_cases c4 : t312 = true
 ·
  subst c4
  rw [if_pos rfl] at H
  obtain ⟨y313, hy313⟩ : ∃ y_ : List Int, y_ = (([] : List Int)) := ⟨_, rfl⟩
  replace H : (if y313.length + l0.length < 17592186044416 then (some (y313 ++ l0)) else (none)) = some r := by first | (rw [hy313]; with_reducible exact H) | (have H2_ := (Option.bind_some _ _).symm.trans H; rw [hy313]; with_reducible exact H2_) | (have H2_ := (Option.bind_some _ _).symm.trans H; with_reducible exact H2_) | with_reducible exact H | (rw [hy313]; exact H) | exact H
  have Ny313 := Aside0.mk hy313; clear hy313
  by_cases c5 : y313.length + l0.length < 17592186044416
  rotate_left
  ·
   rw [if_neg c5] at H
   exact absurd H (by simp)
  rw [if_pos c5] at H
  have LMc5 := Aside0.mk c5; clear c5; obtain ⟨y316, hy316⟩ : ∃ y_ : List Int, y_ = (y313 ++ l0) := ⟨_, rfl⟩
  replace H : (some y316) = some r := by first | (rw [hy316]; with_reducible exact H) | (have H2_ := (Option.bind_some _ _).symm.trans H; rw [hy316]; with_reducible exact H2_) | (have H2_ := (Option.bind_some _ _).symm.trans H; with_reducible exact H2_) | with_reducible exact H | (rw [hy316]; exact H) | exact H
  have Ny316 := Aside0.mk hy316; clear hy316; obtain rfl := Option.some.inj H
  go_enter Tryz.func52, Tryz.ntmps52
  go_wp2_with (first | ((with_reducible refine gate_callee (f := 66) rfl ?_); refine gB (some 9) Tryz.func66 #[.slice A0 l0.length c0, .int .i64 a1] ?_; (with_reducible refine (spec_SetHas.calls k _ _ l0 a1 true _ ?side1 ?side2 A3.out).mono ?_); (case side1 => exact cI HR0.out); (case side2 => exact HC0.out); rintro e w' ⟨rfl, ⟨nd, rfl⟩⟩; refine ⟨_, rfl, ?_⟩) | ((with_reducible refine gate_dst (N := 10) rfl ?_); refine Kd.R_lit (Kd.int .i64) _ 3 ?hg (N := 10) ?hd (xs := ([] : List Int)) (inner := []) (ok := fun _ => True) (okp := fun _ => True) ?hr ?hp (fun _ hk => hk) trivial (Below.refl _ _) (Nat.le_refl _) (by simp) ?_; (case hd => rfl); (case hg => rfl); (case hr => first | (go_simp; done) | (go_simp; rfl)); (case hp => exact (Reps.none _ _)); intro v314 w6 ho7 hb hg_ hnew_; clear hg_ hnew_; (first | rw [← Ny313.out] at ho7 | (simp only [Int.reduceToNat] at ho7; rw [← Ny313.out] at ho7)); have HO315 := Aside0.mk (Kd.R_lower ho7 (below_size (bI HB.out))); replace HB := bs HB hb; clear hb ho7) | ((with_reducible refine gate_builtin (b := .append) (xs := #[.tmp 10, .tmp 11]) rfl ?_); at_builtin; refine Kd.R_append_rows (Kd.int .i64) (w0 := w) w.heap.size rfl (.tmp 10) (.tmp 11) 26 3 (.int .i64 0) 8 rfl Tryz.underlying26 info3 rfl (by decide) (by omega) v314 y313 l0 _ _ _ (fun _ => True) (fun _ => False) rfl rfl ?aO ?aR (fun _ _ h => h) (fun _ h => h.elim) ?aF ?aB ?aS ?aL ?_; (case aR => exact ch HR0 HB); (case aB => exact (bI HB.out)); (case aF => exact (fun _ _ => trivial)); (case aO => exact (rI HO315.out)); (case aS => exact (below_size (bI HB.out))); (case aL => have := LMc5.out; omega); intro v317 w8 ho hb hg hat; rw [← Ny316.out] at ho; have n0_ := Aside0.mk (hb); have n1_ := Aside0.mk (ho); clear HB; clear HO315; have HB := n0_; have HO318 := n1_; clear n0_ n1_; clear ho hb hg hat))
  go_ret
  exact ⟨_, y0_11, by (with_reducible repeat (first | apply Kd.R_alloc | apply Kd.R_drewN | apply Kd.R_drew)); exact HO318.out, bI HB.out⟩
 replace c4 := Bool.eq_false_iff.mpr c4; subst c4
 rw [if_neg (show ¬ (false = true) by decide)] at H
 have H' := Aside0.mk H; clear H
 go_enter Tryz.func52, Tryz.ntmps52
 go_wp2_with (first | ((with_reducible refine gate_callee (f := 66) rfl ?_); refine gB (some 9) Tryz.func66 #[.slice A0 l0.length c0, .int .i64 a1] ?_; (with_reducible refine (spec_SetHas.calls k _ _ l0 a1 false _ ?side1 ?side2 A3.out).mono ?_); (case side1 => exact cI HR0.out); (case side2 => exact HC0.out); rintro e w' ⟨rfl, ⟨nd, rfl⟩⟩; refine ⟨_, rfl, ?_⟩))
 go_loopg [5] k (fun kq v5 w' => ∃ (x5_1 : Int), v5 = .int .i64 x5_1 ∧ Aside0 (spec_SetAdd.l0 kq l0 a1 x5_1 = some r) ∧ Aside0 (kq ≤ k) ∧ Aside0 (Below w.heap.size w w'))
 case atStart => exact ⟨(0), y0_15, H', ⟨Nat.le_refl _⟩, ⟨bI HB.out⟩⟩
 case round =>
  clear H'
  try clear p2
  try clear c4
  try clear c5
  try clear c6
  obtain ⟨x5_1, rfl, HA, HK1, HB⟩ := hrel; cases gk with
  | zero => exact absurd HA.out (by simp [spec_SetAdd.l0])
  | succ k1 =>
   have H := HA.out; clear HA
   simp only [spec_SetAdd.l0] at H
   by_cases c9 : x5_1 < (l0.length : Int)
   ·
    rw [if_pos c9] at H
    have c9b0 : decide (x5_1 < (l0.length : Int)) = true := decide_eq_true c9; clear c9
    by_cases c10 : 0 ≤ x5_1
    rotate_left
    ·
     rw [if_neg c10] at H
     exact absurd H (by simp)
    rw [if_pos c10] at H
    have c10b0 : decide (0 ≤ x5_1) = true := decide_eq_true c10; clear c10
    by_cases c11 : (rd l0 x5_1) < a1
    ·
     rw [if_pos c11] at H
     have c11b0 : decide ((rd l0 x5_1) < a1) = true := decide_eq_true c11; clear c11; have H' := Aside0.mk H; clear H; have p319 : 0 ≤ (x5_1 : Int) := of_decide_eq_true y0_14; have q319 : x5_1 < (l0.length : Int) := of_decide_eq_true y0_14; obtain ⟨ad319, e319, hx319_0⟩ := Kd.at_int HR0.out x5_1 p319 q319; cases e319; replace hx319_0 := bx HB hx319_0; replace p319 := eq_true p319; replace q319 := eq_true q319
     go_wp2
     go_roundg k1
     case measure => have := HK1.out; omega
     case rel => exact ⟨(wrap64 (x5_1 + 1)), y0_15, H', ⟨y0_17⟩, ⟨bI HB.out⟩⟩
    rw [if_neg c11] at H
    have c11b0 : decide ((rd l0 x5_1) < a1) = false := decide_eq_false c11; clear c11; obtain ⟨y320, hy320⟩ : ∃ y_ : List Int, y_ = (([] : List Int)) := ⟨_, rfl⟩
    replace H : (if x5_1 ≤ (l0.length : Int) then (if y320.length + (l0.take (x5_1 : Int).toNat).length < 17592186044416 then ((some (y320 ++ (l0.take (x5_1 : Int).toNat) : List Int)).bind fun y324 => (if y324.length < 17592186044416 then ((some (y324 ++ [a1] : List Int)).bind fun y327 => (if y327.length + (l0.drop (x5_1 : Int).toNat).length < 17592186044416 then (some (y327 ++ (l0.drop (x5_1 : Int).toNat))) else (none))) else (none))) else (none)) else (none)) = some r := by first | (rw [hy320]; with_reducible exact H) | (have H2_ := (Option.bind_some _ _).symm.trans H; rw [hy320]; with_reducible exact H2_) | (have H2_ := (Option.bind_some _ _).symm.trans H; with_reducible exact H2_) | with_reducible exact H | (rw [hy320]; exact H) | exact H
    have Ny320 := Aside0.mk hy320; clear hy320; have c12b0 := eq_true (of_decide_eq_true y0_14 : 0 ≤ x5_1)
    by_cases c13 : x5_1 ≤ (l0.length : Int)
    rotate_left
    ·
     rw [if_neg c13] at H
     exact absurd H (by simp)
    rw [if_pos c13] at H
    have c13b0 := eq_true c13; have c13b1 : decide (x5_1 ≤ (l0.length : Int)) = true := decide_eq_true c13; clear c13
    by_cases c14 : y320.length + (l0.take (x5_1 : Int).toNat).length < 17592186044416
    rotate_left
    ·
     rw [if_neg c14] at H
     exact absurd H (by simp)
    rw [if_pos c14] at H
    have LMc14 := Aside0.mk c14; clear c14; obtain ⟨y324, hy324⟩ : ∃ y_ : List Int, y_ = (y320 ++ (l0.take (x5_1 : Int).toNat)) := ⟨_, rfl⟩
    replace H : (if y324.length < 17592186044416 then ((some (y324 ++ [a1] : List Int)).bind fun y327 => (if y327.length + (l0.drop (x5_1 : Int).toNat).length < 17592186044416 then (some (y327 ++ (l0.drop (x5_1 : Int).toNat))) else (none))) else (none)) = some r := by first | (rw [hy324]; with_reducible exact H) | (have H2_ := (Option.bind_some _ _).symm.trans H; rw [hy324]; with_reducible exact H2_) | (have H2_ := (Option.bind_some _ _).symm.trans H; with_reducible exact H2_) | with_reducible exact H | (rw [hy324]; exact H) | exact H
    have Ny324 := Aside0.mk hy324; clear hy324
    by_cases c15 : y324.length < 17592186044416
    rotate_left
    ·
     rw [if_neg c15] at H
     exact absurd H (by simp)
    rw [if_pos c15] at H
    have LMc15 := Aside0.mk c15; clear c15; obtain ⟨y327, hy327⟩ : ∃ y_ : List Int, y_ = (y324 ++ [a1]) := ⟨_, rfl⟩
    replace H : (if y327.length + (l0.drop (x5_1 : Int).toNat).length < 17592186044416 then (some (y327 ++ (l0.drop (x5_1 : Int).toNat))) else (none)) = some r := by first | (rw [hy327]; with_reducible exact H) | (have H2_ := (Option.bind_some _ _).symm.trans H; rw [hy327]; with_reducible exact H2_) | (have H2_ := (Option.bind_some _ _).symm.trans H; with_reducible exact H2_) | with_reducible exact H | (rw [hy327]; exact H) | exact H
    have Ny327 := Aside0.mk hy327; clear hy327; have c16b0 := eq_true (of_decide_eq_true y0_14 : 0 ≤ x5_1); have c17b0 := eq_true (of_decide_eq_true y0_14 : x5_1 ≤ (l0.length : Int))
    by_cases c18 : y327.length + (l0.drop (x5_1 : Int).toNat).length < 17592186044416
    rotate_left
    ·
     rw [if_neg c18] at H
     exact absurd H (by simp)
    rw [if_pos c18] at H
    have LMc18 := Aside0.mk c18; clear c18; obtain ⟨y331, hy331⟩ : ∃ y_ : List Int, y_ = (y327 ++ (l0.drop (x5_1 : Int).toNat)) := ⟨_, rfl⟩
    replace H : (some y331) = some r := by first | (rw [hy331]; with_reducible exact H) | (have H2_ := (Option.bind_some _ _).symm.trans H; rw [hy331]; with_reducible exact H2_) | (have H2_ := (Option.bind_some _ _).symm.trans H; with_reducible exact H2_) | with_reducible exact H | (rw [hy331]; exact H) | exact H
    have Ny331 := Aside0.mk hy331; clear hy331; obtain rfl := Option.some.inj H; have p319 : 0 ≤ (x5_1 : Int) := of_decide_eq_true y0_14; have q319 : x5_1 < (l0.length : Int) := of_decide_eq_true y0_14; obtain ⟨ad319, e319, hx319_0⟩ := Kd.at_int HR0.out x5_1 p319 q319; cases e319; replace hx319_0 := bx HB hx319_0; replace p319 := eq_true p319; replace q319 := eq_true q319
    go_wp2_with (first | ((with_reducible refine gate_dst (N := 27) rfl ?_); refine Kd.R_lit (Kd.int .i64) _ 3 ?hg (N := 27) ?hd (xs := ([] : List Int)) (inner := []) (ok := fun _ => True) (okp := fun _ => True) ?hr ?hp (fun _ hk => hk) trivial (Below.refl _ _) (Nat.le_refl _) (by simp) ?_; (case hd => rfl); (case hg => rfl); (case hr => first | (go_simp; done) | (go_simp; rfl)); (case hp => exact (Reps.none _ _)); intro v321 w19 ho20 hb hg_ hnew_; clear hg_ hnew_; (first | rw [← Ny320.out] at ho20 | (simp only [Int.reduceToNat] at ho20; rw [← Ny320.out] at ho20)); have HO322 := Aside0.mk (Kd.R_lower ho20 (below_size (bI HB.out))); replace HB := bs HB hb; clear hb ho20; obtain ⟨i021, hi021, _, hsz21, _⟩ := info_parts info3; obtain ⟨hcut21, hA21, hC21⟩ := print_take_of (P := Tryz.prog) (Value.int .i64) 0 26 3 .i64 Tryz.underlying26 hi021 hsz21 (some ad319) c0 l0 x5_1 (of_decide_eq_true y0_14) (of_decide_eq_true y0_14) HC0.out; have HR323 := Aside0.mk (Kd.C_of_reads (h1 := fun _ => rfl) (hA21 _ (Kd.reads_of_C HR0.out))); have HC323 := Aside0.mk hC21; clear hA21 hC21 hi021 hsz21) | ((with_reducible refine gate_builtin (b := .append) (xs := #[.tmp 27, .tmp 30]) rfl ?_); at_builtin; refine Kd.R_append_rows (Kd.int .i64) (w0 := w) w.heap.size rfl (.tmp 27) (.tmp 30) 26 3 (.int .i64 0) 8 rfl Tryz.underlying26 info3 rfl (by decide) (by omega) v321 y320 (l0.take (x5_1 : Int).toNat) _ _ _ (fun _ => True) (fun _ => False) rfl rfl ?aO ?aR (fun _ _ h => h) (fun _ h => h.elim) ?aF ?aB ?aS ?aL ?_; (case aR => first | exact cE (show (l0.take (x5_1 : Int).toNat).length = x5_1.toNat from y0_6) (Kd.C_below HR323.out HB.out) | (exact ch HR323 HB)); (case aB => exact (bI HB.out)); (case aF => exact (fun _ _ => trivial)); (case aO => exact (rI HO322.out)); (case aS => exact (below_size (bI HB.out))); (case aL => have := LMc14.out; have hlx_ := (show (l0.take (x5_1 : Int).toNat).length = x5_1.toNat from y0_6); omega); intro v325 w22 ho hb hg hat; rw [← Ny324.out] at ho; have n0_ := Aside0.mk (hb); have n1_ := Aside0.mk (ho); clear HB; clear HO322; have HB := n0_; have HO326 := n1_; clear n0_ n1_; clear ho hb hg hat) | ((with_reducible refine gate_builtin (b := .append) (xs := #[.tmp 32, .tmp 34]) rfl ?_); at_builtin; refine Kd.R_append (Kd.int .i64) (w0 := w) w.heap.size rfl (.tmp 32) (.tmp 34) 26 3 (.int .i64 0) 8 rfl Tryz.underlying26 info3 rfl (by decide) (by omega) v325 y324 a1 [.int .i64 a1] (fun _ => True) (fun _ => False) rfl rfl ?aP (fun _ hk => hk.elim) ?aF ?aO ?aB ?aS ?aL ?_; (case aP => exact rfl); (case aB => exact (bI HB.out)); (case aF => exact (fun _ _ => trivial)); (case aO => exact (rI HO326.out)); (case aS => exact (below_size (bI HB.out))); (case aL => have := LMc15.out; omega); intro v328 w23 ho hb hg hat; rw [← Ny327.out] at ho; have n0_ := Aside0.mk (hb); have n1_ := Aside0.mk (ho); clear HB; clear HO326; have HB := n0_; have HO329 := n1_; clear n0_ n1_; clear ho hb hg hat; obtain ⟨i024, hi024, _, hsz24, _⟩ := info_parts info3; obtain ⟨A24, hcut24, hA24, hC24⟩ := print_drop_of (P := Tryz.prog) (Value.int .i64) 0 26 3 .i64 Tryz.underlying26 hi024 hsz24 (some ad319) c0 l0 x5_1 (of_decide_eq_true y0_14) (of_decide_eq_true y0_14) HC0.out; have HR330 := Aside0.mk (Kd.C_of_reads (h1 := fun _ => rfl) (hA24 _ (Kd.reads_of_C HR0.out))); have HC330 := Aside0.mk hC24; clear hA24 hC24 hi024 hsz24) | ((with_reducible refine gate_builtin (b := .append) (xs := #[.tmp 36, .tmp 39]) rfl ?_); at_builtin; refine Kd.R_append_rows (Kd.int .i64) (w0 := w) w.heap.size rfl (.tmp 36) (.tmp 39) 26 3 (.int .i64 0) 8 rfl Tryz.underlying26 info3 rfl (by decide) (by omega) v328 y327 (l0.drop (x5_1 : Int).toNat) _ _ _ (fun _ => True) (fun _ => False) rfl rfl ?aO ?aR (fun _ _ h => h) (fun _ h => h.elim) ?aF ?aB ?aS ?aL ?_; (case aR => first | exact cE (show (l0.drop (x5_1 : Int).toNat).length = (l0.length - x5_1.toNat) from List.length_drop) (Kd.C_below HR330.out HB.out) | (exact ch HR330 HB)); (case aB => exact (bI HB.out)); (case aF => exact (fun _ _ => trivial)); (case aO => exact (rI HO329.out)); (case aS => exact (below_size (bI HB.out))); (case aL => have := LMc18.out; have hlx_ := (show (l0.drop (x5_1 : Int).toNat).length = (l0.length - x5_1.toNat) from List.length_drop); omega); intro v332 w25 ho hb hg hat; rw [← Ny331.out] at ho; have n0_ := Aside0.mk (hb); have n1_ := Aside0.mk (ho); clear HB; clear HO329; have HB := n0_; have HO333 := n1_; clear n0_ n1_; clear ho hb hg hat))
    go_ret
    exact ⟨_, y0_11, by (with_reducible repeat (first | apply Kd.R_alloc | apply Kd.R_drewN | apply Kd.R_drew)); exact HO333.out, bI HB.out⟩
   rw [if_neg c9] at H
   have c9b0 : decide (x5_1 < (l0.length : Int)) = false := decide_eq_false c9; clear c9; obtain ⟨y334, hy334⟩ : ∃ y_ : List Int, y_ = (([] : List Int)) := ⟨_, rfl⟩
   replace H : (if 0 ≤ x5_1 then (if x5_1 ≤ (l0.length : Int) then (if y334.length + (l0.take (x5_1 : Int).toNat).length < 17592186044416 then ((some (y334 ++ (l0.take (x5_1 : Int).toNat) : List Int)).bind fun y338 => (if y338.length < 17592186044416 then ((some (y338 ++ [a1] : List Int)).bind fun y341 => (if y341.length + (l0.drop (x5_1 : Int).toNat).length < 17592186044416 then (some (y341 ++ (l0.drop (x5_1 : Int).toNat))) else (none))) else (none))) else (none)) else (none)) else (none)) = some r := by first | (rw [hy334]; with_reducible exact H) | (have H2_ := (Option.bind_some _ _).symm.trans H; rw [hy334]; with_reducible exact H2_) | (have H2_ := (Option.bind_some _ _).symm.trans H; with_reducible exact H2_) | with_reducible exact H | (rw [hy334]; exact H) | exact H
   have Ny334 := Aside0.mk hy334; clear hy334
   by_cases c26 : 0 ≤ x5_1
   ·
    rw [if_pos c26] at H
    have c26b0 := eq_true c26; have c26b1 : decide (0 ≤ x5_1) = true := decide_eq_true c26; clear c26
    by_cases c27 : x5_1 ≤ (l0.length : Int)
    rotate_left
    ·
     rw [if_neg c27] at H
     exact absurd H (by simp)
    rw [if_pos c27] at H
    have c27b0 := eq_true c27; have c27b1 : decide (x5_1 ≤ (l0.length : Int)) = true := decide_eq_true c27; clear c27
    by_cases c28 : y334.length + (l0.take (x5_1 : Int).toNat).length < 17592186044416
    rotate_left
    ·
     rw [if_neg c28] at H
     exact absurd H (by simp)
    rw [if_pos c28] at H
    have LMc28 := Aside0.mk c28; clear c28; obtain ⟨y338, hy338⟩ : ∃ y_ : List Int, y_ = (y334 ++ (l0.take (x5_1 : Int).toNat)) := ⟨_, rfl⟩
    replace H : (if y338.length < 17592186044416 then ((some (y338 ++ [a1] : List Int)).bind fun y341 => (if y341.length + (l0.drop (x5_1 : Int).toNat).length < 17592186044416 then (some (y341 ++ (l0.drop (x5_1 : Int).toNat))) else (none))) else (none)) = some r := by first | (rw [hy338]; with_reducible exact H) | (have H2_ := (Option.bind_some _ _).symm.trans H; rw [hy338]; with_reducible exact H2_) | (have H2_ := (Option.bind_some _ _).symm.trans H; with_reducible exact H2_) | with_reducible exact H | (rw [hy338]; exact H) | exact H
    have Ny338 := Aside0.mk hy338; clear hy338
    by_cases c29 : y338.length < 17592186044416
    rotate_left
    ·
     rw [if_neg c29] at H
     exact absurd H (by simp)
    rw [if_pos c29] at H
    have LMc29 := Aside0.mk c29; clear c29; obtain ⟨y341, hy341⟩ : ∃ y_ : List Int, y_ = (y338 ++ [a1]) := ⟨_, rfl⟩
    replace H : (if y341.length + (l0.drop (x5_1 : Int).toNat).length < 17592186044416 then (some (y341 ++ (l0.drop (x5_1 : Int).toNat))) else (none)) = some r := by first | (rw [hy341]; with_reducible exact H) | (have H2_ := (Option.bind_some _ _).symm.trans H; rw [hy341]; with_reducible exact H2_) | (have H2_ := (Option.bind_some _ _).symm.trans H; with_reducible exact H2_) | with_reducible exact H | (rw [hy341]; exact H) | exact H
    have Ny341 := Aside0.mk hy341; clear hy341; have c30b0 := eq_true (of_decide_eq_true y0_14 : 0 ≤ x5_1); have c31b0 := eq_true (of_decide_eq_true y0_14 : x5_1 ≤ (l0.length : Int))
    by_cases c32 : y341.length + (l0.drop (x5_1 : Int).toNat).length < 17592186044416
    rotate_left
    ·
     rw [if_neg c32] at H
     exact absurd H (by simp)
    rw [if_pos c32] at H
    have LMc32 := Aside0.mk c32; clear c32; obtain ⟨y345, hy345⟩ : ∃ y_ : List Int, y_ = (y341 ++ (l0.drop (x5_1 : Int).toNat)) := ⟨_, rfl⟩
    replace H : (some y345) = some r := by first | (rw [hy345]; with_reducible exact H) | (have H2_ := (Option.bind_some _ _).symm.trans H; rw [hy345]; with_reducible exact H2_) | (have H2_ := (Option.bind_some _ _).symm.trans H; with_reducible exact H2_) | with_reducible exact H | (rw [hy345]; exact H) | exact H
    have Ny345 := Aside0.mk hy345; clear hy345; obtain rfl := Option.some.inj H
    go_wp2_with (first | ((with_reducible refine gate_dst (N := 27) rfl ?_); refine Kd.R_lit (Kd.int .i64) _ 3 ?hg (N := 27) ?hd (xs := ([] : List Int)) (inner := []) (ok := fun _ => True) (okp := fun _ => True) ?hr ?hp (fun _ hk => hk) trivial (Below.refl _ _) (Nat.le_refl _) (by simp) ?_; (case hd => rfl); (case hg => rfl); (case hr => first | (go_simp; done) | (go_simp; rfl)); (case hp => exact (Reps.none _ _)); intro v335 w33 ho34 hb hg_ hnew_; clear hg_ hnew_; (first | rw [← Ny334.out] at ho34 | (simp only [Int.reduceToNat] at ho34; rw [← Ny334.out] at ho34)); have HO336 := Aside0.mk (Kd.R_lower ho34 (below_size (bI HB.out))); replace HB := bs HB hb; clear hb ho34; obtain ⟨i035, hi035, _, hsz35, _⟩ := info_parts info3; obtain ⟨hcut35, hA35, hC35⟩ := print_take_of (P := Tryz.prog) (Value.int .i64) 0 26 3 .i64 Tryz.underlying26 hi035 hsz35 A0 c0 l0 x5_1 (of_decide_eq_true y0_14) (of_decide_eq_true y0_14) HC0.out; have HR337 := Aside0.mk (Kd.C_of_reads (h1 := fun _ => rfl) (hA35 _ (Kd.reads_of_C HR0.out))); have HC337 := Aside0.mk hC35; clear hA35 hC35 hi035 hsz35) | ((with_reducible refine gate_builtin (b := .append) (xs := #[.tmp 27, .tmp 30]) rfl ?_); at_builtin; refine Kd.R_append_rows (Kd.int .i64) (w0 := w) w.heap.size rfl (.tmp 27) (.tmp 30) 26 3 (.int .i64 0) 8 rfl Tryz.underlying26 info3 rfl (by decide) (by omega) v335 y334 (l0.take (x5_1 : Int).toNat) _ _ _ (fun _ => True) (fun _ => False) rfl rfl ?aO ?aR (fun _ _ h => h) (fun _ h => h.elim) ?aF ?aB ?aS ?aL ?_; (case aR => first | exact cE (show (l0.take (x5_1 : Int).toNat).length = x5_1.toNat from y0_6) (Kd.C_below HR337.out HB.out) | (exact ch HR337 HB)); (case aB => exact (bI HB.out)); (case aF => exact (fun _ _ => trivial)); (case aO => exact (rI HO336.out)); (case aS => exact (below_size (bI HB.out))); (case aL => have := LMc28.out; have hlx_ := (show (l0.take (x5_1 : Int).toNat).length = x5_1.toNat from y0_6); omega); intro v339 w36 ho hb hg hat; rw [← Ny338.out] at ho; have n0_ := Aside0.mk (hb); have n1_ := Aside0.mk (ho); clear HB; clear HO336; have HB := n0_; have HO340 := n1_; clear n0_ n1_; clear ho hb hg hat) | ((with_reducible refine gate_builtin (b := .append) (xs := #[.tmp 32, .tmp 34]) rfl ?_); at_builtin; refine Kd.R_append (Kd.int .i64) (w0 := w) w.heap.size rfl (.tmp 32) (.tmp 34) 26 3 (.int .i64 0) 8 rfl Tryz.underlying26 info3 rfl (by decide) (by omega) v339 y338 a1 [.int .i64 a1] (fun _ => True) (fun _ => False) rfl rfl ?aP (fun _ hk => hk.elim) ?aF ?aO ?aB ?aS ?aL ?_; (case aP => exact rfl); (case aB => exact (bI HB.out)); (case aF => exact (fun _ _ => trivial)); (case aO => exact (rI HO340.out)); (case aS => exact (below_size (bI HB.out))); (case aL => have := LMc29.out; omega); intro v342 w37 ho hb hg hat; rw [← Ny341.out] at ho; have n0_ := Aside0.mk (hb); have n1_ := Aside0.mk (ho); clear HB; clear HO340; have HB := n0_; have HO343 := n1_; clear n0_ n1_; clear ho hb hg hat; obtain ⟨i038, hi038, _, hsz38, _⟩ := info_parts info3; obtain ⟨A38, hcut38, hA38, hC38⟩ := print_drop_of (P := Tryz.prog) (Value.int .i64) 0 26 3 .i64 Tryz.underlying26 hi038 hsz38 A0 c0 l0 x5_1 (of_decide_eq_true y0_14) (of_decide_eq_true y0_14) HC0.out; have HR344 := Aside0.mk (Kd.C_of_reads (h1 := fun _ => rfl) (hA38 _ (Kd.reads_of_C HR0.out))); have HC344 := Aside0.mk hC38; clear hA38 hC38 hi038 hsz38) | ((with_reducible refine gate_builtin (b := .append) (xs := #[.tmp 36, .tmp 39]) rfl ?_); at_builtin; refine Kd.R_append_rows (Kd.int .i64) (w0 := w) w.heap.size rfl (.tmp 36) (.tmp 39) 26 3 (.int .i64 0) 8 rfl Tryz.underlying26 info3 rfl (by decide) (by omega) v342 y341 (l0.drop (x5_1 : Int).toNat) _ _ _ (fun _ => True) (fun _ => False) rfl rfl ?aO ?aR (fun _ _ h => h) (fun _ h => h.elim) ?aF ?aB ?aS ?aL ?_; (case aR => first | exact cE (show (l0.drop (x5_1 : Int).toNat).length = (l0.length - x5_1.toNat) from List.length_drop) (Kd.C_below HR344.out HB.out) | (exact ch HR344 HB)); (case aB => exact (bI HB.out)); (case aF => exact (fun _ _ => trivial)); (case aO => exact (rI HO343.out)); (case aS => exact (below_size (bI HB.out))); (case aL => have := LMc32.out; have hlx_ := (show (l0.drop (x5_1 : Int).toNat).length = (l0.length - x5_1.toNat) from List.length_drop); omega); intro v346 w39 ho hb hg hat; rw [← Ny345.out] at ho; have n0_ := Aside0.mk (hb); have n1_ := Aside0.mk (ho); clear HB; clear HO343; have HB := n0_; have HO347 := n1_; clear n0_ n1_; clear ho hb hg hat))
    go_ret
    exact ⟨_, y0_11, by (with_reducible repeat (first | apply Kd.R_alloc | apply Kd.R_drewN | apply Kd.R_drew)); exact HO347.out, bI HB.out⟩
   rw [if_neg c26] at H
   exact absurd H (by simp)

/-! ### spec_l6DrawSet: function 42 -/
def spec_l6DrawSet.l0 : Nat → Int → List Int → Int → List Int → Int → Int → Option (List Int × Int × Int)
 | 0, _, _, _, _, _, _ => none
 | k + 1, x1, x5, x6, x1000, x1001, x1002 => (spec_l1Below.f x1000 x1001 x1002 8).bind fun bt351 => (if x6 < bt351.1 then ((spec_l1Below.f x1000 bt351.2.1 bt351.2.2 x1).bind fun bt354 => ((spec_SetAdd.f k x5 bt354.1).bind fun t357 => (spec_l6DrawSet.l0 k x1 t357 (wrap64 (x6 + 1)) x1000 bt354.2.1 bt354.2.2))) else ((spec_l1Once.f x1000 bt351.2.1 bt351.2.2 12).bind fun bt360 => (if bt360.1 = true then ((spec_l1PickInt.f x1000 bt360.2.1 bt360.2.2 (([(-1), 0, 3, 9] : List Int))).bind fun bt366 => (if x5.length < 17592186044416 then (some ((x5 ++ [bt366.1]), bt366.2.1, bt366.2.2)) else (none))) else (some (x5, bt360.2.1, bt360.2.2)))))
def spec_l6DrawSet.f (k : Nat) (s0_0 : List Int) (s0_1 : Int) (s0_2 : Int) (a1 : Int) : Option (List Int × Int × Int) := spec_l6DrawSet.l0 k a1 (([] : List Int)) 0 s0_0 s0_1 s0_2
theorem spec_l6DrawSet.mono_l : ∀ k, (∀ y0 y1 y2 y3 y4 y5, LeO (spec_l6DrawSet.l0 k y0 y1 y2 y3 y4 y5) (spec_l6DrawSet.l0 (k + 1) y0 y1 y2 y3 y4 y5))
 | 0 => fun _ _ _ _ _ _ r h => by simp [spec_l6DrawSet.l0] at h
 | k + 1 => by
  have ih0 := spec_l6DrawSet.mono_l k
  intro y0 y1 y2 y3 y4 y5
  unfold spec_l6DrawSet.l0
  repeat' first | (with_reducible exact ih0 _ _ _ _ _ _) | (with_reducible exact spec_SetAdd.mono _ _ _) | (with_reducible exact LeO.refl _) | (with_reducible exact LeO.none _) | (with_reducible refine LeO.ite ?_ ?_) | (with_reducible refine LeO.bind ?_ (fun _ => ?_))
theorem spec_l6DrawSet.mono : ∀ a0 a1 a2 a3 k, LeO (spec_l6DrawSet.f k a0 a1 a2 a3) (spec_l6DrawSet.f (k + 1) a0 a1 a2 a3) := by
 intro a0 a1 a2 a3 k
 have ih0 := spec_l6DrawSet.mono_l k
 unfold spec_l6DrawSet.f
 repeat' first | (with_reducible exact ih0 _ _ _ _ _ _) | (with_reducible exact spec_SetAdd.mono _ _ _) | (with_reducible exact LeO.refl _) | (with_reducible exact LeO.none _) | (with_reducible refine LeO.ite ?_ ?_) | (with_reducible refine LeO.bind ?_ (fun _ => ?_))
set_option maxHeartbeats 8000000 in
set_option maxRecDepth 100000 in
theorem spec_l6DrawSet.calls (k : Nat) (g : Nat) (s0_0 : List Int) (s0_1 : Int) (s0_2 : Int) (a1 : Int) (r1 : List Int) (r2 : Int) (r3 : Int) (w0 w : World) (hI : IsS53 w0 w g s0_0 s0_1 s0_2) (hB : Below w0.heap.size w0 w) (h : spec_l6DrawSet.f k s0_0 s0_1 s0_2 a1 = some (r1, r2, r3)) :
  Calls Tryz.prog 42 #[.pointer (some ⟨g, 0, none⟩), .int .i64 a1] w fun e w' => ∃ v0_ : Value, e = .returned (v0_) ∧ Kd.R (Kd.int .i64) 3 w' w.heap.size (fun _ => True) v0_ r1 ∧ IsS53 w0 w' g s0_0 r2 r3 ∧ Below w0.heap.size w0 w' ∧ KeepBut w w' g none := by
 have HI0 := Aside0.mk hI; have HK := Aside0.mk (KeepBut.refl w g none); have HL := Aside0.mk hB.size; clear hI; have HW0 := Aside0.mk hB.size; have HB := Aside0.mk hB; clear hB; have H := h; unfold spec_l6DrawSet.f at H; clear h; obtain ⟨y348, hy348⟩ : ∃ y_ : List Int, y_ = (([] : List Int)) := ⟨_, rfl⟩
 replace H : (spec_l6DrawSet.l0 k a1 y348 0 s0_0 s0_1 s0_2) = some (r1, r2, r3) := by first | (rw [hy348]; with_reducible exact H) | (have H2_ := (Option.bind_some _ _).symm.trans H; rw [hy348]; with_reducible exact H2_) | (have H2_ := (Option.bind_some _ _).symm.trans H; with_reducible exact H2_) | with_reducible exact H | (rw [hy348]; exact H) | exact H
 have Ny348 := Aside0.mk hy348; clear hy348; have i0_ := iB53 HI0; have i1_ : LB w0 w := ⟨HB.out⟩
 go_enter Tryz.func42, Tryz.ntmps42
 have H' := Aside0.mk H; clear H
 go_wp2_with (first | ((with_reducible refine gate_dst (N := 7) rfl ?_); refine lL 7 3 (Kd.int .i64) rfl Ny348 ?_; intro Ao349 co349 w3 _ HO350))
 refine wC ?_; intro w4 _
 go_loopg [5, 6] k (fun kq v5 v6 w' => ∃ (x5_1 : List Int) (x6_1 : Int) (x1001_1 : Int) (x1002_1 : Int) (Ao5_1 : Option Addr) (co5_1 : Nat), v5 = .slice Ao5_1 x5_1.length co5_1 ∧ v6 = .int .i64 x6_1 ∧ Aside0 (spec_l6DrawSet.l0 kq a1 x5_1 x6_1 s0_0 x1001_1 x1002_1 = some (r1, r2, r3)) ∧ Aside0 (kq ≤ k) ∧ Aside0 (Kd.R (Kd.int .i64) 3 w' w.heap.size (iv w w') (.slice Ao5_1 x5_1.length co5_1) x5_1) ∧ StB g w' 53 ∧ Aside0 (IsS53 w0 w' g s0_0 x1001_1 x1002_1) ∧ KT w4 [g] w _ (Kd.int .i64) 3 w' ∧ LB w0 w' ∧ KS w g w')
 case atStart => exact ⟨(y348), (0), (s0_1), (s0_2), (Ao349), (co349), y0_15, y0_15, H', ⟨Nat.le_refl _⟩, ⟨rJ HO350⟩, iB53 ⟨iS53 HI0⟩, ⟨iS53 HI0⟩, ⟨UpT.out⟩, ⟨UpW.out⟩, ⟨UpB.out⟩⟩
 case round =>
  clear H'; obtain ⟨x5_1, x6_1, x1001_1, x1002_1, Ao5_1, co5_1, rfl, rfl, HA, HK1, HO_5, _, HI5, _, _, _⟩ := hrel; have HO_7 := HO350; cases gk with
  | zero => exact absurd HA.out (by simp [spec_l6DrawSet.l0])
  | succ k1 =>
   have H := HA.out; clear HA
   simp only [spec_l6DrawSet.l0] at H
   obtain ⟨⟨t351, t352, t353⟩, A6, H⟩ := oB H; (try dsimp only at H); have H' := Aside0.mk H; clear H
   go_upto_if 11 with (first | ((with_reducible refine gate_callee (f := 39) rfl ?_); refine gK (some 10) Tryz.func39 (spec_l1Below.calls (hI := iS53 HI5) (hB := UpW.out) (w := _) (h := A6.out)) ?_; intro w7 _ _ _ HI8))
   have H := H'.out; clear H'
   by_cases c9 : x6_1 < t351
   ·
    rw [if_pos c9] at H
    have c9b0 : decide (x6_1 < t351) = true := decide_eq_true c9; clear c9
    (first | rw [c9b0] | (simp only [i64_w, i32_w]; rw [c9b0]) | skip)
    obtain ⟨⟨t354, t355, t356⟩, A10, H⟩ := oB H; (try dsimp only at H); obtain ⟨t357, A11, H⟩ := oB H; (try dsimp only at H); have H' := Aside0.mk H; clear H
    go_wp2_with (first | ((with_reducible refine gate_callee (f := 39) rfl ?_); refine gK (some 17) Tryz.func39 (spec_l1Below.calls (hI := iS53 HI8) (hB := UpW.out) (w := _) (h := A10.out)) ?_; intro w12 _ _ _ HI13) | ((with_reducible refine gate_callee (f := 52) rfl ?_); refine gC1 (some 18) Tryz.func52 (spec_SetAdd.calls (hr0 := rC HO_5) (hc0 := rL HO_5) (w := _) (h := A11.out)) ?_; intro Ao358 co358 w14 _ HO359))
    go_roundg k1
    case measure => have := HK1.out; omega
    case rel => exact ⟨(t357), (wrap64 (x6_1 + 1)), (t355), (t356), (Ao358), (co358), y0_15, y0_15, H', ⟨y0_17⟩, ⟨rJ HO359⟩, iB53 ⟨iS53 HI13⟩, ⟨iS53 HI13⟩, ⟨UpT.out⟩, ⟨UpW.out⟩, ⟨UpB.out⟩⟩
   rw [if_neg c9] at H
   have c9b0 : decide (x6_1 < t351) = false := decide_eq_false c9; clear c9
   (first | rw [c9b0] | (simp only [i64_w, i32_w]; rw [c9b0]) | skip)
   obtain ⟨⟨t360, t361, t362⟩, A15, H⟩ := oB H; (try dsimp only at H); have H' := Aside0.mk H; clear H
   go_upto_if 20 with (first | ((with_reducible refine gate_callee (f := 24) rfl ?_); refine gK (some 20) Tryz.func24 (spec_l1Once.calls (hI := iS53 HI8) (hB := UpW.out) (w := _) (h := A15.out)) ?_; intro w16 _ _ _ HI17))
   have H := H'.out; clear H'
   by_cases c18 : t360 = true
   ·
    subst c18
    rw [if_pos rfl] at H
    obtain ⟨y363, hy363⟩ : ∃ y_ : List Int, y_ = (([(-1), 0, 3, 9] : List Int)) := ⟨_, rfl⟩
    replace H : ((spec_l1PickInt.f s0_0 t361 t362 y363).bind fun bt366 => (if x5_1.length < 17592186044416 then (some ((x5_1 ++ [bt366.1]), bt366.2.1, bt366.2.2)) else (none))) = some (r1, r2, r3) := by first | (rw [hy363]; with_reducible exact H) | (have H2_ := (Option.bind_some _ _).symm.trans H; rw [hy363]; with_reducible exact H2_) | (have H2_ := (Option.bind_some _ _).symm.trans H; with_reducible exact H2_) | with_reducible exact H | (rw [hy363]; exact H) | exact H
    have Ny363 := Aside0.mk hy363; clear hy363; obtain ⟨⟨t366, t367, t368⟩, A19, H⟩ := oB H; (try dsimp only at H)
    by_cases c20 : x5_1.length < 17592186044416
    rotate_left
    ·
     rw [if_neg c20] at H
     exact absurd H (by simp)
    rw [if_pos c20] at H
    have LMc20 := Aside0.mk c20; clear c20; obtain ⟨y369, hy369⟩ : ∃ y_ : List Int, y_ = (x5_1 ++ [t366]) := ⟨_, rfl⟩
    replace H : (some (y369, t367, t368)) = some (r1, r2, r3) := by first | (rw [hy369]; with_reducible exact H) | (have H2_ := (Option.bind_some _ _).symm.trans H; rw [hy369]; with_reducible exact H2_) | (have H2_ := (Option.bind_some _ _).symm.trans H; with_reducible exact H2_) | with_reducible exact H | (rw [hy369]; exact H) | exact H
    have Ny369 := Aside0.mk hy369; clear hy369
    simp only [Option.some.injEq, Prod.mk.injEq] at H
    obtain ⟨rfl, rfl, rfl⟩ := H
    go_wp2_with (first | ((with_reducible refine gate_dst (N := 23) rfl ?_); refine lL 23 3 (Kd.int .i64) rfl Ny363 ?_; intro Ao364 co364 w21 _ HO365) | ((with_reducible refine gate_callee (f := 44) rfl ?_); refine gK (some 24) Tryz.func44 (spec_l1PickInt.calls (hI := iS53 HI17) (hB := UpW.out) (hr1 := rC HO365) (hc1 := rL HO365) (hf1 := fS HO365) (w := _) (h := A19.out)) ?_; intro w22 _ _ _ HI23) | ((with_reducible refine gate_builtin (b := .append) (xs := #[.tmp 21, .tmp 25]) rfl ?_); at_builtin; refine gA (Kd.int .i64) (.tmp 21) (.tmp 25) 26 3 (.int .i64 0) 8 t366 [.int .i64 t366] w Ny369 HO_5 rfl (by have := LMc20.out; omega) ?_ (ht := Tryz.underlying26) (hinfo := info3); intro Ao370 co370 w24 _ _ HO371))
    go_ret
    exact ⟨_, y0_15, rR HO371, iS53 HI23, UpW.out, UpB.out⟩
   replace c18 := Bool.eq_false_iff.mpr c18; subst c18
   rw [if_neg (show ¬ (false = true) by decide)] at H
   simp only [Option.some.injEq, Prod.mk.injEq] at H
   obtain ⟨rfl, rfl, rfl⟩ := H
   go_wp2
   go_ret
   exact ⟨_, y0_15, rR HO_5, iS53 HI17, UpW.out, UpB.out⟩

/-! ### spec_l1Pick: function 67 -/
def spec_l1Pick.f (s0_0 : List Int) (s0_1 : Int) (s0_2 : Int) (l1 : List ByteArray) : Option (ByteArray × Int × Int) := (spec_l1Below.f s0_0 s0_1 s0_2 (l1.length : Int)).bind fun bt372 => (if 0 ≤ bt372.1 then (if bt372.1 < (l1.length : Int) then (some (rdOf ByteArray.empty l1 bt372.1, bt372.2.1, bt372.2.2)) else (none)) else (none))
set_option maxHeartbeats 8000000 in
set_option maxRecDepth 100000 in
theorem spec_l1Pick.calls (g : Nat) (s0_0 : List Int) (s0_1 : Int) (s0_2 : Int) (A1 : Option Addr) (c1 : Nat) (l1 : List ByteArray) (r1 : ByteArray) (r2 : Int) (r3 : Int) (w0 w : World) (hI : IsS53 w0 w g s0_0 s0_1 s0_2) (hB : Below w0.heap.size w0 w) (hr1 : Kd.C Kd.string w A1 l1.length l1) (hc1 : l1.length ≤ c1) (hf1 : ∀ ad, A1 = some ad → 0 < l1.length → ad.block ≠ g) (h : spec_l1Pick.f s0_0 s0_1 s0_2 l1 = some (r1, r2, r3)) :
  Calls Tryz.prog 67 #[.pointer (some ⟨g, 0, none⟩), .slice A1 l1.length c1] w fun e w' => e = .returned (.string r1) ∧ IsS53 w0 w' g s0_0 r2 r3 ∧ Below w0.heap.size w0 w' ∧ KeepBut w w' g none := by
 have HR1 := Aside0.mk hr1; have HC1 := Aside0.mk hc1; clear hr1 hc1; have HI0 := Aside0.mk hI; have HK := Aside0.mk (KeepBut.refl w g none); have HL := Aside0.mk hB.size; clear hI; have HW0 := Aside0.mk hB.size; have HB := Aside0.mk hB; clear hB
 have H := h; unfold spec_l1Pick.f at H
 clear h; obtain ⟨⟨t372, t373, t374⟩, A3, H⟩ := oB H; (try dsimp only at H)
 by_cases c4 : 0 ≤ t372
 ·
  rw [if_pos c4] at H
  have c4b0 : decide (0 ≤ t372) = true := decide_eq_true c4; clear c4
  by_cases c5 : t372 < (l1.length : Int)
  rotate_left
  ·
   rw [if_neg c5] at H
   exact absurd H (by simp)
  rw [if_pos c5] at H
  have c5b0 : decide (t372 < (l1.length : Int)) = true := decide_eq_true c5; clear c5
  simp only [Option.some.injEq, Prod.mk.injEq] at H
  obtain ⟨rfl, rfl, rfl⟩ := H
  go_enter Tryz.func67, Tryz.ntmps67
  go_wp2_with (first | ((with_reducible refine gate_callee (f := 39) rfl ?_); refine gB (some 9) Tryz.func39 #[.pointer (some ⟨g, 0, none⟩), .int .i64 (l1.length : Int)] ?_; (with_reducible refine (spec_l1Below.calls g s0_0 s0_1 s0_2 (l1.length : Int) t372 t373 t374 w0 _ ?side1 ?side2 A3.out).mono ?_); (case side1 => repeat (first | (with_reducible first | exact HI0.out | apply IsS53.alloc | apply IsS53.drewN | apply IsS53.drew | apply IsS53.set_1 | apply IsS53.set_2) | exact HI0.out)); (case side2 => repeat (first | (with_reducible first | exact HB.out | apply below_alloc | apply pw_below_drewN | apply below_drew1 | refine below_set ?_ (IsS53.ge HI0.out)) | exact HB.out)); rintro e w6 ⟨rfl, hi, hb, hk⟩; refine ⟨_, rfl, ?_⟩; replace HK := kt HK hk; replace HB := Aside0.mk (hb); replace HI0 := Aside0.mk (hi); (try clear hb); (try clear hb2); (try clear hk); (try clear hi); have p375 : 0 ≤ (t372 : Int) := of_decide_eq_true y0_14; have q375 : t372 < (l1.length : Int) := of_decide_eq_true y0_14; obtain ⟨ad375, e375, hx375_0⟩ := Kd.at_string HR1.out t372 p375 q375; cases e375; replace hx375_0 := keep_cell HK.out hx375_0 (by first | (rw [add_block]; exact hf1 _ rfl (by omega)) | exact hf1 _ rfl (by omega) | exact hf1 ad375 rfl (by omega)); replace p375 := eq_true p375; replace q375 := eq_true q375))
  go_ret
  exact ⟨y0_11, y0_5, y0_4, hI HK.out⟩
 rw [if_neg c4] at H
 exact absurd H (by simp)

/-! ### spec_l2Dent: function 54 -/
def spec_l2Dent.f (s0_0 : List Int) (s0_1 : Int) (s0_2 : Int) (a1 : ByteArray) : Option (ByteArray × Int × Int) := (spec_l1Below.f s0_0 s0_1 s0_2 (wrap64 ((a1.size : Int) + 1))).bind fun bt376 => ((spec_l1Below.f s0_0 bt376.2.1 bt376.2.2 5).bind fun bt379 => (if bt379.1 = 0 then (if 0 ≤ bt376.1 then (if bt376.1 ≤ (a1.size : Int) then (some (a1.extract 0 (bt376.1 : Int).toNat, bt379.2.1, bt379.2.2)) else (none)) else (none)) else (if bt379.1 = 1 then (if 0 ≤ bt376.1 then (if bt376.1 ≤ (a1.size : Int) then ((spec_l1Pick.f s0_0 bt379.2.1 bt379.2.2 (([(⟨#[48]⟩ : ByteArray), (⟨#[44]⟩ : ByteArray), (⟨#[62]⟩ : ByteArray), (⟨#[47]⟩ : ByteArray), (⟨#[124]⟩ : ByteArray), (⟨#[120]⟩ : ByteArray), (⟨#[49]⟩ : ByteArray)] : List ByteArray))).bind fun bt385 => (if (a1.extract 0 (bt376.1 : Int).toNat).size + bt385.1.size ≤ 9223372036854775807 then (if ((a1.extract 0 (bt376.1 : Int).toNat) ++ bt385.1).size + (a1.extract (bt376.1 : Int).toNat a1.size).size ≤ 9223372036854775807 then (some (((a1.extract 0 (bt376.1 : Int).toNat) ++ bt385.1) ++ (a1.extract (bt376.1 : Int).toNat a1.size), bt385.2.1, bt385.2.2)) else (none)) else (none))) else (none)) else (none)) else (some (a1, bt379.2.1, bt379.2.2)))))
def spec_l2Dent.T6 : Bool × List (List Nat × List Nat) := (true, [([], []), ([], []), ([0, 1], [0, 1]), ([], []), ([], []), ([3, 4], [3, 4]), ([2, 5], [2, 5]), ([], []), ([], []), ([7, 8], [7, 8]), ([6, 9], [6, 9]), ([10, 5, 0, 1, 2, 3, 4, 5, 6, 7, 8, 9, 10], [10])])
def spec_l2Dent.B6 : List Nat := [0, 0, 3, 0, 0, 24, 63, 0, 0, 384, 1023, 2047]
theorem spec_l2Dent.tab6 : rtab .any (opsOf Tryz.f54 6) = spec_l2Dent.T6 := by kernel_rfl
theorem spec_l2Dent.bits6 : waitsOk spec_l2Dent.T6.2 spec_l2Dent.B6 = true := by kernel_rfl
set_option maxHeartbeats 8000000 in
set_option maxRecDepth 100000 in
theorem spec_l2Dent.calls (g : Nat) (s0_0 : List Int) (s0_1 : Int) (s0_2 : Int) (a1 : ByteArray) (r1 : ByteArray) (r2 : Int) (r3 : Int) (w0 w : World) (hI : IsS53 w0 w g s0_0 s0_1 s0_2) (hB : Below w0.heap.size w0 w) (h : spec_l2Dent.f s0_0 s0_1 s0_2 a1 = some (r1, r2, r3)) :
  Calls Tryz.prog 54 #[.pointer (some ⟨g, 0, none⟩), .string a1] w fun e w' => e = .returned (.string r1) ∧ IsS53 w0 w' g s0_0 r2 r3 ∧ Below w0.heap.size w0 w' ∧ KeepBut w w' g none := by
 have HI0 := Aside0.mk hI; have HK := Aside0.mk (KeepBut.refl w g none); have HL := Aside0.mk hB.size; clear hI; have HW0 := Aside0.mk hB.size; have HB := Aside0.mk hB; clear hB
 have H := h; unfold spec_l2Dent.f at H
 clear h; obtain ⟨⟨t376, t377, t378⟩, A3, H⟩ := oB H; (try dsimp only at H); obtain ⟨⟨t379, t380, t381⟩, A4, H⟩ := oB H; (try dsimp only at H)
 by_cases c5 : t379 = 0
 ·
  rw [if_pos c5] at H
  have c5b0 : (t379 == 0) = true := beq_iff_eq.mpr c5; have c5b1 : (t379 != 0) = false := bne_eq_false_iff_eq.mpr c5; clear c5
  by_cases c6 : 0 ≤ t376
  rotate_left
  ·
   rw [if_neg c6] at H
   exact absurd H (by simp)
  rw [if_pos c6] at H
  have c6b0 := eq_true c6; have c6b1 : decide (0 ≤ t376) = true := decide_eq_true c6; clear c6
  by_cases c7 : t376 ≤ (a1.size : Int)
  rotate_left
  ·
   rw [if_neg c7] at H
   exact absurd H (by simp)
  rw [if_pos c7] at H
  have c7b0 := eq_true c7; have c7b1 : decide (t376 ≤ (a1.size : Int)) = true := decide_eq_true c7; clear c7
  simp only [Option.some.injEq, Prod.mk.injEq] at H
  obtain ⟨rfl, rfl, rfl⟩ := H
  go_enter Tryz.func54, Tryz.ntmps54
  go_wp2_with (first | ((with_reducible refine gate_callee (f := 39) rfl ?_); refine gB (some 10) Tryz.func39 #[.pointer (some ⟨g, 0, none⟩), .int .i64 (wrap64 ((a1.size : Int) + 1))] ?_; (with_reducible refine (spec_l1Below.calls g s0_0 s0_1 s0_2 (wrap64 ((a1.size : Int) + 1)) t376 t377 t378 w0 _ ?side1 ?side2 A3.out).mono ?_); (case side1 => repeat (first | (with_reducible first | exact HI0.out | apply IsS53.alloc | apply IsS53.drewN | apply IsS53.drew | apply IsS53.set_1 | apply IsS53.set_2) | exact HI0.out)); (case side2 => repeat (first | (with_reducible first | exact HB.out | apply below_alloc | apply pw_below_drewN | apply below_drew1 | refine below_set ?_ (IsS53.ge HI0.out)) | exact HB.out)); rintro e w8 ⟨rfl, hi, hb, hk⟩; refine ⟨_, rfl, ?_⟩; replace HK := kt HK hk; replace HB := Aside0.mk (hb); replace HI0 := Aside0.mk (hi); (try clear hb); (try clear hb2); (try clear hk); (try clear hi)) | ((with_reducible refine gate_callee (f := 39) rfl ?_); refine gB (some 12) Tryz.func39 #[.pointer (some ⟨g, 0, none⟩), .int .i64 5] ?_; (with_reducible refine (spec_l1Below.calls g s0_0 t377 t378 5 t379 t380 t381 w0 _ ?side1 ?side2 A4.out).mono ?_); (case side1 => repeat (first | (with_reducible first | exact HI0.out | apply IsS53.alloc | apply IsS53.drewN | apply IsS53.drew | apply IsS53.set_1 | apply IsS53.set_2) | exact HI0.out)); (case side2 => repeat (first | (with_reducible first | exact HB.out | apply below_alloc | apply pw_below_drewN | apply below_drew1 | refine below_set ?_ (IsS53.ge HI0.out)) | exact HB.out)); rintro e w9 ⟨rfl, hi, hb, hk⟩; refine ⟨_, rfl, ?_⟩; replace HK := kt HK hk; replace HB := Aside0.mk (hb); replace HI0 := Aside0.mk (hi); (try clear hb); (try clear hb2); (try clear hk); (try clear hi)))
  go_ret
  exact ⟨y0_11, y0_5, y0_4, hI HK.out⟩
 rw [if_neg c5] at H
 have c5b0 : (t379 == 0) = false := beq_eq_false_iff_ne.mpr c5; have c5b1 : (t379 != 0) = true := bne_iff_ne.mpr c5
 by_cases c10 : t379 = 1
 ·
  rw [if_pos c10] at H
  have c10b0 : (t379 == 1) = true := beq_iff_eq.mpr c10; have c10b1 : (t379 != 1) = false := bne_eq_false_iff_eq.mpr c10; clear c10
  by_cases c11 : 0 ≤ t376
  rotate_left
  ·
   rw [if_neg c11] at H
   exact absurd H (by simp)
  rw [if_pos c11] at H
  have c11b0 := eq_true c11; have c11b1 : decide (0 ≤ t376) = true := decide_eq_true c11; clear c11
  by_cases c12 : t376 ≤ (a1.size : Int)
  rotate_left
  ·
   rw [if_neg c12] at H
   exact absurd H (by simp)
  rw [if_pos c12] at H
  have c12b0 := eq_true c12; have c12b1 : decide (t376 ≤ (a1.size : Int)) = true := decide_eq_true c12; clear c12; obtain ⟨y382, hy382⟩ : ∃ y_ : List ByteArray, y_ = (([(⟨#[48]⟩ : ByteArray), (⟨#[44]⟩ : ByteArray), (⟨#[62]⟩ : ByteArray), (⟨#[47]⟩ : ByteArray), (⟨#[124]⟩ : ByteArray), (⟨#[120]⟩ : ByteArray), (⟨#[49]⟩ : ByteArray)] : List ByteArray)) := ⟨_, rfl⟩
  replace H : ((spec_l1Pick.f s0_0 t380 t381 y382).bind fun bt385 => (if (a1.extract 0 (t376 : Int).toNat).size + bt385.1.size ≤ 9223372036854775807 then (if ((a1.extract 0 (t376 : Int).toNat) ++ bt385.1).size + (a1.extract (t376 : Int).toNat a1.size).size ≤ 9223372036854775807 then (some (((a1.extract 0 (t376 : Int).toNat) ++ bt385.1) ++ (a1.extract (t376 : Int).toNat a1.size), bt385.2.1, bt385.2.2)) else (none)) else (none))) = some (r1, r2, r3) := by first | (rw [hy382]; with_reducible exact H) | (have H2_ := (Option.bind_some _ _).symm.trans H; rw [hy382]; with_reducible exact H2_) | (have H2_ := (Option.bind_some _ _).symm.trans H; with_reducible exact H2_) | with_reducible exact H | (rw [hy382]; exact H) | exact H
  have Ny382 := Aside0.mk hy382; clear hy382; obtain ⟨⟨t385, t386, t387⟩, A13, H⟩ := oB H; (try dsimp only at H)
  by_cases c14 : (a1.extract 0 (t376 : Int).toNat).size + t385.size ≤ 9223372036854775807
  rotate_left
  ·
   rw [if_neg c14] at H
   exact absurd H (by simp)
  rw [if_pos c14] at H
  have c14b0 := eq_true c14; have c14b1 : decide ((a1.extract 0 (t376 : Int).toNat).size + t385.size ≤ 9223372036854775807) = true := decide_eq_true c14
  try have c14b2 : (9223372036854775807 < (a1.extract 0 (t376 : Int).toNat).size + t385.size) = False := eq_false (Nat.not_lt.2 c14)
  (try have c14b3 : (9223372036854775807 < t376.toNat + t385.size) = False := eq_false (by have h_ := c14; simp only [ByteArray.size_append, ByteArray.size_extract] at h_; have h0_ : (t376 : Int) ≤ (a1.size : Int) := of_decide_eq_true (by assumption); omega))
  have c15b0 := eq_true (of_decide_eq_true y0_14 : 0 ≤ t376); have c16b0 := eq_true (of_decide_eq_true y0_14 : t376 ≤ (a1.size : Int))
  by_cases c17 : ((a1.extract 0 (t376 : Int).toNat) ++ t385).size + (a1.extract (t376 : Int).toNat a1.size).size ≤ 9223372036854775807
  rotate_left
  ·
   rw [if_neg c17] at H
   exact absurd H (by simp)
  rw [if_pos c17] at H
  have c17b0 := eq_true c17; have c17b1 : decide (((a1.extract 0 (t376 : Int).toNat) ++ t385).size + (a1.extract (t376 : Int).toNat a1.size).size ≤ 9223372036854775807) = true := decide_eq_true c17
  try have c17b2 : (9223372036854775807 < ((a1.extract 0 (t376 : Int).toNat) ++ t385).size + (a1.extract (t376 : Int).toNat a1.size).size) = False := eq_false (Nat.not_lt.2 c17)
  (try have c17b3 : (9223372036854775807 < t376.toNat + t385.size + (a1.size - t376.toNat)) = False := eq_false (by have h_ := c17; simp only [ByteArray.size_append, ByteArray.size_extract] at h_; have h0_ : (t376 : Int) ≤ (a1.size : Int) := of_decide_eq_true (by assumption); omega))
  simp only [Option.some.injEq, Prod.mk.injEq] at H
  obtain ⟨rfl, rfl, rfl⟩ := H
  go_enter Tryz.func54, Tryz.ntmps54
  try go_wp2_with (first | ((with_reducible refine gate_callee (f := 39) rfl ?_); refine gB (some 10) Tryz.func39 #[.pointer (some ⟨g, 0, none⟩), .int .i64 (wrap64 ((a1.size : Int) + 1))] ?_; (with_reducible refine (spec_l1Below.calls g s0_0 s0_1 s0_2 (wrap64 ((a1.size : Int) + 1)) t376 t377 t378 w0 _ ?side1 ?side2 A3.out).mono ?_); (case side1 => repeat (first | (with_reducible first | exact HI0.out | apply IsS53.alloc | apply IsS53.drewN | apply IsS53.drew | apply IsS53.set_1 | apply IsS53.set_2) | exact HI0.out)); (case side2 => repeat (first | (with_reducible first | exact HB.out | apply below_alloc | apply pw_below_drewN | apply below_drew1 | refine below_set ?_ (IsS53.ge HI0.out)) | exact HB.out)); rintro e w18 ⟨rfl, hi, hb, hk⟩; refine ⟨_, rfl, ?_⟩; replace HK := kt HK hk; replace HB := Aside0.mk (hb); replace HI0 := Aside0.mk (hi); (try clear hb); (try clear hb2); (try clear hk); (try clear hi)) | ((with_reducible refine gate_callee (f := 39) rfl ?_); refine gB (some 12) Tryz.func39 #[.pointer (some ⟨g, 0, none⟩), .int .i64 5] ?_; (with_reducible refine (spec_l1Below.calls g s0_0 t377 t378 5 t379 t380 t381 w0 _ ?side1 ?side2 A4.out).mono ?_); (case side1 => repeat (first | (with_reducible first | exact HI0.out | apply IsS53.alloc | apply IsS53.drewN | apply IsS53.drew | apply IsS53.set_1 | apply IsS53.set_2) | exact HI0.out)); (case side2 => repeat (first | (with_reducible first | exact HB.out | apply below_alloc | apply pw_below_drewN | apply below_drew1 | refine below_set ?_ (IsS53.ge HI0.out)) | exact HB.out)); rintro e w19 ⟨rfl, hi, hb, hk⟩; refine ⟨_, rfl, ?_⟩; replace HK := kt HK hk; replace HB := Aside0.mk (hb); replace HI0 := Aside0.mk (hi); (try clear hb); (try clear hb2); (try clear hk); (try clear hi)))
  replace HI0 := Aside0.mk (IsS53.drew HI0.out); replace HK := Aside0.mk (keep_drew HK.out); replace HB := Aside0.mk (below_drew1 HB.out)
  refine start_ (n := 12) (S := fun w' => True) (ds := []) #[false, false, false, false, false, false, false, false, false, false, false, false] (by kernel_rfl) rfl rfl trivial (fun hHeld => ?_); refine with_tabW spec_l2Dent.tab6 spec_l2Dent.bits6 (fun HT_ HW_ => ?_)
  generalize w19.drew = w20 at HI0 HK HB hHeld ⊢
  refine pA 0 (some 20) (bz 12 1) HT_ ?_
  refine pA 1 (some 21) (bz 12 3) HT_ ?_
  refine pA 2 (some 22) (bz 12 7) HT_ ?_
  refine pA 3 (some 23) (bz 12 15) HT_ ?_
  refine pA 7 (some 27) (bz 12 143) HT_ ?_
  refine pA 8 (some 28) (bz 12 399) HT_ ?_
  refine pA 9 (some 29) (bz 12 911) HT_ ?_
  refine oA 4 (some 24) (bz 12 927) HT_ (fun K hK => ?_)
  refine Kd.R_lit_step Kd.string _ 9 ?hg (N := 24) ?hd (xs := ([(⟨#[48]⟩ : ByteArray), (⟨#[44]⟩ : ByteArray), (⟨#[62]⟩ : ByteArray), (⟨#[47]⟩ : ByteArray), (⟨#[124]⟩ : ByteArray), (⟨#[120]⟩ : ByteArray), (⟨#[49]⟩ : ByteArray)] : List ByteArray)) (inner := [.string (⟨#[48]⟩ : ByteArray), .string (⟨#[44]⟩ : ByteArray), .string (⟨#[62]⟩ : ByteArray), .string (⟨#[47]⟩ : ByteArray), .string (⟨#[124]⟩ : ByteArray), .string (⟨#[120]⟩ : ByteArray), .string (⟨#[49]⟩ : ByteArray)]) (ok := fun _ => True) (okp := fun _ => True) ?hr ?hp (fun _ hk => hk) trivial (Below.refl _ _) (Nat.le_refl _) (by simp) ?_; (case hd => rfl); (case hg => rfl); (case hr => first | (go_simp; done) | (go_simp; rfl)); (case hp => exact (Reps.one (show Kd.M Kd.string _ _ _ (⟨#[48]⟩ : ByteArray) [.string (⟨#[48]⟩ : ByteArray)] from rfl) (Reps.one (show Kd.M Kd.string _ _ _ (⟨#[44]⟩ : ByteArray) [.string (⟨#[44]⟩ : ByteArray)] from rfl) (Reps.one (show Kd.M Kd.string _ _ _ (⟨#[62]⟩ : ByteArray) [.string (⟨#[62]⟩ : ByteArray)] from rfl) (Reps.one (show Kd.M Kd.string _ _ _ (⟨#[47]⟩ : ByteArray) [.string (⟨#[47]⟩ : ByteArray)] from rfl) (Reps.one (show Kd.M Kd.string _ _ _ (⟨#[124]⟩ : ByteArray) [.string (⟨#[124]⟩ : ByteArray)] from rfl) (Reps.one (show Kd.M Kd.string _ _ _ (⟨#[120]⟩ : ByteArray) [.string (⟨#[120]⟩ : ByteArray)] from rfl) (Reps.one (show Kd.M Kd.string _ _ _ (⟨#[49]⟩ : ByteArray) [.string (⟨#[49]⟩ : ByteArray)] from rfl) (Reps.none _ _)))))))))
  intro v383 w21 ho22 hb hg_ hnew_
  clear hg_ hnew_
  (first | rw [← Ny382.out] at ho22 | (simp only [Int.reduceToNat] at ho22; rw [← Ny382.out] at ho22))
  have HO384 := Aside0.mk (Kd.R_lower ho22 (keep_size (w := w) (g := g) (row := none) (hI HK.out))); replace HK := kb HK hb; replace HB : Aside0 (Below w0.heap.size w0 _) := Aside0.mk (below_step y0_4 hb); replace HI0 := Aside0.mk (IsS53.below y0_5 hb); clear hb ho22; obtain ⟨Ao23, co23, eo23⟩ := Kd.R_slice HO384.out
  (first | subst eo23 | (injection eo23 with f1_ f2_ f3_; have f4_ := f1_.symm; have f5_ := f3_.symm; clear f1_ f2_ f3_; subst f4_; subst f5_))
  refine hK.out _ _ trivial (fun hHeld => ?_)
  clear hK K
  refine nA (some 24) ?_
  refine oA 5 (some 25) (bz 12 959) HT_ (fun K hK => ?_)
  refine gA Tryz.func67 #[.pointer (some ⟨g, 0, none⟩), .slice Ao23 y382.length co23] ?_
  with_reducible refine (spec_l1Pick.calls g s0_0 t380 t381 _ _ y382 t385 t386 t387 w0 _ ?side1 ?side2 ?side3 ?side4 ?side5 A13.out).mono ?_
  (case side1 => repeat (first | (with_reducible first | exact HI0.out | apply IsS53.alloc | apply IsS53.drewN | apply IsS53.drew | apply IsS53.set_1 | apply IsS53.set_2) | exact HI0.out))
  (case side2 => repeat (first | (with_reducible first | exact HB.out | apply below_alloc | apply pw_below_drewN | apply below_drew1 | refine below_set ?_ (IsS53.ge HI0.out)) | exact HB.out))
  (case side3 => repeat (first | exact (Kd.R_reads' HO384.out).2.2 | (with_reducible refine Kd.C_alloc ?_ _) | (with_reducible refine Kd.C_drewN ?_ _) | (with_reducible refine Kd.C_drew ?_)))
  (case side4 => exact (Kd.R_reads' HO384.out).2.1)
  (case side5 => exact far_slice (IsS53.own_ne HI0.out HO384.out (by decide)))
  rintro e w24 ⟨rfl, hi, hb, hk⟩
  refine ⟨_, rfl, ?_⟩
  replace HO384 := Aside0.mk (Kd.R_mono (Kd.R_keep (IsS53.apart (show IsS53 w0 _ g s0_0 t380 t381 from y0_5) (rI HO384.out) (by decide)) hk (fun _ h => h.2)) (fun _ h => h.1))
  replace HK := kt HK hk; replace HB := Aside0.mk (hb); replace HI0 := Aside0.mk (hi)
  (try clear hb)
  (try clear hb2)
  (try clear hk)
  (try clear hi)
  refine hK.out _ _ trivial (fun hHeld => ?_)
  clear hK K
  refine nA (some 25) ?_
  refine pA 6 (some 26) (bz 12 1023) HT_ ?_
  refine pA 10 (some 30) (bz 12 2047) HT_ ?_
  refine pA 11 (some 4) (bz 12 4095) HT_ ?_
  refine done_ (done_of HT_.out (by kernel_rfl)) ?_
  try go_wp2
  go_ret
  exact ⟨y0_11, y0_5, y0_4, hI HK.out⟩
 rw [if_neg c10] at H
 have c10b0 : (t379 == 1) = false := beq_eq_false_iff_ne.mpr c10; have c10b1 : (t379 != 1) = true := bne_iff_ne.mpr c10
 simp only [Option.some.injEq, Prod.mk.injEq] at H
 obtain ⟨rfl, rfl, rfl⟩ := H
 go_enter Tryz.func54, Tryz.ntmps54
 go_wp2_with (first | ((with_reducible refine gate_callee (f := 39) rfl ?_); refine gB (some 10) Tryz.func39 #[.pointer (some ⟨g, 0, none⟩), .int .i64 (wrap64 ((a1.size : Int) + 1))] ?_; (with_reducible refine (spec_l1Below.calls g s0_0 s0_1 s0_2 (wrap64 ((a1.size : Int) + 1)) t376 t377 t378 w0 _ ?side1 ?side2 A3.out).mono ?_); (case side1 => repeat (first | (with_reducible first | exact HI0.out | apply IsS53.alloc | apply IsS53.drewN | apply IsS53.drew | apply IsS53.set_1 | apply IsS53.set_2) | exact HI0.out)); (case side2 => repeat (first | (with_reducible first | exact HB.out | apply below_alloc | apply pw_below_drewN | apply below_drew1 | refine below_set ?_ (IsS53.ge HI0.out)) | exact HB.out)); rintro e w25 ⟨rfl, hi, hb, hk⟩; refine ⟨_, rfl, ?_⟩; replace HK := kt HK hk; replace HB := Aside0.mk (hb); replace HI0 := Aside0.mk (hi); (try clear hb); (try clear hb2); (try clear hk); (try clear hi)) | ((with_reducible refine gate_callee (f := 39) rfl ?_); refine gB (some 12) Tryz.func39 #[.pointer (some ⟨g, 0, none⟩), .int .i64 5] ?_; (with_reducible refine (spec_l1Below.calls g s0_0 t377 t378 5 t379 t380 t381 w0 _ ?side1 ?side2 A4.out).mono ?_); (case side1 => repeat (first | (with_reducible first | exact HI0.out | apply IsS53.alloc | apply IsS53.drewN | apply IsS53.drew | apply IsS53.set_1 | apply IsS53.set_2) | exact HI0.out)); (case side2 => repeat (first | (with_reducible first | exact HB.out | apply below_alloc | apply pw_below_drewN | apply below_drew1 | refine below_set ?_ (IsS53.ge HI0.out)) | exact HB.out)); rintro e w26 ⟨rfl, hi, hb, hk⟩; refine ⟨_, rfl, ?_⟩; replace HK := kt HK hk; replace HB := Aside0.mk (hb); replace HI0 := Aside0.mk (hi); (try clear hb); (try clear hb2); (try clear hk); (try clear hi)))
 go_ret
 exact ⟨y0_11, y0_5, y0_4, hI HK.out⟩

/-! ### spec_l5Draw: function 43 -/
def spec_l5Draw.l0 : Nat → ByteArray → Int → List Int → Int → Int → Option (ByteArray × Int × Int)
 | 0, _, _, _, _, _ => none
 | k + 1, x3, x4, x1000, x1001, x1002 => (spec_l1Below.f x1000 x1001 x1002 2).bind fun bt391 => (if x4 ≤ (wrap64 (30 + bt391.1)) then (if x3.size + 1 ≤ 9223372036854775807 then ((spec_Digits.f k x4).bind fun t394 => (if (x3 ++ (⟨#[47]⟩ : ByteArray)).size + t394.size ≤ 9223372036854775807 then (if ((x3 ++ (⟨#[47]⟩ : ByteArray)) ++ t394).size + 1 ≤ 9223372036854775807 then (spec_l5Draw.l0 k (((x3 ++ (⟨#[47]⟩ : ByteArray)) ++ t394) ++ (⟨#[124]⟩ : ByteArray)) (wrap64 (x4 + 1)) x1000 bt391.2.1 bt391.2.2) else (none)) else (none))) else (none)) else (some (x3, bt391.2.1, bt391.2.2)))
def spec_l5Draw.f (k : Nat) (s0_0 : List Int) (s0_1 : Int) (s0_2 : Int) : Option (ByteArray × Int × Int) := (spec_l1Once.f s0_0 s0_1 s0_2 20).bind fun bt388 => (if bt388.1 = true then (spec_l5Draw.l0 k (⟨#[]⟩ : ByteArray) 1 s0_0 bt388.2.1 bt388.2.2) else ((spec_l5DrawRight.f k s0_0 bt388.2.1 bt388.2.2).bind fun bt395 => ((spec_l2Dent.f s0_0 bt395.2.1 bt395.2.2 bt395.1).bind fun bt398 => (some (bt398.1, bt398.2.1, bt398.2.2)))))
theorem spec_l5Draw.mono_l : ∀ k, (∀ y0 y1 y2 y3 y4, LeO (spec_l5Draw.l0 k y0 y1 y2 y3 y4) (spec_l5Draw.l0 (k + 1) y0 y1 y2 y3 y4))
 | 0 => fun _ _ _ _ _ r h => by simp [spec_l5Draw.l0] at h
 | k + 1 => by
  have ih0 := spec_l5Draw.mono_l k
  intro y0 y1 y2 y3 y4
  unfold spec_l5Draw.l0
  repeat' first | (with_reducible exact ih0 _ _ _ _ _) | (with_reducible exact spec_Digits.mono _ _) | (with_reducible exact spec_l5DrawRight.mono _ _ _ _) | (with_reducible exact LeO.refl _) | (with_reducible exact LeO.none _) | (with_reducible refine LeO.ite ?_ ?_) | (with_reducible refine LeO.bind ?_ (fun _ => ?_))
theorem spec_l5Draw.mono : ∀ a0 a1 a2 k, LeO (spec_l5Draw.f k a0 a1 a2) (spec_l5Draw.f (k + 1) a0 a1 a2) := by
 intro a0 a1 a2 k
 have ih0 := spec_l5Draw.mono_l k
 unfold spec_l5Draw.f
 repeat' first | (with_reducible exact ih0 _ _ _ _ _) | (with_reducible exact spec_Digits.mono _ _) | (with_reducible exact spec_l5DrawRight.mono _ _ _ _) | (with_reducible exact LeO.refl _) | (with_reducible exact LeO.none _) | (with_reducible refine LeO.ite ?_ ?_) | (with_reducible refine LeO.bind ?_ (fun _ => ?_))
set_option maxHeartbeats 8000000 in
set_option maxRecDepth 100000 in
theorem spec_l5Draw.calls (k : Nat) (g : Nat) (s0_0 : List Int) (s0_1 : Int) (s0_2 : Int) (r1 : ByteArray) (r2 : Int) (r3 : Int) (w0 w : World) (hI : IsS53 w0 w g s0_0 s0_1 s0_2) (hB : Below w0.heap.size w0 w) (h : spec_l5Draw.f k s0_0 s0_1 s0_2 = some (r1, r2, r3)) :
  Calls Tryz.prog 43 #[.pointer (some ⟨g, 0, none⟩)] w fun e w' => e = .returned (.string r1) ∧ IsS53 w0 w' g s0_0 r2 r3 ∧ Below w0.heap.size w0 w' ∧ KeepBut w w' g none := by
 have HI0 := Aside0.mk hI; have HK := Aside0.mk (KeepBut.refl w g none); have HL := Aside0.mk hB.size; clear hI; have HW0 := Aside0.mk hB.size; have HB := Aside0.mk hB; clear hB
 have H := h; unfold spec_l5Draw.f at H
 clear h; obtain ⟨⟨t388, t389, t390⟩, A2, H⟩ := oB H; (try dsimp only at H); have i0_ := iB53 HI0; have i1_ : LB w0 w := ⟨HB.out⟩
 go_enter Tryz.func43, Tryz.ntmps43
 have H' := Aside0.mk H; clear H
 go_upto_if 6 with (first | ((with_reducible refine gate_callee (f := 24) rfl ?_); refine gK (some 6) Tryz.func24 (spec_l1Once.calls (hI := iS53 HI0) (hB := UpW.out) (w := _) (h := A2.out)) ?_; intro w3 _ _ _ HI4))
 have H := H'.out; clear H'
 by_cases c5 : t388 = true
 ·
  subst c5
  rw [if_pos rfl] at H
  have H' := Aside0.mk H; clear H
  go_wp2
  refine wC ?_; intro w6 _
  go_loopg [3, 4] k (fun kq v3 v4 w' => ∃ (x3_1 : ByteArray) (x4_1 : Int) (x1001_1 : Int) (x1002_1 : Int), v3 = .string x3_1 ∧ v4 = .int .i64 x4_1 ∧ Aside0 (spec_l5Draw.l0 kq x3_1 x4_1 s0_0 x1001_1 x1002_1 = some (r1, r2, r3)) ∧ Aside0 (kq ≤ k) ∧ StB g w' 53 ∧ Aside0 (IsS53 w0 w' g s0_0 x1001_1 x1002_1) ∧ KL w6 [g] w' ∧ LB w0 w' ∧ KS w g w')
  case atStart => exact ⟨((⟨#[]⟩ : ByteArray)), (1), (t389), (t390), y0_15, y0_15, H', ⟨Nat.le_refl _⟩, iB53 ⟨iS53 HI4⟩, ⟨iS53 HI4⟩, ⟨UpL.out⟩, ⟨UpW.out⟩, ⟨UpB.out⟩⟩
  case round =>
   clear H'; obtain ⟨x3_1, x4_1, x1001_1, x1002_1, rfl, rfl, HA, HK1, _, HI7, _, _, _⟩ := hrel; cases gk with
   | zero => exact absurd HA.out (by simp [spec_l5Draw.l0])
   | succ k1 =>
    have H := HA.out; clear HA
    simp only [spec_l5Draw.l0] at H
    obtain ⟨⟨t391, t392, t393⟩, A8, H⟩ := oB H; (try dsimp only at H); have H' := Aside0.mk H; clear H
    go_upto_if 11 with (first | ((with_reducible refine gate_callee (f := 39) rfl ?_); refine gK (some 9) Tryz.func39 (spec_l1Below.calls (hI := iS53 HI7) (hB := UpW.out) (w := _) (h := A8.out)) ?_; intro w9 _ _ _ HI10))
    have H := H'.out; clear H'
    by_cases c11 : x4_1 ≤ (wrap64 (30 + t391))
    ·
     rw [if_pos c11] at H
     have c11b0 : decide (x4_1 ≤ (wrap64 (30 + t391))) = true := decide_eq_true c11; clear c11
     (first | rw [c11b0] | (simp only [i64_w, i32_w]; rw [c11b0]) | skip)
     by_cases c12 : x3_1.size + 1 ≤ 9223372036854775807
     rotate_left
     ·
      rw [if_neg c12] at H
      exact absurd H (by simp)
     rw [if_pos c12] at H
     have c12b0 := eq_true c12; have c12b1 : decide (x3_1.size + 1 ≤ 9223372036854775807) = true := decide_eq_true c12
     try have c12b2 : (9223372036854775807 < x3_1.size + 1) = False := eq_false (Nat.not_lt.2 c12)
     obtain ⟨t394, A13, H⟩ := oB H; (try dsimp only at H)
     by_cases c14 : (x3_1 ++ (⟨#[47]⟩ : ByteArray)).size + t394.size ≤ 9223372036854775807
     rotate_left
     ·
      rw [if_neg c14] at H
      exact absurd H (by simp)
     rw [if_pos c14] at H
     have c14b0 := eq_true c14; have c14b1 : decide ((x3_1 ++ (⟨#[47]⟩ : ByteArray)).size + t394.size ≤ 9223372036854775807) = true := decide_eq_true c14
     try have c14b2 : (9223372036854775807 < (x3_1 ++ (⟨#[47]⟩ : ByteArray)).size + t394.size) = False := eq_false (Nat.not_lt.2 c14)
     (try have c14b3 : (9223372036854775807 < x3_1.size + 1 + t394.size) = False := eq_false (by have h_ := c14; simp only [ByteArray.size_append, ByteArray.size_extract, show (⟨#[47]⟩ : ByteArray).size = 1 from rfl] at h_; omega))
     by_cases c15 : ((x3_1 ++ (⟨#[47]⟩ : ByteArray)) ++ t394).size + 1 ≤ 9223372036854775807
     rotate_left
     ·
      rw [if_neg c15] at H
      exact absurd H (by simp)
     rw [if_pos c15] at H
     have c15b0 := eq_true c15; have c15b1 : decide (((x3_1 ++ (⟨#[47]⟩ : ByteArray)) ++ t394).size + 1 ≤ 9223372036854775807) = true := decide_eq_true c15
     try have c15b2 : (9223372036854775807 < ((x3_1 ++ (⟨#[47]⟩ : ByteArray)) ++ t394).size + 1) = False := eq_false (Nat.not_lt.2 c15)
     (try have c15b3 : (9223372036854775807 < x3_1.size + 1 + t394.size + 1) = False := eq_false (by have h_ := c15; simp only [ByteArray.size_append, ByteArray.size_extract, show (⟨#[47]⟩ : ByteArray).size = 1 from rfl] at h_; omega))
     have H' := Aside0.mk H; clear H
     go_wp2_with (first | ((with_reducible refine gate_callee (f := 53) rfl ?_); refine gC (some 17) Tryz.func53 (spec_Digits.calls (w := _) (h := A13.out)) ?_; intro w16 _))
     go_roundg k1
     case measure => have := HK1.out; omega
     case rel => exact ⟨(((x3_1 ++ (⟨#[47]⟩ : ByteArray)) ++ t394) ++ (⟨#[124]⟩ : ByteArray)), (wrap64 (x4_1 + 1)), (t392), (t393), y0_15, y0_15, H', ⟨y0_17⟩, iB53 ⟨iS53 HI10⟩, ⟨iS53 HI10⟩, ⟨UpL.out⟩, ⟨UpW.out⟩, ⟨UpB.out⟩⟩
    rw [if_neg c11] at H
    have c11b0 : decide (x4_1 ≤ (wrap64 (30 + t391))) = false := decide_eq_false c11; clear c11
    (first | rw [c11b0] | (simp only [i64_w, i32_w]; rw [c11b0]) | skip)
    simp only [Option.some.injEq, Prod.mk.injEq] at H
    obtain ⟨rfl, rfl, rfl⟩ := H
    go_wp2
    go_ret
    exact ⟨y0_15, iS53 HI10, UpW.out, UpB.out⟩
 replace c5 := Bool.eq_false_iff.mpr c5; subst c5
 rw [if_neg (show ¬ (false = true) by decide)] at H
 obtain ⟨⟨t395, t396, t397⟩, A17, H⟩ := oB H; (try dsimp only at H); obtain ⟨⟨t398, t399, t400⟩, A18, H⟩ := oB H; (try dsimp only at H)
 simp only [Option.some.injEq, Prod.mk.injEq] at H
 obtain ⟨rfl, rfl, rfl⟩ := H
 go_wp2_with (first | ((with_reducible refine gate_callee (f := 41) rfl ?_); refine gK (some 23) Tryz.func41 (spec_l5DrawRight.calls (hI := iS53 HI4) (hB := UpW.out) (w := _) (h := A17.out)) ?_; intro w19 _ _ _ HI20) | ((with_reducible refine gate_callee (f := 54) rfl ?_); refine gK (some 24) Tryz.func54 (spec_l2Dent.calls (hI := iS53 HI20) (hB := UpW.out) (w := _) (h := A18.out)) ?_; intro w21 _ _ _ HI22))
 go_ret
 exact ⟨y0_15, iS53 HI22, UpW.out, UpB.out⟩

end Go.Proofs.YtagpeafaiofkjaaGreatDoor.PFnQuorums
