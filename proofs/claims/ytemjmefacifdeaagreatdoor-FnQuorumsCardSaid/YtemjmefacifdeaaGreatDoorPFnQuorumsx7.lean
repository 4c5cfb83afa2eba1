-- By a program of this session, out of the translation (the print of the kit, with turns of its own). Lean checks it.
import Derived.Test.YtemjmefacifdeaaGreatDoorPFnQuorumsx0
import Derived.Test.YtemjmefacifdeaaGreatDoorPFnQuorumsx2
import Derived.Test.YtemjmefacifdeaaGreatDoorPFnQuorumsx5
import Derived.Test.YtemjmefacifdeaaGreatDoorPFnQuorumsx6
namespace Go.Proofs.YtemjmefacifdeaaGreatDoor.PFnQuorums
open Go.RowKit Go.Proofs.YtemjmefacifdeaaGreatDoorW.PrintWords Go.Proofs.YtemjmefacifdeaaGreatDoorW.PrintLast Go.Proofs.YtemjmefacifdeaaGreatDoorW.PrintMore
attribute [local go_sem] max2_int min2_int max_two min_two max_three min_three max_four min_four   -- for this text's walks alone
attribute [local go_sem] cell_in frozen_in
set_option synthInstance.maxSize 1000000
set_option synthInstance.maxHeartbeats 2000000
set_option linter.unusedVariables false
set_option linter.unusedSimpArgs false

/-! ### spec_SetHas: function 154 -/
def spec_SetHas.l0 : Nat → List Int → Int → Int → Option (Bool)
 | 0, _, _, _ => none
 | k + 1, x0, x1, x5 => if x5 < (x0.length : Int) then (if 0 ≤ x5 then (if (rd x0 x5) = x1 then (some true) else (spec_SetHas.l0 k x0 x1 (wrap64 (x5 + 1)))) else (none)) else (some false)
def spec_SetHas.f (k : Nat) (l0 : List Int) (a1 : Int) : Option (Bool) := spec_SetHas.l0 k l0 a1 0
theorem spec_SetHas.mono_l : ∀ k, (∀ y0 y1 y2, LeO (spec_SetHas.l0 k y0 y1 y2) (spec_SetHas.l0 (k + 1) y0 y1 y2))
 | 0 => fun _ _ _ r h => by simp [spec_SetHas.l0] at h
 | k + 1 => by
  have ih0 := spec_SetHas.mono_l k
  intro y0 y1 y2
  unfold spec_SetHas.l0
  repeat' first | (with_reducible exact ih0 _ _ _) | (with_reducible exact LeO.refl _) | (with_reducible exact LeO.none _) | (with_reducible refine LeO.ite ?_ ?_) | (with_reducible refine LeO.bind ?_ (fun _ => ?_))
theorem spec_SetHas.mono : ∀ a0 a1 k, LeO (spec_SetHas.f k a0 a1) (spec_SetHas.f (k + 1) a0 a1) := by
 intro a0 a1 k
 have ih0 := spec_SetHas.mono_l k
 unfold spec_SetHas.f
 repeat' first | (with_reducible exact ih0 _ _ _) | (with_reducible exact LeO.refl _) | (with_reducible exact LeO.none _) | (with_reducible refine LeO.ite ?_ ?_) | (with_reducible refine LeO.bind ?_ (fun _ => ?_))
set_option maxHeartbeats 8000000 in
set_option maxRecDepth 100000 in
theorem spec_SetHas.calls (k : Nat) (A0 : Option Addr) (c0 : Nat) (l0 : List Int) (a1 : Int) (r : Bool) (w : World) (hr0 : Kd.C (Kd.int .i64) w A0 l0.length l0) (hc0 : l0.length ≤ c0) (h : spec_SetHas.f k l0 a1 = some r) :
  Calls Tryz.prog 154 #[.slice A0 l0.length c0, .int .i64 a1] w fun e w' => e = .returned (.bool r) ∧ Drawn0 w w' := by
 have HR0 := Aside0.mk hr0; have HC0 := Aside0.mk hc0; clear hr0 hc0; have H := h; unfold spec_SetHas.f at H; clear h; have H' := Aside0.mk H; clear H
 go_enter Tryz.func154, Tryz.ntmps154
 go_wp2
 go_loopg [5] k (fun kq v5 w' => ∃ (x5_1 : Int), v5 = .int .i64 x5_1 ∧ Aside0 (spec_SetHas.l0 kq l0 a1 x5_1 = some r) ∧ Aside0 (kq ≤ k) ∧ Drawn0 w w')
 case atStart => exact ⟨(0), y0_15, H', ⟨Nat.le_refl _⟩, y0_13⟩
 case round =>
  clear H'
  try clear c1
  try clear p2
  obtain ⟨x5_1, rfl, HA, HK1, ⟨m1, rfl⟩⟩ := hrel; cases gk with
  | zero => exact absurd HA.out (by simp [spec_SetHas.l0])
  | succ k1 =>
   have H := HA.out; clear HA
   simp only [spec_SetHas.l0] at H
   by_cases c3 : x5_1 < (l0.length : Int)
   ·
    rw [if_pos c3] at H
    have c3b0 : decide (x5_1 < (l0.length : Int)) = true := decide_eq_true c3; clear c3
    by_cases c4 : 0 ≤ x5_1
    rotate_left
    ·
     rw [if_neg c4] at H
     exact absurd H (by simp)
    rw [if_pos c4] at H
    have c4b0 : decide (0 ≤ x5_1) = true := decide_eq_true c4; clear c4
    by_cases c5 : (rd l0 x5_1) = a1
    ·
     rw [if_pos c5] at H
     have c5b0 : ((rd l0 x5_1) == a1) = true := beq_iff_eq.mpr c5; have c5b1 : ((rd l0 x5_1) != a1) = false := bne_eq_false_iff_eq.mpr c5; clear c5; obtain rfl := Option.some.inj H; have p349 : 0 ≤ (x5_1 : Int) := of_decide_eq_true y0_14; have q349 : x5_1 < (l0.length : Int) := of_decide_eq_true y0_14; obtain ⟨ad349, e349, hx349_0⟩ := Kd.at_int HR0.out x5_1 p349 q349; cases e349; replace p349 := eq_true p349; replace q349 := eq_true q349
     go_wp2
     go_ret
     exact ⟨y0_15, y0_13⟩
    rw [if_neg c5] at H
    have c5b0 : ((rd l0 x5_1) == a1) = false := beq_eq_false_iff_ne.mpr c5; have c5b1 : ((rd l0 x5_1) != a1) = true := bne_iff_ne.mpr c5; have H' := Aside0.mk H; clear H; have p349 : 0 ≤ (x5_1 : Int) := of_decide_eq_true y0_14; have q349 : x5_1 < (l0.length : Int) := of_decide_eq_true y0_14; obtain ⟨ad349, e349, hx349_0⟩ := Kd.at_int HR0.out x5_1 p349 q349; cases e349; replace p349 := eq_true p349; replace q349 := eq_true q349
    go_wp2
    go_roundg k1
    case measure => have := HK1.out; omega
    case rel => exact ⟨(wrap64 (x5_1 + 1)), y0_15, H', ⟨y0_17⟩, y0_13⟩
   rw [if_neg c3] at H
   have c3b0 : decide (x5_1 < (l0.length : Int)) = false := decide_eq_false c3; clear c3; obtain rfl := Option.some.inj H
   go_wp2
   go_ret
   exact ⟨y0_15, y0_13⟩

/-! ### spec_SetAdd: function 144 -/
def spec_SetAdd.l0 : Nat → List Int → Int → Int → Option (List Int)
 | 0, _, _, _ => none
 | k + 1, x0, x1, x5 => if x5 < (x0.length : Int) then (if 0 ≤ x5 then (if (rd x0 x5) < x1 then (spec_SetAdd.l0 k x0 x1 (wrap64 (x5 + 1))) else ((some (([] : List Int) : List Int)).bind fun y358 => (if x5 ≤ (x0.length : Int) then (if y358.length + (x0.take (x5 : Int).toNat).length < 17592186044416 then ((some (y358 ++ (x0.take (x5 : Int).toNat) : List Int)).bind fun y362 => (if y362.length < 17592186044416 then ((some (y362 ++ [x1] : List Int)).bind fun y365 => (if y365.length + (x0.drop (x5 : Int).toNat).length < 17592186044416 then (some (y365 ++ (x0.drop (x5 : Int).toNat))) else (none))) else (none))) else (none)) else (none)))) else (none)) else ((some (([] : List Int) : List Int)).bind fun y372 => (if 0 ≤ x5 then (if x5 ≤ (x0.length : Int) then (if y372.length + (x0.take (x5 : Int).toNat).length < 17592186044416 then ((some (y372 ++ (x0.take (x5 : Int).toNat) : List Int)).bind fun y376 => (if y376.length < 17592186044416 then ((some (y376 ++ [x1] : List Int)).bind fun y379 => (if y379.length + (x0.drop (x5 : Int).toNat).length < 17592186044416 then (some (y379 ++ (x0.drop (x5 : Int).toNat))) else (none))) else (none))) else (none)) else (none)) else (none)))
def spec_SetAdd.f (k : Nat) (l0 : List Int) (a1 : Int) : Option (List Int) := (spec_SetHas.f k l0 a1).bind fun t350 => (if t350 = true then ((some (([] : List Int) : List Int)).bind fun y351 => (if y351.length + l0.length < 17592186044416 then (some (y351 ++ l0)) else (none))) else (spec_SetAdd.l0 k l0 a1 0))
theorem spec_SetAdd.mono_l : ∀ k, (∀ y0 y1 y2, LeO (spec_SetAdd.l0 k y0 y1 y2) (spec_SetAdd.l0 (k + 1) y0 y1 y2))
 | 0 => fun _ _ _ r h => by simp [spec_SetAdd.l0] at h
 | k + 1 => by
  have ih0 := spec_SetAdd.mono_l k
  intro y0 y1 y2
  unfold spec_SetAdd.l0
  repeat' first | (with_reducible exact ih0 _ _ _) | (with_reducible exact spec_SetHas.mono _ _ _) | (with_reducible exact LeO.refl _) | (with_reducible exact LeO.none _) | (with_reducible refine LeO.ite ?_ ?_) | (with_reducible refine LeO.bind ?_ (fun _ => ?_))
theorem spec_SetAdd.mono : ∀ a0 a1 k, LeO (spec_SetAdd.f k a0 a1) (spec_SetAdd.f (k + 1) a0 a1) := by
 intro a0 a1 k
 have ih0 := spec_SetAdd.mono_l k
 unfold spec_SetAdd.f
 repeat' first | (with_reducible exact ih0 _ _ _) | (with_reducible exact spec_SetHas.mono _ _ _) | (with_reducible exact LeO.refl _) | (with_reducible exact LeO.none _) | (with_reducible refine LeO.ite ?_ ?_) | (with_reducible refine LeO.bind ?_ (fun _ => ?_))
set_option maxHeartbeats 8000000 in
set_option maxRecDepth 100000 in
theorem spec_SetAdd.calls (k : Nat) (A0 : Option Addr) (c0 : Nat) (l0 : List Int) (a1 : Int) (r : List Int) (w : World) (hr0 : Kd.C (Kd.int .i64) w A0 l0.length l0) (hc0 : l0.length ≤ c0) (h : spec_SetAdd.f k l0 a1 = some r) :
  Calls Tryz.prog 144 #[.slice A0 l0.length c0, .int .i64 a1] w fun e w' => ∃ v0_ : Value, e = .returned (v0_) ∧ Kd.R (Kd.int .i64) 3 w' w.heap.size (fun _ => True) v0_ r ∧ Below w.heap.size w w' := by
 have HR0 := Aside0.mk hr0; have HC0 := Aside0.mk hc0; clear hr0 hc0; have HB := Aside0.mk (Below.refl w.heap.size w)
 have H := h; unfold spec_SetAdd.f at H
 clear h; obtain ⟨t350, A3, H⟩ := oB H; (try dsimp only at H)
 by_cases c4 : t350 = true
 ·
  subst c4
  rw [if_pos rfl] at H
  obtain ⟨y351, hy351⟩ : ∃ y_ : List Int, y_ = (([] : List Int)) := ⟨_, rfl⟩
  replace H : (if y351.length + l0.length < 17592186044416 then (some (y351 ++ l0)) else (none)) = some r := by first | (rw [hy351]; with_reducible exact H) | (have H2_ := (Option.bind_some _ _).symm.trans H; rw [hy351]; with_reducible exact H2_) | (have H2_ := (Option.bind_some _ _).symm.trans H; with_reducible exact H2_) | with_reducible exact H | (rw [hy351]; exact H) | exact H
  have Ny351 := Aside0.mk hy351; clear hy351
  by_cases c5 : y351.length + l0.length < 17592186044416
  rotate_left
  ·
   rw [if_neg c5] at H
   exact absurd H (by simp)
  rw [if_pos c5] at H
  have LMc5 := Aside0.mk c5; clear c5; obtain ⟨y354, hy354⟩ : ∃ y_ : List Int, y_ = (y351 ++ l0) := ⟨_, rfl⟩
  replace H : (some y354) = some r := by first | (rw [hy354]; with_reducible exact H) | (have H2_ := (Option.bind_some _ _).symm.trans H; rw [hy354]; with_reducible exact H2_) | (have H2_ := (Option.bind_some _ _).symm.trans H; with_reducible exact H2_) | with_reducible exact H | (rw [hy354]; exact H) | exact H
  have Ny354 := Aside0.mk hy354; clear hy354; obtain rfl := Option.some.inj H
  go_enter Tryz.func144, Tryz.ntmps144
  go_wp2_with (first | ((with_reducible refine gate_callee (f := 154) rfl ?_); refine gB (some 9) Tryz.func154 #[.slice A0 l0.length c0, .int .i64 a1] ?_; (with_reducible refine (spec_SetHas.calls k _ _ l0 a1 true _ ?side1 ?side2 A3.out).mono ?_); (case side1 => exact cI HR0.out); (case side2 => exact HC0.out); rintro e w' ⟨rfl, ⟨nd, rfl⟩⟩; refine ⟨_, rfl, ?_⟩) | ((with_reducible refine gate_dst (N := 10) rfl ?_); refine Kd.R_lit (Kd.int .i64) _ 3 ?hg (N := 10) ?hd (xs := ([] : List Int)) (inner := []) (ok := fun _ => True) (okp := fun _ => True) ?hr ?hp (fun _ hk => hk) trivial (Below.refl _ _) (Nat.le_refl _) (by simp) ?_; (case hd => rfl); (case hg => rfl); (case hr => first | (go_simp; done) | (go_simp; rfl)); (case hp => exact (Reps.none _ _)); intro v352 w6 ho7 hb hg_ hnew_; clear hg_ hnew_; (first | rw [← Ny351.out] at ho7 | (simp only [Int.reduceToNat] at ho7; rw [← Ny351.out] at ho7)); have HO353 := Aside0.mk (Kd.R_lower ho7 (below_size (bI HB.out))); replace HB := bs HB hb; clear hb ho7) | ((with_reducible refine gate_builtin (b := .append) (xs := #[.tmp 10, .tmp 11]) rfl ?_); at_builtin; refine Kd.R_append_rows (Kd.int .i64) (w0 := w) w.heap.size rfl (.tmp 10) (.tmp 11) 24 3 (.int .i64 0) 8 rfl Tryz.underlying24 info3 rfl (by decide) (by omega) v352 y351 l0 _ _ _ (fun _ => True) (fun _ => False) rfl rfl ?aO ?aR (fun _ _ h => h) (fun _ h => h.elim) ?aF ?aB ?aS ?aL ?_; (case aR => exact ch HR0 HB); (case aB => exact (bI HB.out)); (case aF => exact (fun _ _ => trivial)); (case aO => exact (rI HO353.out)); (case aS => exact (below_size (bI HB.out))); (case aL => have := LMc5.out; omega); intro v355 w8 ho hb hg hat; rw [← Ny354.out] at ho; have n0_ := Aside0.mk (hb); have n1_ := Aside0.mk (ho); clear HB; clear HO353; have HB := n0_; have HO356 := n1_; clear n0_ n1_; clear ho hb hg hat))
  go_ret
  exact ⟨_, y0_11, by (with_reducible repeat (first | apply Kd.R_alloc | apply Kd.R_drewN | apply Kd.R_drew)); exact HO356.out, bI HB.out⟩
 replace c4 := Bool.eq_false_iff.mpr c4; subst c4
 rw [if_neg (show ¬ (false = true) by decide)] at H
 have H' := Aside0.mk H; clear H
 go_enter Tryz.func144, Tryz.ntmps144
 go_wp2_with (first | ((with_reducible refine gate_callee (f := 154) rfl ?_); refine gB (some 9) Tryz.func154 #[.slice A0 l0.length c0, .int .i64 a1] ?_; (with_reducible refine (spec_SetHas.calls k _ _ l0 a1 false _ ?side1 ?side2 A3.out).mono ?_); (case side1 => exact cI HR0.out); (case side2 => exact HC0.out); rintro e w' ⟨rfl, ⟨nd, rfl⟩⟩; refine ⟨_, rfl, ?_⟩))
 go_loopg [5] k (fun kq v5 w' => ∃ (x5_1 : Int), v5 = .int .i64 x5_1 ∧ Aside0 (spec_SetAdd.l0 kq l0 a1 x5_1 = some r) ∧ Aside0 (kq ≤ k) ∧ Aside0 (Below w.heap.size w w'))
 case atStart => exact ⟨(0), y0_15, H', ⟨Nat.le_refl _⟩, ⟨bI HB.out⟩⟩
 case round =>
  clear H'
  try clear c1
  try clear p2
  try clear c4
  try clear c5
  obtain ⟨x5_1, rfl, HA, HK1, HB⟩ := hrel; cases gk with
  | zero => exact absurd HA.out (by simp [spec_SetAdd.l0])
  | succ k1 =>
   have H := HA.out; clear HA
   simp only [spec_SetAdd.l0] at H
   by_cases c9 : x5_1 < (l0.length : Int)
   ·
    rw [if_pos c9] at H
    have c9b0 : decide (x5_1 < (l0.length : Int)) = true := decide_eq_true c9; clear c9
    by_cases c10 : 0 ≤ x5_1
    rotate_left
    ·
     rw [if_neg c10] at H
     exact absurd H (by simp)
    rw [if_pos c10] at H
    have c10b0 : decide (0 ≤ x5_1) = true := decide_eq_true c10; clear c10
    by_cases c11 : (rd l0 x5_1) < a1
    ·
     rw [if_pos c11] at H
     have c11b0 : decide ((rd l0 x5_1) < a1) = true := decide_eq_true c11; clear c11; have H' := Aside0.mk H; clear H; have p357 : 0 ≤ (x5_1 : Int) := of_decide_eq_true y0_14; have q357 : x5_1 < (l0.length : Int) := of_decide_eq_true y0_14; obtain ⟨ad357, e357, hx357_0⟩ := Kd.at_int HR0.out x5_1 p357 q357; cases e357; replace hx357_0 := bx HB hx357_0; replace p357 := eq_true p357; replace q357 := eq_true q357
     go_wp2
     go_roundg k1
     case measure => have := HK1.out; omega
     case rel => exact ⟨(wrap64 (x5_1 + 1)), y0_15, H', ⟨y0_17⟩, ⟨bI HB.out⟩⟩
    rw [if_neg c11] at H
    have c11b0 : decide ((rd l0 x5_1) < a1) = false := decide_eq_false c11; clear c11; obtain ⟨y358, hy358⟩ : ∃ y_ : List Int, y_ = (([] : List Int)) := ⟨_, rfl⟩
    replace H : (if x5_1 ≤ (l0.length : Int) then (if y358.length + (l0.take (x5_1 : Int).toNat).length < 17592186044416 then ((some (y358 ++ (l0.take (x5_1 : Int).toNat) : List Int)).bind fun y362 => (if y362.length < 17592186044416 then ((some (y362 ++ [a1] : List Int)).bind fun y365 => (if y365.length + (l0.drop (x5_1 : Int).toNat).length < 17592186044416 then (some (y365 ++ (l0.drop (x5_1 : Int).toNat))) else (none))) else (none))) else (none)) else (none)) = some r := by first | (rw [hy358]; with_reducible exact H) | (have H2_ := (Option.bind_some _ _).symm.trans H; rw [hy358]; with_reducible exact H2_) | (have H2_ := (Option.bind_some _ _).symm.trans H; with_reducible exact H2_) | with_reducible exact H | (rw [hy358]; exact H) | exact H
    have Ny358 := Aside0.mk hy358; clear hy358; have c12b0 := eq_true (of_decide_eq_true y0_14 : 0 ≤ x5_1)
    by_cases c13 : x5_1 ≤ (l0.length : Int)
    rotate_left
    ·
     rw [if_neg c13] at H
     exact absurd H (by simp)
    rw [if_pos c13] at H
    have c13b0 := eq_true c13; have c13b1 : decide (x5_1 ≤ (l0.length : Int)) = true := decide_eq_true c13; clear c13
    by_cases c14 : y358.length + (l0.take (x5_1 : Int).toNat).length < 17592186044416
    rotate_left
    ·
     rw [if_neg c14] at H
     exact absurd H (by simp)
    rw [if_pos c14] at H
    have LMc14 := Aside0.mk c14; clear c14; obtain ⟨y362, hy362⟩ : ∃ y_ : List Int, y_ = (y358 ++ (l0.take (x5_1 : Int).toNat)) := ⟨_, rfl⟩
    replace H : (if y362.length < 17592186044416 then ((some (y362 ++ [a1] : List Int)).bind fun y365 => (if y365.length + (l0.drop (x5_1 : Int).toNat).length < 17592186044416 then (some (y365 ++ (l0.drop (x5_1 : Int).toNat))) else (none))) else (none)) = some r := by first | (rw [hy362]; with_reducible exact H) | (have H2_ := (Option.bind_some _ _).symm.trans H; rw [hy362]; with_reducible exact H2_) | (have H2_ := (Option.bind_some _ _).symm.trans H; with_reducible exact H2_) | with_reducible exact H | (rw [hy362]; exact H) | exact H
    have Ny362 := Aside0.mk hy362; clear hy362
    by_cases c15 : y362.length < 17592186044416
    rotate_left
    ·
     rw [if_neg c15] at H
     exact absurd H (by simp)
    rw [if_pos c15] at H
    have LMc15 := Aside0.mk c15; clear c15; obtain ⟨y365, hy365⟩ : ∃ y_ : List Int, y_ = (y362 ++ [a1]) := ⟨_, rfl⟩
    replace H : (if y365.length + (l0.drop (x5_1 : Int).toNat).length < 17592186044416 then (some (y365 ++ (l0.drop (x5_1 : Int).toNat))) else (none)) = some r := by first | (rw [hy365]; with_reducible exact H) | (have H2_ := (Option.bind_some _ _).symm.trans H; rw [hy365]; with_reducible exact H2_) | (have H2_ := (Option.bind_some _ _).symm.trans H; with_reducible exact H2_) | with_reducible exact H | (rw [hy365]; exact H) | exact H
    have Ny365 := Aside0.mk hy365; clear hy365; have c16b0 := eq_true (of_decide_eq_true y0_14 : 0 ≤ x5_1); have c17b0 := eq_true (of_decide_eq_true y0_14 : x5_1 ≤ (l0.length : Int))
    by_cases c18 : y365.length + (l0.drop (x5_1 : Int).toNat).length < 17592186044416
    rotate_left
    ·
     rw [if_neg c18] at H
     exact absurd H (by simp)
    rw [if_pos c18] at H
    have LMc18 := Aside0.mk c18; clear c18; obtain ⟨y369, hy369⟩ : ∃ y_ : List Int, y_ = (y365 ++ (l0.drop (x5_1 : Int).toNat)) := ⟨_, rfl⟩
    replace H : (some y369) = some r := by first | (rw [hy369]; with_reducible exact H) | (have H2_ := (Option.bind_some _ _).symm.trans H; rw [hy369]; with_reducible exact H2_) | (have H2_ := (Option.bind_some _ _).symm.trans H; with_reducible exact H2_) | with_reducible exact H | (rw [hy369]; exact H) | exact H
    have Ny369 := Aside0.mk hy369; clear hy369; obtain rfl := Option.some.inj H; have p357 : 0 ≤ (x5_1 : Int) := of_decide_eq_true y0_14; have q357 : x5_1 < (l0.length : Int) := of_decide_eq_true y0_14; obtain ⟨ad357, e357, hx357_0⟩ := Kd.at_int HR0.out x5_1 p357 q357; cases e357; replace hx357_0 := bx HB hx357_0; replace p357 := eq_true p357; replace q357 := eq_true q357
    go_wp2_with (first | ((with_reducible refine gate_dst (N := 27) rfl ?_); refine Kd.R_lit (Kd.int .i64) _ 3 ?hg (N := 27) ?hd (xs := ([] : List Int)) (inner := []) (ok := fun _ => True) (okp := fun _ => True) ?hr ?hp (fun _ hk => hk) trivial (Below.refl _ _) (Nat.le_refl _) (by simp) ?_; (case hd => rfl); (case hg => rfl); (case hr => first | (go_simp; done) | (go_simp; rfl)); (case hp => exact (Reps.none _ _)); intro v359 w19 ho20 hb hg_ hnew_; clear hg_ hnew_; (first | rw [← Ny358.out] at ho20 | (simp only [Int.reduceToNat] at ho20; rw [← Ny358.out] at ho20)); have HO360 := Aside0.mk (Kd.R_lower ho20 (below_size (bI HB.out))); replace HB := bs HB hb; clear hb ho20; obtain ⟨i021, hi021, _, hsz21, _⟩ := info_parts info3; obtain ⟨hcut21, hA21, hC21⟩ := print_take_of (P := Tryz.prog) (Value.int .i64) 0 24 3 .i64 Tryz.underlying24 hi021 hsz21 (some ad357) c0 l0 x5_1 (of_decide_eq_true y0_14) (of_decide_eq_true y0_14) HC0.out; have HR361 := Aside0.mk (Kd.C_of_reads (h1 := fun _ => rfl) (hA21 _ (Kd.reads_of_C HR0.out))); have HC361 := Aside0.mk hC21; clear hA21 hC21 hi021 hsz21) | ((with_reducible refine gate_builtin (b := .append) (xs := #[.tmp 27, .tmp 30]) rfl ?_); at_builtin; refine Kd.R_append_rows (Kd.int .i64) (w0 := w) w.heap.size rfl (.tmp 27) (.tmp 30) 24 3 (.int .i64 0) 8 rfl Tryz.underlying24 info3 rfl (by decide) (by omega) v359 y358 (l0.take (x5_1 : Int).toNat) _ _ _ (fun _ => True) (fun _ => False) rfl rfl ?aO ?aR (fun _ _ h => h) (fun _ h => h.elim) ?aF ?aB ?aS ?aL ?_; (case aR => first | exact cE (show (l0.take (x5_1 : Int).toNat).length = x5_1.toNat from y0_6) (Kd.C_below HR361.out HB.out) | (exact ch HR361 HB)); (case aB => exact (bI HB.out)); (case aF => exact (fun _ _ => trivial)); (case aO => exact (rI HO360.out)); (case aS => exact (below_size (bI HB.out))); (case aL => have := LMc14.out; have hlx_ := (show (l0.take (x5_1 : Int).toNat).length = x5_1.toNat from y0_6); omega); intro v363 w22 ho hb hg hat; rw [← Ny362.out] at ho; have n0_ := Aside0.mk (hb); have n1_ := Aside0.mk (ho); clear HB; clear HO360; have HB := n0_; have HO364 := n1_; clear n0_ n1_; clear ho hb hg hat) | ((with_reducible refine gate_builtin (b := .append) (xs := #[.tmp 32, .tmp 34]) rfl ?_); at_builtin; refine Kd.R_append (Kd.int .i64) (w0 := w) w.heap.size rfl (.tmp 32) (.tmp 34) 24 3 (.int .i64 0) 8 rfl Tryz.underlying24 info3 rfl (by decide) (by omega) v363 y362 a1 [.int .i64 a1] (fun _ => True) (fun _ => False) rfl rfl ?aP (fun _ hk => hk.elim) ?aF ?aO ?aB ?aS ?aL ?_; (case aP => exact rfl); (case aB => exact (bI HB.out)); (case aF => exact (fun _ _ => trivial)); (case aO => exact (rI HO364.out)); (case aS => exact (below_size (bI HB.out))); (case aL => have := LMc15.out; omega); intro v366 w23 ho hb hg hat; rw [← Ny365.out] at ho; have n0_ := Aside0.mk (hb); have n1_ := Aside0.mk (ho); clear HB; clear HO364; have HB := n0_; have HO367 := n1_; clear n0_ n1_; clear ho hb hg hat; obtain ⟨i024, hi024, _, hsz24, _⟩ := info_parts info3; obtain ⟨A24, hcut24, hA24, hC24⟩ := print_drop_of (P := Tryz.prog) (Value.int .i64) 0 24 3 .i64 Tryz.underlying24 hi024 hsz24 (some ad357) c0 l0 x5_1 (of_decide_eq_true y0_14) (of_decide_eq_true y0_14) HC0.out; have HR368 := Aside0.mk (Kd.C_of_reads (h1 := fun _ => rfl) (hA24 _ (Kd.reads_of_C HR0.out))); have HC368 := Aside0.mk hC24; clear hA24 hC24 hi024 hsz24) | ((with_reducible refine gate_builtin (b := .append) (xs := #[.tmp 36, .tmp 39]) rfl ?_); at_builtin; refine Kd.R_append_rows (Kd.int .i64) (w0 := w) w.heap.size rfl (.tmp 36) (.tmp 39) 24 3 (.int .i64 0) 8 rfl Tryz.underlying24 info3 rfl (by decide) (by omega) v366 y365 (l0.drop (x5_1 : Int).toNat) _ _ _ (fun _ => True) (fun _ => False) rfl rfl ?aO ?aR (fun _ _ h => h) (fun _ h => h.elim) ?aF ?aB ?aS ?aL ?_; (case aR => first | exact cE (show (l0.drop (x5_1 : Int).toNat).length = (l0.length - x5_1.toNat) from List.length_drop) (Kd.C_below HR368.out HB.out) | (exact ch HR368 HB)); (case aB => exact (bI HB.out)); (case aF => exact (fun _ _ => trivial)); (case aO => exact (rI HO367.out)); (case aS => exact (below_size (bI HB.out))); (case aL => have := LMc18.out; have hlx_ := (show (l0.drop (x5_1 : Int).toNat).length = (l0.length - x5_1.toNat) from List.length_drop); omega); intro v370 w25 ho hb hg hat; rw [← Ny369.out] at ho; have n0_ := Aside0.mk (hb); have n1_ := Aside0.mk (ho); clear HB; clear HO367; have HB := n0_; have HO371 := n1_; clear n0_ n1_; clear ho hb hg hat))
    go_ret
    exact ⟨_, y0_11, by (with_reducible repeat (first | apply Kd.R_alloc | apply Kd.R_drewN | apply Kd.R_drew)); exact HO371.out, bI HB.out⟩
   rw [if_neg c9] at H
   have c9b0 : decide (x5_1 < (l0.length : Int)) = false := decide_eq_false c9; clear c9; obtain ⟨y372, hy372⟩ : ∃ y_ : List Int, y_ = (([] : List Int)) := ⟨_, rfl⟩
   replace H : (if 0 ≤ x5_1 then (if x5_1 ≤ (l0.length : Int) then (if y372.length + (l0.take (x5_1 : Int).toNat).length < 17592186044416 then ((some (y372 ++ (l0.take (x5_1 : Int).toNat) : List Int)).bind fun y376 => (if y376.length < 17592186044416 then ((some (y376 ++ [a1] : List Int)).bind fun y379 => (if y379.length + (l0.drop (x5_1 : Int).toNat).length < 17592186044416 then (some (y379 ++ (l0.drop (x5_1 : Int).toNat))) else (none))) else (none))) else (none)) else (none)) else (none)) = some r := by first | (rw [hy372]; with_reducible exact H) | (have H2_ := (Option.bind_some _ _).symm.trans H; rw [hy372]; with_reducible exact H2_) | (have H2_ := (Option.bind_some _ _).symm.trans H; with_reducible exact H2_) | with_reducible exact H | (rw [hy372]; exact H) | exact H
   have Ny372 := Aside0.mk hy372; clear hy372
   by_cases c26 : 0 ≤ x5_1
   ·
    rw [if_pos c26] at H
    have c26b0 := eq_true c26; have c26b1 : decide (0 ≤ x5_1) = true := decide_eq_true c26; clear c26
    by_cases c27 : x5_1 ≤ (l0.length : Int)
    rotate_left
    ·
     rw [if_neg c27] at H
     exact absurd H (by simp)
    rw [if_pos c27] at H
    have c27b0 := eq_true c27; have c27b1 : decide (x5_1 ≤ (l0.length : Int)) = true := decide_eq_true c27; clear c27
    by_cases c28 : y372.length + (l0.take (x5_1 : Int).toNat).length < 17592186044416
    rotate_left
    ·
     rw [if_neg c28] at H
     exact absurd H (by simp)
    rw [if_pos c28] at H
    have LMc28 := Aside0.mk c28; clear c28; obtain ⟨y376, hy376⟩ : ∃ y_ : List Int, y_ = (y372 ++ (l0.take (x5_1 : Int).toNat)) := ⟨_, rfl⟩
    replace H : (if y376.length < 17592186044416 then ((some (y376 ++ [a1] : List Int)).bind fun y379 => (if y379.length + (l0.drop (x5_1 : Int).toNat).length < 17592186044416 then (some (y379 ++ (l0.drop (x5_1 : Int).toNat))) else (none))) else (none)) = some r := by first | (rw [hy376]; with_reducible exact H) | (have H2_ := (Option.bind_some _ _).symm.trans H; rw [hy376]; with_reducible exact H2_) | (have H2_ := (Option.bind_some _ _).symm.trans H; with_reducible exact H2_) | with_reducible exact H | (rw [hy376]; exact H) | exact H
    have Ny376 := Aside0.mk hy376; clear hy376
    by_cases c29 : y376.length < 17592186044416
    rotate_left
    ·
     rw [if_neg c29] at H
     exact absurd H (by simp)
    rw [if_pos c29] at H
    have LMc29 := Aside0.mk c29; clear c29; obtain ⟨y379, hy379⟩ : ∃ y_ : List Int, y_ = (y376 ++ [a1]) := ⟨_, rfl⟩
    replace H : (if y379.length + (l0.drop (x5_1 : Int).toNat).length < 17592186044416 then (some (y379 ++ (l0.drop (x5_1 : Int).toNat))) else (none)) = some r := by first | (rw [hy379]; with_reducible exact H) | (have H2_ := (Option.bind_some _ _).symm.trans H; rw [hy379]; with_reducible exact H2_) | (have H2_ := (Option.bind_some _ _).symm.trans H; with_reducible exact H2_) | with_reducible exact H | (rw [hy379]; exact H) | exact H
    have Ny379 := Aside0.mk hy379; clear hy379; have c30b0 := eq_true (of_decide_eq_true y0_14 : 0 ≤ x5_1); have c31b0 := eq_true (of_decide_eq_true y0_14 : x5_1 ≤ (l0.length : Int))
    by_cases c32 : y379.length + (l0.drop (x5_1 : Int).toNat).length < 17592186044416
    rotate_left
    ·
     rw [if_neg c32] at H
     exact absurd H (by simp)
    rw [if_pos c32] at H
    have LMc32 := Aside0.mk c32; clear c32; obtain ⟨y383, hy383⟩ : ∃ y_ : List Int, y_ = (y379 ++ (l0.drop (x5_1 : Int).toNat)) := ⟨_, rfl⟩
    replace H : (some y383) = some r := by first | (rw [hy383]; with_reducible exact H) | (have H2_ := (Option.bind_some _ _).symm.trans H; rw [hy383]; with_reducible exact H2_) | (have H2_ := (Option.bind_some _ _).symm.trans H; with_reducible exact H2_) | with_reducible exact H | (rw [hy383]; exact H) | exact H
    have Ny383 := Aside0.mk hy383; clear hy383; obtain rfl := Option.some.inj H
    go_wp2_with (first | ((with_reducible refine gate_dst (N := 27) rfl ?_); refine Kd.R_lit (Kd.int .i64) _ 3 ?hg (N := 27) ?hd (xs := ([] : List Int)) (inner := []) (ok := fun _ => True) (okp := fun _ => True) ?hr ?hp (fun _ hk => hk) trivial (Below.refl _ _) (Nat.le_refl _) (by simp) ?_; (case hd => rfl); (case hg => rfl); (case hr => first | (go_simp; done) | (go_simp; rfl)); (case hp => exact (Reps.none _ _)); intro v373 w33 ho34 hb hg_ hnew_; clear hg_ hnew_; (first | rw [← Ny372.out] at ho34 | (simp only [Int.reduceToNat] at ho34; rw [← Ny372.out] at ho34)); have HO374 := Aside0.mk (Kd.R_lower ho34 (below_size (bI HB.out))); replace HB := bs HB hb; clear hb ho34; obtain ⟨i035, hi035, _, hsz35, _⟩ := info_parts info3; obtain ⟨hcut35, hA35, hC35⟩ := print_take_of (P := Tryz.prog) (Value.int .i64) 0 24 3 .i64 Tryz.underlying24 hi035 hsz35 A0 c0 l0 x5_1 (of_decide_eq_true y0_14) (of_decide_eq_true y0_14) HC0.out; have HR375 := Aside0.mk (Kd.C_of_reads (h1 := fun _ => rfl) (hA35 _ (Kd.reads_of_C HR0.out))); have HC375 := Aside0.mk hC35; clear hA35 hC35 hi035 hsz35) | ((with_reducible refine gate_builtin (b := .append) (xs := #[.tmp 27, .tmp 30]) rfl ?_); at_builtin; refine Kd.R_append_rows (Kd.int .i64) (w0 := w) w.heap.size rfl (.tmp 27) (.tmp 30) 24 3 (.int .i64 0) 8 rfl Tryz.underlying24 info3 rfl (by decide) (by omega) v373 y372 (l0.take (x5_1 : Int).toNat) _ _ _ (fun _ => True) (fun _ => False) rfl rfl ?aO ?aR (fun _ _ h => h) (fun _ h => h.elim) ?aF ?aB ?aS ?aL ?_; (case aR => first | exact cE (show (l0.take (x5_1 : Int).toNat).length = x5_1.toNat from y0_6) (Kd.C_below HR375.out HB.out) | (exact ch HR375 HB)); (case aB => exact (bI HB.out)); (case aF => exact (fun _ _ => trivial)); (case aO => exact (rI HO374.out)); (case aS => exact (below_size (bI HB.out))); (case aL => have := LMc28.out; have hlx_ := (show (l0.take (x5_1 : Int).toNat).length = x5_1.toNat from y0_6); omega); intro v377 w36 ho hb hg hat; rw [← Ny376.out] at ho; have n0_ := Aside0.mk (hb); have n1_ := Aside0.mk (ho); clear HB; clear HO374; have HB := n0_; have HO378 := n1_; clear n0_ n1_; clear ho hb hg hat) | ((with_reducible refine gate_builtin (b := .append) (xs := #[.tmp 32, .tmp 34]) rfl ?_); at_builtin; refine Kd.R_append (Kd.int .i64) (w0 := w) w.heap.size rfl (.tmp 32) (.tmp 34) 24 3 (.int .i64 0) 8 rfl Tryz.underlying24 info3 rfl (by decide) (by omega) v377 y376 a1 [.int .i64 a1] (fun _ => True) (fun _ => False) rfl rfl ?aP (fun _ hk => hk.elim) ?aF ?aO ?aB ?aS ?aL ?_; (case aP => exact rfl); (case aB => exact (bI HB.out)); (case aF => exact (fun _ _ => trivial)); (case aO => exact (rI HO378.out)); (case aS => exact (below_size (bI HB.out))); (case aL => have := LMc29.out; omega); intro v380 w37 ho hb hg hat; rw [← Ny379.out] at ho; have n0_ := Aside0.mk (hb); have n1_ := Aside0.mk (ho); clear HB; clear HO378; have HB := n0_; have HO381 := n1_; clear n0_ n1_; clear ho hb hg hat; obtain ⟨i038, hi038, _, hsz38, _⟩ := info_parts info3; obtain ⟨A38, hcut38, hA38, hC38⟩ := print_drop_of (P := Tryz.prog) (Value.int .i64) 0 24 3 .i64 Tryz.underlying24 hi038 hsz38 A0 c0 l0 x5_1 (of_decide_eq_true y0_14) (of_decide_eq_true y0_14) HC0.out; have HR382 := Aside0.mk (Kd.C_of_reads (h1 := fun _ => rfl) (hA38 _ (Kd.reads_of_C HR0.out))); have HC382 := Aside0.mk hC38; clear hA38 hC38 hi038 hsz38) | ((with_reducible refine gate_builtin (b := .append) (xs := #[.tmp 36, .tmp 39]) rfl ?_); at_builtin; refine Kd.R_append_rows (Kd.int .i64) (w0 := w) w.heap.size rfl (.tmp 36) (.tmp 39) 24 3 (.int .i64 0) 8 rfl Tryz.underlying24 info3 rfl (by decide) (by omega) v380 y379 (l0.drop (x5_1 : Int).toNat) _ _ _ (fun _ => True) (fun _ => False) rfl rfl ?aO ?aR (fun _ _ h => h) (fun _ h => h.elim) ?aF ?aB ?aS ?aL ?_; (case aR => first | exact cE (show (l0.drop (x5_1 : Int).toNat).length = (l0.length - x5_1.toNat) from List.length_drop) (Kd.C_below HR382.out HB.out) | (exact ch HR382 HB)); (case aB => exact (bI HB.out)); (case aF => exact (fun _ _ => trivial)); (case aO => exact (rI HO381.out)); (case aS => exact (below_size (bI HB.out))); (case aL => have := LMc32.out; have hlx_ := (show (l0.drop (x5_1 : Int).toNat).length = (l0.length - x5_1.toNat) from List.length_drop); omega); intro v384 w39 ho hb hg hat; rw [← Ny383.out] at ho; have n0_ := Aside0.mk (hb); have n1_ := Aside0.mk (ho); clear HB; clear HO381; have HB := n0_; have HO385 := n1_; clear n0_ n1_; clear ho hb hg hat))
    go_ret
    exact ⟨_, y0_11, by (with_reducible repeat (first | apply Kd.R_alloc | apply Kd.R_drewN | apply Kd.R_drew)); exact HO385.out, bI HB.out⟩
   rw [if_neg c26] at H
   exact absurd H (by simp)

/-! ### spec_l6DrawSet: function 125 -/
def spec_l6DrawSet.l0 : Nat → Int → List Int → Int → List Int → Int → Int → Option (List Int × Int × Int)
 | 0, _, _, _, _, _, _ => none
 | k + 1, x1, x5, x6, x1000, x1001, x1002 => (spec_l1Below.f x1000 x1001 x1002 8).bind fun bt389 => (if x6 < bt389.1 then ((spec_l1Below.f x1000 bt389.2.1 bt389.2.2 x1).bind fun bt392 => ((spec_SetAdd.f k x5 bt392.1).bind fun t395 => (spec_l6DrawSet.l0 k x1 t395 (wrap64 (x6 + 1)) x1000 bt392.2.1 bt392.2.2))) else ((spec_l1Once.f x1000 bt389.2.1 bt389.2.2 12).bind fun bt398 => (if bt398.1 = true then ((spec_l1PickInt.f x1000 bt398.2.1 bt398.2.2 (([(-1), 0, 3, 9] : List Int))).bind fun bt404 => (if x5.length < 17592186044416 then (some ((x5 ++ [bt404.1]), bt404.2.1, bt404.2.2)) else (none))) else (some (x5, bt398.2.1, bt398.2.2)))))
def spec_l6DrawSet.f (k : Nat) (s0_0 : List Int) (s0_1 : Int) (s0_2 : Int) (a1 : Int) : Option (List Int × Int × Int) := spec_l6DrawSet.l0 k a1 (([] : List Int)) 0 s0_0 s0_1 s0_2
theorem spec_l6DrawSet.mono_l : ∀ k, (∀ y0 y1 y2 y3 y4 y5, LeO (spec_l6DrawSet.l0 k y0 y1 y2 y3 y4 y5) (spec_l6DrawSet.l0 (k + 1) y0 y1 y2 y3 y4 y5))
 | 0 => fun _ _ _ _ _ _ r h => by simp [spec_l6DrawSet.l0] at h
 | k + 1 => by
  have ih0 := spec_l6DrawSet.mono_l k
  intro y0 y1 y2 y3 y4 y5
  unfold spec_l6DrawSet.l0
  repeat' first | (with_reducible exact ih0 _ _ _ _ _ _) | (with_reducible exact spec_SetAdd.mono _ _ _) | (with_reducible exact LeO.refl _) | (with_reducible exact LeO.none _) | (with_reducible refine LeO.ite ?_ ?_) | (with_reducible refine LeO.bind ?_ (fun _ => ?_))
theorem spec_l6DrawSet.mono : ∀ a0 a1 a2 a3 k, LeO (spec_l6DrawSet.f k a0 a1 a2 a3) (spec_l6DrawSet.f (k + 1) a0 a1 a2 a3) := by
 intro a0 a1 a2 a3 k
 have ih0 := spec_l6DrawSet.mono_l k
 unfold spec_l6DrawSet.f
 repeat' first | (with_reducible exact ih0 _ _ _ _ _ _) | (with_reducible exact spec_SetAdd.mono _ _ _) | (with_reducible exact LeO.refl _) | (with_reducible exact LeO.none _) | (with_reducible refine LeO.ite ?_ ?_) | (with_reducible refine LeO.bind ?_ (fun _ => ?_))
set_option maxHeartbeats 8000000 in
set_option maxRecDepth 100000 in
theorem spec_l6DrawSet.calls (k : Nat) (g : Nat) (s0_0 : List Int) (s0_1 : Int) (s0_2 : Int) (a1 : Int) (r1 : List Int) (r2 : Int) (r3 : Int) (w0 w : World) (hI : IsS124 w0 w g s0_0 s0_1 s0_2) (hB : Below w0.heap.size w0 w) (h : spec_l6DrawSet.f k s0_0 s0_1 s0_2 a1 = some (r1, r2, r3)) :
  Calls Tryz.prog 125 #[.pointer (some ⟨g, 0, none⟩), .int .i64 a1] w fun e w' => ∃ v0_ : Value, e = .returned (v0_) ∧ Kd.R (Kd.int .i64) 3 w' w.heap.size (fun _ => True) v0_ r1 ∧ IsS124 w0 w' g s0_0 r2 r3 ∧ Below w0.heap.size w0 w' ∧ KeepBut w w' g none := by
 have HI0 := Aside0.mk hI; have HK := Aside0.mk (KeepBut.refl w g none); have HL := Aside0.mk hB.size; clear hI; have HW0 := Aside0.mk hB.size; have HB := Aside0.mk hB; clear hB; have H := h; unfold spec_l6DrawSet.f at H; clear h; obtain ⟨y386, hy386⟩ : ∃ y_ : List Int, y_ = (([] : List Int)) := ⟨_, rfl⟩
 replace H : (spec_l6DrawSet.l0 k a1 y386 0 s0_0 s0_1 s0_2) = some (r1, r2, r3) := by first | (rw [hy386]; with_reducible exact H) | (have H2_ := (Option.bind_some _ _).symm.trans H; rw [hy386]; with_reducible exact H2_) | (have H2_ := (Option.bind_some _ _).symm.trans H; with_reducible exact H2_) | with_reducible exact H | (rw [hy386]; exact H) | exact H
 have Ny386 := Aside0.mk hy386; clear hy386; have i0_ := iB124 HI0; have i1_ : LB w0 w := ⟨HB.out⟩
 go_enter Tryz.func125, Tryz.ntmps125
 have H' := Aside0.mk H; clear H
 go_wp2_with (first | ((with_reducible refine gate_dst (N := 7) rfl ?_); refine lL 7 3 (Kd.int .i64) rfl Ny386 ?_; intro Ao387 co387 w3 _ HO388))
 refine wC ?_; intro w4 _
 go_loopg [5, 6] k (fun kq v5 v6 w' => ∃ (x5_1 : List Int) (x6_1 : Int) (x1001_1 : Int) (x1002_1 : Int) (Ao5_1 : Option Addr) (co5_1 : Nat), v5 = .slice Ao5_1 x5_1.length co5_1 ∧ v6 = .int .i64 x6_1 ∧ Aside0 (spec_l6DrawSet.l0 kq a1 x5_1 x6_1 s0_0 x1001_1 x1002_1 = some (r1, r2, r3)) ∧ Aside0 (kq ≤ k) ∧ Aside0 (Kd.R (Kd.int .i64) 3 w' w.heap.size (iv w w') (.slice Ao5_1 x5_1.length co5_1) x5_1) ∧ StB g w' 124 ∧ Aside0 (IsS124 w0 w' g s0_0 x1001_1 x1002_1) ∧ KT w4 [g] w _ (Kd.int .i64) 3 w' ∧ LB w0 w' ∧ KS w g w')
 case atStart => exact ⟨(y386), (0), (s0_1), (s0_2), (Ao387), (co387), y0_15, y0_15, H', ⟨Nat.le_refl _⟩, ⟨rJ HO388⟩, iB124 ⟨iS124 HI0⟩, ⟨iS124 HI0⟩, ⟨UpT.out⟩, ⟨UpW.out⟩, ⟨UpB.out⟩⟩
 case round =>
  clear H'; obtain ⟨x5_1, x6_1, x1001_1, x1002_1, Ao5_1, co5_1, rfl, rfl, HA, HK1, HO_5, _, HI5, _, _, _⟩ := hrel; have HO_7 := HO388; cases gk with
  | zero => exact absurd HA.out (by simp [spec_l6DrawSet.l0])
  | succ k1 =>
   have H := HA.out; clear HA
   simp only [spec_l6DrawSet.l0] at H
   obtain ⟨⟨t389, t390, t391⟩, A6, H⟩ := oB H; (try dsimp only at H); have H' := Aside0.mk H; clear H
   go_upto_if 11 with (first | ((with_reducible refine gate_callee (f := 114) rfl ?_); refine gK (some 10) Tryz.func114 (spec_l1Below.calls (hI := iS124 HI5) (hB := UpW.out) (w := _) (h := A6.out)) ?_; intro w7 _ _ _ HI8))
   have H := H'.out; clear H'
   by_cases c9 : x6_1 < t389
   ·
    rw [if_pos c9] at H
    have c9b0 : decide (x6_1 < t389) = true := decide_eq_true c9; clear c9
    (first | rw [c9b0] | (simp only [i64_w, i32_w]; rw [c9b0]) | skip)
    obtain ⟨⟨t392, t393, t394⟩, A10, H⟩ := oB H; (try dsimp only at H); obtain ⟨t395, A11, H⟩ := oB H; (try dsimp only at H); have H' := Aside0.mk H; clear H
    go_wp2_with (first | ((with_reducible refine gate_callee (f := 114) rfl ?_); refine gK (some 17) Tryz.func114 (spec_l1Below.calls (hI := iS124 HI8) (hB := UpW.out) (w := _) (h := A10.out)) ?_; intro w12 _ _ _ HI13) | ((with_reducible refine gate_callee (f := 144) rfl ?_); refine gC1 (some 18) Tryz.func144 (spec_SetAdd.calls (hr0 := rC HO_5) (hc0 := rL HO_5) (w := _) (h := A11.out)) ?_; intro Ao396 co396 w14 _ HO397))
    go_roundg k1
    case measure => have := HK1.out; omega
    case rel => exact ⟨(t395), (wrap64 (x6_1 + 1)), (t393), (t394), (Ao396), (co396), y0_15, y0_15, H', ⟨y0_17⟩, ⟨rJ HO397⟩, iB124 ⟨iS124 HI13⟩, ⟨iS124 HI13⟩, ⟨UpT.out⟩, ⟨UpW.out⟩, ⟨UpB.out⟩⟩
   rw [if_neg c9] at H
   have c9b0 : decide (x6_1 < t389) = false := decide_eq_false c9; clear c9
   (first | rw [c9b0] | (simp only [i64_w, i32_w]; rw [c9b0]) | skip)
   obtain ⟨⟨t398, t399, t400⟩, A15, H⟩ := oB H; (try dsimp only at H); have H' := Aside0.mk H; clear H
   go_upto_if 20 with (first | ((with_reducible refine gate_callee (f := 93) rfl ?_); refine gK (some 20) Tryz.func93 (spec_l1Once.calls (hI := iS124 HI8) (hB := UpW.out) (w := _) (h := A15.out)) ?_; intro w16 _ _ _ HI17))
   have H := H'.out; clear H'
   by_cases c18 : t398 = true
   ·
    subst c18
    rw [if_pos rfl] at H
    obtain ⟨y401, hy401⟩ : ∃ y_ : List Int, y_ = (([(-1), 0, 3, 9] : List Int)) := ⟨_, rfl⟩
    replace H : ((spec_l1PickInt.f s0_0 t399 t400 y401).bind fun bt404 => (if x5_1.length < 17592186044416 then (some ((x5_1 ++ [bt404.1]), bt404.2.1, bt404.2.2)) else (none))) = some (r1, r2, r3) := by first | (rw [hy401]; with_reducible exact H) | (have H2_ := (Option.bind_some _ _).symm.trans H; rw [hy401]; with_reducible exact H2_) | (have H2_ := (Option.bind_some _ _).symm.trans H; with_reducible exact H2_) | with_reducible exact H | (rw [hy401]; exact H) | exact H
    have Ny401 := Aside0.mk hy401; clear hy401; obtain ⟨⟨t404, t405, t406⟩, A19, H⟩ := oB H; (try dsimp only at H)
    by_cases c20 : x5_1.length < 17592186044416
    rotate_left
    ·
     rw [if_neg c20] at H
     exact absurd H (by simp)
    rw [if_pos c20] at H
    have LMc20 := Aside0.mk c20; clear c20; obtain ⟨y407, hy407⟩ : ∃ y_ : List Int, y_ = (x5_1 ++ [t404]) := ⟨_, rfl⟩
    replace H : (some (y407, t405, t406)) = some (r1, r2, r3) := by first | (rw [hy407]; with_reducible exact H) | (have H2_ := (Option.bind_some _ _).symm.trans H; rw [hy407]; with_reducible exact H2_) | (have H2_ := (Option.bind_some _ _).symm.trans H; with_reducible exact H2_) | with_reducible exact H | (rw [hy407]; exact H) | exact H
    have Ny407 := Aside0.mk hy407; clear hy407
    simp only [Option.some.injEq, Prod.mk.injEq] at H
    obtain ⟨rfl, rfl, rfl⟩ := H
    go_wp2_with (first | ((with_reducible refine gate_dst (N := 23) rfl ?_); refine lL 23 3 (Kd.int .i64) rfl Ny401 ?_; intro Ao402 co402 w21 _ HO403) | ((with_reducible refine gate_callee (f := 116) rfl ?_); refine gK (some 24) Tryz.func116 (spec_l1PickInt.calls (hI := iS124 HI17) (hB := UpW.out) (hr1 := rC HO403) (hc1 := rL HO403) (hf1 := fS HO403) (w := _) (h := A19.out)) ?_; intro w22 _ _ _ HI23) | ((with_reducible refine gate_builtin (b := .append) (xs := #[.tmp 21, .tmp 25]) rfl ?_); at_builtin; refine gA (Kd.int .i64) (.tmp 21) (.tmp 25) 24 3 (.int .i64 0) 8 t404 [.int .i64 t404] w Ny407 HO_5 rfl (by have := LMc20.out; omega) ?_ (ht := Tryz.underlying24) (hinfo := info3); intro Ao408 co408 w24 _ _ HO409))
    go_ret
    exact ⟨_, y0_15, rR HO409, iS124 HI23, UpW.out, UpB.out⟩
   replace c18 := Bool.eq_false_iff.mpr c18; subst c18
   rw [if_neg (show ¬ (false = true) by decide)] at H
   simp only [Option.some.injEq, Prod.mk.injEq] at H
   obtain ⟨rfl, rfl, rfl⟩ := H
   go_wp2
   go_ret
   exact ⟨_, y0_15, rR HO_5, iS124 HI17, UpW.out, UpB.out⟩

/-! ### spec_l7Draw: function 91 -/
def spec_l7Draw.f (k : Nat) (s0_0 : List Int) (s0_1 : Int) (s0_2 : Int) (a1_0 : Int) (a1_1 : Int) : Option (Int × ByteArray × List Int × Int × Int) := (spec_l5DrawRight.f k s0_0 s0_1 s0_2).bind fun bt412 => ((spec_l7DrawOf.f k s0_0 bt412.2.1 bt412.2.2 a1_0 a1_1 bt412.1).bind fun bt415 => ((spec_l1Below.f s0_0 bt415.2.2.2.1 bt415.2.2.2.2 12).bind fun bt423 => (if bt423.1 = 0 then (some (wrap64 (bt415.1 + 1), bt415.2.1, bt415.2.2.1, bt423.2.1, bt423.2.2)) else (if bt423.1 = 1 then ((spec_l6DrawSet.f k s0_0 bt423.2.1 bt423.2.2 7).bind fun bt426 => (some (bt415.1, bt415.2.1, bt426.1, bt426.2.1, bt426.2.2))) else (if bt423.1 = 2 then ((spec_l5Draw.f k s0_0 bt423.2.1 bt423.2.2).bind fun bt431 => (some (bt415.1, bt431.1, bt415.2.2.1, bt431.2.1, bt431.2.2))) else (some (bt415.1, bt415.2.1, bt415.2.2.1, bt423.2.1, bt423.2.2)))))))
theorem spec_l7Draw.mono : ∀ a0 a1 a2 a3 a4 k, LeO (spec_l7Draw.f k a0 a1 a2 a3 a4) (spec_l7Draw.f (k + 1) a0 a1 a2 a3 a4) := by
 intro a0 a1 a2 a3 a4 k
 unfold spec_l7Draw.f
 repeat' first | (with_reducible exact spec_l5Draw.mono _ _ _ _) | (with_reducible exact spec_l5DrawRight.mono _ _ _ _) | (with_reducible exact spec_l6DrawSet.mono _ _ _ _ _) | (with_reducible exact spec_l7DrawOf.mono _ _ _ _ _ _ _) | (with_reducible exact LeO.refl _) | (with_reducible exact LeO.none _) | (with_reducible refine LeO.ite ?_ ?_) | (with_reducible refine LeO.bind ?_ (fun _ => ?_))
def spec_l7Draw.T1 : Bool × List (List Nat × List Nat) := (true, [([], []), ([], []), ([], []), ([2], [2]), ([0, 1, 3, 3], [0, 1, 3]), ([], []), ([5, 4, 4, 0, 1, 2, 3, 4, 5], [4, 5])])
def spec_l7Draw.B1 : List Nat := [0, 0, 0, 4, 15, 0, 63]
theorem spec_l7Draw.tab1 : rtab .any (opsOf Tryz.f91 1) = spec_l7Draw.T1 := by kernel_rfl
theorem spec_l7Draw.bits1 : waitsOk spec_l7Draw.T1.2 spec_l7Draw.B1 = true := by kernel_rfl
set_option maxHeartbeats 8000000 in
set_option maxRecDepth 100000 in
theorem spec_l7Draw.calls (k : Nat) (g : Nat) (s0_0 : List Int) (s0_1 : Int) (s0_2 : Int) (a1_0 : Int) (a1_1 : Int) (r1 : Int) (r2 : ByteArray) (r3 : List Int) (r4 : Int) (r5 : Int) (w0 w : World) (hI : IsS124 w0 w g s0_0 s0_1 s0_2) (hB : Below w0.heap.size w0 w) (h : spec_l7Draw.f k s0_0 s0_1 s0_2 a1_0 a1_1 = some (r1, r2, r3, r4, r5)) :
  Calls Tryz.prog 91 #[.pointer (some ⟨g, 0, none⟩), .agg #[.int .i64 a1_0, .int .i64 a1_1]] w fun e w' => ∃ v2_ : Value, e = .returned (.agg #[.int .i64 r1, .string r2, v2_]) ∧ Kd.R (Kd.int .i64) 3 w' w.heap.size (fun _ => True) v2_ r3 ∧ IsS124 w0 w' g s0_0 r4 r5 ∧ Below w0.heap.size w0 w' ∧ KeepBut w w' g none := by
 have hu38 := Tryz.underlying38; have hu33 := Tryz.underlying33; have HI0 := Aside0.mk hI; have HK := Aside0.mk (KeepBut.refl w g none); have HL := Aside0.mk hB.size; clear hI; have HW0 := Aside0.mk hB.size; have HB := Aside0.mk hB; clear hB
 have H := h; unfold spec_l7Draw.f at H
 clear h; obtain ⟨⟨t412, t413, t414⟩, A3, H⟩ := oB H; (try dsimp only at H); obtain ⟨⟨t415, t416, t417, t420, t421⟩, A4, H⟩ := oB H; (try dsimp only at H); obtain ⟨⟨t423, t424, t425⟩, A5, H⟩ := oB H; (try dsimp only at H); have i0_ := iB124 HI0; have i1_ : LB w0 w := ⟨HB.out⟩
 go_enter Tryz.func91, Tryz.ntmps91
 have H' := Aside0.mk H; clear H
 try go_wp2_with (first | ((with_reducible refine gd 3 ?_); refine bL 3 #[.int .i64 a1_0, .int .i64 a1_1] 38 ?_; intro gb410 w6 _ _ _) | ((with_reducible refine gd 4 ?_); refine bL 4 #[.int .i64 0, .string (⟨#[]⟩ : ByteArray), .slice none 0 0] 33 ?_; intro gb411 w7 _ _ _))
 refine sB [g] spec_l7Draw.tab1 spec_l7Draw.bits1 ?_; intro w8 _ HT_ HW_
 refine pA 0 (some 6) (bz 7 1) HT_ ?_
 refine tB 1 (some 7) (bz 7 3) HT_ HW_ ?_
 refine pA 2 (some 8) (bz 7 7) HT_ ?_
 refine join_ (σ := Option Addr × Nat × Nat) 1 (bz 7 63) (fun s_ => [(9, .string t412), (10, .agg #[.int .i64 t415, .string t416, .slice s_.1 t417.length s_.2.1]), (5, .pointer (some ⟨s_.2.2, 0, none⟩))]) (fun s_ w' => Aside0 (Kd.R (Kd.int .i64) 3 w' w8.heap.size (iv w8 w') (.slice s_.1 t417.length s_.2.1) t417) ∧ BkI (s_.2.2) w' #[.int .i64 0, .string (⟨#[]⟩ : ByteArray), .slice none 0 0] 33 ∧ BornI (s_.2.2) w8 ∧ StB g w' 124 ∧ Aside0 (IsS124 w0 w' g s0_0 t420 t421) ∧ KL w8 [g] w' ∧ LB w0 w' ∧ KS w g w') ?_ ?_
 rotate_left
 ·
  intro hCont
  refine o2 3 5 (some 9) (some 5) (bz 7 15) (bz 7 39) HT_ rfl rfl (kK Tryz.func124 (spec_l5DrawRight.calls (hI := iS124 HI0) (hB := UpW.out) (w := _) (h := A3.out)) ?_) (kB #[.int .i64 0, .string (⟨#[]⟩ : ByteArray), .slice none 0 0] 33 ?_)
  ·
   intro w9 _ _ _ HI10
   refine nA (some 9) ?_
   refine o2 4 5 (some 10) (some 5) (bz 7 31) (bz 7 47) HT_ rfl rfl (kK1 Tryz.func123 (spec_l7DrawOf.calls (hI := iS124 HI10) (hB := UpW.out) (w := _) (h := A4.out)) ?_) (kB #[.int .i64 0, .string (⟨#[]⟩ : ByteArray), .slice none 0 0] 33 ?_)
   ·
    intro Ao418 co418 w12 _ _ _ HI13 HO419
    refine nA (some 10) ?_
    refine o1 5 (some 5) (bz 7 63) HT_ rfl (kB #[.int .i64 0, .string (⟨#[]⟩ : ByteArray), .slice none 0 0] 33 ?_); intro gb422 w15 _ _ _
    refine nA (some 5) ?_
    exact hJ (hCont (Ao418, co418, gb422) _ ⟨⟨rJ HO419⟩, ⟨xB⟩, ⟨GeI.out⟩, iB124 ⟨iS124 HI13⟩, ⟨iS124 HI13⟩, ⟨UpL.out⟩, ⟨UpW.out⟩, ⟨UpB.out⟩⟩)
   intro gb422 w14 _ _ _
   refine nA (some 5) ?_
   refine o1 4 (some 10) (bz 7 63) HT_ rfl (kK1 Tryz.func123 (spec_l7DrawOf.calls (hI := iS124 HI10) (hB := UpW.out) (w := _) (h := A4.out)) ?_); intro Ao418 co418 w16 _ _ _ HI17 HO419
   refine nA (some 10) ?_
   exact hJ (hCont (Ao418, co418, gb422) _ ⟨⟨rJ HO419⟩, ⟨xB⟩, ⟨GeI.out⟩, iB124 ⟨iS124 HI17⟩, ⟨iS124 HI17⟩, ⟨UpL.out⟩, ⟨UpW.out⟩, ⟨UpB.out⟩⟩)
  intro gb422 w11 _ _ _
  refine nA (some 5) ?_
  refine o1 3 (some 9) (bz 7 47) HT_ rfl (kK Tryz.func124 (spec_l5DrawRight.calls (hI := iS124 HI0) (hB := UpW.out) (w := _) (h := A3.out)) ?_); intro w18 _ _ _ HI19
  refine nA (some 9) ?_
  refine o1 4 (some 10) (bz 7 63) HT_ rfl (kK1 Tryz.func123 (spec_l7DrawOf.calls (hI := iS124 HI19) (hB := UpW.out) (w := _) (h := A4.out)) ?_); intro Ao418 co418 w20 _ _ _ HI21 HO419
  refine nA (some 10) ?_
  exact hJ (hCont (Ao418, co418, gb422) _ ⟨⟨rJ HO419⟩, ⟨xB⟩, ⟨GeI.out⟩, iB124 ⟨iS124 HI21⟩, ⟨iS124 HI21⟩, ⟨UpL.out⟩, ⟨UpW.out⟩, ⟨UpB.out⟩⟩)
 rintro ⟨Ao418, co418, gb422⟩ w22 ⟨HO419, _, _, _, HI23, _, _, _⟩
 refine nP ?_
 refine o1 6 none (bz 7 127) HT_ rfl (kS ?_)
 refine done_ (done_of HT_.out (by kernel_rfl)) ?_
 go_upto_if 13 with (first | ((with_reducible refine gate_callee (f := 114) rfl ?_); refine gK (some 12) Tryz.func114 (spec_l1Below.calls (hI := iS124 HI23) (hB := UpW.out) (w := _) (h := A5.out)) ?_; intro w24 _ _ _ HI25))
 have H := H'.out; clear H'
 by_cases c26 : t423 = 0
 ·
  rw [if_pos c26] at H
  have c26b0 : (t423 == 0) = true := beq_iff_eq.mpr c26; have c26b1 : (t423 != 0) = false := bne_eq_false_iff_eq.mpr c26; clear c26
  (first | rw [c26b0] | (simp only [i64_w, i32_w]; rw [c26b0]) | skip)
  simp only [Option.some.injEq, Prod.mk.injEq] at H
  obtain ⟨rfl, rfl, rfl, rfl, rfl⟩ := H
  go_wp2
  refine bodyPost_ret (results_cell_row rfl _ _ gb411 33 #[.int .i64 (wrap64 (t415 + 1)), .string t416, .slice Ao418 t417.length co418] (0, 0) _ rfl xB Tryz.underlying33 rfl (by kernel_rfl)) rfl ?_
  exact ⟨_, y0_15, rR HO419, iS124 HI25, UpW.out, UpB.out⟩
 rw [if_neg c26] at H
 have c26b0 : (t423 == 0) = false := beq_eq_false_iff_ne.mpr c26; have c26b1 : (t423 != 0) = true := bne_iff_ne.mpr c26
 (first | rw [c26b0] | (simp only [i64_w, i32_w]; rw [c26b0]) | skip)
 by_cases c27 : t423 = 1
 ·
  rw [if_pos c27] at H
  have c27b0 : (t423 == 1) = true := beq_iff_eq.mpr c27; have c27b1 : (t423 != 1) = false := bne_eq_false_iff_eq.mpr c27; clear c27; obtain ⟨⟨t426, t429, t430⟩, A28, H⟩ := oB H; (try dsimp only at H)
  simp only [Option.some.injEq, Prod.mk.injEq] at H
  obtain ⟨rfl, rfl, rfl, rfl, rfl⟩ := H
  go_wp2_with (first | ((with_reducible refine gate_callee (f := 125) rfl ?_); refine gK1 (some 22) Tryz.func125 (spec_l6DrawSet.calls (hI := iS124 HI25) (hB := UpW.out) (w := _) (h := A28.out)) ?_; intro Ao427 co427 w29 _ _ _ HI30 HO428))
  refine bodyPost_ret (results_cell_row rfl _ _ gb411 33 #[.int .i64 t415, .string t416, .slice Ao427 t426.length co427] (0, 0) _ rfl xB Tryz.underlying33 rfl (by kernel_rfl)) rfl ?_
  exact ⟨_, y0_15, rR HO428, iS124 HI30, UpW.out, UpB.out⟩
 rw [if_neg c27] at H
 have c27b0 : (t423 == 1) = false := beq_eq_false_iff_ne.mpr c27; have c27b1 : (t423 != 1) = true := bne_iff_ne.mpr c27
 by_cases c31 : t423 = 2
 ·
  rw [if_pos c31] at H
  have c31b0 : (t423 == 2) = true := beq_iff_eq.mpr c31; have c31b1 : (t423 != 2) = false := bne_eq_false_iff_eq.mpr c31; clear c31; obtain ⟨⟨t431, t432, t433⟩, A32, H⟩ := oB H; (try dsimp only at H)
  simp only [Option.some.injEq, Prod.mk.injEq] at H
  obtain ⟨rfl, rfl, rfl, rfl, rfl⟩ := H
  go_wp2_with (first | ((with_reducible refine gate_callee (f := 117) rfl ?_); refine gK (some 27) Tryz.func117 (spec_l5Draw.calls (hI := iS124 HI25) (hB := UpW.out) (w := _) (h := A32.out)) ?_; intro w33 _ _ _ HI34))
  refine bodyPost_ret (results_cell_row rfl _ _ gb411 33 #[.int .i64 t415, .string t431, .slice Ao418 t417.length co418] (0, 0) _ rfl xB Tryz.underlying33 rfl (by kernel_rfl)) rfl ?_
  exact ⟨_, y0_15, rR HO419, iS124 HI34, UpW.out, UpB.out⟩
 rw [if_neg c31] at H
 have c31b0 : (t423 == 2) = false := beq_eq_false_iff_ne.mpr c31; have c31b1 : (t423 != 2) = true := bne_iff_ne.mpr c31
 simp only [Option.some.injEq, Prod.mk.injEq] at H
 obtain ⟨rfl, rfl, rfl, rfl, rfl⟩ := H
 go_wp2
 refine bodyPost_ret (results_cell_row rfl _ _ gb411 33 #[.int .i64 t415, .string t416, .slice Ao418 t417.length co418] (0, 0) _ rfl xB Tryz.underlying33 rfl (by kernel_rfl)) rfl ?_
 exact ⟨_, y0_15, rR HO419, iS124 HI25, UpW.out, UpB.out⟩

/-! ### spec_l7DrawTwo: function 92 -/
def spec_l7DrawTwo.f (k : Nat) (l0 : List Int) : Option (Int × ByteArray × List Int × Int × ByteArray × List Int) := (spec_l1New.f k l0).bind fun bt436 => ((spec_l7DrawConf.f bt436.1 bt436.2.1 bt436.2.2).bind fun bt440 => ((spec_l7Draw.f k bt436.1 bt440.2.2.1 bt440.2.2.2 bt440.1 bt440.2.1).bind fun bt445 => ((spec_l1Once.f bt436.1 bt445.2.2.2.1 bt445.2.2.2.2 3).bind fun bt453 => (if bt453.1 = true then ((spec_l7Copy.f bt445.1 bt445.2.1 bt445.2.2.1).bind fun bt456 => (some (bt445.1, bt445.2.1, bt445.2.2.1, bt456.1, bt456.2.1, bt456.2.2))) else ((spec_l7Draw.f k bt436.1 bt453.2.1 bt453.2.2 bt440.1 bt440.2.1).bind fun bt461 => (some (bt445.1, bt445.2.1, bt445.2.2.1, bt461.1, bt461.2.1, bt461.2.2.1)))))))
theorem spec_l7DrawTwo.mono : ∀ a0 k, LeO (spec_l7DrawTwo.f k a0) (spec_l7DrawTwo.f (k + 1) a0) := by
 intro a0 k
 unfold spec_l7DrawTwo.f
 repeat' first | (with_reducible exact spec_l1New.mono _ _) | (with_reducible exact spec_l7Draw.mono _ _ _ _ _ _) | (with_reducible exact LeO.refl _) | (with_reducible exact LeO.none _) | (with_reducible refine LeO.ite ?_ ?_) | (with_reducible refine LeO.bind ?_ (fun _ => ?_))
def spec_l7DrawTwo.T5 : Bool × List (List Nat × List Nat) := (true, [([], []), ([], []), ([1], [1]), ([0, 2, 0], [0]), ([2, 3, 0, 1, 2, 3], [2])])
def spec_l7DrawTwo.B5 : List Nat := [0, 0, 2, 7, 15]
theorem spec_l7DrawTwo.tab5 : rtab .any (opsOf Tryz.f92 5) = spec_l7DrawTwo.T5 := by kernel_rfl
theorem spec_l7DrawTwo.bits5 : waitsOk spec_l7DrawTwo.T5.2 spec_l7DrawTwo.B5 = true := by kernel_rfl
def spec_l7DrawTwo.T6 : Bool × List (List Nat × List Nat) := (true, [([], []), ([], []), ([], []), ([1, 2], [1, 2]), ([0, 3, 0], [0]), ([3, 4, 0, 1, 2, 3, 4], [3])])
def spec_l7DrawTwo.B6 : List Nat := [0, 0, 0, 6, 15, 31]
theorem spec_l7DrawTwo.tab6 : rtab .any (opsOf Tryz.f92 6) = spec_l7DrawTwo.T6 := by kernel_rfl
theorem spec_l7DrawTwo.bits6 : waitsOk spec_l7DrawTwo.T6.2 spec_l7DrawTwo.B6 = true := by kernel_rfl
set_option maxHeartbeats 8000000 in
set_option maxRecDepth 100000 in
theorem spec_l7DrawTwo.calls (k : Nat) (A0 : Option Addr) (c0 : Nat) (l0 : List Int) (r1 : Int) (r2 : ByteArray) (r3 : List Int) (r4 : Int) (r5 : ByteArray) (r6 : List Int) (w : World) (hr0 : Kd.C (Kd.int .u8) w A0 l0.length l0) (hc0 : l0.length ≤ c0) (h : spec_l7DrawTwo.f k l0 = some (r1, r2, r3, r4, r5, r6)) :
  Calls Tryz.prog 92 #[.slice A0 l0.length c0] w fun e w' => ∃ v2_ v5_ : Value, e = .returned (.tuple #[.agg #[.int .i64 r1, .string r2, v2_], .agg #[.int .i64 r4, .string r5, v5_]]) ∧ Kd.R (Kd.int .i64) 3 w' w.heap.size (fun k_ => some k_ ≠ (v5_ : Value).ownBlock) v2_ r3 ∧ Kd.R (Kd.int .i64) 3 w' w.heap.size (fun k_ => some k_ ≠ (v2_ : Value).ownBlock) v5_ r6 ∧ Below w.heap.size w w' := by
 have hu33 := Tryz.underlying33; have hu38 := Tryz.underlying38; have HR0 := Aside0.mk hr0; have HC0 := Aside0.mk hc0; clear hr0 hc0; have HB := Aside0.mk (Below.refl w.heap.size w)
 have H := h; unfold spec_l7DrawTwo.f at H
 clear h; obtain ⟨⟨t436, t437, t438⟩, A2, H⟩ := oB H; (try dsimp only at H); obtain ⟨⟨t440, t441, t442, t443⟩, A3, H⟩ := oB H; (try dsimp only at H); obtain ⟨⟨t445, t446, t447, t450, t451⟩, A4, H⟩ := oB H; (try dsimp only at H); obtain ⟨⟨t453, t454, t455⟩, A5, H⟩ := oB H; (try dsimp only at H)
 go_enter Tryz.func92, Tryz.ntmps92
 have H' := Aside0.mk H; clear H
 go_upto_if 15 with (first | ((with_reducible refine gd 2 ?_); refine bL 2 #[.int .i64 0, .string (⟨#[]⟩ : ByteArray), .slice none 0 0] 33 ?_; intro gb434 w6 _ _ _) | ((with_reducible refine gd 3 ?_); refine bL 3 #[.int .i64 0, .string (⟨#[]⟩ : ByteArray), .slice none 0 0] 33 ?_; intro gb435 w7 _ _ _) | ((with_reducible refine gate_callee (f := 86) rfl ?_); refine wL ?_; intro w8 _; refine gN (some 8) Tryz.func86 (spec_l1New.calls (hB := Below.refl _ _) (hr0 := pC HR0) (hc0 := HC0.out) (w := _) (h := A2.out)) ?_; intro g439 w9 _ _ _ HI10) | ((with_reducible refine gate_callee (f := 87) rfl ?_); refine gK (some 10) Tryz.func87 (spec_l7DrawConf.calls (hI := iS124 HI10) (hB := UpW.out) (w := _) (h := A3.out)) ?_; intro w11 _ _ _ HI12) | ((with_reducible refine gd 5 ?_); refine bL 5 #[.int .i64 0, .int .i64 0] 38 ?_; intro gb444 w13 _ _ _) | ((with_reducible refine gate_callee (f := 91) rfl ?_); refine gK1 (some 13) Tryz.func91 (spec_l7Draw.calls (hI := iS124 HI12) (hB := UpW.out) (w := _) (h := A4.out)) ?_; intro Ao448 co448 w14 _ _ _ HI15 HO449) | ((with_reducible refine gd 6 ?_); refine bL 6 #[.int .i64 0, .string (⟨#[]⟩ : ByteArray), .slice none 0 0] 33 ?_; intro gb452 w16 _ _ _) | ((with_reducible refine gate_callee (f := 93) rfl ?_); refine gK (some 15) Tryz.func93 (spec_l1Once.calls (hI := iS124 HI15) (hB := UpW.out) (w := _) (h := A5.out)) ?_; intro w17 _ _ _ HI18))
 have H := H'.out; clear H'
 by_cases c19 : t453 = true
 ·
  subst c19
  rw [if_pos rfl] at H
  obtain ⟨⟨t456, t457, t458⟩, A20, H⟩ := oB H; (try dsimp only at H)
  simp only [Option.some.injEq, Prod.mk.injEq] at H
  obtain ⟨rfl, rfl, rfl, rfl, rfl, rfl⟩ := H
  try go_wp2
  refine sB [gb434, gb435] spec_l7DrawTwo.tab5 spec_l7DrawTwo.bits5 ?_; intro w21 _ HT_ HW_
  refine tB 0 (some 16) (bz 5 1) HT_ HW_ ?_
  refine tB 1 (some 17) (bz 5 3) HT_ HW_ ?_
  refine o1 2 (some 18) (bz 5 7) HT_ rfl (kC1 Tryz.func79 (spec_l7Copy.calls (hr0_2 := rC HO449) (hc0_2 := rL HO449) (w := _) (h := A20.out)) ?_); intro Ao459 co459 w22 _ HO460
  refine nA (some 18) ?_
  refine o1 3 none (bz 5 15) HT_ rfl (kS ?_)
  refine o1 4 none (bz 5 31) HT_ rfl (kS ?_)
  refine done_ (done_of HT_.out (by kernel_rfl)) ?_
  try go_wp2
  refine bodyPost_ret (results_cc rfl _ _ gb434 gb435 33 33 #[.int .i64 t445, .string t446, .slice Ao448 t447.length co448] #[.int .i64 t456, .string t457, .slice Ao459 t458.length co459] (0, 0) (0, 0) _ _ rfl xB Tryz.underlying33 rfl (by kernel_rfl) rfl xB Tryz.underlying33 rfl (by kernel_rfl)) rfl ?_
  exact ⟨_, _, y0_15, rE HO449 HO460, rY HO460 HO449, UpW.out⟩
 replace c19 := Bool.eq_false_iff.mpr c19; subst c19
 rw [if_neg (show ¬ (false = true) by decide)] at H
 obtain ⟨⟨t461, t462, t463, t466, t467⟩, A23, H⟩ := oB H; (try dsimp only at H)
 simp only [Option.some.injEq, Prod.mk.injEq] at H
 obtain ⟨rfl, rfl, rfl, rfl, rfl, rfl⟩ := H
 try go_wp2
 refine sB [g439, gb434, gb435] spec_l7DrawTwo.tab6 spec_l7DrawTwo.bits6 ?_; intro w24 _ HT_ HW_
 refine tB 0 (some 19) (bz 6 1) HT_ HW_ ?_
 refine pA 1 (some 20) (bz 6 3) HT_ ?_
 refine tB 2 (some 21) (bz 6 7) HT_ HW_ ?_
 refine o1 3 (some 22) (bz 6 15) HT_ rfl (kK1 Tryz.func91 (spec_l7Draw.calls (hI := iS124 HI18) (hB := UpW.out) (w := _) (h := A23.out)) ?_); intro Ao464 co464 w25 _ _ _ HI26 HO465
 refine nA (some 22) ?_
 refine o1 4 none (bz 6 31) HT_ rfl (kS ?_)
 refine o1 5 none (bz 6 63) HT_ rfl (kS ?_)
 refine done_ (done_of HT_.out (by kernel_rfl)) ?_
 try go_wp2
 refine bodyPost_ret (results_cc rfl _ _ gb434 gb435 33 33 #[.int .i64 t445, .string t446, .slice Ao448 t447.length co448] #[.int .i64 t461, .string t462, .slice Ao464 t463.length co464] (0, 0) (0, 0) _ _ rfl xB Tryz.underlying33 rfl (by kernel_rfl) rfl xB Tryz.underlying33 rfl (by kernel_rfl)) rfl ?_
 exact ⟨_, _, y0_15, rE HO449 HO465, rY HO465 HO449, UpW.out⟩

/-! ### spec_DrawQcLater: function 46 -/
def spec_DrawQcLater.f (k : Nat) (l0 : List Int) : Option (Int × ByteArray × List Int × Int × ByteArray × List Int) := (spec_l7DrawTwo.f k l0).bind fun bt470 => (some (bt470.1, bt470.2.1, bt470.2.2.1, bt470.2.2.2.1, bt470.2.2.2.2.1, bt470.2.2.2.2.2))
theorem spec_DrawQcLater.mono : ∀ a0 k, LeO (spec_DrawQcLater.f k a0) (spec_DrawQcLater.f (k + 1) a0) := by
 intro a0 k
 unfold spec_DrawQcLater.f
 repeat' first | (with_reducible exact spec_l7DrawTwo.mono _ _) | (with_reducible exact LeO.refl _) | (with_reducible exact LeO.none _) | (with_reducible refine LeO.ite ?_ ?_) | (with_reducible refine LeO.bind ?_ (fun _ => ?_))
def spec_DrawQcLater.T2 : Bool × List (List Nat × List Nat) := (true, [([], []), ([], []), ([0, 0], [0]), ([1, 2, 0, 1, 2], [1])])
def spec_DrawQcLater.B2 : List Nat := [0, 0, 1, 7]
theorem spec_DrawQcLater.tab2 : rtab .any (opsOf Tryz.f46 2) = spec_DrawQcLater.T2 := by kernel_rfl
theorem spec_DrawQcLater.bits2 : waitsOk spec_DrawQcLater.T2.2 spec_DrawQcLater.B2 = true := by kernel_rfl
set_option maxHeartbeats 8000000 in
set_option maxRecDepth 100000 in
theorem spec_DrawQcLater.calls (k : Nat) (A0 : Option Addr) (c0 : Nat) (l0 : List Int) (r1 : Int) (r2 : ByteArray) (r3 : List Int) (r4 : Int) (r5 : ByteArray) (r6 : List Int) (w : World) (hr0 : Kd.C (Kd.int .u8) w A0 l0.length l0) (hc0 : l0.length ≤ c0) (h : spec_DrawQcLater.f k l0 = some (r1, r2, r3, r4, r5, r6)) :
  Calls Tryz.prog 46 #[.slice A0 l0.length c0] w fun e w' => ∃ v2_ v5_ : Value, e = .returned (.tuple #[.agg #[.int .i64 r1, .string r2, v2_], .agg #[.int .i64 r4, .string r5, v5_]]) ∧ Kd.R (Kd.int .i64) 3 w' w.heap.size (fun k_ => some k_ ≠ (v5_ : Value).ownBlock) v2_ r3 ∧ Kd.R (Kd.int .i64) 3 w' w.heap.size (fun k_ => some k_ ≠ (v2_ : Value).ownBlock) v5_ r6 ∧ Below w.heap.size w w' := by
 have hu33 := Tryz.underlying33; have HR0 := Aside0.mk hr0; have HC0 := Aside0.mk hc0; clear hr0 hc0; have HB := Aside0.mk (Below.refl w.heap.size w)
 have H := h; unfold spec_DrawQcLater.f at H
 clear h; obtain ⟨⟨t470, t471, t472, t475, t476, t477⟩, A2, H⟩ := oB H; (try dsimp only at H)
 simp only [Option.some.injEq, Prod.mk.injEq] at H
 obtain ⟨rfl, rfl, rfl, rfl, rfl, rfl⟩ := H
 go_enter Tryz.func46, Tryz.ntmps46
 try go_wp2_with (first | ((with_reducible refine gd 2 ?_); refine bL 2 #[.int .i64 0, .string (⟨#[]⟩ : ByteArray), .slice none 0 0] 33 ?_; intro gb468 w3 _ _ _) | ((with_reducible refine gd 3 ?_); refine bL 3 #[.int .i64 0, .string (⟨#[]⟩ : ByteArray), .slice none 0 0] 33 ?_; intro gb469 w4 _ _ _) | ((with_reducible refine gate_callee (f := 92) rfl ?_); refine gC2 (some 8) Tryz.func92 (spec_l7DrawTwo.calls (hr0 := pC HR0) (hc0 := HC0.out) (w := _) (h := A2.out)) ?_; intro Ao473 co473 Ao478 co478 w5 _ HO474 HO479) | ((with_reducible refine gd 4 ?_); refine bL 4 #[.int .i64 0, .string (⟨#[]⟩ : ByteArray), .slice none 0 0] 33 ?_; intro gb480 w6 _ _ _) | ((with_reducible refine gd 5 ?_); refine bL 5 #[.int .i64 0, .string (⟨#[]⟩ : ByteArray), .slice none 0 0] 33 ?_; intro gb481 w7 _ _ _))
 refine sB [gb468, gb469] spec_DrawQcLater.tab2 spec_DrawQcLater.bits2 ?_; intro w8 _ HT_ HW_
 refine tB 0 (some 11) (bz 4 1) HT_ HW_ ?_
 refine tB 1 (some 12) (bz 4 3) HT_ HW_ ?_
 refine o1 2 none (bz 4 7) HT_ rfl (kS ?_)
 refine o1 3 none (bz 4 15) HT_ rfl (kS ?_)
 refine done_ (done_of HT_.out (by kernel_rfl)) ?_
 try go_wp2
 refine bodyPost_ret (results_cc rfl _ _ gb468 gb469 33 33 #[.int .i64 t470, .string t471, .slice Ao473 t472.length co473] #[.int .i64 t475, .string t476, .slice Ao478 t477.length co478] (0, 0) (0, 0) _ _ rfl xB Tryz.underlying33 rfl (by kernel_rfl) rfl xB Tryz.underlying33 rfl (by kernel_rfl)) rfl ?_
 exact ⟨_, _, y0_15, rK HO474, rK HO479, UpW.out⟩

end Go.Proofs.YtemjmefacifdeaaGreatDoor.PFnQuorums
