-- By a program of this session, out of the translation (the print of the kit, with turns of its own). Lean checks it.
import Derived.Test.YtemjmefacifdeaaPFnDropsBelowx0
import Derived.Test.YtemjmefacifdeaaPFnDropsBelowx1
import Derived.Test.YtemjmefacifdeaaPFnDropsBelowx2
import Derived.Test.YtemjmefacifdeaaPFnDropsBelowx12
namespace Go.Proofs.Ytemjmefacifdeaa.PFnDropsBelow
open Go.RowKit Go.Proofs.YtemjmefacifdeaaW.PrintWords Go.Proofs.YtemjmefacifdeaaW.PrintLast Go.Proofs.YtemjmefacifdeaaW.PrintMore
attribute [local go_sem] max2_int min2_int max_two min_two max_three min_three max_four min_four   -- for this text's walks alone
set_option linter.unusedVariables false
set_option linter.unusedSimpArgs false

/-! ### spec_TableDrop: function 24 -/
def spec_TableDrop.l0 : Nat → List (S26) → Int → List (S26) → Int → Option ((List (S26)))
 | 0, _, _, _, _ => none
 | k + 1, x0, x1, x5, x6 => if x6 < (x0.length : Int) then (if 0 ≤ x6 then (if ((rd_T26 x0 x6).f0) ≥ x1 then ((spec_l10Copy.f ((rd_T26 x0 x6).f0) ((rd_T26 x0 x6).f1) ((rd_T26 x0 x6).f2)).bind fun bt611 => (if x5.length < 2932031007402 then (spec_TableDrop.l0 k x0 x1 (x5 ++ [(⟨bt611.1, bt611.2.1, bt611.2.2⟩ : S26)]) (wrap64 (x6 + 1))) else (none))) else (spec_TableDrop.l0 k x0 x1 x5 (wrap64 (x6 + 1)))) else (none)) else (some x5)
def spec_TableDrop.f (k : Nat) (l0 : List (S26)) (a1 : Int) : Option ((List (S26))) := spec_TableDrop.l0 k l0 a1 (([] : List (S26))) 0
theorem spec_TableDrop.mono_l : ∀ k, (∀ y0 y1 y2 y3, LeO (spec_TableDrop.l0 k y0 y1 y2 y3) (spec_TableDrop.l0 (k + 1) y0 y1 y2 y3))
 | 0 => fun _ _ _ _ r h => by simp [spec_TableDrop.l0] at h
 | k + 1 => by
  have ih0 := spec_TableDrop.mono_l k
  intro y0 y1 y2 y3
  unfold spec_TableDrop.l0
  repeat' first | (with_reducible exact ih0 _ _ _ _) | (with_reducible exact LeO.refl _) | (with_reducible exact LeO.none _) | (with_reducible refine LeO.ite ?_ ?_) | (with_reducible refine LeO.bind ?_ (fun _ => ?_))
theorem spec_TableDrop.mono : ∀ a0 a1 k, LeO (spec_TableDrop.f k a0 a1) (spec_TableDrop.f (k + 1) a0 a1) := by
 intro a0 a1 k
 have ih0 := spec_TableDrop.mono_l k
 unfold spec_TableDrop.f
 repeat' first | (with_reducible exact ih0 _ _ _ _) | (with_reducible exact LeO.refl _) | (with_reducible exact LeO.none _) | (with_reducible refine LeO.ite ?_ ?_) | (with_reducible refine LeO.bind ?_ (fun _ => ?_))
set_option maxHeartbeats 8000000 in
set_option maxRecDepth 100000 in
theorem spec_TableDrop.calls (k : Nat) (A0 : Option Addr) (c0 : Nat) (l0 : List (S26)) (a1 : Int) (r : List (S26)) (w : World) (hr0 : Kd.C k26 w A0 l0.length l0) (hc0 : l0.length ≤ c0) (h : spec_TableDrop.f k l0 a1 = some r) :
  Calls Try.prog 24 #[.slice A0 l0.length c0, .int .i64 a1] w fun e w' => ∃ v0_ : Value, e = .returned (v0_) ∧ Kd.S k26 26 w' w.heap.size (fun _ => True) v0_ r ∧ Below w.heap.size w w' := by
 have hu26 := Try.underlying26; have HR0 := Aside0.mk hr0; have HC0 := Aside0.mk hc0; clear hr0 hc0; have HB := Aside0.mk (Below.refl w.heap.size w); have H : (spec_TableDrop.l0 k l0 a1 (([] : List (S26))) 0) = some r := h; clear h; obtain ⟨y606, hy606⟩ : ∃ y_ : List (S26), y_ = (([] : List (S26))) := ⟨_, rfl⟩
 replace H : (spec_TableDrop.l0 k l0 a1 y606 0) = some r := by first | (rw [hy606]; with_reducible exact H) | (have H2_ := (Option.bind_some _ _).symm.trans H; rw [hy606]; with_reducible exact H2_) | (have H2_ := (Option.bind_some _ _).symm.trans H; with_reducible exact H2_) | with_reducible exact H | (rw [hy606]; exact H) | exact H
 have Ny606 := Aside0.mk hy606; clear hy606; have H' := Aside0.mk H; clear H
 go_enter Try.func24, Try.ntmps24
 go_wp2_with (first | ((with_reducible refine gate_dst (N := 7) rfl ?_); refine Kd.S_lit k26 _ 26 ?hg (N := 7) ?hd (xs := ([] : List (S26))) (inner := []) (ok := fun _ => True) (okp := fun _ => True) ?hr ?hp (fun _ hk => hk) trivial (Below.refl _ _) (Nat.le_refl _) (by simp) ?_; (case hd => rfl); (case hg => rfl); (case hr => first | (go_simp; done) | (go_simp; rfl)); (case hp => exact (Reps.none _ _)); intro v607 w3 ho4 hb hg_ hnew_; clear hg_ hnew_; (first | rw [← Ny606.out] at ho4 | (simp only [Int.reduceToNat] at ho4; rw [← Ny606.out] at ho4)); have HO608 := Aside0.mk (Kd.S_lower ho4 (below_size (bI HB.out))); replace HB := bs HB hb; clear hb ho4))
 go_loopg [5, 6] k (fun kq v5 v6 w' => ∃ (x5_1 : List (S26)) (x6_1 : Int), v6 = .int .i64 x6_1 ∧ Aside0 (spec_TableDrop.l0 kq l0 a1 x5_1 x6_1 = some r) ∧ Aside0 (kq ≤ k) ∧ Aside0 (Kd.S k26 26 w' w.heap.size (fun _ => True) v5 x5_1) ∧ Aside0 (Below w.heap.size w w'))
 case atStart => exact ⟨(y606), (0), y0_21, H', ⟨Nat.le_refl _⟩, ⟨by (with_reducible repeat (first | apply Kd.S_alloc | apply Kd.S_drewN | apply Kd.S_drew)); exact HO608.out⟩, ⟨bI HB.out⟩⟩
 case round =>
  clear H'
  try clear c2
  try clear p2
  obtain ⟨x5_1, x6_1, rfl, HA, HK1, HO_5, HB⟩ := hrel; cases gk with
  | zero => exact absurd HA.out (by simp [spec_TableDrop.l0])
  | succ k1 =>
   have H := HA.out; clear HA
   simp only [spec_TableDrop.l0] at H
   by_cases c5 : x6_1 < (l0.length : Int)
   ·
    rw [if_pos c5] at H
    have c5b0 : decide (x6_1 < (l0.length : Int)) = true := decide_eq_true c5; clear c5
    by_cases c6 : 0 ≤ x6_1
    rotate_left
    ·
     rw [if_neg c6] at H
     exact absurd H (by simp)
    rw [if_pos c6] at H
    have c6b0 : decide (0 ≤ x6_1) = true := decide_eq_true c6; clear c6
    by_cases c7 : ((rd_T26 l0 x6_1).f0) ≥ a1
    ·
     rw [if_pos c7] at H
     have c7b0 : decide (a1 ≤ ((rd_T26 l0 x6_1).f0)) = true := decide_eq_true c7; clear c7; obtain ⟨⟨t611, t612, t613⟩, A80, H⟩ := Option.bind_eq_some_iff.mp H
     try dsimp only at H
     have A8 := Aside0.mk A80; clear A80
     by_cases c9 : x5_1.length < 2932031007402
     rotate_left
     ·
      rw [if_neg c9] at H
      exact absurd H (by simp)
     rw [if_pos c9] at H
     have LMc9 := Aside0.mk c9; clear c9; obtain ⟨y616, hy616⟩ : ∃ y_ : List (S26), y_ = (x5_1 ++ [(⟨t611, t612, t613⟩ : S26)]) := ⟨_, rfl⟩
     replace H : (spec_TableDrop.l0 k1 l0 a1 y616 (wrap64 (x6_1 + 1))) = some r := by first | (rw [hy616]; with_reducible exact H) | (have H2_ := (Option.bind_some _ _).symm.trans H; rw [hy616]; with_reducible exact H2_) | (have H2_ := (Option.bind_some _ _).symm.trans H; with_reducible exact H2_) | with_reducible exact H | (rw [hy616]; exact H) | exact H
     have Ny616 := Aside0.mk hy616; clear hy616; have H' := Aside0.mk H; clear H; have p609 : 0 ≤ (x6_1 : Int) := of_decide_eq_true y0_20; have q609 : x6_1 < (l0.length : Int) := of_decide_eq_true y0_20; obtain ⟨ad609, A609_2, c609_2, e609, hx609_0, hx609_1, hx609_2, hl609_2, hi609_2⟩ := at_T26 HR0.out x6_1 p609 q609; cases e609; replace hx609_0 := bx HB hx609_0; replace hx609_1 := bx HB hx609_1; replace hx609_2 := bx HB hx609_2; have HR609_2 := Aside0.mk hi609_2; have HC609_2 := Aside0.mk hl609_2; clear hi609_2 hl609_2; replace p609 := eq_true p609; replace q609 := eq_true q609; have p610 : 0 ≤ (x6_1 : Int) := of_decide_eq_true y0_20; have q610 : x6_1 < (l0.length : Int) := of_decide_eq_true y0_20; obtain ⟨ad610, A610_2, c610_2, e610, hx610_0, hx610_1, hx610_2, hl610_2, hi610_2⟩ := at_T26 HR0.out x6_1 p610 q610
     obtain rfl : ad609 = ad610 := (by injection e610)
     replace hx610_0 := bx HB hx610_0; replace hx610_1 := bx HB hx610_1; replace hx610_2 := bx HB hx610_2; have HR610_2 := Aside0.mk hi610_2; have HC610_2 := Aside0.mk hl610_2; clear hi610_2 hl610_2; replace p610 := eq_true p610; replace q610 := eq_true q610; have ea_ := Option.some.inj (hx609_2.symm.trans hx610_2)
     injection ea_ with ea_ en_ ec_
     subst ea_; subst ec_; clear en_
     go_wp2_with (first | ((with_reducible refine gate_callee (f := 46) rfl ?_); refine gB (some 26) Try.func46 #[.agg #[.int .i64 ((rd_T26 l0 x6_1).f0), .string ((rd_T26 l0 x6_1).f1), .slice A609_2 ((rd_T26 l0 x6_1).f2).length c609_2]] ?_; (with_reducible refine (spec_l10Copy.calls ((rd_T26 l0 x6_1).f0) ((rd_T26 l0 x6_1).f1) _ _ ((rd_T26 l0 x6_1).f2) t611 t612 t613 _ ?side1 ?side2 A8.out).mono ?_); (case side1 => exact ch HR610_2 HB); (case side2 => exact HC610_2.out); rintro e w10 ⟨v614, rfl, ho0, hb⟩; refine ⟨_, rfl, ?_⟩; replace HO_5 := Aside0.mk (Kd.S_elder' (sI HO_5.out) (Kd.R_base ho0) hb); have HO615 := Aside0.mk (Kd.R_lower ho0 (below_size (bI HB.out))); replace HB := bs HB hb; (try clear hb); (try clear ho0); obtain ⟨Ao12, co12, eo12⟩ := Kd.R_slice HO615.out; subst eo12) | ((with_reducible refine gate_builtin (b := .append) (xs := #[.tmp 21, .tmp 27]) rfl ?_); at_builtin; refine Kd.S_append k26 (w0 := w) w.heap.size rfl (.tmp 21) (.tmp 27) 43 26 (.agg #[(.int .i64 0), (.string ⟨#[]⟩), (.slice none 0 0)]) 48 rfl Try.underlying43 info26 rfl (by decide) (by omega) u5 x5_1 (⟨t611, t612, t613⟩ : S26) [.int .i64 t611, .string t612, .slice Ao12 t613.length co12] (fun _ => True) (fun k_ => some k_ = (.slice Ao12 t613.length co12 : Value).ownBlock) rfl rfl ?aP (fun k_ hk_ => ((Kd.R_mono (ok' := fun k_ => ((fun _ => True)) k_ ∧ some k_ ≠ (u5 : Value).ownBlock) (Kd.R_apart' (HO615.out) (Kd.S_typed HO_5.out) (by decide)) (fun k_ hk => ⟨trivial, hk.2⟩))).1 k_ hk_.symm) ?aF ?aO ?aB ?aS ?aL ?_; (case aP => exact k26_mkM _ _ _ (⟨t611, t612, t613⟩ : S26) (Kd.R_mono (Kd.R_tight rfl (Kd.R_mono (ok' := fun k_ => ((fun _ => True)) k_ ∧ some k_ ≠ (u5 : Value).ownBlock) (Kd.R_apart' (HO615.out) (Kd.S_typed HO_5.out) (by decide)) (fun k_ hk => ⟨trivial, hk.2⟩))) (fun _ h_ => h_))); (case aB => exact (bI HB.out)); (case aF => exact (fun _ _ => trivial)); (case aO => exact (sI (Kd.S_mono HO_5.out (fun k_ hk => ⟨trivial, fun e_ => hk.2 e_⟩)))); (case aS => exact (below_size (bI HB.out))); (case aL => have := LMc9.out; omega); intro v617 w11 ho hb hg hat; rw [← Ny616.out] at ho; have n0_ := Aside0.mk (hb); have n1_ := Aside0.mk (ho); clear HB; clear HO_5; clear HO615; have HB := n0_; have HO618 := n1_; clear n0_ n1_; clear ho hb hg hat))
     go_roundg k1
     case measure => have := HK1.out; omega
     case rel => exact ⟨(y616), (wrap64 (x6_1 + 1)), y0_21, H', ⟨y0_25⟩, ⟨by (with_reducible repeat (first | apply Kd.S_alloc | apply Kd.S_drewN | apply Kd.S_drew)); exact HO618.out⟩, ⟨bI HB.out⟩⟩
    rw [if_neg c7] at H
    have c7b0 : decide (a1 ≤ ((rd_T26 l0 x6_1).f0)) = false := decide_eq_false c7; clear c7; have H' := Aside0.mk H; clear H; have p609 : 0 ≤ (x6_1 : Int) := of_decide_eq_true y0_20; have q609 : x6_1 < (l0.length : Int) := of_decide_eq_true y0_20; obtain ⟨ad609, A609_2, c609_2, e609, hx609_0, hx609_1, hx609_2, hl609_2, hi609_2⟩ := at_T26 HR0.out x6_1 p609 q609; cases e609; replace hx609_0 := bx HB hx609_0; replace hx609_1 := bx HB hx609_1; replace hx609_2 := bx HB hx609_2; have HR609_2 := Aside0.mk hi609_2; have HC609_2 := Aside0.mk hl609_2; clear hi609_2 hl609_2; replace p609 := eq_true p609; replace q609 := eq_true q609
    go_wp2
    go_roundg k1
    case measure => have := HK1.out; omega
    case rel => exact ⟨(x5_1), (wrap64 (x6_1 + 1)), y0_21, H', ⟨y0_25⟩, ⟨y0_14⟩, ⟨bI HB.out⟩⟩
   rw [if_neg c5] at H
   have c5b0 : decide (x6_1 < (l0.length : Int)) = false := decide_eq_false c5; clear c5; obtain rfl := Option.some.inj H
   go_wp2
   go_ret
   exact ⟨_, y0_16, y0_14, bI HB.out⟩

/-! ### laws_FnDropsBelow: function 5 -/
def laws_FnDropsBelow.l0 : Nat → List (S26) → Int → List (S26) → Int → Int → Option (Bool)
 | 0, _, _, _, _, _ => none
 | k + 1, x3, x4, x5, x6, x7 => if x7 < (x3.length : Int) then (if 0 ≤ x7 then (if ((rd_T26 x3 x7).f0) < x4 then (laws_FnDropsBelow.l0 k x3 x4 x5 x6 (wrap64 (x7 + 1))) else (if x6 ≥ (x5.length : Int) then (some false) else (if 0 ≤ x6 then (if x6 < (x5.length : Int) then ((laws_samePart.f k ((rd_T26 x5 x6).f0) ((rd_T26 x5 x6).f1) ((rd_T26 x5 x6).f2) ((rd_T26 x3 x7).f0) ((rd_T26 x3 x7).f1) ((rd_T26 x3 x7).f2)).bind fun t634 => (if t634 = true then (laws_FnDropsBelow.l0 k x3 x4 x5 (wrap64 (x6 + 1)) (wrap64 (x7 + 1))) else (some false))) else (none)) else (none)))) else (none)) else (some (x6 == (x5.length : Int)))
def laws_FnDropsBelow.f (k : Nat) (l0 : List Int) : Option (Bool) := (laws_big.f l0).bind fun t619 => (if t619 = true then (some true) else ((spec_DrawTableDrop.f k l0).bind fun bt620 => ((impl_TableDrop.f k bt620.1 bt620.2).bind fun t624 => ((spec_TableDrop.f k bt620.1 bt620.2).bind fun t627 => ((laws_sameTable.f k t624 t627).bind fun t630 => (if t630 = true then (laws_FnDropsBelow.l0 k bt620.1 bt620.2 t624 0 0) else (some false)))))))
theorem laws_FnDropsBelow.mono_l : ∀ k, (∀ y0 y1 y2 y3 y4, LeO (laws_FnDropsBelow.l0 k y0 y1 y2 y3 y4) (laws_FnDropsBelow.l0 (k + 1) y0 y1 y2 y3 y4))
 | 0 => fun _ _ _ _ _ r h => by simp [laws_FnDropsBelow.l0] at h
 | k + 1 => by
  have ih0 := laws_FnDropsBelow.mono_l k
  intro y0 y1 y2 y3 y4
  unfold laws_FnDropsBelow.l0
  repeat' first | (with_reducible exact ih0 _ _ _ _ _) | (with_reducible exact impl_TableDrop.mono _ _ _) | (with_reducible exact laws_samePart.mono _ _ _ _ _ _ _) | (with_reducible exact laws_sameTable.mono _ _ _) | (with_reducible exact spec_DrawTableDrop.mono _ _) | (with_reducible exact spec_TableDrop.mono _ _ _) | (with_reducible exact LeO.refl _) | (with_reducible exact LeO.none _) | (with_reducible refine LeO.ite ?_ ?_) | (with_reducible refine LeO.bind ?_ (fun _ => ?_))
theorem laws_FnDropsBelow.mono : ∀ a0 k, LeO (laws_FnDropsBelow.f k a0) (laws_FnDropsBelow.f (k + 1) a0) := by
 intro a0 k
 have ih0 := laws_FnDropsBelow.mono_l k
 unfold laws_FnDropsBelow.f
 repeat' first | (with_reducible exact ih0 _ _ _ _ _) | (with_reducible exact impl_TableDrop.mono _ _ _) | (with_reducible exact laws_samePart.mono _ _ _ _ _ _ _) | (with_reducible exact laws_sameTable.mono _ _ _) | (with_reducible exact spec_DrawTableDrop.mono _ _) | (with_reducible exact spec_TableDrop.mono _ _ _) | (with_reducible exact LeO.refl _) | (with_reducible exact LeO.none _) | (with_reducible refine LeO.ite ?_ ?_) | (with_reducible refine LeO.bind ?_ (fun _ => ?_))
def laws_FnDropsBelow.T12 : Bool × List (List Nat × List Nat) := (true, [([], []), ([], []), ([1], [1]), ([0, 2], [0, 2]), ([3], [3]), ([4], [4]), ([4], [4]), ([5, 6, 4], [4, 5, 6]), ([7, 4], [4, 7]), ([4], [4]), ([4], [4]), ([9, 10, 4], [4, 9, 10]), ([11, 4], [4, 11]), ([8, 12, 4, 4], [4, 8, 12]), ([13, 4], [4, 13]), ([4, 14], [4, 14])])
def laws_FnDropsBelow.B12 : List Nat := [0, 0, 2, 7, 15, 31, 31, 127, 255, 31, 31, 1567, 3615, 8191, 16383, 32767]
theorem laws_FnDropsBelow.tab12 : rtab .any (opsOf Try.f5 12) = laws_FnDropsBelow.T12 := by kernel_rfl
theorem laws_FnDropsBelow.bits12 : waitsOk laws_FnDropsBelow.T12.2 laws_FnDropsBelow.B12 = true := by kernel_rfl
set_option maxHeartbeats 8000000 in
set_option maxRecDepth 100000 in
theorem laws_FnDropsBelow.calls (k : Nat) (A0 : Option Addr) (c0 : Nat) (l0 : List Int) (r : Bool) (hrt : Aside0 (r = true)) (w : World) (hr0 : Kd.C (Kd.int .u8) w A0 l0.length l0) (hc0 : l0.length ≤ c0) (h : laws_FnDropsBelow.f k l0 = some r) :
  Calls Try.prog 5 #[.slice A0 l0.length c0] w fun e w' => e = .returned (.bool r) ∧ Below w.heap.size w w' := by
 have hu26 := Try.underlying26; have HR0 := Aside0.mk hr0; have HC0 := Aside0.mk hc0; clear hr0 hc0; have HB := Aside0.mk (Below.refl w.heap.size w)
 have H : ((laws_big.f l0).bind fun t619 => (if t619 = true then (some true) else ((spec_DrawTableDrop.f k l0).bind fun bt620 => ((impl_TableDrop.f k bt620.1 bt620.2).bind fun t624 => ((spec_TableDrop.f k bt620.1 bt620.2).bind fun t627 => ((laws_sameTable.f k t624 t627).bind fun t630 => (if t630 = true then (laws_FnDropsBelow.l0 k bt620.1 bt620.2 t624 0 0) else (some false)))))))) = some r := h
 clear h; obtain ⟨t619, A20, H⟩ := Option.bind_eq_some_iff.mp H
 try dsimp only at H
 have A2 := Aside0.mk A20; clear A20
 by_cases c3 : t619 = true
 ·
  subst c3
  rw [if_pos rfl] at H
  obtain rfl := Option.some.inj H
  go_enter Try.func5, Try.ntmps5
  go_wp2_with (first | ((with_reducible refine gate_callee (f := 13) rfl ?_); refine gB (some 9) Try.func13 #[.slice A0 l0.length c0] ?_; (with_reducible refine (laws_big.calls _ _ l0 true _ ?side1 ?side2 A2.out).mono ?_); (case side1 => exact cI HR0.out); (case side2 => exact HC0.out); rintro e w' ⟨rfl, ⟨nd, rfl⟩⟩; refine ⟨_, rfl, ?_⟩))
  go_ret
  exact ⟨y0_16, bI HB.out⟩
 replace c3 := Bool.eq_false_iff.mpr c3; subst c3
 rw [if_neg (show ¬ (false = true) by decide)] at H
 obtain ⟨⟨t620, t621⟩, A40, H⟩ := Option.bind_eq_some_iff.mp H
 try dsimp only at H
 have A4 := Aside0.mk A40; clear A40; obtain ⟨t624, A50, H⟩ := Option.bind_eq_some_iff.mp H
 try dsimp only at H
 have A5 := Aside0.mk A50; clear A50; obtain ⟨t627, A60, H⟩ := Option.bind_eq_some_iff.mp H
 try dsimp only at H
 have A6 := Aside0.mk A60; clear A60; obtain ⟨t630, A70, H⟩ := Option.bind_eq_some_iff.mp H
 try dsimp only at H
 have A7 := Aside0.mk A70; clear A70
 by_cases c8 : t630 = true
 ·
  subst c8
  rw [if_pos rfl] at H
  have H' := Aside0.mk H; clear H
  go_enter Try.func5, Try.ntmps5
  go_wp2_with (first | ((with_reducible refine gate_callee (f := 13) rfl ?_); refine gB (some 9) Try.func13 #[.slice A0 l0.length c0] ?_; (with_reducible refine (laws_big.calls _ _ l0 false _ ?side1 ?side2 A2.out).mono ?_); (case side1 => exact cI HR0.out); (case side2 => exact HC0.out); rintro e w' ⟨rfl, ⟨nd, rfl⟩⟩; refine ⟨_, rfl, ?_⟩) | ((with_reducible refine gate_callee (f := 21) rfl ?_); refine gB (some 12) Try.func21 #[.slice A0 l0.length c0] ?_; (with_reducible refine (spec_DrawTableDrop.calls k _ _ l0 t620 t621 _ ?side1 ?side2 A4.out).mono ?_); (case side1 => exact cI HR0.out); (case side2 => exact HC0.out); rintro e w9 ⟨v622, rfl, ho0, hb⟩; refine ⟨_, rfl, ?_⟩; have HO623 := Aside0.mk (Kd.S_lower ho0 (below_size (bI HB.out))); replace HB := bs HB hb; (try clear hb); (try clear ho0); obtain ⟨Ao10, co10, eo10⟩ := Kd.S_slice HO623.out; subst eo10) | ((with_reducible refine gate_callee (f := 22) rfl ?_); refine gB (some 17) Try.func22 #[.slice Ao10 t620.length co10, .int .i64 t621] ?_; (with_reducible refine (impl_TableDrop.calls k _ _ t620 t621 t624 _ ?side1 ?side2 A5.out).mono ?_); (case side1 => repeat (first | exact (Kd.S_reads' HO623.out).2.2 | (with_reducible refine Kd.C_alloc ?_ _) | (with_reducible refine Kd.C_drewN ?_ _) | (with_reducible refine Kd.C_drew ?_))); (case side2 => exact (Kd.S_reads' HO623.out).2.1); rintro e w11 ⟨v625, rfl, ho0, hb⟩; refine ⟨_, rfl, ?_⟩; have HO626 := Aside0.mk (Kd.S_lower (Kd.S_new' ho0 (Kd.S_lt (sI HO623.out))) (below_size (bI HB.out))); replace HO623 := Aside0.mk (Kd.S_elder' (sI HO623.out) (Kd.S_base ho0) hb); replace HB := bs HB hb; (try clear hb); (try clear ho0)) | ((with_reducible refine gate_callee (f := 24) rfl ?_); refine gB (some 21) Try.func24 #[.slice Ao10 t620.length co10, .int .i64 t621] ?_; (with_reducible refine (spec_TableDrop.calls k _ _ t620 t621 t627 _ ?side1 ?side2 A6.out).mono ?_); (case side1 => repeat (first | exact (Kd.S_reads' HO623.out).2.2 | (with_reducible refine Kd.C_alloc ?_ _) | (with_reducible refine Kd.C_drewN ?_ _) | (with_reducible refine Kd.C_drew ?_))); (case side2 => exact (Kd.S_reads' HO623.out).2.1); rintro e w12 ⟨v628, rfl, ho0, hb⟩; refine ⟨_, rfl, ?_⟩; have HO629 := Aside0.mk (Kd.S_lower (Kd.S_new' (Kd.S_new' ho0 (Kd.S_lt (sI HO623.out))) (Kd.S_lt (sI HO626.out))) (below_size (bI HB.out))); replace HO623 := Aside0.mk (Kd.S_elder' (sI HO623.out) (Kd.S_base ho0) hb); replace HO626 := Aside0.mk (Kd.S_elder' (sI HO626.out) (Kd.S_base ho0) hb); replace HB := bs HB hb; (try clear hb); (try clear ho0); obtain ⟨Ao13, co13, eo13⟩ := Kd.S_slice HO626.out; subst eo13; obtain ⟨Ao14, co14, eo14⟩ := Kd.S_slice HO629.out; subst eo14) | ((with_reducible refine gate_callee (f := 23) rfl ?_); refine gB (some 22) Try.func23 #[.slice Ao13 t624.length co13, .slice Ao14 t627.length co14] ?_; (with_reducible refine (laws_sameTable.calls k _ _ t624 _ _ t627 true _ ?side1 ?side2 ?side3 ?side4 A7.out).mono ?_); (case side1 => repeat (first | exact (Kd.S_reads' HO626.out).2.2 | (with_reducible refine Kd.C_alloc ?_ _) | (with_reducible refine Kd.C_drewN ?_ _) | (with_reducible refine Kd.C_drew ?_))); (case side2 => exact (Kd.S_reads' HO626.out).2.1); (case side3 => repeat (first | exact (Kd.S_reads' HO629.out).2.2 | (with_reducible refine Kd.C_alloc ?_ _) | (with_reducible refine Kd.C_drewN ?_ _) | (with_reducible refine Kd.C_drew ?_))); (case side4 => exact (Kd.S_reads' HO629.out).2.1); rintro e w15 ⟨rfl, hb⟩; refine ⟨_, rfl, ?_⟩; replace HO623 := sb HO623 hb; replace HO626 := sb HO626 hb; replace HO629 := sb HO629 hb; replace HB := bs HB hb; (try clear hb); (try clear hb2); (try clear hk); (try clear hi)))
  go_loopg [6, 7] k (fun kq v6 v7 w' => ∃ (x6_1 : Int) (x7_1 : Int), v6 = .int .i64 x6_1 ∧ v7 = .int .i64 x7_1 ∧ Aside0 (laws_FnDropsBelow.l0 kq t620 t621 t624 x6_1 x7_1 = some r) ∧ Aside0 (kq ≤ k) ∧ Aside0 (Kd.S k26 26 w' w.heap.size (fun k_ => some k_ ≠ ((.slice Ao13 t624.length co13) : Value).ownBlock) (.slice Ao10 t620.length co10) t620) ∧ Aside0 (Kd.S k26 26 w' w.heap.size (fun k_ => some k_ ≠ ((.slice Ao10 t620.length co10) : Value).ownBlock) (.slice Ao13 t624.length co13) t624) ∧ Aside0 (Below w.heap.size w w'))
  case atStart => exact ⟨(0), (0), y0_21, y0_21, H', ⟨Nat.le_refl _⟩, ⟨by (with_reducible repeat (first | apply Kd.S_alloc | apply Kd.S_drewN | apply Kd.S_drew)); exact Kd.S_mono HO623.out (fun _ hk => by first | exact hk.1.2 | exact ⟨hk.1.2, hk.2⟩ | exact ⟨hk.2, hk.1.2⟩ | exact ⟨hk.1.2, hk.1.1.2⟩ | simp_all)⟩, ⟨by (with_reducible repeat (first | apply Kd.S_alloc | apply Kd.S_drewN | apply Kd.S_drew)); exact Kd.S_mono HO626.out (fun _ hk => by first | exact hk.1.2 | exact ⟨hk.1.2, hk.2⟩ | exact ⟨hk.2, hk.1.2⟩ | exact ⟨hk.1.2, hk.1.1.2⟩ | simp_all)⟩, ⟨bI HB.out⟩⟩
  case round =>
   clear H'
   try clear c1
   try clear c2
   try clear p2
   try clear c3
   try clear c5
   try clear c8
   try clear c13
   obtain ⟨x6_1, x7_1, rfl, rfl, HA, HK1, HO_3, HO_5, HB⟩ := hrel; cases gk with
   | zero => exact absurd HA.out (by simp [laws_FnDropsBelow.l0])
   | succ k1 =>
    have H := HA.out; clear HA
    simp only [laws_FnDropsBelow.l0] at H
    by_cases c16 : x7_1 < (t620.length : Int)
    ·
     rw [if_pos c16] at H
     have c16b0 : decide (x7_1 < (t620.length : Int)) = true := decide_eq_true c16; clear c16
     by_cases c17 : 0 ≤ x7_1
     rotate_left
     ·
      rw [if_neg c17] at H
      exact absurd H (by simp)
     rw [if_pos c17] at H
     have c17b0 : decide (0 ≤ x7_1) = true := decide_eq_true c17; clear c17
     by_cases c18 : ((rd_T26 t620 x7_1).f0) < t621
     ·
      rw [if_pos c18] at H
      have c18b0 : decide (((rd_T26 t620 x7_1).f0) < t621) = true := decide_eq_true c18; clear c18; have H' := Aside0.mk H; clear H; have p631 : 0 ≤ (x7_1 : Int) := of_decide_eq_true y0_20; have q631 : x7_1 < (t620.length : Int) := of_decide_eq_true y0_20; obtain ⟨ad631, A631_2, c631_2, e631, hx631_0, hx631_1, hx631_2, hl631_2, hi631_2⟩ := at_T26 (Kd.S_reads' HO_3.out).2.2 x7_1 p631 q631; cases e631
      obtain ⟨ce631, hce631, hMe631, hcc631⟩ := Kd.S_get HO_3.out z26 x7_1 p631 (by first | exact q631 | exact of_decide_eq_true y0_20 | (have e_ := (Kd.S_reads' HO_3.out).1; omega))
      obtain ⟨ve631_2, rfl, ge631_2⟩ := k26_openM hMe631; have hv631_2 := hcc631 2 _ rfl
      rw [add_field _ _ 2 (by omega)] at hv631_2
      replace hv631_2 := Option.some.inj (hv631_2.symm.trans hx631_2)
      rw [hv631_2] at ge631_2
      have HL631_2 := Aside0.mk (show Kd.R (Kd.int .i64) 3 _ _ _ _ ((rd_T26 t620 x7_1).f2) from ge631_2)
      clear hv631_2 ge631_2; clear hcc631 hce631; have HR631_2 := Aside0.mk hi631_2; have HC631_2 := Aside0.mk hl631_2; clear hi631_2 hl631_2; replace p631 := eq_true p631; replace q631 := eq_true q631
      go_wp2
      go_roundg k1
      case measure => have := HK1.out; omega
      case rel => exact ⟨(x6_1), (wrap64 (x7_1 + 1)), y0_21, y0_21, H', ⟨y0_25⟩, ⟨y0_15⟩, ⟨y0_14⟩, ⟨bI HB.out⟩⟩
     rw [if_neg c18] at H
     have c18b0 : decide (((rd_T26 t620 x7_1).f0) < t621) = false := decide_eq_false c18; clear c18
     by_cases c19 : x6_1 ≥ (t624.length : Int)
     ·
      rw [if_pos c19] at H
      have c19b0 : decide ((t624.length : Int) ≤ x6_1) = true := decide_eq_true c19; clear c19
      exact absurd (hrt.out.symm.trans (Option.some.inj H).symm) (by decide)
     rw [if_neg c19] at H
     have c19b0 : decide ((t624.length : Int) ≤ x6_1) = false := decide_eq_false c19; clear c19
     by_cases c20 : 0 ≤ x6_1
     rotate_left
     ·
      rw [if_neg c20] at H
      exact absurd H (by simp)
     rw [if_pos c20] at H
     have c20b0 : decide (0 ≤ x6_1) = true := decide_eq_true c20; clear c20
     by_cases c21 : x6_1 < (t624.length : Int)
     rotate_left
     ·
      rw [if_neg c21] at H
      exact absurd H (by simp)
     rw [if_pos c21] at H
     have c21b0 : decide (x6_1 < (t624.length : Int)) = true := decide_eq_true c21; clear c21; obtain ⟨t634, A220, H⟩ := Option.bind_eq_some_iff.mp H
     try dsimp only at H
     have A22 := Aside0.mk A220; clear A220
     by_cases c23 : t634 = true
     rotate_left
     ·
      replace c23 := Bool.eq_false_iff.mpr c23; subst c23
      rw [if_neg (show ¬ (false = true) by decide)] at H
      exact absurd (hrt.out.symm.trans (Option.some.inj H).symm) (by decide)
     subst c23
     rw [if_pos rfl] at H
     have H' := Aside0.mk H; clear H; have p631 : 0 ≤ (x7_1 : Int) := of_decide_eq_true y0_20; have q631 : x7_1 < (t620.length : Int) := of_decide_eq_true y0_20; obtain ⟨ad631, A631_2, c631_2, e631, hx631_0, hx631_1, hx631_2, hl631_2, hi631_2⟩ := at_T26 (Kd.S_reads' HO_3.out).2.2 x7_1 p631 q631; cases e631
     obtain ⟨ce631, hce631, hMe631, hcc631⟩ := Kd.S_get HO_3.out z26 x7_1 p631 (by first | exact q631 | exact of_decide_eq_true y0_20 | (have e_ := (Kd.S_reads' HO_3.out).1; omega))
     obtain ⟨ve631_2, rfl, ge631_2⟩ := k26_openM hMe631; have hv631_2 := hcc631 2 _ rfl
     rw [add_field _ _ 2 (by omega)] at hv631_2
     replace hv631_2 := Option.some.inj (hv631_2.symm.trans hx631_2)
     rw [hv631_2] at ge631_2
     have HL631_2 := Aside0.mk (show Kd.R (Kd.int .i64) 3 _ _ _ _ ((rd_T26 t620 x7_1).f2) from ge631_2)
     clear hv631_2 ge631_2; clear hcc631 hce631; have HR631_2 := Aside0.mk hi631_2; have HC631_2 := Aside0.mk hl631_2; clear hi631_2 hl631_2; replace p631 := eq_true p631; replace q631 := eq_true q631
     try go_wp2
     replace HO_3 := Aside0.mk (Kd.S_drew HO_3.out); replace HO_5 := Aside0.mk (Kd.S_drew HO_5.out); replace HL631_2 := Aside0.mk (Kd.R_drew HL631_2.out); replace HR631_2 := Aside0.mk (Kd.C_drew HR631_2.out); replace HB := Aside0.mk (below_drew1 HB.out); have p632 : 0 ≤ (x6_1 : Int) := of_decide_eq_true y0_20; have q632 : x6_1 < (t624.length : Int) := of_decide_eq_true y0_20; obtain ⟨ad632, A632_2, c632_2, e632, hx632_0, hx632_1, hx632_2, hl632_2, hi632_2⟩ := at_T26 (Kd.S_reads' HO_5.out).2.2 x6_1 p632 q632; cases e632
     obtain ⟨ce632, hce632, hMe632, hcc632⟩ := Kd.S_get HO_5.out z26 x6_1 p632 (by first | exact q632 | exact of_decide_eq_true y0_20 | (have e_ := (Kd.S_reads' HO_5.out).1; omega))
     obtain ⟨ve632_2, rfl, ge632_2⟩ := k26_openM hMe632; have hv632_2 := hcc632 2 _ rfl
     rw [add_field _ _ 2 (by omega)] at hv632_2
     replace hv632_2 := Option.some.inj (hv632_2.symm.trans hx632_2)
     rw [hv632_2] at ge632_2
     have HL632_2 := Aside0.mk (show Kd.R (Kd.int .i64) 3 _ _ _ _ ((rd_T26 t624 x6_1).f2) from ge632_2)
     clear hv632_2 ge632_2; clear hcc632 hce632; have HR632_2 := Aside0.mk hi632_2; have HC632_2 := Aside0.mk hl632_2; clear hi632_2 hl632_2; replace p632 := eq_true p632; replace q632 := eq_true q632; have p633 : 0 ≤ (x7_1 : Int) := of_decide_eq_true y0_20; have q633 : x7_1 < (t620.length : Int) := of_decide_eq_true y0_20; obtain ⟨ad633, A633_2, c633_2, e633, hx633_0, hx633_1, hx633_2, hl633_2, hi633_2⟩ := at_T26 (Kd.S_reads' HO_3.out).2.2 x7_1 p633 q633
     obtain rfl : ad631 = ad633 := (by injection e633)
     obtain ⟨ce633, hce633, hMe633, hcc633⟩ := Kd.S_get HO_3.out z26 x7_1 p633 (by first | exact q633 | exact of_decide_eq_true y0_20 | (have e_ := (Kd.S_reads' HO_3.out).1; omega))
     obtain ⟨ve633_2, rfl, ge633_2⟩ := k26_openM hMe633; have hv633_2 := hcc633 2 _ rfl
     rw [add_field _ _ 2 (by omega)] at hv633_2
     replace hv633_2 := Option.some.inj (hv633_2.symm.trans hx633_2)
     rw [hv633_2] at ge633_2
     have HL633_2 := Aside0.mk (show Kd.R (Kd.int .i64) 3 _ _ _ _ ((rd_T26 t620 x7_1).f2) from ge633_2)
     clear hv633_2 ge633_2; clear hcc633 hce633; have HR633_2 := Aside0.mk hi633_2; have HC633_2 := Aside0.mk hl633_2; clear hi633_2 hl633_2; replace p633 := eq_true p633; replace q633 := eq_true q633
     refine start_ (n := 16) (S := fun w' => w'.cell? (ad632.add ((x6_1).toNat * 3)) = some (.int .i64 ((rd_T26 t624 x6_1).f0)) ∧ w'.cell? ⟨(ad632.add ((x6_1).toNat * 3)).block, (ad632.add ((x6_1).toNat * 3)).off + 1, none⟩ = some (.string ((rd_T26 t624 x6_1).f1)) ∧ w'.cell? ⟨(ad632.add ((x6_1).toNat * 3)).block, (ad632.add ((x6_1).toNat * 3)).off + 2, none⟩ = some (.slice A632_2 ((rd_T26 t624 x6_1).f2).length c632_2) ∧ w'.cell? (ad631.add ((x7_1).toNat * 3)) = some (.int .i64 ((rd_T26 t620 x7_1).f0)) ∧ w'.cell? ⟨(ad631.add ((x7_1).toNat * 3)).block, (ad631.add ((x7_1).toNat * 3)).off + 1, none⟩ = some (.string ((rd_T26 t620 x7_1).f1)) ∧ w'.cell? ⟨(ad631.add ((x7_1).toNat * 3)).block, (ad631.add ((x7_1).toNat * 3)).off + 2, none⟩ = some (.slice A633_2 ((rd_T26 t620 x7_1).f2).length c633_2)) (ds := []) #[false, false, false, false, false, false, false, false, false, false, false, false, false, false, false, false] (by kernel_rfl) rfl rfl ⟨hx632_0, hx632_1, hx632_2, hx633_0, hx633_1, hx633_2⟩ (fun hHeld => ?_); refine with_tabW laws_FnDropsBelow.tab12 laws_FnDropsBelow.bits12 (fun HT_ HW_ => ?_)
     generalize wr.drew = w24 at HO_3 HO_5 HL631_2 HR631_2 HB HL632_2 HL633_2 HR632_2 HR633_2 hx632_0 hx632_1 hx632_2 hx633_0 hx633_1 hx633_2 hHeld ⊢
     refine pA 0 (some 37) (bz 16 1) HT_ ?_
     refine pA 1 (some 38) (bz 16 3) HT_ ?_
     refine pA 2 (some 39) (bz 16 7) HT_ ?_
     refine pA 3 (some 40) (bz 16 15) HT_ ?_
     refine pA 4 (some 41) (bz 16 31) HT_ ?_
     refine pA 5 (some 42) (bz 16 63) HT_ ?_
     refine pA 6 (some 43) (bz 16 127) HT_ ?_
     refine pA 7 (some 44) (bz 16 255) HT_ ?_
     refine pA 9 (some 46) (bz 16 767) HT_ ?_
     refine pA 10 (some 47) (bz 16 1791) HT_ ?_
     refine pA 11 (some 48) (bz 16 3839) HT_ ?_
     refine tA 8 (some 45) (bz 16 4095) HT_ HW_ hHeld ?_
     refine tA 12 (some 49) (bz 16 0x1fff) HT_ HW_ hHeld ?_
     refine oA 13 (some 50) (bz 16 0x3fff) HT_ (fun K hK => ?_)
     refine gA Try.func25 #[.agg #[.int .i64 ((rd_T26 t624 x6_1).f0), .string ((rd_T26 t624 x6_1).f1), .slice A632_2 ((rd_T26 t624 x6_1).f2).length c632_2], .agg #[.int .i64 ((rd_T26 t620 x7_1).f0), .string ((rd_T26 t620 x7_1).f1), .slice A633_2 ((rd_T26 t620 x7_1).f2).length c633_2]] ?_
     with_reducible refine (laws_samePart.calls k1 ((rd_T26 t624 x6_1).f0) ((rd_T26 t624 x6_1).f1) _ _ ((rd_T26 t624 x6_1).f2) ((rd_T26 t620 x7_1).f0) ((rd_T26 t620 x7_1).f1) _ _ ((rd_T26 t620 x7_1).f2) true _ ?side1 ?side2 ?side3 ?side4 A22.out).mono ?_
     (case side1 => repeat (first | exact (by repeat (first | (with_reducible exact HR632_2.out) | (with_reducible refine Kd.C_alloc ?_ _) | (with_reducible refine Kd.C_drewN ?_ _) | (with_reducible refine Kd.C_drew ?_) | exact HR632_2.out)) | (with_reducible refine Kd.C_alloc ?_ _) | (with_reducible refine Kd.C_drewN ?_ _) | (with_reducible refine Kd.C_drew ?_)))
     (case side2 => exact HC632_2.out)
     (case side3 => repeat (first | exact (by repeat (first | (with_reducible exact HR633_2.out) | (with_reducible refine Kd.C_alloc ?_ _) | (with_reducible refine Kd.C_drewN ?_ _) | (with_reducible refine Kd.C_drew ?_) | exact HR633_2.out)) | (with_reducible refine Kd.C_alloc ?_ _) | (with_reducible refine Kd.C_drewN ?_ _) | (with_reducible refine Kd.C_drew ?_)))
     (case side4 => exact HC633_2.out)
     rintro e w25 ⟨rfl, hb⟩
     have HS0_ := (hb.cell (World.block_lt_of_cell? _ _ (hHeld.1))).trans (hHeld.1); have HS1_ := (hb.cell (World.block_lt_of_cell? _ _ (hHeld.2.1))).trans (hHeld.2.1); have HS2_ := (hb.cell (World.block_lt_of_cell? _ _ (hHeld.2.2.1))).trans (hHeld.2.2.1); have HS3_ := (hb.cell (World.block_lt_of_cell? _ _ (hHeld.2.2.2.1))).trans (hHeld.2.2.2.1); have HS4_ := (hb.cell (World.block_lt_of_cell? _ _ (hHeld.2.2.2.2.1))).trans (hHeld.2.2.2.2.1); have HS5_ := (hb.cell (World.block_lt_of_cell? _ _ (hHeld.2.2.2.2.2))).trans (hHeld.2.2.2.2.2)
     refine ⟨_, rfl, ?_⟩
     replace HO_3 := sb HO_3 hb; replace HO_5 := sb HO_5 hb; replace HL631_2 := rb HL631_2 hb; replace HL632_2 := rb HL632_2 hb; replace HL633_2 := rb HL633_2 hb
     replace HR631_2 := Aside0.mk (Kd.C_below (by repeat (first | (with_reducible exact HR631_2.out) | (with_reducible refine Kd.C_alloc ?_ _) | (with_reducible refine Kd.C_drewN ?_ _) | (with_reducible refine Kd.C_drew ?_) | exact HR631_2.out)) hb)
     replace HR632_2 := Aside0.mk (Kd.C_below (by repeat (first | (with_reducible exact HR632_2.out) | (with_reducible refine Kd.C_alloc ?_ _) | (with_reducible refine Kd.C_drewN ?_ _) | (with_reducible refine Kd.C_drew ?_) | exact HR632_2.out)) hb)
     replace HR633_2 := Aside0.mk (Kd.C_below (by repeat (first | (with_reducible exact HR633_2.out) | (with_reducible refine Kd.C_alloc ?_ _) | (with_reducible refine Kd.C_drewN ?_ _) | (with_reducible refine Kd.C_drew ?_) | exact HR633_2.out)) hb)
     replace HB := bs HB hb
     (try clear hb)
     (try clear hb2)
     (try clear hk)
     (try clear hi)
     refine hK.out _ _ ⟨HS0_, HS1_, HS2_, HS3_, HS4_, HS5_⟩ (fun hHeld => ?_)
     clear hK K
     refine nA (some 50) ?_
     refine pA 14 (some 51) (bz 16 0x7fff) HT_ ?_
     refine pA 15 (some 52) (bz 16 0xffff) HT_ ?_
     refine done_ (done_of HT_.out (by kernel_rfl)) ?_
     try go_wp2
     go_roundg k1
     case measure => have := HK1.out; omega
     case rel => exact ⟨(wrap64 (x6_1 + 1)), (wrap64 (x7_1 + 1)), y0_21, y0_21, H', ⟨y0_25⟩, ⟨y0_15⟩, ⟨y0_14⟩, ⟨bI HB.out⟩⟩
    rw [if_neg c16] at H
    have c16b0 : decide (x7_1 < (t620.length : Int)) = false := decide_eq_false c16; clear c16; obtain rfl := Option.some.inj H
    go_wp2
    go_ret
    exact ⟨y0_16, bI HB.out⟩
 replace c8 := Bool.eq_false_iff.mpr c8; subst c8
 rw [if_neg (show ¬ (false = true) by decide)] at H
 exact absurd (hrt.out.symm.trans (Option.some.inj H).symm) (by decide)


end Go.Proofs.Ytemjmefacifdeaa.PFnDropsBelow
