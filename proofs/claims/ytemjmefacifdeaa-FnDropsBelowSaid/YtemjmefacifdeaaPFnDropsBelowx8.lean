-- By a program of this session, out of the translation (the print of the kit, with turns of its own). Lean checks it.
import Derived.Test.YtemjmefacifdeaaPFnDropsBelowx0
import Derived.Test.YtemjmefacifdeaaPFnDropsBelowx1
import Derived.Test.YtemjmefacifdeaaPFnDropsBelowx2
import Derived.Test.YtemjmefacifdeaaPFnDropsBelowx6
import Derived.Test.YtemjmefacifdeaaPFnDropsBelowx7
namespace Go.Proofs.Ytemjmefacifdeaa.PFnDropsBelow
open Go.RowKit Go.Proofs.YtemjmefacifdeaaW.PrintWords Go.Proofs.YtemjmefacifdeaaW.PrintLast Go.Proofs.YtemjmefacifdeaaW.PrintMore
attribute [local go_sem] max2_int min2_int max_two min_two max_three min_three max_four min_four   -- for this text's walks alone
set_option linter.unusedVariables false
set_option linter.unusedSimpArgs false

/-! ### spec_l10Table: function 66 -/
def spec_l10Table.l0 : Nat → List (S26) → List (S26) → Int → Option ((List (S26)))
 | 0, _, _, _ => none
 | k + 1, x0, x3, x4 => if x4 < (x0.length : Int) then (if 0 ≤ x4 then ((spec_l10Copy.f ((rd_T26 x0 x4).f0) ((rd_T26 x0 x4).f1) ((rd_T26 x0 x4).f2)).bind fun bt306 => (if x3.length < 2932031007402 then (spec_l10Table.l0 k x0 (x3 ++ [(⟨bt306.1, bt306.2.1, bt306.2.2⟩ : S26)]) (wrap64 (x4 + 1))) else (none))) else (none)) else (some x3)
def spec_l10Table.f (k : Nat) (l0 : List (S26)) : Option ((List (S26))) := spec_l10Table.l0 k l0 (([] : List (S26))) 0
theorem spec_l10Table.mono_l : ∀ k, (∀ y0 y1 y2, LeO (spec_l10Table.l0 k y0 y1 y2) (spec_l10Table.l0 (k + 1) y0 y1 y2))
 | 0 => fun _ _ _ r h => by simp [spec_l10Table.l0] at h
 | k + 1 => by
  have ih0 := spec_l10Table.mono_l k
  intro y0 y1 y2
  unfold spec_l10Table.l0
  repeat' first | (with_reducible exact ih0 _ _ _) | (with_reducible exact LeO.refl _) | (with_reducible exact LeO.none _) | (with_reducible refine LeO.ite ?_ ?_) | (with_reducible refine LeO.bind ?_ (fun _ => ?_))
theorem spec_l10Table.mono : ∀ a0 k, LeO (spec_l10Table.f k a0) (spec_l10Table.f (k + 1) a0) := by
 intro a0 k
 have ih0 := spec_l10Table.mono_l k
 unfold spec_l10Table.f
 repeat' first | (with_reducible exact ih0 _ _ _) | (with_reducible exact LeO.refl _) | (with_reducible exact LeO.none _) | (with_reducible refine LeO.ite ?_ ?_) | (with_reducible refine LeO.bind ?_ (fun _ => ?_))
set_option maxHeartbeats 8000000 in
set_option maxRecDepth 100000 in
theorem spec_l10Table.calls (k : Nat) (A0 : Option Addr) (c0 : Nat) (l0 : List (S26)) (r : List (S26)) (w : World) (hr0 : Kd.C k26 w A0 l0.length l0) (hc0 : l0.length ≤ c0) (h : spec_l10Table.f k l0 = some r) :
  Calls Try.prog 66 #[.slice A0 l0.length c0] w fun e w' => ∃ v0_ : Value, e = .returned (v0_) ∧ Kd.S k26 26 w' w.heap.size (fun _ => True) v0_ r ∧ Below w.heap.size w w' := by
 have hu26 := Try.underlying26; have HR0 := Aside0.mk hr0; have HC0 := Aside0.mk hc0; clear hr0 hc0; have HB := Aside0.mk (Below.refl w.heap.size w); have H : (spec_l10Table.l0 k l0 (([] : List (S26))) 0) = some r := h; clear h; obtain ⟨y302, hy302⟩ : ∃ y_ : List (S26), y_ = (([] : List (S26))) := ⟨_, rfl⟩
 replace H : (spec_l10Table.l0 k l0 y302 0) = some r := by first | (rw [hy302]; with_reducible exact H) | (have H2_ := (Option.bind_some _ _).symm.trans H; rw [hy302]; with_reducible exact H2_) | (have H2_ := (Option.bind_some _ _).symm.trans H; with_reducible exact H2_) | with_reducible exact H | (rw [hy302]; exact H) | exact H
 have Ny302 := Aside0.mk hy302; clear hy302; have H' := Aside0.mk H; clear H
 go_enter Try.func66, Try.ntmps66
 go_wp2_with (first | ((with_reducible refine gate_dst (N := 5) rfl ?_); refine Kd.S_lit k26 _ 26 ?hg (N := 5) ?hd (xs := ([] : List (S26))) (inner := []) (ok := fun _ => True) (okp := fun _ => True) ?hr ?hp (fun _ hk => hk) trivial (Below.refl _ _) (Nat.le_refl _) (by simp) ?_; (case hd => rfl); (case hg => rfl); (case hr => first | (go_simp; done) | (go_simp; rfl)); (case hp => exact (Reps.none _ _)); intro v303 w2 ho3 hb hg_ hnew_; clear hg_ hnew_; (first | rw [← Ny302.out] at ho3 | (simp only [Int.reduceToNat] at ho3; rw [← Ny302.out] at ho3)); have HO304 := Aside0.mk (Kd.S_lower ho3 (below_size (bI HB.out))); replace HB := bs HB hb; clear hb ho3))
 go_loopg [3, 4] k (fun kq v3 v4 w' => ∃ (x3_1 : List (S26)) (x4_1 : Int), v4 = .int .i64 x4_1 ∧ Aside0 (spec_l10Table.l0 kq l0 x3_1 x4_1 = some r) ∧ Aside0 (kq ≤ k) ∧ Aside0 (Kd.S k26 26 w' w.heap.size (fun _ => True) v3 x3_1) ∧ Aside0 (Below w.heap.size w w'))
 case atStart => exact ⟨(y302), (0), y0_21, H', ⟨Nat.le_refl _⟩, ⟨by (with_reducible repeat (first | apply Kd.S_alloc | apply Kd.S_drewN | apply Kd.S_drew)); exact HO304.out⟩, ⟨bI HB.out⟩⟩
 case round =>
  clear H'
  try clear p2
  obtain ⟨x3_1, x4_1, rfl, HA, HK1, HO_3, HB⟩ := hrel; cases gk with
  | zero => exact absurd HA.out (by simp [spec_l10Table.l0])
  | succ k1 =>
   have H := HA.out; clear HA
   simp only [spec_l10Table.l0] at H
   by_cases c4 : x4_1 < (l0.length : Int)
   ·
    rw [if_pos c4] at H
    have c4b0 : decide (x4_1 < (l0.length : Int)) = true := decide_eq_true c4; clear c4
    by_cases c5 : 0 ≤ x4_1
    rotate_left
    ·
     rw [if_neg c5] at H
     exact absurd H (by simp)
    rw [if_pos c5] at H
    have c5b0 : decide (0 ≤ x4_1) = true := decide_eq_true c5; clear c5; obtain ⟨⟨t306, t307, t308⟩, A60, H⟩ := Option.bind_eq_some_iff.mp H
    try dsimp only at H
    have A6 := Aside0.mk A60; clear A60
    by_cases c7 : x3_1.length < 2932031007402
    rotate_left
    ·
     rw [if_neg c7] at H
     exact absurd H (by simp)
    rw [if_pos c7] at H
    have LMc7 := Aside0.mk c7; clear c7; obtain ⟨y311, hy311⟩ : ∃ y_ : List (S26), y_ = (x3_1 ++ [(⟨t306, t307, t308⟩ : S26)]) := ⟨_, rfl⟩
    replace H : (spec_l10Table.l0 k1 l0 y311 (wrap64 (x4_1 + 1))) = some r := by first | (rw [hy311]; with_reducible exact H) | (have H2_ := (Option.bind_some _ _).symm.trans H; rw [hy311]; with_reducible exact H2_) | (have H2_ := (Option.bind_some _ _).symm.trans H; with_reducible exact H2_) | with_reducible exact H | (rw [hy311]; exact H) | exact H
    have Ny311 := Aside0.mk hy311; clear hy311; have H' := Aside0.mk H; clear H; have p305 : 0 ≤ (x4_1 : Int) := of_decide_eq_true y0_20; have q305 : x4_1 < (l0.length : Int) := of_decide_eq_true y0_20; obtain ⟨ad305, A305_2, c305_2, e305, hx305_0, hx305_1, hx305_2, hl305_2, hi305_2⟩ := at_T26 HR0.out x4_1 p305 q305; cases e305; replace hx305_0 := bx HB hx305_0; replace hx305_1 := bx HB hx305_1; replace hx305_2 := bx HB hx305_2; have HR305_2 := Aside0.mk hi305_2; have HC305_2 := Aside0.mk hl305_2; clear hi305_2 hl305_2; replace p305 := eq_true p305; replace q305 := eq_true q305
    go_wp2_with (first | ((with_reducible refine gate_callee (f := 46) rfl ?_); refine gB (some 17) Try.func46 #[.agg #[.int .i64 ((rd_T26 l0 x4_1).f0), .string ((rd_T26 l0 x4_1).f1), .slice A305_2 ((rd_T26 l0 x4_1).f2).length c305_2]] ?_; (with_reducible refine (spec_l10Copy.calls ((rd_T26 l0 x4_1).f0) ((rd_T26 l0 x4_1).f1) _ _ ((rd_T26 l0 x4_1).f2) t306 t307 t308 _ ?side1 ?side2 A6.out).mono ?_); (case side1 => exact ch HR305_2 HB); (case side2 => exact HC305_2.out); rintro e w8 ⟨v309, rfl, ho0, hb⟩; refine ⟨_, rfl, ?_⟩; replace HO_3 := Aside0.mk (Kd.S_elder' (sI HO_3.out) (Kd.R_base ho0) hb); have HO310 := Aside0.mk (Kd.R_lower ho0 (below_size (bI HB.out))); replace HB := bs HB hb; (try clear hb); (try clear ho0); obtain ⟨Ao10, co10, eo10⟩ := Kd.R_slice HO310.out; subst eo10) | ((with_reducible refine gate_builtin (b := .append) (xs := #[.tmp 12, .tmp 18]) rfl ?_); at_builtin; refine Kd.S_append k26 (w0 := w) w.heap.size rfl (.tmp 12) (.tmp 18) 43 26 (.agg #[(.int .i64 0), (.string ⟨#[]⟩), (.slice none 0 0)]) 48 rfl Try.underlying43 info26 rfl (by decide) (by omega) u3 x3_1 (⟨t306, t307, t308⟩ : S26) [.int .i64 t306, .string t307, .slice Ao10 t308.length co10] (fun _ => True) (fun k_ => some k_ = (.slice Ao10 t308.length co10 : Value).ownBlock) rfl rfl ?aP (fun k_ hk_ => ((Kd.R_mono (ok' := fun k_ => ((fun _ => True)) k_ ∧ some k_ ≠ (u3 : Value).ownBlock) (Kd.R_apart' (HO310.out) (Kd.S_typed HO_3.out) (by decide)) (fun k_ hk => ⟨trivial, hk.2⟩))).1 k_ hk_.symm) ?aF ?aO ?aB ?aS ?aL ?_; (case aP => exact k26_mkM _ _ _ (⟨t306, t307, t308⟩ : S26) (Kd.R_mono (Kd.R_tight rfl (Kd.R_mono (ok' := fun k_ => ((fun _ => True)) k_ ∧ some k_ ≠ (u3 : Value).ownBlock) (Kd.R_apart' (HO310.out) (Kd.S_typed HO_3.out) (by decide)) (fun k_ hk => ⟨trivial, hk.2⟩))) (fun _ h_ => h_))); (case aB => exact (bI HB.out)); (case aF => exact (fun _ _ => trivial)); (case aO => exact (sI (Kd.S_mono HO_3.out (fun k_ hk => ⟨trivial, fun e_ => hk.2 e_⟩)))); (case aS => exact (below_size (bI HB.out))); (case aL => have := LMc7.out; omega); intro v312 w9 ho hb hg hat; rw [← Ny311.out] at ho; have n0_ := Aside0.mk (hb); have n1_ := Aside0.mk (ho); clear HB; clear HO_3; clear HO310; have HB := n0_; have HO313 := n1_; clear n0_ n1_; clear ho hb hg hat))
    go_roundg k1
    case measure => have := HK1.out; omega
    case rel => exact ⟨(y311), (wrap64 (x4_1 + 1)), y0_21, H', ⟨y0_25⟩, ⟨by (with_reducible repeat (first | apply Kd.S_alloc | apply Kd.S_drewN | apply Kd.S_drew)); exact HO313.out⟩, ⟨bI HB.out⟩⟩
   rw [if_neg c4] at H
   have c4b0 : decide (x4_1 < (l0.length : Int)) = false := decide_eq_false c4; clear c4; obtain rfl := Option.some.inj H
   go_wp2
   go_ret
   exact ⟨_, y0_16, y0_15, bI HB.out⟩

/-! ### spec_TableAdd: function 55 -/
mutual
def spec_TableAdd.l0 : Nat → List (S26) → List (S26) → Bool → Int → Int → Int → Int → ByteArray → List Int → Option ((List (S26)) × Bool)
 | 0, _, _, _, _, _, _, _, _, _ => none
 | k + 1, x1, x8, x9, x10, x315000, x315001, x316000, x316001, x316002 => if x10 < (x1.length : Int) then (if 0 ≤ x10 then ((spec_l10Copy.f ((rd_T26 x1 x10).f0) ((rd_T26 x1 x10).f1) ((rd_T26 x1 x10).f2)).bind fun bt320 => (if x9 = true then (spec_TableAdd.j1 k x1 x8 x9 x10 false x315000 x315001 x316000 x316001 x316002 bt320.1 bt320.2.1 bt320.2.2) else ((spec_l10Before.f bt320.1 bt320.2.1 bt320.2.2 x316000 x316001 x316002).bind fun t326 => (spec_TableAdd.j1 k x1 x8 x9 x10 (!t326) x315000 x315001 x316000 x316001 x316002 bt320.1 bt320.2.1 bt320.2.2)))) else (none)) else (if x9 = true then (spec_TableAdd.j2 k x1 x8 x315000 x315001 x316000 x316001 x316002) else ((spec_l10Copy.f x316000 x316001 x316002).bind fun bt351 => (if x8.length < 2932031007402 then (spec_TableAdd.j2 k x1 (x8 ++ [(⟨bt351.1, bt351.2.1, bt351.2.2⟩ : S26)]) x315000 x315001 x316000 x316001 x316002) else (none))))
def spec_TableAdd.j1 : Nat → List (S26) → List (S26) → Bool → Int → Bool → Int → Int → Int → ByteArray → List Int → Int → ByteArray → List Int → Option ((List (S26)) × Bool)
 | 0, _, _, _, _, _, _, _, _, _, _, _, _, _ => none
 | k + 1, x1, x8, x9, x10, x33, x315000, x315001, x316000, x316001, x316002, x326000, x326001, x326002 => if x33 = true then ((spec_PartJoin.f k x326000 x326001 x326002 x316000 x316001 x316002).bind fun bt327 => (if bt327.2.2.2 = true then (if x8.length < 2932031007402 then (spec_TableAdd.l0 k x1 (x8 ++ [(⟨bt327.1, bt327.2.1, bt327.2.2.1⟩ : S26)]) true (wrap64 (x10 + 1)) x315000 x315001 x316000 x316001 x316002) else (none)) else ((spec_l10Copy.f x316000 x316001 x316002).bind fun bt337 => (if x8.length < 2932031007402 then ((some (x8 ++ [(⟨bt337.1, bt337.2.1, bt337.2.2⟩ : S26)] : List (S26))).bind fun y342 => (if y342.length < 2932031007402 then (spec_TableAdd.l0 k x1 (y342 ++ [(⟨x326000, x326001, x326002⟩ : S26)]) true (wrap64 (x10 + 1)) x315000 x315001 x316000 x316001 x316002) else (none))) else (none))))) else (if x8.length < 2932031007402 then (spec_TableAdd.l0 k x1 (x8 ++ [(⟨x326000, x326001, x326002⟩ : S26)]) x9 (wrap64 (x10 + 1)) x315000 x315001 x316000 x316001 x316002) else (none))
def spec_TableAdd.j2 : Nat → List (S26) → List (S26) → Int → Int → Int → ByteArray → List Int → Option ((List (S26)) × Bool)
 | 0, _, _, _, _, _, _, _ => none
 | k + 1, x1, x8, x315000, x315001, x316000, x316001, x316002 => (spec_TableOk.f k x315000 x315001 x8).bind fun t359 => (if t359 = true then ((spec_PartOk.f k x315000 x315001 x316000 x316001 x316002).bind fun t360 => (if t360 = true then (some (x8, true)) else ((spec_l10Table.f k x1).bind fun t361 => (some (t361, false))))) else ((spec_l10Table.f k x1).bind fun t364 => (some (t364, false))))
end
def spec_TableAdd.f (k : Nat) (a0_0 : Int) (a0_1 : Int) (l1 : List (S26)) (a2_0 : Int) (a2_1 : ByteArray) (l2_2 : List Int) : Option ((List (S26)) × Bool) := spec_TableAdd.l0 k l1 (([] : List (S26))) false 0 a0_0 a0_1 a2_0 a2_1 l2_2
theorem spec_TableAdd.mono_l : ∀ k, (∀ y0 y1 y2 y3 y4 y5 y6 y7 y8, LeO (spec_TableAdd.l0 k y0 y1 y2 y3 y4 y5 y6 y7 y8) (spec_TableAdd.l0 (k + 1) y0 y1 y2 y3 y4 y5 y6 y7 y8)) ∧ (∀ y0 y1 y2 y3 y4 y5 y6 y7 y8 y9 y10 y11 y12, LeO (spec_TableAdd.j1 k y0 y1 y2 y3 y4 y5 y6 y7 y8 y9 y10 y11 y12) (spec_TableAdd.j1 (k + 1) y0 y1 y2 y3 y4 y5 y6 y7 y8 y9 y10 y11 y12)) ∧ (∀ y0 y1 y2 y3 y4 y5 y6, LeO (spec_TableAdd.j2 k y0 y1 y2 y3 y4 y5 y6) (spec_TableAdd.j2 (k + 1) y0 y1 y2 y3 y4 y5 y6))
 | 0 => ⟨fun _ _ _ _ _ _ _ _ _ r h => by simp [spec_TableAdd.l0] at h, fun _ _ _ _ _ _ _ _ _ _ _ _ _ r h => by simp [spec_TableAdd.j1] at h, fun _ _ _ _ _ _ _ r h => by simp [spec_TableAdd.j2] at h⟩
 | k + 1 => by
  obtain ⟨ih0, ih1, ih2⟩ := spec_TableAdd.mono_l k
  refine ⟨?_, ?_, ?_⟩
  ·
   intro y0 y1 y2 y3 y4 y5 y6 y7 y8
   unfold spec_TableAdd.l0
   repeat' first | (with_reducible exact ih0 _ _ _ _ _ _ _ _ _) | (with_reducible exact ih1 _ _ _ _ _ _ _ _ _ _ _ _ _) | (with_reducible exact ih2 _ _ _ _ _ _ _) | (with_reducible exact spec_PartJoin.mono _ _ _ _ _ _ _) | (with_reducible exact spec_PartOk.mono _ _ _ _ _ _) | (with_reducible exact spec_TableOk.mono _ _ _ _) | (with_reducible exact spec_l10Table.mono _ _) | (with_reducible exact LeO.refl _) | (with_reducible exact LeO.none _) | (with_reducible refine LeO.ite ?_ ?_) | (with_reducible refine LeO.bind ?_ (fun _ => ?_))
  ·
   intro y0 y1 y2 y3 y4 y5 y6 y7 y8 y9 y10 y11 y12
   unfold spec_TableAdd.j1
   repeat' first | (with_reducible exact ih0 _ _ _ _ _ _ _ _ _) | (with_reducible exact ih1 _ _ _ _ _ _ _ _ _ _ _ _ _) | (with_reducible exact ih2 _ _ _ _ _ _ _) | (with_reducible exact spec_PartJoin.mono _ _ _ _ _ _ _) | (with_reducible exact spec_PartOk.mono _ _ _ _ _ _) | (with_reducible exact spec_TableOk.mono _ _ _ _) | (with_reducible exact spec_l10Table.mono _ _) | (with_reducible exact LeO.refl _) | (with_reducible exact LeO.none _) | (with_reducible refine LeO.ite ?_ ?_) | (with_reducible refine LeO.bind ?_ (fun _ => ?_))
  intro y0 y1 y2 y3 y4 y5 y6
  unfold spec_TableAdd.j2
  repeat' first | (with_reducible exact ih0 _ _ _ _ _ _ _ _ _) | (with_reducible exact ih1 _ _ _ _ _ _ _ _ _ _ _ _ _) | (with_reducible exact ih2 _ _ _ _ _ _ _) | (with_reducible exact spec_PartJoin.mono _ _ _ _ _ _ _) | (with_reducible exact spec_PartOk.mono _ _ _ _ _ _) | (with_reducible exact spec_TableOk.mono _ _ _ _) | (with_reducible exact spec_l10Table.mono _ _) | (with_reducible exact LeO.refl _) | (with_reducible exact LeO.none _) | (with_reducible refine LeO.ite ?_ ?_) | (with_reducible refine LeO.bind ?_ (fun _ => ?_))
theorem spec_TableAdd.mono : ∀ a0 a1 a2 a3 a4 a5 k, LeO (spec_TableAdd.f k a0 a1 a2 a3 a4 a5) (spec_TableAdd.f (k + 1) a0 a1 a2 a3 a4 a5) := by
 intro a0 a1 a2 a3 a4 a5 k
 obtain ⟨ih0, ih1, ih2⟩ := spec_TableAdd.mono_l k
 unfold spec_TableAdd.f
 repeat' first | (with_reducible exact ih0 _ _ _ _ _ _ _ _ _) | (with_reducible exact ih1 _ _ _ _ _ _ _ _ _ _ _ _ _) | (with_reducible exact ih2 _ _ _ _ _ _ _) | (with_reducible exact spec_PartJoin.mono _ _ _ _ _ _ _) | (with_reducible exact spec_PartOk.mono _ _ _ _ _ _) | (with_reducible exact spec_TableOk.mono _ _ _ _) | (with_reducible exact spec_l10Table.mono _ _) | (with_reducible exact LeO.refl _) | (with_reducible exact LeO.none _) | (with_reducible refine LeO.ite ?_ ?_) | (with_reducible refine LeO.bind ?_ (fun _ => ?_))
set_option maxHeartbeats 8000000 in
set_option maxRecDepth 100000 in
theorem spec_TableAdd.calls (k : Nat) (a0_0 : Int) (a0_1 : Int) (A1 : Option Addr) (c1 : Nat) (l1 : List (S26)) (a2_0 : Int) (a2_1 : ByteArray) (A2_2 : Option Addr) (c2_2 : Nat) (l2_2 : List Int) (r1 : List (S26)) (r2 : Bool) (w : World) (hr1 : Kd.C k26 w A1 l1.length l1) (hc1 : l1.length ≤ c1) (hr2_2 : Kd.C (Kd.int .i64) w A2_2 l2_2.length l2_2) (hc2_2 : l2_2.length ≤ c2_2) (h : spec_TableAdd.f k a0_0 a0_1 l1 a2_0 a2_1 l2_2 = some (r1, r2)) :
  Calls Try.prog 55 #[.agg #[.int .i64 a0_0, .int .i64 a0_1], .slice A1 l1.length c1, .agg #[.int .i64 a2_0, .string a2_1, .slice A2_2 l2_2.length c2_2]] w fun e w' => ∃ v0_ : Value, e = .returned (.tuple #[v0_, .bool r2]) ∧ Kd.S k26 26 w' w.heap.size (fun _ => True) v0_ r1 ∧ Below w.heap.size w w' := by
 have hu36 := Try.underlying36; have hu26 := Try.underlying26; have HR1 := Aside0.mk hr1; have HC1 := Aside0.mk hc1; clear hr1 hc1; have HR2_2 := Aside0.mk hr2_2; have HC2_2 := Aside0.mk hc2_2; clear hr2_2 hc2_2; have HB := Aside0.mk (Below.refl w.heap.size w); have H : (spec_TableAdd.l0 k l1 (([] : List (S26))) false 0 a0_0 a0_1 a2_0 a2_1 l2_2) = some (r1, r2) := h; clear h; obtain ⟨y316, hy316⟩ : ∃ y_ : List (S26), y_ = (([] : List (S26))) := ⟨_, rfl⟩
 replace H : (spec_TableAdd.l0 k l1 y316 false 0 a0_0 a0_1 a2_0 a2_1 l2_2) = some (r1, r2) := by first | (rw [hy316]; with_reducible exact H) | (have H2_ := (Option.bind_some _ _).symm.trans H; rw [hy316]; with_reducible exact H2_) | (have H2_ := (Option.bind_some _ _).symm.trans H; with_reducible exact H2_) | with_reducible exact H | (rw [hy316]; exact H) | exact H
 have Ny316 := Aside0.mk hy316; clear hy316; have H' := Aside0.mk H; clear H
 go_enter Try.func55, Try.ntmps55
 go_wp2_with (first | ((with_reducible refine gd 3 ?_); refine bA 3 #[.int .i64 a0_0, .int .i64 a0_1] 36 ?_; intro gb314 hg w4 hbox hb; have BK314 := Aside0.mk (hbox); have GW314 := bg hg HB; have GJ314 := gi GW314; have GE314 := GW314; replace HB := bs HB hb; clear hb hbox hg) | ((with_reducible refine gd 5 ?_); refine bA 5 #[.int .i64 a2_0, .string a2_1, .slice A2_2 l2_2.length c2_2] 26 ?_; intro gb315 hg w5 hbox hb; have BK315 := Aside0.mk (hbox); have GW315 := bg hg HB; have GJ315 := gi GW315; have GE315 := GW315; replace HB := bs HB hb; have NB314_315 := b1 BK314 hg; have NI314_315 := ni NB314_315; have NB315_314 := b2 BK314 hg; have NI315_314 := ni NB315_314; replace BK314 := bk BK314 hb; clear hb hbox hg) | ((with_reducible refine gate_dst (N := 14) rfl ?_); refine Kd.S_lit k26 _ 26 ?hg (N := 14) ?hd (xs := ([] : List (S26))) (inner := []) (ok := fun _ => True) (okp := fun _ => True) ?hr ?hp (fun _ hk => hk) trivial (Below.refl _ _) (Nat.le_refl _) (by simp) ?_; (case hd => rfl); (case hg => rfl); (case hr => first | (go_simp; done) | (go_simp; rfl)); (case hp => exact (Reps.none _ _)); intro v317 w6 ho7 hb hg_ hnew_; clear hg_ hnew_; (first | rw [← Ny316.out] at ho7 | (simp only [Int.reduceToNat] at ho7; rw [← Ny316.out] at ho7)); have HO318 := Aside0.mk (Kd.S_lower (Kd.S_newB ho7 (g := gb315) (o := .cells #[.int .i64 a2_0, .string a2_1, .slice A2_2 l2_2.length c2_2] 26 (0, 0)) (kI BK315.out)) (below_size (bI HB.out))); replace BK314 := bk BK314 hb; replace BK315 := bk BK315 hb; replace HB := bs HB hb; clear hb ho7))
 go_loopg [8, 9, 10] k (fun kq v8 v9 v10 w' => ∃ (x8_1 : List (S26)) (x9_1 : Bool) (x10_1 : Int), v9 = .bool x9_1 ∧ v10 = .int .i64 x10_1 ∧ Aside0 (spec_TableAdd.l0 kq l1 x8_1 x9_1 x10_1 a0_0 a0_1 a2_0 a2_1 l2_2 = some (r1, r2)) ∧ Aside0 (kq ≤ k) ∧ Aside0 (Kd.S k26 26 w' w.heap.size (fun k_ => k_ ≠ gb315) v8 x8_1) ∧ Aside0 (w'.heap[gb314]? = some (.cells #[.int .i64 a0_0, .int .i64 a0_1] 36 (0, 0))) ∧ Aside0 (w'.heap[gb315]? = some (.cells #[.int .i64 a2_0, .string a2_1, (.slice A2_2 l2_2.length c2_2)] 26 (0, 0))) ∧ Aside0 (Below w.heap.size w w'))
 case atStart => exact ⟨(y316), (false), (0), y0_21, y0_21, H', ⟨Nat.le_refl _⟩, ⟨by (with_reducible repeat (first | apply Kd.S_alloc | apply Kd.S_drewN | apply Kd.S_drew)); exact Kd.S_mono HO318.out (fun _ hk => hk.2)⟩, ⟨gI BK314.out⟩, ⟨gI BK315.out⟩, ⟨bI HB.out⟩⟩
 case round =>
  clear H'
  try clear c1
  try clear c2
  try clear p2
  try clear c5
  obtain ⟨x8_1, x9_1, x10_1, rfl, rfl, HA, HK1, HO_8, BK314, BK315, HB⟩ := hrel; cases gk with
  | zero => exact absurd HA.out (by simp [spec_TableAdd.l0])
  | succ k1 =>
   have H := HA.out; clear HA
   simp only [spec_TableAdd.l0] at H
   by_cases c8 : x10_1 < (l1.length : Int)
   ·
    rw [if_pos c8] at H
    have c8b0 : decide (x10_1 < (l1.length : Int)) = true := decide_eq_true c8; clear c8
    by_cases c9 : 0 ≤ x10_1
    rotate_left
    ·
     rw [if_neg c9] at H
     exact absurd H (by simp)
    rw [if_pos c9] at H
    have c9b0 : decide (0 ≤ x10_1) = true := decide_eq_true c9; clear c9; obtain ⟨⟨t320, t321, t322⟩, A100, H⟩ := Option.bind_eq_some_iff.mp H
    try dsimp only at H
    have A10 := Aside0.mk A100; clear A100; have HC11 := Aside0.mk H; clear H; have p319 : 0 ≤ (x10_1 : Int) := of_decide_eq_true y0_20; have q319 : x10_1 < (l1.length : Int) := of_decide_eq_true y0_20; obtain ⟨ad319, A319_2, c319_2, e319, hx319_0, hx319_1, hx319_2, hl319_2, hi319_2⟩ := at_T26 HR1.out x10_1 p319 q319; cases e319; replace hx319_0 := bx HB hx319_0; replace hx319_1 := bx HB hx319_1; replace hx319_2 := bx HB hx319_2; have HR319_2 := Aside0.mk hi319_2; have HC319_2 := Aside0.mk hl319_2; clear hi319_2 hl319_2; replace p319 := eq_true p319; replace q319 := eq_true q319
    go_upto_region 7 with (first | ((with_reducible refine gate_callee (f := 46) rfl ?_); refine gB (some 25) Try.func46 #[.agg #[.int .i64 ((rd_T26 l1 x10_1).f0), .string ((rd_T26 l1 x10_1).f1), .slice A319_2 ((rd_T26 l1 x10_1).f2).length c319_2]] ?_; (with_reducible refine (spec_l10Copy.calls ((rd_T26 l1 x10_1).f0) ((rd_T26 l1 x10_1).f1) _ _ ((rd_T26 l1 x10_1).f2) t320 t321 t322 _ ?side1 ?side2 A10.out).mono ?_); (case side1 => exact ch HR319_2 HB); (case side2 => exact HC319_2.out); rintro e w12 ⟨v323, rfl, ho0, hb⟩; refine ⟨_, rfl, ?_⟩; replace HO_8 := Aside0.mk (Kd.S_elder' (sI HO_8.out) (Kd.R_base ho0) hb); have HO324 := Aside0.mk (Kd.R_lower ho0 (below_size (bI HB.out))); replace BK314 := bk BK314 hb; replace BK315 := bk BK315 hb; replace HB := bs HB hb; (try clear hb); (try clear ho0)) | ((with_reducible refine gd 11 ?_); refine bA 11 #[.int .i64 0, .string (⟨#[]⟩ : ByteArray), .slice none 0 0] 26 ?_; intro gb325 hg w13 hbox hb; replace HO_8 := Aside0.mk (Kd.S_below (Kd.S_elderB (sI HO_8.out) gb325 (Nat.le_of_eq hg.symm)) hb); replace HO324 := rb HO324 hb; have BK325 := Aside0.mk (hbox); have GW325 := bg hg HB; have GJ325 := gi GW325; have GE325 := GW325; replace HB := bs HB hb; have NB314_325 := b1 BK314 hg; have NI314_325 := ni NB314_325; have NB325_314 := b2 BK314 hg; have NI325_314 := ni NB325_314; replace BK314 := bk BK314 hb; have NB315_325 := b1 BK315 hg; have NI315_325 := ni NB315_325; have NB325_315 := b2 BK315 hg; have NI325_315 := ni NB325_315; replace BK315 := bk BK315 hb; clear hb hbox hg; have hnb14 := NB325_314.out; have hnc14 := NB314_325.out; have hnb15 := NB325_315.out; have hnc15 := NB315_325.out; obtain ⟨hcz16_0, hcz16_1, hcz16_2, hfz16_0, hfz16_1, hfz16_2⟩ := cs3 BK325; obtain ⟨Ao17, co17, eo17⟩ := Kd.R_slice HO324.out; subst eo17))
    (try simp only [Act.put, List.setIfInBounds_toArray, List.set_cons_zero, List.set_cons_succ])
    go_cut [33] (fun v33 wc => ∃ (kq : Nat) (x33_10 : Bool), v33 = .bool x33_10 ∧ Aside0 (spec_TableAdd.j1 kq l1 x8_1 x9_1 x10_1 x33_10 a0_0 a0_1 a2_0 a2_1 l2_2 t320 t321 t322 = some (r1, r2)) ∧ Aside0 (kq ≤ k1) ∧ Aside0 (Kd.S k26 26 wc w.heap.size (fun k_ => some k_ ≠ ((.slice Ao17 t322.length co17) : Value).ownBlock ∧ k_ ≠ gb315 ∧ k_ ≠ gb325) u8 x8_1) ∧ Aside0 (Kd.R (Kd.int .i64) 3 wc w.heap.size (fun _ => True) (.slice Ao17 t322.length co17) t322) ∧ Aside0 (wc.heap[gb314]? = some (.cells #[.int .i64 a0_0, .int .i64 a0_1] 36 (0, 0))) ∧ Aside0 (wc.heap[gb315]? = some (.cells #[.int .i64 a2_0, .string a2_1, (.slice A2_2 l2_2.length c2_2)] 26 (0, 0))) ∧ Aside0 (wc.heap[gb325]? = some (.cells #[.int .i64 t320, .string t321, (.slice Ao17 t322.length co17)] 26 (0, 0))) ∧ Aside0 (Below w.heap.size w wc))
    case first =>
     have H := HC11.out; clear HC11
     by_cases c18 : x9_1 = true
     ·
      subst c18
      rw [if_pos rfl] at H
      have H' := Aside0.mk H; clear H
      go_wp2
      go_meet
      case rel => exact ⟨_, (false), y0_21, H', ⟨y0_19⟩, ⟨by (with_reducible repeat (first | apply Kd.S_alloc | apply Kd.S_drewN | apply Kd.S_drew)); exact Kd.S_mono (Kd.S_far (p := ⟨gb325, 2, none⟩) (Kd.S_far (p := ⟨gb325, 1, none⟩) (Kd.S_far (p := ⟨gb325, 0, none⟩) (Kd.S_mono HO_8.out (fun k_ hk => (⟨hk, hk.2⟩ : _ ∧ k_ ≠ gb325))) (fun _ hk => hk.2) (.int .i64 t320)) (fun _ hk => hk.2) (.string t321)) (fun _ hk => hk.2) (.slice Ao17 t322.length co17)) (fun _ hk => ⟨hk.1.1.2, ⟨hk.1.1.1, hk.1.2⟩⟩)⟩, ⟨by (with_reducible repeat (first | apply Kd.R_alloc | apply Kd.R_drewN | apply Kd.R_drew)); exact Kd.R_mono (Kd.R_far (p := ⟨gb325, 2, none⟩) (Kd.R_far (p := ⟨gb325, 1, none⟩) (Kd.R_far (p := ⟨gb325, 0, none⟩) (Kd.R_types HO324.out BK325.out (by decide)) (fun _ hk => hk.2) (.int .i64 t320)) (fun _ hk => hk.2) (.string t321)) (fun _ hk => hk.2) (.slice Ao17 t322.length co17)) (fun _ hk => trivial)⟩, ⟨gI BK314.out⟩, ⟨gI BK315.out⟩, ⟨pI BK325⟩, ⟨bI HB.out⟩⟩
     replace c18 := Bool.eq_false_iff.mpr c18; subst c18
     rw [if_neg (show ¬ (false = true) by decide)] at H
     obtain ⟨t326, A190, H⟩ := Option.bind_eq_some_iff.mp H
     try dsimp only at H
     have A19 := Aside0.mk A190; clear A190; have H' := Aside0.mk H; clear H; have hnb20 := NB325_314.out; have hnc20 := NB314_325.out; have hnb21 := NB325_315.out; have hnc21 := NB315_325.out; have hcz22_0 := bc0 BK325.out; have hcz22_1 := bc1 BK325.out; have hcz22_2 := bc2 BK325.out; have hfz22_0 := blk_frozen BK325.out 0; have hfz22_1 := blk_frozen BK325.out 1; have hfz22_2 := blk_frozen BK325.out 2; have hnb23 := NB315_314.out; have hnc23 := NB314_315.out; have hcz24_0 := bc0 BK315.out; have hcz24_1 := bc1 BK315.out; have hcz24_2 := bc2 BK315.out; have hfz24_0 := blk_frozen BK315.out 0; have hfz24_1 := blk_frozen BK315.out 1; have hfz24_2 := blk_frozen BK315.out 2
     go_wp2_with (first | (go_at_call 63; (with_reducible refine (spec_l10Before.calls t320 t321 _ _ t322 a2_0 a2_1 _ _ l2_2 t326 _ ?side1 ?side2 ?side3 ?side4 A19.out).mono ?_); (case side1 => refine (Kd.R_reads' (e := 3) (base := w.heap.size) (ok := fun k_ => True) (n := t322.length) (c := co17) ?_).2.2; exact (rI (Kd.R_mono (Kd.R_far (p := ⟨gb325, 2, none⟩) (Kd.R_far (p := ⟨gb325, 1, none⟩) (Kd.R_far (p := ⟨gb325, 0, none⟩) (Kd.R_types HO324.out BK325.out (by decide)) (fun _ hk => hk.2) (.int .i64 t320)) (fun _ hk => hk.2) (.string t321)) (fun _ hk => hk.2) (.slice Ao17 t322.length co17)) (fun _ h_ => h_.1)))); (case side2 => exact (Kd.R_reads' HO324.out).2.1); (case side3 => exact Kd.C_below HR2_2.out (bI HB.out)); (case side4 => exact HC2_2.out); rintro e w25 ⟨rfl, hb⟩; replace HO_8 := Aside0.mk (Kd.S_below (sI (Kd.S_mono (Kd.S_far (p := ⟨gb325, 2, none⟩) (Kd.S_far (p := ⟨gb325, 1, none⟩) (Kd.S_far (p := ⟨gb325, 0, none⟩) (Kd.S_mono HO_8.out (fun k_ hk => (⟨hk, hk.2⟩ : _ ∧ k_ ≠ gb325))) (fun _ hk => hk.2) (.int .i64 t320)) (fun _ hk => hk.2) (.string t321)) (fun _ hk => hk.2) (.slice Ao17 t322.length co17)) (fun _ h_ => h_.1))) hb); replace HO324 := Aside0.mk (Kd.R_below (rI (Kd.R_mono (Kd.R_far (p := ⟨gb325, 2, none⟩) (Kd.R_far (p := ⟨gb325, 1, none⟩) (Kd.R_far (p := ⟨gb325, 0, none⟩) (Kd.R_types HO324.out BK325.out (by decide)) (fun _ hk => hk.2) (.int .i64 t320)) (fun _ hk => hk.2) (.string t321)) (fun _ hk => hk.2) (.slice Ao17 t322.length co17)) (fun _ h_ => h_.1))) hb); replace BK314 := Aside0.mk (blk_below (g := gb314) (o := .cells #[.int .i64 a0_0, .int .i64 a0_1] 36 (0, 0)) (gI BK314.out) hb); replace BK315 := Aside0.mk (blk_below (g := gb315) (o := .cells #[.int .i64 a2_0, .string a2_1, .slice A2_2 l2_2.length c2_2] 26 (0, 0)) (gI BK315.out) hb); replace BK325 := bp BK325 hb #[.int .i64 t320, .string t321, .slice Ao17 t322.length co17]; replace HB := bs HB hb; (try clear hb); (try clear hb2); (try clear hk); (try clear hi)))
     go_meet
     case rel => exact ⟨_, (!t326), y0_21, H', ⟨y0_19⟩, ⟨by (with_reducible repeat (first | apply Kd.S_alloc | apply Kd.S_drewN | apply Kd.S_drew)); exact Kd.S_mono HO_8.out (fun _ hk => ⟨hk.1.2, ⟨hk.1.1, hk.2⟩⟩)⟩, ⟨by (with_reducible repeat (first | apply Kd.R_alloc | apply Kd.R_drewN | apply Kd.R_drew)); exact HO324.out⟩, ⟨gI BK314.out⟩, ⟨gI BK315.out⟩, ⟨gI BK325.out⟩, ⟨bI HB.out⟩⟩
    case rest =>
     clear HC11
     try clear c1
     try clear c2
     try clear p2
     try clear c3
     try clear p3
     try clear q3
     try clear hx3
     try clear c4
     try clear c5
     try clear c8
     try clear c8b0
     try clear c9
     try clear c9b0
     try clear c14
     try clear c15
     try clear c18
     try clear c20
     try clear c21
     try clear c23
     try clear hcz16_0
     try clear hcz16_1
     try clear hcz16_2
     try clear hcz22_0
     try clear hcz22_1
     try clear hcz22_2
     try clear hcz24_0
     try clear hcz24_1
     try clear hcz24_2
     try clear hfz16_0
     try clear hfz16_1
     try clear hfz16_2
     try clear hfz22_0
     try clear hfz22_1
     try clear hfz22_2
     try clear hfz24_0
     try clear hfz24_1
     try clear hfz24_2
     try clear hx319_0
     try clear hx319_1
     try clear hx319_2
     try clear p2
     try clear p319
     try clear q319
     obtain ⟨kq, x33_10, rfl, HA, HJ10, HO_8, HO_326002, BK314, BK315, BK325, HB⟩ := hcut; cases kq with
     | zero => exact absurd HA.out (by simp [spec_TableAdd.j1])
     | succ kj10 =>
      have H := HA.out; clear HA
      simp only [spec_TableAdd.j1] at H
      by_cases c26 : x33_10 = true
      ·
       subst c26
       rw [if_pos rfl] at H
       obtain ⟨⟨t327, t328, t329, t332⟩, A270, H⟩ := Option.bind_eq_some_iff.mp H
       try dsimp only at H
       have A27 := Aside0.mk A270; clear A270
       by_cases c28 : t332 = true
       ·
        subst c28
        rw [if_pos rfl] at H
        by_cases c29 : x8_1.length < 2932031007402
        rotate_left
        ·
         rw [if_neg c29] at H
         exact absurd H (by simp)
        rw [if_pos c29] at H
        have LMc29 := Aside0.mk c29; clear c29; obtain ⟨y334, hy334⟩ : ∃ y_ : List (S26), y_ = (x8_1 ++ [(⟨t327, t328, t329⟩ : S26)]) := ⟨_, rfl⟩
        replace H : (spec_TableAdd.l0 kj10 l1 y334 true (wrap64 (x10_1 + 1)) a0_0 a0_1 a2_0 a2_1 l2_2) = some (r1, r2) := by first | (rw [hy334]; with_reducible exact H) | (have H2_ := (Option.bind_some _ _).symm.trans H; rw [hy334]; with_reducible exact H2_) | (have H2_ := (Option.bind_some _ _).symm.trans H; with_reducible exact H2_) | with_reducible exact H | (rw [hy334]; exact H) | exact H
        have Ny334 := Aside0.mk hy334; clear hy334; have H' := Aside0.mk H; clear H; have hnb30 := NB325_314.out; have hnc30 := NB314_325.out; have hnb31 := NB325_315.out; have hnc31 := NB315_325.out; have hcz32_0 := bc0 BK325.out; have hcz32_1 := bc1 BK325.out; have hcz32_2 := bc2 BK325.out; have hfz32_0 := blk_frozen BK325.out 0; have hfz32_1 := blk_frozen BK325.out 1; have hfz32_2 := blk_frozen BK325.out 2; have hnb33 := NB315_314.out; have hnc33 := NB314_315.out; have hcz34_0 := bc0 BK315.out; have hcz34_1 := bc1 BK315.out; have hcz34_2 := bc2 BK315.out; have hfz34_0 := blk_frozen BK315.out 0; have hfz34_1 := blk_frozen BK315.out 1; have hfz34_2 := blk_frozen BK315.out 2
        go_wp2_with (first | ((with_reducible refine gate_callee (f := 7) rfl ?_); refine gB (some 37) Try.func7 #[.agg #[.int .i64 t320, .string t321, .slice Ao17 t322.length co17], .agg #[.int .i64 a2_0, .string a2_1, .slice A2_2 l2_2.length c2_2]] ?_; (with_reducible refine (spec_PartJoin.calls kj10 t320 t321 _ _ t322 a2_0 a2_1 _ _ l2_2 t327 t328 t329 true _ ?side1 ?side2 ?side3 ?side4 A27.out).mono ?_); (case side1 => repeat (first | exact (Kd.R_reads' HO_326002.out).2.2 | (with_reducible refine Kd.C_alloc ?_ _) | (with_reducible refine Kd.C_drewN ?_ _) | (with_reducible refine Kd.C_drew ?_))); (case side2 => exact (Kd.R_reads' HO_326002.out).2.1); (case side3 => exact ch HR2_2 HB); (case side4 => exact HC2_2.out); rintro e w35 ⟨v330, rfl, ho0, hb⟩; refine ⟨_, rfl, ?_⟩; replace HO_8 := Aside0.mk (Kd.S_elder' (sI HO_8.out) (Kd.R_base ho0) hb); have HO331 := Aside0.mk (Kd.R_lower (Kd.R_new' ho0 (Kd.R_lt (rI HO_326002.out))) (below_size (bI HB.out))); replace HO_326002 := Aside0.mk (Kd.R_elder' (rI HO_326002.out) (Kd.R_base ho0) hb); replace BK314 := bk BK314 hb; replace BK315 := bk BK315 hb; replace BK325 := bk BK325 hb; replace HB := bs HB hb; (try clear hb); (try clear ho0)) | ((with_reducible refine gd 12 ?_); refine bA 12 #[.int .i64 0, .string (⟨#[]⟩ : ByteArray), .slice none 0 0] 26 ?_; intro gb333 hg w36 hbox hb; replace HO_8 := Aside0.mk (Kd.S_below (Kd.S_elderB (sI HO_8.out) gb333 (Nat.le_of_eq hg.symm)) hb); replace HO_326002 := rb HO_326002 hb; replace HO331 := rb HO331 hb; have BK333 := Aside0.mk (hbox); have GW333 := bg hg HB; have GJ333 := gi GW333; have GE333 := GW333; replace HB := bs HB hb; have NB314_333 := b1 BK314 hg; have NI314_333 := ni NB314_333; have NB333_314 := b2 BK314 hg; have NI333_314 := ni NB333_314; replace BK314 := bk BK314 hb; have NB315_333 := b1 BK315 hg; have NI315_333 := ni NB315_333; have NB333_315 := b2 BK315 hg; have NI333_315 := ni NB333_315; replace BK315 := bk BK315 hb; have NB325_333 := b1 BK325 hg; have NI325_333 := ni NB325_333; have NB333_325 := b2 BK325 hg; have NI333_325 := ni NB333_325; replace BK325 := bk BK325 hb; clear hb hbox hg; have hnb37 := NB333_314.out; have hnc37 := NB314_333.out; have hnb38 := NB333_315.out; have hnc38 := NB315_333.out; have hnb39 := NB333_325.out; have hnc39 := NB325_333.out; obtain ⟨hcz40_0, hcz40_1, hcz40_2, hfz40_0, hfz40_1, hfz40_2⟩ := cs3 BK333; obtain ⟨Ao41, co41, eo41⟩ := Kd.R_slice HO331.out; subst eo41) | ((with_reducible refine gate_store (t := 26) (p := 12) rfl ?_); refine store_event (t := 26) (p := 12) (v := ?vo_w42) (w1 := (((w36.setCell ⟨gb333, 0, none⟩ (.int .i64 t327)).setCell ⟨gb333, 1, none⟩ (.string t328)).setCell ⟨gb333, 2, none⟩ (.slice Ao41 t329.length co41))) ?hg ?ho ?hn ?hr ?_; (case ho => rfl); (case hg => rfl); (case hn => rfl); (case hr => first | (go_simp; done) | (go_simp; rfl)); intro w42 hw; have n0_ : Aside0 (Kd.S k26 26 w42 w.heap.size (fun k_ => some k_ ≠ (.slice Ao17 t322.length co17 : Value).ownBlock ∧ some k_ ≠ (.slice Ao41 t329.length co41 : Value).ownBlock ∧ k_ ≠ gb315 ∧ k_ ≠ gb325 ∧ k_ ≠ gb333) u8 x8_1) := ⟨(by rw [hw]; exact (sI (Kd.S_mono (Kd.S_far (p := ⟨gb333, 2, none⟩) (Kd.S_far (p := ⟨gb333, 1, none⟩) (Kd.S_far (p := ⟨gb333, 0, none⟩) (Kd.S_mono HO_8.out (fun k_ hk => (⟨hk, hk.2⟩ : _ ∧ k_ ≠ gb333))) (fun _ hk => hk.2) (.int .i64 t327)) (fun _ hk => hk.2) (.string t328)) (fun _ hk => hk.2) (.slice Ao41 t329.length co41)) (fun _ hk => ⟨hk.1.1.1.1, ⟨hk.1.1.2, ⟨hk.1.1.1.2.1, ⟨hk.1.1.1.2.2, hk.1.2⟩⟩⟩⟩))))⟩; have n1_ : Aside0 (Kd.R (Kd.int .i64) 3 w42 w.heap.size (fun k_ => some k_ ≠ (.slice Ao41 t329.length co41 : Value).ownBlock) (.slice Ao17 t322.length co17) t322) := ⟨(by rw [hw]; exact (rI (Kd.R_mono (Kd.R_far (p := ⟨gb333, 2, none⟩) (Kd.R_far (p := ⟨gb333, 1, none⟩) (Kd.R_far (p := ⟨gb333, 0, none⟩) (Kd.R_types HO_326002.out BK333.out (by decide)) (fun _ hk => hk.2) (.int .i64 t327)) (fun _ hk => hk.2) (.string t328)) (fun _ hk => hk.2) (.slice Ao41 t329.length co41)) (fun _ hk => hk.1.2))))⟩; have n2_ : Aside0 (Kd.R (Kd.int .i64) 3 w42 w.heap.size (fun k_ => some k_ ≠ (.slice Ao17 t322.length co17 : Value).ownBlock) (.slice Ao41 t329.length co41) t329) := ⟨(by rw [hw]; exact (rI (Kd.R_mono (Kd.R_far (p := ⟨gb333, 2, none⟩) (Kd.R_far (p := ⟨gb333, 1, none⟩) (Kd.R_far (p := ⟨gb333, 0, none⟩) (Kd.R_types HO331.out BK333.out (by decide)) (fun _ hk => hk.2) (.int .i64 t327)) (fun _ hk => hk.2) (.string t328)) (fun _ hk => hk.2) (.slice Ao41 t329.length co41)) (fun _ hk => hk.1.2))))⟩; have n3_ : Aside0 (w42.heap[gb314]? = some (.cells #[.int .i64 a0_0, .int .i64 a0_1] 36 (0, 0))) := ⟨(by rw [hw]; exact (gI BK314.out))⟩; have n4_ : Aside0 (w42.heap[gb315]? = some (.cells #[.int .i64 a2_0, .string a2_1, .slice A2_2 l2_2.length c2_2] 26 (0, 0))) := ⟨(by rw [hw]; exact (gI BK315.out))⟩; have n5_ : Aside0 (w42.heap[gb325]? = some (.cells #[.int .i64 t320, .string t321, .slice Ao17 t322.length co17] 26 (0, 0))) := ⟨(by rw [hw]; exact (gI BK325.out))⟩; have n6_ : Aside0 (w42.heap[gb333]? = some (.cells #[.int .i64 t327, .string t328, .slice Ao41 t329.length co41] 26 (0, 0))) := ⟨(by rw [hw]; exact (pI BK333))⟩; have n7_ : Aside0 (Below w.heap.size w w42) := ⟨(by rw [hw]; exact (bI HB.out))⟩; clear hw; clear HO_8; clear HO_326002; clear HO331; clear BK314; clear BK315; clear BK325; clear BK333; clear HB; have HO_8 := n0_; have HO_326002 := n1_; have HO331 := n2_; have BK314 := n3_; have BK315 := n4_; have BK325 := n5_; have BK333 := n6_; have HB := n7_; clear n0_ n1_ n2_ n3_ n4_ n5_ n6_ n7_; obtain ⟨hcz43_0, hcz43_1, hcz43_2, hfz43_0, hfz43_1, hfz43_2⟩ := cs3 BK333) | ((with_reducible refine gate_builtin (b := .append) (xs := #[.tmp 41, .tmp 43]) rfl ?_); at_builtin; refine Kd.S_append k26 (w0 := w) w.heap.size rfl (.tmp 41) (.tmp 43) 43 26 (.agg #[(.int .i64 0), (.string ⟨#[]⟩), (.slice none 0 0)]) 48 rfl Try.underlying43 info26 rfl (by decide) (by omega) u8 x8_1 (⟨t327, t328, t329⟩ : S26) [.int .i64 t327, .string t328, .slice Ao41 t329.length co41] (fun k_ => some k_ ≠ (.slice Ao17 t322.length co17 : Value).ownBlock ∧ k_ ≠ gb315 ∧ k_ ≠ gb325 ∧ k_ ≠ gb333) (fun k_ => some k_ = (.slice Ao41 t329.length co41 : Value).ownBlock) rfl rfl ?aP (fun k_ hk_ => ((Kd.R_mono (ok' := fun k_ => ((fun k_ => some k_ ≠ (.slice Ao17 t322.length co17 : Value).ownBlock ∧ k_ ≠ gb315 ∧ k_ ≠ gb325 ∧ k_ ≠ gb333)) k_ ∧ some k_ ≠ (u8 : Value).ownBlock) (Kd.R_types (Kd.R_types (Kd.R_types (Kd.R_apart' (HO331.out) (Kd.S_typed HO_8.out) (by decide)) BK315.out (by decide)) BK325.out (by decide)) BK333.out (by decide)) (fun k_ hk => ⟨⟨hk.1.1.1.1, ⟨hk.1.1.2, ⟨hk.1.2, hk.2⟩⟩⟩, hk.1.1.1.2⟩))).1 k_ hk_.symm) ?aF ?aO ?aB ?aS ?aL ?_; (case aP => exact k26_mkM _ _ _ (⟨t327, t328, t329⟩ : S26) (Kd.R_mono (Kd.R_tight rfl (Kd.R_mono (ok' := fun k_ => ((fun k_ => some k_ ≠ (.slice Ao17 t322.length co17 : Value).ownBlock ∧ k_ ≠ gb315 ∧ k_ ≠ gb325 ∧ k_ ≠ gb333)) k_ ∧ some k_ ≠ (u8 : Value).ownBlock) (Kd.R_types (Kd.R_types (Kd.R_types (Kd.R_apart' (HO331.out) (Kd.S_typed HO_8.out) (by decide)) BK315.out (by decide)) BK325.out (by decide)) BK333.out (by decide)) (fun k_ hk => ⟨⟨hk.1.1.1.1, ⟨hk.1.1.2, ⟨hk.1.2, hk.2⟩⟩⟩, hk.1.1.1.2⟩))) (fun _ h_ => h_))); (case aB => exact (bI HB.out)); (case aF => exact (fun k_ hk => ⟨Kd.fresh' (Kd.R_lt (rI HO_326002.out)) k_ hk, Kd.freshB (g := gb315) (o := .cells #[.int .i64 a2_0, .string a2_1, .slice A2_2 l2_2.length c2_2] 26 (0, 0)) (kI BK315.out) k_ hk, Kd.freshB (g := gb325) (o := .cells #[.int .i64 t320, .string t321, .slice Ao17 t322.length co17] 26 (0, 0)) (kI BK325.out) k_ hk, Kd.freshB (g := gb333) (o := .cells #[.int .i64 t327, .string t328, .slice Ao41 t329.length co41] 26 (0, 0)) (kI BK333.out) k_ hk⟩)); (case aO => exact (sI (Kd.S_mono HO_8.out (fun k_ hk => ⟨⟨hk.1, ⟨hk.2.2.1, ⟨hk.2.2.2.1, hk.2.2.2.2⟩⟩⟩, fun e_ => hk.2.1 e_⟩)))); (case aS => exact (below_size (bI HB.out))); (case aL => have := LMc29.out; omega); intro v335 w44 ho hb hg hat; rw [← Ny334.out] at ho; have n0_ := Aside0.mk (Kd.R_over' (rI HO_326002.out) (Kd.S_typed (sI HO_8.out)) (by decide) hg); have n1_ := bn BK314 hg (Kd.S_ne HO_8.out BK314.out (by decide)); have n2_ := bn BK315 hg (Kd.S_away HO_8.out (fun _ hk => hk.2.2.1)); have n3_ := bn BK325 hg (Kd.S_away HO_8.out (fun _ hk => hk.2.2.2.1)); have n4_ := bn BK333 hg (Kd.S_away HO_8.out (fun _ hk => hk.2.2.2.2)); have n5_ := Aside0.mk (hb); have n6_ := Aside0.mk (ho); clear HO_326002; clear BK314; clear BK315; clear BK325; clear BK333; clear HB; clear HO_8; clear HO331; have HO_326002 := n0_; have BK314 := n1_; have BK315 := n2_; have BK325 := n3_; have BK333 := n4_; have HB := n5_; have HO336 := n6_; clear n0_ n1_ n2_ n3_ n4_ n5_ n6_; clear ho hb hg hat))
        go_roundg kj10
        case measure => have := HK1.out; have := HJ10.out; omega
        case rel => exact ⟨(y334), (true), (wrap64 (x10_1 + 1)), y0_21, y0_21, H', ⟨by have := HK1.out; have := HJ10.out; omega⟩, ⟨by (with_reducible repeat (first | apply Kd.S_alloc | apply Kd.S_drewN | apply Kd.S_drew)); exact Kd.S_mono HO336.out (fun _ hk => hk.2.1)⟩, ⟨gI BK314.out⟩, ⟨gI BK315.out⟩, ⟨bI HB.out⟩⟩
       replace c28 := Bool.eq_false_iff.mpr c28; subst c28
       rw [if_neg (show ¬ (false = true) by decide)] at H
       obtain ⟨⟨t337, t338, t339⟩, A450, H⟩ := Option.bind_eq_some_iff.mp H
       try dsimp only at H
       have A45 := Aside0.mk A450; clear A450
       by_cases c46 : x8_1.length < 2932031007402
       rotate_left
       ·
        rw [if_neg c46] at H
        exact absurd H (by simp)
       rw [if_pos c46] at H
       have LMc46 := Aside0.mk c46; clear c46; obtain ⟨y342, hy342⟩ : ∃ y_ : List (S26), y_ = (x8_1 ++ [(⟨t337, t338, t339⟩ : S26)]) := ⟨_, rfl⟩
       replace H : (if y342.length < 2932031007402 then (spec_TableAdd.l0 kj10 l1 (y342 ++ [(⟨t320, t321, t322⟩ : S26)]) true (wrap64 (x10_1 + 1)) a0_0 a0_1 a2_0 a2_1 l2_2) else (none)) = some (r1, r2) := by first | (rw [hy342]; with_reducible exact H) | (have H2_ := (Option.bind_some _ _).symm.trans H; rw [hy342]; with_reducible exact H2_) | (have H2_ := (Option.bind_some _ _).symm.trans H; with_reducible exact H2_) | with_reducible exact H | (rw [hy342]; exact H) | exact H
       have Ny342 := Aside0.mk hy342; clear hy342
       by_cases c47 : y342.length < 2932031007402
       rotate_left
       ·
        rw [if_neg c47] at H
        exact absurd H (by simp)
       rw [if_pos c47] at H
       have LMc47 := Aside0.mk c47; clear c47; obtain ⟨y345, hy345⟩ : ∃ y_ : List (S26), y_ = (y342 ++ [(⟨t320, t321, t322⟩ : S26)]) := ⟨_, rfl⟩
       replace H : (spec_TableAdd.l0 kj10 l1 y345 true (wrap64 (x10_1 + 1)) a0_0 a0_1 a2_0 a2_1 l2_2) = some (r1, r2) := by first | (rw [hy345]; with_reducible exact H) | (have H2_ := (Option.bind_some _ _).symm.trans H; rw [hy345]; with_reducible exact H2_) | (have H2_ := (Option.bind_some _ _).symm.trans H; with_reducible exact H2_) | with_reducible exact H | (rw [hy345]; exact H) | exact H
       have Ny345 := Aside0.mk hy345; clear hy345; have H' := Aside0.mk H; clear H; have hnb48 := NB325_314.out; have hnc48 := NB314_325.out; have hnb49 := NB325_315.out; have hnc49 := NB315_325.out; have hcz50_0 := bc0 BK325.out; have hcz50_1 := bc1 BK325.out; have hcz50_2 := bc2 BK325.out; have hfz50_0 := blk_frozen BK325.out 0; have hfz50_1 := blk_frozen BK325.out 1; have hfz50_2 := blk_frozen BK325.out 2; have hnb51 := NB315_314.out; have hnc51 := NB314_315.out; have hcz52_0 := bc0 BK315.out; have hcz52_1 := bc1 BK315.out; have hcz52_2 := bc2 BK315.out; have hfz52_0 := blk_frozen BK315.out 0; have hfz52_1 := blk_frozen BK315.out 1; have hfz52_2 := blk_frozen BK315.out 2
       go_wp2_with (first | ((with_reducible refine gate_callee (f := 7) rfl ?_); refine gB (some 37) Try.func7 #[.agg #[.int .i64 t320, .string t321, .slice Ao17 t322.length co17], .agg #[.int .i64 a2_0, .string a2_1, .slice A2_2 l2_2.length c2_2]] ?_; (with_reducible refine (spec_PartJoin.calls kj10 t320 t321 _ _ t322 a2_0 a2_1 _ _ l2_2 t327 t328 t329 false _ ?side1 ?side2 ?side3 ?side4 A27.out).mono ?_); (case side1 => repeat (first | exact (Kd.R_reads' HO_326002.out).2.2 | (with_reducible refine Kd.C_alloc ?_ _) | (with_reducible refine Kd.C_drewN ?_ _) | (with_reducible refine Kd.C_drew ?_))); (case side2 => exact (Kd.R_reads' HO_326002.out).2.1); (case side3 => exact ch HR2_2 HB); (case side4 => exact HC2_2.out); rintro e w53 ⟨v330, rfl, ho0, hb⟩; refine ⟨_, rfl, ?_⟩; replace HO_8 := Aside0.mk (Kd.S_elder' (sI HO_8.out) (Kd.R_base ho0) hb); have HO331 := Aside0.mk (Kd.R_lower (Kd.R_new' ho0 (Kd.R_lt (rI HO_326002.out))) (below_size (bI HB.out))); replace HO_326002 := Aside0.mk (Kd.R_elder' (rI HO_326002.out) (Kd.R_base ho0) hb); replace BK314 := bk BK314 hb; replace BK315 := bk BK315 hb; replace BK325 := bk BK325 hb; replace HB := bs HB hb; (try clear hb); (try clear ho0)) | ((with_reducible refine gd 12 ?_); refine bA 12 #[.int .i64 0, .string (⟨#[]⟩ : ByteArray), .slice none 0 0] 26 ?_; intro gb333 hg w54 hbox hb; replace HO_8 := Aside0.mk (Kd.S_below (Kd.S_elderB (sI HO_8.out) gb333 (Nat.le_of_eq hg.symm)) hb); replace HO_326002 := rb HO_326002 hb; replace HO331 := rb HO331 hb; have BK333 := Aside0.mk (hbox); have GW333 := bg hg HB; have GJ333 := gi GW333; have GE333 := GW333; replace HB := bs HB hb; have NB314_333 := b1 BK314 hg; have NI314_333 := ni NB314_333; have NB333_314 := b2 BK314 hg; have NI333_314 := ni NB333_314; replace BK314 := bk BK314 hb; have NB315_333 := b1 BK315 hg; have NI315_333 := ni NB315_333; have NB333_315 := b2 BK315 hg; have NI333_315 := ni NB333_315; replace BK315 := bk BK315 hb; have NB325_333 := b1 BK325 hg; have NI325_333 := ni NB325_333; have NB333_325 := b2 BK325 hg; have NI333_325 := ni NB333_325; replace BK325 := bk BK325 hb; clear hb hbox hg; have hnb55 := NB333_314.out; have hnc55 := NB314_333.out; have hnb56 := NB333_315.out; have hnc56 := NB315_333.out; have hnb57 := NB333_325.out; have hnc57 := NB325_333.out; obtain ⟨hcz58_0, hcz58_1, hcz58_2, hfz58_0, hfz58_1, hfz58_2⟩ := cs3 BK333; obtain ⟨Ao59, co59, eo59⟩ := Kd.R_slice HO331.out; subst eo59; obtain ⟨hcz60_0, hcz60_1, hcz60_2, hfz60_0, hfz60_1, hfz60_2⟩ := cs3 BK315) | ((with_reducible refine gate_callee (f := 46) rfl ?_); refine gB (some 47) Try.func46 #[.agg #[.int .i64 a2_0, .string a2_1, .slice A2_2 l2_2.length c2_2]] ?_; (with_reducible refine (spec_l10Copy.calls a2_0 a2_1 _ _ l2_2 t337 t338 t339 _ ?side1 ?side2 A45.out).mono ?_); (case side1 => exact Kd.C_below HR2_2.out (bI HB.out)); (case side2 => exact HC2_2.out); rintro e w61 ⟨v340, rfl, ho0, hb⟩; refine ⟨_, rfl, ?_⟩; replace HO_8 := Aside0.mk (Kd.S_elder' (sI (Kd.S_mono (Kd.S_far (p := ⟨gb333, 2, none⟩) (Kd.S_far (p := ⟨gb333, 1, none⟩) (Kd.S_far (p := ⟨gb333, 0, none⟩) (Kd.S_mono HO_8.out (fun k_ hk => (⟨hk, hk.2⟩ : _ ∧ k_ ≠ gb333))) (fun _ hk => hk.2) (.int .i64 t327)) (fun _ hk => hk.2) (.string t328)) (fun _ hk => hk.2) (.slice Ao59 t329.length co59)) (fun _ h_ => h_.1))) (Kd.R_base ho0) hb); have HO341 := Aside0.mk (Kd.R_lower (Kd.R_new' (Kd.R_new' ho0 (Kd.R_lt (rI (Kd.R_mono (Kd.R_far (p := ⟨gb333, 2, none⟩) (Kd.R_far (p := ⟨gb333, 1, none⟩) (Kd.R_far (p := ⟨gb333, 0, none⟩) (Kd.R_types HO_326002.out BK333.out (by decide)) (fun _ hk => hk.2) (.int .i64 t327)) (fun _ hk => hk.2) (.string t328)) (fun _ hk => hk.2) (.slice Ao59 t329.length co59)) (fun _ h_ => h_.1))))) (Kd.R_lt (rI (Kd.R_mono (Kd.R_far (p := ⟨gb333, 2, none⟩) (Kd.R_far (p := ⟨gb333, 1, none⟩) (Kd.R_far (p := ⟨gb333, 0, none⟩) (Kd.R_types HO331.out BK333.out (by decide)) (fun _ hk => hk.2) (.int .i64 t327)) (fun _ hk => hk.2) (.string t328)) (fun _ hk => hk.2) (.slice Ao59 t329.length co59)) (fun _ h_ => h_.1))))) (below_size (bI HB.out))); replace HO_326002 := Aside0.mk (Kd.R_elder' (rI (Kd.R_mono (Kd.R_far (p := ⟨gb333, 2, none⟩) (Kd.R_far (p := ⟨gb333, 1, none⟩) (Kd.R_far (p := ⟨gb333, 0, none⟩) (Kd.R_types HO_326002.out BK333.out (by decide)) (fun _ hk => hk.2) (.int .i64 t327)) (fun _ hk => hk.2) (.string t328)) (fun _ hk => hk.2) (.slice Ao59 t329.length co59)) (fun _ h_ => h_.1))) (Kd.R_base ho0) hb); replace HO331 := Aside0.mk (Kd.R_elder' (rI (Kd.R_mono (Kd.R_far (p := ⟨gb333, 2, none⟩) (Kd.R_far (p := ⟨gb333, 1, none⟩) (Kd.R_far (p := ⟨gb333, 0, none⟩) (Kd.R_types HO331.out BK333.out (by decide)) (fun _ hk => hk.2) (.int .i64 t327)) (fun _ hk => hk.2) (.string t328)) (fun _ hk => hk.2) (.slice Ao59 t329.length co59)) (fun _ h_ => h_.1))) (Kd.R_base ho0) hb); replace BK314 := Aside0.mk (blk_below (g := gb314) (o := .cells #[.int .i64 a0_0, .int .i64 a0_1] 36 (0, 0)) (gI BK314.out) hb); replace BK315 := Aside0.mk (blk_below (g := gb315) (o := .cells #[.int .i64 a2_0, .string a2_1, .slice A2_2 l2_2.length c2_2] 26 (0, 0)) (gI BK315.out) hb); replace BK325 := Aside0.mk (blk_below (g := gb325) (o := .cells #[.int .i64 t320, .string t321, .slice Ao17 t322.length co17] 26 (0, 0)) (gI BK325.out) hb); replace BK333 := bp BK333 hb #[.int .i64 t327, .string t328, .slice Ao59 t329.length co59]; replace HB := bs HB hb; (try clear hb); (try clear ho0); obtain ⟨Ao63, co63, eo63⟩ := Kd.R_slice HO341.out; subst eo63) | ((with_reducible refine gate_builtin (b := .append) (xs := #[.tmp 45, .tmp 48]) rfl ?_); at_builtin; refine Kd.S_append k26 (w0 := w) w.heap.size rfl (.tmp 45) (.tmp 48) 43 26 (.agg #[(.int .i64 0), (.string ⟨#[]⟩), (.slice none 0 0)]) 48 rfl Try.underlying43 info26 rfl (by decide) (by omega) u8 x8_1 (⟨t337, t338, t339⟩ : S26) [.int .i64 t337, .string t338, .slice Ao63 t339.length co63] (fun k_ => some k_ ≠ (.slice Ao17 t322.length co17 : Value).ownBlock ∧ some k_ ≠ (.slice Ao59 t329.length co59 : Value).ownBlock ∧ k_ ≠ gb315 ∧ k_ ≠ gb325 ∧ k_ ≠ gb333) (fun k_ => some k_ = (.slice Ao63 t339.length co63 : Value).ownBlock) rfl rfl ?aP (fun k_ hk_ => ((Kd.R_mono (ok' := fun k_ => ((fun k_ => some k_ ≠ (.slice Ao17 t322.length co17 : Value).ownBlock ∧ some k_ ≠ (.slice Ao59 t329.length co59 : Value).ownBlock ∧ k_ ≠ gb315 ∧ k_ ≠ gb325 ∧ k_ ≠ gb333)) k_ ∧ some k_ ≠ (u8 : Value).ownBlock) (Kd.R_types (Kd.R_types (Kd.R_types (Kd.R_apart' (HO341.out) (Kd.S_typed HO_8.out) (by decide)) BK315.out (by decide)) BK325.out (by decide)) BK333.out (by decide)) (fun k_ hk => ⟨⟨hk.1.1.1.1.1.2, ⟨hk.1.1.1.1.2, ⟨hk.1.1.2, ⟨hk.1.2, hk.2⟩⟩⟩⟩, hk.1.1.1.2⟩))).1 k_ hk_.symm) ?aF ?aO ?aB ?aS ?aL ?_; (case aP => exact k26_mkM _ _ _ (⟨t337, t338, t339⟩ : S26) (Kd.R_mono (Kd.R_tight rfl (Kd.R_mono (ok' := fun k_ => ((fun k_ => some k_ ≠ (.slice Ao17 t322.length co17 : Value).ownBlock ∧ some k_ ≠ (.slice Ao59 t329.length co59 : Value).ownBlock ∧ k_ ≠ gb315 ∧ k_ ≠ gb325 ∧ k_ ≠ gb333)) k_ ∧ some k_ ≠ (u8 : Value).ownBlock) (Kd.R_types (Kd.R_types (Kd.R_types (Kd.R_apart' (HO341.out) (Kd.S_typed HO_8.out) (by decide)) BK315.out (by decide)) BK325.out (by decide)) BK333.out (by decide)) (fun k_ hk => ⟨⟨hk.1.1.1.1.1.2, ⟨hk.1.1.1.1.2, ⟨hk.1.1.2, ⟨hk.1.2, hk.2⟩⟩⟩⟩, hk.1.1.1.2⟩))) (fun _ h_ => h_))); (case aB => exact (bI HB.out)); (case aF => exact (fun k_ hk => ⟨Kd.fresh' (Kd.R_lt (rI HO_326002.out)) k_ hk, Kd.fresh' (Kd.R_lt (rI HO331.out)) k_ hk, Kd.freshB (g := gb315) (o := .cells #[.int .i64 a2_0, .string a2_1, .slice A2_2 l2_2.length c2_2] 26 (0, 0)) (kI BK315.out) k_ hk, Kd.freshB (g := gb325) (o := .cells #[.int .i64 t320, .string t321, .slice Ao17 t322.length co17] 26 (0, 0)) (kI BK325.out) k_ hk, Kd.freshB (g := gb333) (o := .cells #[.int .i64 t327, .string t328, .slice Ao59 t329.length co59] 26 (0, 0)) (kI BK333.out) k_ hk⟩)); (case aO => exact (sI (Kd.S_mono HO_8.out (fun k_ hk => ⟨⟨hk.1.1.1.1, ⟨hk.1.1.2, ⟨hk.1.1.1.2.1, ⟨hk.1.1.1.2.2, hk.1.2⟩⟩⟩⟩, fun e_ => hk.2 e_⟩)))); (case aS => exact (below_size (bI HB.out))); (case aL => have := LMc46.out; omega); intro v343 w62 ho hb hg hat; rw [← Ny342.out] at ho; have n0_ := Aside0.mk (Kd.R_over' (rI HO_326002.out) (Kd.S_typed (sI HO_8.out)) (by decide) hg); have n1_ := bn BK314 hg (Kd.S_ne HO_8.out BK314.out (by decide)); have n2_ := bn BK315 hg (Kd.S_away HO_8.out (fun _ hk => hk.1.1.1.2.1)); have n3_ := bn BK325 hg (Kd.S_away HO_8.out (fun _ hk => hk.1.1.1.2.2)); have n4_ := Aside0.mk (Kd.R_over' (rI HO331.out) (Kd.S_typed (sI HO_8.out)) (by decide) hg); have n5_ := bn BK333 hg (Kd.S_away HO_8.out (fun _ hk => hk.1.2)); have n6_ := Aside0.mk (hb); have n7_ := Aside0.mk (ho); clear HO_326002; clear BK314; clear BK315; clear BK325; clear HO331; clear BK333; clear HB; clear HO_8; clear HO341; have HO_326002 := n0_; have BK314 := n1_; have BK315 := n2_; have BK325 := n3_; have HO331 := n4_; have BK333 := n5_; have HB := n6_; have HO344 := n7_; clear n0_ n1_ n2_ n3_ n4_ n5_ n6_ n7_; clear ho hb hg hat; obtain ⟨hcz64_0, hcz64_1, hcz64_2, hfz64_0, hfz64_1, hfz64_2⟩ := cs3 BK325) | ((with_reducible refine gate_builtin (b := .append) (xs := #[.tmp 50, .tmp 52]) rfl ?_); at_builtin; refine Kd.S_append k26 (w0 := w) w.heap.size rfl (.tmp 50) (.tmp 52) 43 26 (.agg #[(.int .i64 0), (.string ⟨#[]⟩), (.slice none 0 0)]) 48 rfl Try.underlying43 info26 rfl (by decide) (by omega) v343 y342 (⟨t320, t321, t322⟩ : S26) [.int .i64 t320, .string t321, .slice Ao17 t322.length co17] (fun k_ => some k_ ≠ (.slice Ao59 t329.length co59 : Value).ownBlock ∧ k_ ≠ gb315 ∧ k_ ≠ gb325 ∧ k_ ≠ gb333) (fun k_ => some k_ = (.slice Ao17 t322.length co17 : Value).ownBlock) rfl rfl ?aP (fun k_ hk_ => ((Kd.R_mono (ok' := fun k_ => ((fun k_ => some k_ ≠ (.slice Ao59 t329.length co59 : Value).ownBlock ∧ k_ ≠ gb315 ∧ k_ ≠ gb325 ∧ k_ ≠ gb333)) k_ ∧ some k_ ≠ (v343 : Value).ownBlock) (Kd.R_types (Kd.R_types (Kd.R_types (Kd.R_apart' (HO_326002.out) (Kd.S_typed HO344.out) (by decide)) BK315.out (by decide)) BK325.out (by decide)) BK333.out (by decide)) (fun k_ hk => ⟨⟨hk.1.1.1.1.1.2, ⟨hk.1.1.2, ⟨hk.1.2, hk.2⟩⟩⟩, hk.1.1.1.2⟩))).1 k_ hk_.symm) ?aF ?aO ?aB ?aS ?aL ?_; (case aP => exact k26_mkM _ _ _ (⟨t320, t321, t322⟩ : S26) (Kd.R_mono (Kd.R_tight rfl (Kd.R_mono (ok' := fun k_ => ((fun k_ => some k_ ≠ (.slice Ao59 t329.length co59 : Value).ownBlock ∧ k_ ≠ gb315 ∧ k_ ≠ gb325 ∧ k_ ≠ gb333)) k_ ∧ some k_ ≠ (v343 : Value).ownBlock) (Kd.R_types (Kd.R_types (Kd.R_types (Kd.R_apart' (HO_326002.out) (Kd.S_typed HO344.out) (by decide)) BK315.out (by decide)) BK325.out (by decide)) BK333.out (by decide)) (fun k_ hk => ⟨⟨hk.1.1.1.1.1.2, ⟨hk.1.1.2, ⟨hk.1.2, hk.2⟩⟩⟩, hk.1.1.1.2⟩))) (fun _ h_ => h_))); (case aB => exact (bI HB.out)); (case aF => exact (fun k_ hk => ⟨Kd.fresh' (Kd.R_lt (rI HO331.out)) k_ hk, Kd.freshB (g := gb315) (o := .cells #[.int .i64 a2_0, .string a2_1, .slice A2_2 l2_2.length c2_2] 26 (0, 0)) (kI BK315.out) k_ hk, Kd.freshB (g := gb325) (o := .cells #[.int .i64 t320, .string t321, .slice Ao17 t322.length co17] 26 (0, 0)) (kI BK325.out) k_ hk, Kd.freshB (g := gb333) (o := .cells #[.int .i64 t327, .string t328, .slice Ao59 t329.length co59] 26 (0, 0)) (kI BK333.out) k_ hk⟩)); (case aO => exact (sI (Kd.S_mono HO344.out (fun k_ hk => ⟨⟨hk.2.1, ⟨hk.2.2.1, ⟨hk.2.2.2.1, hk.2.2.2.2⟩⟩⟩, fun e_ => hk.1 e_⟩)))); (case aS => exact (below_size (bI HB.out))); (case aL => have := LMc47.out; omega); intro v346 w65 ho hb hg hat; rw [← Ny345.out] at ho; have n0_ := bn BK314 hg (Kd.S_ne HO344.out BK314.out (by decide)); have n1_ := bn BK315 hg (Kd.S_away HO344.out (fun _ hk => hk.2.2.1)); have n2_ := bn BK325 hg (Kd.S_away HO344.out (fun _ hk => hk.2.2.2.1)); have n3_ := Aside0.mk (Kd.R_over' (rI HO331.out) (Kd.S_typed (sI HO344.out)) (by decide) hg); have n4_ := bn BK333 hg (Kd.S_away HO344.out (fun _ hk => hk.2.2.2.2)); have n5_ := Aside0.mk (hb); have n6_ := Aside0.mk (ho); clear BK314; clear BK315; clear BK325; clear HO331; clear BK333; clear HB; clear HO344; clear HO_326002; have BK314 := n0_; have BK315 := n1_; have BK325 := n2_; have HO331 := n3_; have BK333 := n4_; have HB := n5_; have HO347 := n6_; clear n0_ n1_ n2_ n3_ n4_ n5_ n6_; clear ho hb hg hat))
       go_roundg kj10
       case measure => have := HK1.out; have := HJ10.out; omega
       case rel => exact ⟨(y345), (true), (wrap64 (x10_1 + 1)), y0_21, y0_21, H', ⟨by have := HK1.out; have := HJ10.out; omega⟩, ⟨by (with_reducible repeat (first | apply Kd.S_alloc | apply Kd.S_drewN | apply Kd.S_drew)); exact Kd.S_mono HO347.out (fun _ hk => hk.2.1)⟩, ⟨gI BK314.out⟩, ⟨gI BK315.out⟩, ⟨bI HB.out⟩⟩
      replace c26 := Bool.eq_false_iff.mpr c26; subst c26
      rw [if_neg (show ¬ (false = true) by decide)] at H
      by_cases c66 : x8_1.length < 2932031007402
      rotate_left
      ·
       rw [if_neg c66] at H
       exact absurd H (by simp)
      rw [if_pos c66] at H
      have LMc66 := Aside0.mk c66; clear c66; obtain ⟨y348, hy348⟩ : ∃ y_ : List (S26), y_ = (x8_1 ++ [(⟨t320, t321, t322⟩ : S26)]) := ⟨_, rfl⟩
      replace H : (spec_TableAdd.l0 kj10 l1 y348 x9_1 (wrap64 (x10_1 + 1)) a0_0 a0_1 a2_0 a2_1 l2_2) = some (r1, r2) := by first | (rw [hy348]; with_reducible exact H) | (have H2_ := (Option.bind_some _ _).symm.trans H; rw [hy348]; with_reducible exact H2_) | (have H2_ := (Option.bind_some _ _).symm.trans H; with_reducible exact H2_) | with_reducible exact H | (rw [hy348]; exact H) | exact H
      have Ny348 := Aside0.mk hy348; clear hy348; have H' := Aside0.mk H; clear H; have hnb67 := NB325_314.out; have hnc67 := NB314_325.out; have hnb68 := NB325_315.out; have hnc68 := NB315_325.out; have hcz69_0 := bc0 BK325.out; have hcz69_1 := bc1 BK325.out; have hcz69_2 := bc2 BK325.out; have hfz69_0 := blk_frozen BK325.out 0; have hfz69_1 := blk_frozen BK325.out 1; have hfz69_2 := blk_frozen BK325.out 2
      go_wp2_with (first | ((with_reducible refine gate_builtin (b := .append) (xs := #[.tmp 50, .tmp 52]) rfl ?_); at_builtin; refine Kd.S_append k26 (w0 := w) w.heap.size rfl (.tmp 50) (.tmp 52) 43 26 (.agg #[(.int .i64 0), (.string ⟨#[]⟩), (.slice none 0 0)]) 48 rfl Try.underlying43 info26 rfl (by decide) (by omega) u8 x8_1 (⟨t320, t321, t322⟩ : S26) [.int .i64 t320, .string t321, .slice Ao17 t322.length co17] (fun k_ => k_ ≠ gb315 ∧ k_ ≠ gb325) (fun k_ => some k_ = (.slice Ao17 t322.length co17 : Value).ownBlock) rfl rfl ?aP (fun k_ hk_ => ((Kd.R_mono (ok' := fun k_ => ((fun k_ => k_ ≠ gb315 ∧ k_ ≠ gb325)) k_ ∧ some k_ ≠ (u8 : Value).ownBlock) (Kd.R_types (Kd.R_types (Kd.R_apart' (HO_326002.out) (Kd.S_typed HO_8.out) (by decide)) BK315.out (by decide)) BK325.out (by decide)) (fun k_ hk => ⟨⟨hk.1.2, hk.2⟩, hk.1.1.2⟩))).1 k_ hk_.symm) ?aF ?aO ?aB ?aS ?aL ?_; (case aP => exact k26_mkM _ _ _ (⟨t320, t321, t322⟩ : S26) (Kd.R_mono (Kd.R_tight rfl (Kd.R_mono (ok' := fun k_ => ((fun k_ => k_ ≠ gb315 ∧ k_ ≠ gb325)) k_ ∧ some k_ ≠ (u8 : Value).ownBlock) (Kd.R_types (Kd.R_types (Kd.R_apart' (HO_326002.out) (Kd.S_typed HO_8.out) (by decide)) BK315.out (by decide)) BK325.out (by decide)) (fun k_ hk => ⟨⟨hk.1.2, hk.2⟩, hk.1.1.2⟩))) (fun _ h_ => h_))); (case aB => exact (bI HB.out)); (case aF => exact (fun k_ hk => ⟨Kd.freshB (g := gb315) (o := .cells #[.int .i64 a2_0, .string a2_1, .slice A2_2 l2_2.length c2_2] 26 (0, 0)) (kI BK315.out) k_ hk, Kd.freshB (g := gb325) (o := .cells #[.int .i64 t320, .string t321, .slice Ao17 t322.length co17] 26 (0, 0)) (kI BK325.out) k_ hk⟩)); (case aO => exact (sI (Kd.S_mono HO_8.out (fun k_ hk => ⟨⟨hk.2.1, hk.2.2⟩, fun e_ => hk.1 e_⟩)))); (case aS => exact (below_size (bI HB.out))); (case aL => have := LMc66.out; omega); intro v349 w70 ho hb hg hat; rw [← Ny348.out] at ho; have n0_ := bn BK314 hg (Kd.S_ne HO_8.out BK314.out (by decide)); have n1_ := bn BK315 hg (Kd.S_away HO_8.out (fun _ hk => hk.2.1)); have n2_ := bn BK325 hg (Kd.S_away HO_8.out (fun _ hk => hk.2.2)); have n3_ := Aside0.mk (hb); have n4_ := Aside0.mk (ho); clear BK314; clear BK315; clear BK325; clear HB; clear HO_8; clear HO_326002; have BK314 := n0_; have BK315 := n1_; have BK325 := n2_; have HB := n3_; have HO350 := n4_; clear n0_ n1_ n2_ n3_ n4_; clear ho hb hg hat))
      go_roundg kj10
      case measure => have := HK1.out; have := HJ10.out; omega
      case rel => exact ⟨(y348), (x9_1), (wrap64 (x10_1 + 1)), y0_21, y0_21, H', ⟨by have := HK1.out; have := HJ10.out; omega⟩, ⟨by (with_reducible repeat (first | apply Kd.S_alloc | apply Kd.S_drewN | apply Kd.S_drew)); exact Kd.S_mono HO350.out (fun _ hk => hk.1)⟩, ⟨gI BK314.out⟩, ⟨gI BK315.out⟩, ⟨bI HB.out⟩⟩
   rw [if_neg c8] at H
   have c8b0 : decide (x10_1 < (l1.length : Int)) = false := decide_eq_false c8; clear c8; have HC71 := Aside0.mk H; clear H
   go_upto_if 55 with (fail)
   go_cut [8] (fun v8 wc => ∃ (kq : Nat) (x8_70 : List (S26)), Aside0 (spec_TableAdd.j2 kq l1 x8_70 a0_0 a0_1 a2_0 a2_1 l2_2 = some (r1, r2)) ∧ Aside0 (kq ≤ k1) ∧ Aside0 (Kd.S k26 26 wc w.heap.size (fun k_ => k_ ≠ gb315) v8 x8_70) ∧ Aside0 (wc.heap[gb314]? = some (.cells #[.int .i64 a0_0, .int .i64 a0_1] 36 (0, 0))) ∧ Aside0 (wc.heap[gb315]? = some (.cells #[.int .i64 a2_0, .string a2_1, (.slice A2_2 l2_2.length c2_2)] 26 (0, 0))) ∧ Aside0 (Below w.heap.size w wc))
   case first =>
    have H := HC71.out; clear HC71
    by_cases c72 : x9_1 = true
    ·
     subst c72
     rw [if_pos rfl] at H
     have H' := Aside0.mk H; clear H
     go_wp2
     go_meet
     case rel => exact ⟨_, (x8_1), H', ⟨y0_19⟩, ⟨by (with_reducible repeat (first | apply Kd.S_alloc | apply Kd.S_drewN | apply Kd.S_drew)); exact HO_8.out⟩, ⟨gI BK314.out⟩, ⟨gI BK315.out⟩, ⟨bI HB.out⟩⟩
    replace c72 := Bool.eq_false_iff.mpr c72; subst c72
    rw [if_neg (show ¬ (false = true) by decide)] at H
    obtain ⟨⟨t351, t352, t353⟩, A730, H⟩ := Option.bind_eq_some_iff.mp H
    try dsimp only at H
    have A73 := Aside0.mk A730; clear A730
    by_cases c74 : x8_1.length < 2932031007402
    rotate_left
    ·
     rw [if_neg c74] at H
     exact absurd H (by simp)
    rw [if_pos c74] at H
    have LMc74 := Aside0.mk c74; clear c74; obtain ⟨y356, hy356⟩ : ∃ y_ : List (S26), y_ = (x8_1 ++ [(⟨t351, t352, t353⟩ : S26)]) := ⟨_, rfl⟩
    replace H : (spec_TableAdd.j2 k1 l1 y356 a0_0 a0_1 a2_0 a2_1 l2_2) = some (r1, r2) := by first | (rw [hy356]; with_reducible exact H) | (have H2_ := (Option.bind_some _ _).symm.trans H; rw [hy356]; with_reducible exact H2_) | (have H2_ := (Option.bind_some _ _).symm.trans H; with_reducible exact H2_) | with_reducible exact H | (rw [hy356]; exact H) | exact H
    have Ny356 := Aside0.mk hy356; clear hy356; have H' := Aside0.mk H; clear H; have hnb75 := NB315_314.out; have hnc75 := NB314_315.out; have hcz76_0 := bc0 BK315.out; have hcz76_1 := bc1 BK315.out; have hcz76_2 := bc2 BK315.out; have hfz76_0 := blk_frozen BK315.out 0; have hfz76_1 := blk_frozen BK315.out 1; have hfz76_2 := blk_frozen BK315.out 2
    go_wp2_with (first | ((with_reducible refine gate_callee (f := 46) rfl ?_); refine gB (some 58) Try.func46 #[.agg #[.int .i64 a2_0, .string a2_1, .slice A2_2 l2_2.length c2_2]] ?_; (with_reducible refine (spec_l10Copy.calls a2_0 a2_1 _ _ l2_2 t351 t352 t353 _ ?side1 ?side2 A73.out).mono ?_); (case side1 => exact ch HR2_2 HB); (case side2 => exact HC2_2.out); rintro e w77 ⟨v354, rfl, ho0, hb⟩; refine ⟨_, rfl, ?_⟩; replace HO_8 := Aside0.mk (Kd.S_elder' (sI HO_8.out) (Kd.R_base ho0) hb); have HO355 := Aside0.mk (Kd.R_lower ho0 (below_size (bI HB.out))); replace BK314 := bk BK314 hb; replace BK315 := bk BK315 hb; replace HB := bs HB hb; (try clear hb); (try clear ho0); obtain ⟨Ao79, co79, eo79⟩ := Kd.R_slice HO355.out; subst eo79) | ((with_reducible refine gate_builtin (b := .append) (xs := #[.tmp 56, .tmp 59]) rfl ?_); at_builtin; refine Kd.S_append k26 (w0 := w) w.heap.size rfl (.tmp 56) (.tmp 59) 43 26 (.agg #[(.int .i64 0), (.string ⟨#[]⟩), (.slice none 0 0)]) 48 rfl Try.underlying43 info26 rfl (by decide) (by omega) u8 x8_1 (⟨t351, t352, t353⟩ : S26) [.int .i64 t351, .string t352, .slice Ao79 t353.length co79] (fun k_ => k_ ≠ gb315) (fun k_ => some k_ = (.slice Ao79 t353.length co79 : Value).ownBlock) rfl rfl ?aP (fun k_ hk_ => ((Kd.R_mono (ok' := fun k_ => ((fun k_ => k_ ≠ gb315)) k_ ∧ some k_ ≠ (u8 : Value).ownBlock) (Kd.R_types (Kd.R_apart' (HO355.out) (Kd.S_typed HO_8.out) (by decide)) BK315.out (by decide)) (fun k_ hk => ⟨hk.2, hk.1.2⟩))).1 k_ hk_.symm) ?aF ?aO ?aB ?aS ?aL ?_; (case aP => exact k26_mkM _ _ _ (⟨t351, t352, t353⟩ : S26) (Kd.R_mono (Kd.R_tight rfl (Kd.R_mono (ok' := fun k_ => ((fun k_ => k_ ≠ gb315)) k_ ∧ some k_ ≠ (u8 : Value).ownBlock) (Kd.R_types (Kd.R_apart' (HO355.out) (Kd.S_typed HO_8.out) (by decide)) BK315.out (by decide)) (fun k_ hk => ⟨hk.2, hk.1.2⟩))) (fun _ h_ => h_))); (case aB => exact (bI HB.out)); (case aF => exact (fun k_ hk => Kd.freshB (g := gb315) (o := .cells #[.int .i64 a2_0, .string a2_1, .slice A2_2 l2_2.length c2_2] 26 (0, 0)) (kI BK315.out) k_ hk)); (case aO => exact (sI (Kd.S_mono HO_8.out (fun k_ hk => ⟨hk.1, fun e_ => hk.2 e_⟩)))); (case aS => exact (below_size (bI HB.out))); (case aL => have := LMc74.out; omega); intro v357 w78 ho hb hg hat; rw [← Ny356.out] at ho; have n0_ := bn BK314 hg (Kd.S_ne HO_8.out BK314.out (by decide)); have n1_ := bn BK315 hg (Kd.S_away HO_8.out (fun _ hk => hk.1)); have n2_ := Aside0.mk (hb); have n3_ := Aside0.mk (ho); clear BK314; clear BK315; clear HB; clear HO_8; clear HO355; have BK314 := n0_; have BK315 := n1_; have HB := n2_; have HO358 := n3_; clear n0_ n1_ n2_ n3_; clear ho hb hg hat))
    go_meet
    case rel => exact ⟨_, (y356), H', ⟨y0_19⟩, ⟨by (with_reducible repeat (first | apply Kd.S_alloc | apply Kd.S_drewN | apply Kd.S_drew)); exact HO358.out⟩, ⟨gI BK314.out⟩, ⟨gI BK315.out⟩, ⟨bI HB.out⟩⟩
   case rest =>
    clear HC71
    try clear c1
    try clear c2
    try clear p2
    try clear c3
    try clear p3
    try clear q3
    try clear hx3
    try clear c4
    try clear c5
    try clear c6
    try clear p6
    try clear c7
    try clear c8
    try clear c8b0
    try clear c9
    try clear c9b0
    try clear c14
    try clear c15
    try clear c18
    try clear c20
    try clear c21
    try clear c23
    try clear c26
    try clear c28
    try clear c29
    try clear c30
    try clear c31
    try clear p31
    try clear q31
    try clear hx31
    try clear c33
    try clear c37
    try clear c38
    try clear c39
    try clear c46
    try clear c47
    try clear c48
    try clear c49
    try clear c51
    try clear c55
    try clear c56
    try clear c57
    try clear p64
    try clear c66
    try clear c67
    try clear c68
    try clear c72
    try clear c74
    try clear c75
    try clear hcz16_0
    try clear hcz16_1
    try clear hcz16_2
    try clear hcz22_0
    try clear hcz22_1
    try clear hcz22_2
    try clear hcz24_0
    try clear hcz24_1
    try clear hcz24_2
    try clear hcz32_0
    try clear hcz32_1
    try clear hcz32_2
    try clear hcz34_0
    try clear hcz34_1
    try clear hcz34_2
    try clear hcz40_0
    try clear hcz40_1
    try clear hcz40_2
    try clear hcz43_0
    try clear hcz43_1
    try clear hcz43_2
    try clear hcz50_0
    try clear hcz50_1
    try clear hcz50_2
    try clear hcz52_0
    try clear hcz52_1
    try clear hcz52_2
    try clear hcz58_0
    try clear hcz58_1
    try clear hcz58_2
    try clear hcz60_0
    try clear hcz60_1
    try clear hcz60_2
    try clear hcz64_0
    try clear hcz64_1
    try clear hcz64_2
    try clear hcz69_0
    try clear hcz69_1
    try clear hcz69_2
    try clear hcz76_0
    try clear hcz76_1
    try clear hcz76_2
    try clear hfz16_0
    try clear hfz16_1
    try clear hfz16_2
    try clear hfz22_0
    try clear hfz22_1
    try clear hfz22_2
    try clear hfz24_0
    try clear hfz24_1
    try clear hfz24_2
    try clear hfz32_0
    try clear hfz32_1
    try clear hfz32_2
    try clear hfz34_0
    try clear hfz34_1
    try clear hfz34_2
    try clear hfz40_0
    try clear hfz40_1
    try clear hfz40_2
    try clear hfz43_0
    try clear hfz43_1
    try clear hfz43_2
    try clear hfz50_0
    try clear hfz50_1
    try clear hfz50_2
    try clear hfz52_0
    try clear hfz52_1
    try clear hfz52_2
    try clear hfz58_0
    try clear hfz58_1
    try clear hfz58_2
    try clear hfz60_0
    try clear hfz60_1
    try clear hfz60_2
    try clear hfz64_0
    try clear hfz64_1
    try clear hfz64_2
    try clear hfz69_0
    try clear hfz69_1
    try clear hfz69_2
    try clear hfz76_0
    try clear hfz76_1
    try clear hfz76_2
    try clear hx319_0
    try clear hx319_1
    try clear hx319_2
    try clear p2
    try clear p3
    try clear p319
    try clear q3
    try clear q319
    obtain ⟨kq, x8_70, HA, HJ70, HO_8, BK314, BK315, HB⟩ := hcut; cases kq with
    | zero => exact absurd HA.out (by simp [spec_TableAdd.j2])
    | succ kj70 =>
     have H := HA.out; clear HA
     simp only [spec_TableAdd.j2] at H
     obtain ⟨t359, A800, H⟩ := Option.bind_eq_some_iff.mp H
     try dsimp only at H
     have A80 := Aside0.mk A800; clear A800
     by_cases c81 : t359 = true
     ·
      subst c81
      rw [if_pos rfl] at H
      obtain ⟨t360, A820, H⟩ := Option.bind_eq_some_iff.mp H
      try dsimp only at H
      have A82 := Aside0.mk A820; clear A820
      by_cases c83 : t360 = true
      ·
       subst c83
       rw [if_pos rfl] at H
       simp only [Option.some.injEq, Prod.mk.injEq] at H
       obtain ⟨rfl, rfl⟩ := H; have hnb84 := NB314_315.out; have hnc84 := NB315_314.out; have hcz85_0 := bc0 BK314.out; have hcz85_1 := bc1 BK314.out; have hfz85_0 := blk_frozen BK314.out 0; have hfz85_1 := blk_frozen BK314.out 1; obtain ⟨Ao86, co86, eo86⟩ := Kd.S_slice HO_8.out; subst eo86
       go_wp2_with (first | ((with_reducible refine gate_callee (f := 64) rfl ?_); refine gB (some 63) Try.func64 #[.agg #[.int .i64 a0_0, .int .i64 a0_1], .slice Ao86 x8_70.length co86] ?_; (with_reducible refine (spec_TableOk.calls kj70 a0_0 a0_1 _ _ x8_70 true _ ?side1 ?side2 A80.out).mono ?_); (case side1 => repeat (first | exact (Kd.S_reads' HO_8.out).2.2 | (with_reducible refine Kd.C_alloc ?_ _) | (with_reducible refine Kd.C_drewN ?_ _) | (with_reducible refine Kd.C_drew ?_))); (case side2 => exact (Kd.S_reads' HO_8.out).2.1); rintro e w87 ⟨rfl, hb⟩; refine ⟨_, rfl, ?_⟩; replace HO_8 := sb HO_8 hb; replace BK314 := bk BK314 hb; replace BK315 := bk BK315 hb; replace HB := bs HB hb; (try clear hb); (try clear hb2); (try clear hk); (try clear hi); obtain ⟨hcz88_0, hcz88_1, hfz88_0, hfz88_1⟩ := cs2 BK314; obtain ⟨hcz89_0, hcz89_1, hcz89_2, hfz89_0, hfz89_1, hfz89_2⟩ := cs3 BK315) | (go_at_call 65; (with_reducible refine (spec_PartOk.calls kj70 a0_0 a0_1 a2_0 a2_1 _ _ l2_2 true _ ?side1 ?side2 A82.out).mono ?_); (case side1 => exact ch HR2_2 HB); (case side2 => exact HC2_2.out); rintro e w90 ⟨rfl, hb⟩; replace HO_8 := sb HO_8 hb; replace BK314 := bk BK314 hb; replace BK315 := bk BK315 hb; replace HB := bs HB hb; (try clear hb); (try clear hb2); (try clear hk); (try clear hi)))
       go_ret2
       exact ⟨_, y0_16, by (with_reducible repeat (first | apply Kd.S_alloc | apply Kd.S_drewN | apply Kd.S_drew)); exact Kd.S_mono HO_8.out (fun _ hk => trivial), bI HB.out⟩
      replace c83 := Bool.eq_false_iff.mpr c83; subst c83
      rw [if_neg (show ¬ (false = true) by decide)] at H
      obtain ⟨t361, A910, H⟩ := Option.bind_eq_some_iff.mp H
      try dsimp only at H
      have A91 := Aside0.mk A910; clear A910
      simp only [Option.some.injEq, Prod.mk.injEq] at H
      obtain ⟨rfl, rfl⟩ := H; have hnb92 := NB314_315.out; have hnc92 := NB315_314.out; have hcz93_0 := bc0 BK314.out; have hcz93_1 := bc1 BK314.out; have hfz93_0 := blk_frozen BK314.out 0; have hfz93_1 := blk_frozen BK314.out 1; obtain ⟨Ao94, co94, eo94⟩ := Kd.S_slice HO_8.out; subst eo94
      go_wp2_with (first | ((with_reducible refine gate_callee (f := 64) rfl ?_); refine gB (some 63) Try.func64 #[.agg #[.int .i64 a0_0, .int .i64 a0_1], .slice Ao94 x8_70.length co94] ?_; (with_reducible refine (spec_TableOk.calls kj70 a0_0 a0_1 _ _ x8_70 true _ ?side1 ?side2 A80.out).mono ?_); (case side1 => repeat (first | exact (Kd.S_reads' HO_8.out).2.2 | (with_reducible refine Kd.C_alloc ?_ _) | (with_reducible refine Kd.C_drewN ?_ _) | (with_reducible refine Kd.C_drew ?_))); (case side2 => exact (Kd.S_reads' HO_8.out).2.1); rintro e w95 ⟨rfl, hb⟩; refine ⟨_, rfl, ?_⟩; replace HO_8 := sb HO_8 hb; replace BK314 := bk BK314 hb; replace BK315 := bk BK315 hb; replace HB := bs HB hb; (try clear hb); (try clear hb2); (try clear hk); (try clear hi); obtain ⟨hcz96_0, hcz96_1, hfz96_0, hfz96_1⟩ := cs2 BK314; obtain ⟨hcz97_0, hcz97_1, hcz97_2, hfz97_0, hfz97_1, hfz97_2⟩ := cs3 BK315) | (go_at_call 65; (with_reducible refine (spec_PartOk.calls kj70 a0_0 a0_1 a2_0 a2_1 _ _ l2_2 false _ ?side1 ?side2 A82.out).mono ?_); (case side1 => exact ch HR2_2 HB); (case side2 => exact HC2_2.out); rintro e w98 ⟨rfl, hb⟩; replace HO_8 := sb HO_8 hb; replace BK314 := bk BK314 hb; replace BK315 := bk BK315 hb; replace HB := bs HB hb; (try clear hb); (try clear hb2); (try clear hk); (try clear hi)) | ((with_reducible refine gate_callee (f := 66) rfl ?_); refine gB (some 72) Try.func66 #[.slice A1 l1.length c1] ?_; (with_reducible refine (spec_l10Table.calls kj70 _ _ l1 t361 _ ?side1 ?side2 A91.out).mono ?_); (case side1 => exact ch HR1 HB); (case side2 => exact HC1.out); rintro e w99 ⟨v362, rfl, ho0, hb⟩; refine ⟨_, rfl, ?_⟩; have HO363 := Aside0.mk (Kd.S_lower (Kd.S_newB (Kd.S_new' ho0 (Kd.S_lt (sI HO_8.out))) (g := gb315) (o := .cells #[.int .i64 a2_0, .string a2_1, .slice A2_2 l2_2.length c2_2] 26 (0, 0)) (kI BK315.out)) (below_size (bI HB.out))); replace HO_8 := Aside0.mk (Kd.S_elder' (sI HO_8.out) (Kd.S_base ho0) hb); replace BK314 := bk BK314 hb; replace BK315 := bk BK315 hb; replace HB := bs HB hb; (try clear hb)))
      go_ret2
      exact ⟨_, y0_16, by (with_reducible repeat (first | apply Kd.S_alloc | apply Kd.S_drewN | apply Kd.S_drew)); exact Kd.S_mono HO363.out (fun _ hk => trivial), bI HB.out⟩
     replace c81 := Bool.eq_false_iff.mpr c81; subst c81
     rw [if_neg (show ¬ (false = true) by decide)] at H
     obtain ⟨t364, A1000, H⟩ := Option.bind_eq_some_iff.mp H
     try dsimp only at H
     have A100 := Aside0.mk A1000; clear A1000
     simp only [Option.some.injEq, Prod.mk.injEq] at H
     obtain ⟨rfl, rfl⟩ := H; have hnb101 := NB314_315.out; have hnc101 := NB315_314.out; have hcz102_0 := bc0 BK314.out; have hcz102_1 := bc1 BK314.out; have hfz102_0 := blk_frozen BK314.out 0; have hfz102_1 := blk_frozen BK314.out 1; obtain ⟨Ao103, co103, eo103⟩ := Kd.S_slice HO_8.out; subst eo103
     go_wp2_with (first | ((with_reducible refine gate_callee (f := 64) rfl ?_); refine gB (some 63) Try.func64 #[.agg #[.int .i64 a0_0, .int .i64 a0_1], .slice Ao103 x8_70.length co103] ?_; (with_reducible refine (spec_TableOk.calls kj70 a0_0 a0_1 _ _ x8_70 false _ ?side1 ?side2 A80.out).mono ?_); (case side1 => repeat (first | exact (Kd.S_reads' HO_8.out).2.2 | (with_reducible refine Kd.C_alloc ?_ _) | (with_reducible refine Kd.C_drewN ?_ _) | (with_reducible refine Kd.C_drew ?_))); (case side2 => exact (Kd.S_reads' HO_8.out).2.1); rintro e w104 ⟨rfl, hb⟩; refine ⟨_, rfl, ?_⟩; replace HO_8 := sb HO_8 hb; replace BK314 := bk BK314 hb; replace BK315 := bk BK315 hb; replace HB := bs HB hb; (try clear hb); (try clear hb2); (try clear hk); (try clear hi)) | ((with_reducible refine gate_callee (f := 66) rfl ?_); refine gB (some 72) Try.func66 #[.slice A1 l1.length c1] ?_; (with_reducible refine (spec_l10Table.calls kj70 _ _ l1 t364 _ ?side1 ?side2 A100.out).mono ?_); (case side1 => exact ch HR1 HB); (case side2 => exact HC1.out); rintro e w105 ⟨v365, rfl, ho0, hb⟩; refine ⟨_, rfl, ?_⟩; have HO366 := Aside0.mk (Kd.S_lower (Kd.S_newB (Kd.S_new' ho0 (Kd.S_lt (sI HO_8.out))) (g := gb315) (o := .cells #[.int .i64 a2_0, .string a2_1, .slice A2_2 l2_2.length c2_2] 26 (0, 0)) (kI BK315.out)) (below_size (bI HB.out))); replace HO_8 := Aside0.mk (Kd.S_elder' (sI HO_8.out) (Kd.S_base ho0) hb); replace BK314 := bk BK314 hb; replace BK315 := bk BK315 hb; replace HB := bs HB hb; (try clear hb)))
     go_ret2
     exact ⟨_, y0_16, by (with_reducible repeat (first | apply Kd.S_alloc | apply Kd.S_drewN | apply Kd.S_drew)); exact Kd.S_mono HO366.out (fun _ hk => trivial), bI HB.out⟩

/-! ### spec_l1Once: function 57 -/
def spec_l1Once.f (s0_0 : List Int) (s0_1 : Int) (s0_2 : Int) (a1 : Int) : Option (Bool × Int × Int) := (spec_l1Below.f s0_0 s0_1 s0_2 a1).bind fun bt367 => (some ((bt367.1 == 0), bt367.2.1, bt367.2.2))
set_option maxHeartbeats 8000000 in
set_option maxRecDepth 100000 in
theorem spec_l1Once.calls (g : Nat) (s0_0 : List Int) (s0_1 : Int) (s0_2 : Int) (a1 : Int) (r1 : Bool) (r2 : Int) (r3 : Int) (w0 w : World) (hI : IsS68 w0 w g s0_0 s0_1 s0_2) (hB : Below w0.heap.size w0 w) (h : spec_l1Once.f s0_0 s0_1 s0_2 a1 = some (r1, r2, r3)) :
  Calls Try.prog 57 #[.pointer (some ⟨g, 0, none⟩), .int .i64 a1] w fun e w' => e = .returned (.bool r1) ∧ IsS68 w0 w' g s0_0 r2 r3 ∧ Below w0.heap.size w0 w' ∧ KeepBut w w' g none := by
 have HI0 := Aside0.mk hI; have HK := Aside0.mk (KeepBut.refl w g none); have HL := Aside0.mk hB.size; clear hI; have HW0 := Aside0.mk hB.size; have HB := Aside0.mk hB; clear hB
 have H : ((spec_l1Below.f s0_0 s0_1 s0_2 a1).bind fun bt367 => (some ((bt367.1 == 0), bt367.2.1, bt367.2.2))) = some (r1, r2, r3) := h
 clear h; obtain ⟨⟨t367, t368, t369⟩, A30, H⟩ := Option.bind_eq_some_iff.mp H
 try dsimp only at H
 have A3 := Aside0.mk A30; clear A30
 simp only [Option.some.injEq, Prod.mk.injEq] at H
 obtain ⟨rfl, rfl, rfl⟩ := H
 go_enter Try.func57, Try.ntmps57
 go_wp2_with (first | ((with_reducible refine gate_callee (f := 44) rfl ?_); refine gB (some 7) Try.func44 #[.pointer (some ⟨g, 0, none⟩), .int .i64 a1] ?_; (with_reducible refine (spec_l1Below.calls g s0_0 s0_1 s0_2 a1 t367 t368 t369 w0 _ ?side1 ?side2 A3.out).mono ?_); (case side1 => repeat (first | (with_reducible first | exact HI0.out | apply IsS68.alloc | apply IsS68.drewN | apply IsS68.drew | apply IsS68.set_1 | apply IsS68.set_2) | exact HI0.out)); (case side2 => repeat (first | (with_reducible first | exact HB.out | apply below_alloc | apply pw_below_drewN | apply below_drew1 | refine below_set ?_ (IsS68.ge HI0.out)) | exact HB.out)); rintro e w4 ⟨rfl, hi, hb, hk⟩; refine ⟨_, rfl, ?_⟩; replace HK := kt HK hk; replace HB := Aside0.mk (hb); replace HI0 := Aside0.mk (hi); (try clear hb); (try clear hb2); (try clear hk); (try clear hi)))
 go_ret
 exact ⟨y0_16, y0_9, y0_8, hI HK.out⟩

/-! ### spec_l1PickInt: function 50 -/
def spec_l1PickInt.f (s0_0 : List Int) (s0_1 : Int) (s0_2 : Int) (l1 : List Int) : Option (Int × Int × Int) := (spec_l1Below.f s0_0 s0_1 s0_2 (l1.length : Int)).bind fun bt370 => (if 0 ≤ bt370.1 then (if bt370.1 < (l1.length : Int) then (some (rd l1 bt370.1, bt370.2.1, bt370.2.2)) else (none)) else (none))
set_option maxHeartbeats 8000000 in
set_option maxRecDepth 100000 in
theorem spec_l1PickInt.calls (g : Nat) (s0_0 : List Int) (s0_1 : Int) (s0_2 : Int) (A1 : Option Addr) (c1 : Nat) (l1 : List Int) (r1 : Int) (r2 : Int) (r3 : Int) (w0 w : World) (hI : IsS68 w0 w g s0_0 s0_1 s0_2) (hB : Below w0.heap.size w0 w) (hr1 : Kd.C (Kd.int .i64) w A1 l1.length l1) (hc1 : l1.length ≤ c1) (hf1 : ∀ ad, A1 = some ad → 0 < l1.length → ad.block ≠ g) (h : spec_l1PickInt.f s0_0 s0_1 s0_2 l1 = some (r1, r2, r3)) :
  Calls Try.prog 50 #[.pointer (some ⟨g, 0, none⟩), .slice A1 l1.length c1] w fun e w' => e = .returned (.int .i64 r1) ∧ IsS68 w0 w' g s0_0 r2 r3 ∧ Below w0.heap.size w0 w' ∧ KeepBut w w' g none := by
 have HR1 := Aside0.mk hr1; have HC1 := Aside0.mk hc1; clear hr1 hc1; have HI0 := Aside0.mk hI; have HK := Aside0.mk (KeepBut.refl w g none); have HL := Aside0.mk hB.size; clear hI; have HW0 := Aside0.mk hB.size; have HB := Aside0.mk hB; clear hB
 have H : ((spec_l1Below.f s0_0 s0_1 s0_2 (l1.length : Int)).bind fun bt370 => (if 0 ≤ bt370.1 then (if bt370.1 < (l1.length : Int) then (some (rd l1 bt370.1, bt370.2.1, bt370.2.2)) else (none)) else (none))) = some (r1, r2, r3) := h
 clear h; obtain ⟨⟨t370, t371, t372⟩, A30, H⟩ := Option.bind_eq_some_iff.mp H
 try dsimp only at H
 have A3 := Aside0.mk A30; clear A30
 by_cases c4 : 0 ≤ t370
 ·
  rw [if_pos c4] at H
  have c4b0 : decide (0 ≤ t370) = true := decide_eq_true c4; clear c4
  by_cases c5 : t370 < (l1.length : Int)
  rotate_left
  ·
   rw [if_neg c5] at H
   exact absurd H (by simp)
  rw [if_pos c5] at H
  have c5b0 : decide (t370 < (l1.length : Int)) = true := decide_eq_true c5; clear c5
  simp only [Option.some.injEq, Prod.mk.injEq] at H
  obtain ⟨rfl, rfl, rfl⟩ := H
  go_enter Try.func50, Try.ntmps50
  go_wp2_with (first | ((with_reducible refine gate_callee (f := 44) rfl ?_); refine gB (some 9) Try.func44 #[.pointer (some ⟨g, 0, none⟩), .int .i64 (l1.length : Int)] ?_; (with_reducible refine (spec_l1Below.calls g s0_0 s0_1 s0_2 (l1.length : Int) t370 t371 t372 w0 _ ?side1 ?side2 A3.out).mono ?_); (case side1 => repeat (first | (with_reducible first | exact HI0.out | apply IsS68.alloc | apply IsS68.drewN | apply IsS68.drew | apply IsS68.set_1 | apply IsS68.set_2) | exact HI0.out)); (case side2 => repeat (first | (with_reducible first | exact HB.out | apply below_alloc | apply pw_below_drewN | apply below_drew1 | refine below_set ?_ (IsS68.ge HI0.out)) | exact HB.out)); rintro e w6 ⟨rfl, hi, hb, hk⟩; refine ⟨_, rfl, ?_⟩; replace HK := kt HK hk; replace HB := Aside0.mk (hb); replace HI0 := Aside0.mk (hi); (try clear hb); (try clear hb2); (try clear hk); (try clear hi); have p373 : 0 ≤ (t370 : Int) := of_decide_eq_true y0_20; have q373 : t370 < (l1.length : Int) := of_decide_eq_true y0_20; obtain ⟨ad373, e373, hx373_0⟩ := Kd.at_int HR1.out t370 p373 q373; cases e373; replace hx373_0 := keep_cell HK.out hx373_0 (by first | (rw [add_block]; exact hf1 _ rfl (by omega)) | exact hf1 _ rfl (by omega) | exact hf1 ad373 rfl (by omega)); replace p373 := eq_true p373; replace q373 := eq_true q373))
  go_ret
  exact ⟨y0_16, y0_9, y0_8, hI HK.out⟩
 rw [if_neg c4] at H
 exact absurd H (by simp)

end Go.Proofs.Ytemjmefacifdeaa.PFnDropsBelow
