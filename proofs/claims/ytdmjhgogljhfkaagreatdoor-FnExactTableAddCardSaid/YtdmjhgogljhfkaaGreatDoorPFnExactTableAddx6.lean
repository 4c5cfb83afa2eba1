-- By a program of this session, out of the translation (the print of the kit, with turns of its own). Lean checks it.
import Derived.Test.YtdmjhgogljhfkaaGreatDoorPFnExactTableAddx0
import Derived.Test.YtdmjhgogljhfkaaGreatDoorPFnExactTableAddx2
import Derived.Test.YtdmjhgogljhfkaaGreatDoorPFnExactTableAddx4
import Derived.Test.YtdmjhgogljhfkaaGreatDoorPFnExactTableAddx5
namespace Go.Proofs.YtdmjhgogljhfkaaGreatDoor.PFnExactTableAdd
open Go.RowKit Go.Proofs.YtdmjhgogljhfkaaGreatDoorW.PrintWords Go.Proofs.YtdmjhgogljhfkaaGreatDoorW.PrintLast Go.Proofs.YtdmjhgogljhfkaaGreatDoorW.PrintMore
attribute [local go_sem] max2_int min2_int max_two min_two max_three min_three max_four min_four   -- for this text's walks alone
attribute [local go_sem] cell_in frozen_in cell_g cell_p
set_option synthInstance.maxSize 1000000
set_option synthInstance.maxHeartbeats 2000000
set_option linter.unusedVariables false
set_option linter.unusedSimpArgs false

/-! ### spec_l10Copy: function 78 -/
def spec_l10Copy.f (a0_0 : Int) (a0_1 : ByteArray) (l0_2 : List Int) : Option (Int × ByteArray × List Int) := (some (([] : List Int) : List Int)).bind fun y284 => (if y284.length + l0_2.length < 17592186044416 then (some (a0_0, a0_1, (y284 ++ l0_2))) else (none))
set_option maxHeartbeats 8000000 in
set_option maxRecDepth 100000 in
theorem spec_l10Copy.calls (a0_0 : Int) (a0_1 : ByteArray) (A0_2 : Option Addr) (c0_2 : Nat) (l0_2 : List Int) (r1 : Int) (r2 : ByteArray) (r3 : List Int) (w : World) (hr0_2 : Kd.C (Kd.int .i64) w A0_2 l0_2.length l0_2) (hc0_2 : l0_2.length ≤ c0_2) (h : spec_l10Copy.f a0_0 a0_1 l0_2 = some (r1, r2, r3)) :
  Calls Tryz.prog 78 #[.agg #[.int .i64 a0_0, .string a0_1, .slice A0_2 l0_2.length c0_2]] w fun e w' => ∃ v2_ : Value, e = .returned (.agg #[.int .i64 r1, .string r2, v2_]) ∧ Kd.R (Kd.int .i64) 3 w' w.heap.size (fun _ => True) v2_ r3 ∧ Below w.heap.size w w' := by
 have hu48 := Tryz.underlying48; have HR0_2 := Aside0.mk hr0_2; have HC0_2 := Aside0.mk hc0_2; clear hr0_2 hc0_2; have HB := Aside0.mk (Below.refl w.heap.size w)
 have H := h; unfold spec_l10Copy.f at H
 clear h; obtain ⟨y284, hy284⟩ : ∃ y_ : List Int, y_ = (([] : List Int)) := ⟨_, rfl⟩
 replace H : (if y284.length + l0_2.length < 17592186044416 then (some (a0_0, a0_1, (y284 ++ l0_2))) else (none)) = some (r1, r2, r3) := by first | (rw [hy284]; with_reducible exact H) | (have H2_ := (Option.bind_some _ _).symm.trans H; rw [hy284]; with_reducible exact H2_) | (have H2_ := (Option.bind_some _ _).symm.trans H; with_reducible exact H2_) | with_reducible exact H | (rw [hy284]; exact H) | exact H
 have Ny284 := Aside0.mk hy284; clear hy284
 by_cases c2 : y284.length + l0_2.length < 17592186044416
 ·
  rw [if_pos c2] at H
  have LMc2 := Aside0.mk c2; clear c2; obtain ⟨y287, hy287⟩ : ∃ y_ : List Int, y_ = (y284 ++ l0_2) := ⟨_, rfl⟩
  replace H : (some (a0_0, a0_1, y287)) = some (r1, r2, r3) := by first | (rw [hy287]; with_reducible exact H) | (have H2_ := (Option.bind_some _ _).symm.trans H; rw [hy287]; with_reducible exact H2_) | (have H2_ := (Option.bind_some _ _).symm.trans H; with_reducible exact H2_) | with_reducible exact H | (rw [hy287]; exact H) | exact H
  have Ny287 := Aside0.mk hy287; clear hy287
  simp only [Option.some.injEq, Prod.mk.injEq] at H
  obtain ⟨rfl, rfl, rfl⟩ := H
  go_enter Tryz.func78, Tryz.ntmps78
  go_wp2_with (first | ((with_reducible refine gd 1 ?_); refine bL 1 #[.int .i64 a0_0, .string a0_1, .slice A0_2 l0_2.length c0_2] 48 ?_; intro gb282 w3 _ _ _) | ((with_reducible refine gd 2 ?_); refine bL 2 #[.int .i64 0, .string (⟨#[]⟩ : ByteArray), .slice none 0 0] 48 ?_; intro gb283 w4 _ _ _) | ((with_reducible refine gate_dst (N := 3) rfl ?_); refine lL 3 3 (Kd.int .i64) rfl Ny284 ?_; intro Ao285 co285 w5 _ HO286) | ((with_reducible refine gate_builtin (b := .append) (xs := #[.tmp 3, .tmp 5]) rfl ?_); at_builtin; refine gR (Kd.int .i64) (.tmp 3) (.tmp 5) 25 3 (.int .i64 0) 8 w4 Ny287 HO286 (pC HR0_2) (by have := LMc2.out; omega) ?_ (ht := Tryz.underlying25) (hinfo := info3); intro Ao288 co288 w6 _ _ HO289))
  refine bodyPost_ret (results_cell_row rfl _ _ gb283 48 #[.int .i64 a0_0, .string a0_1, .slice Ao288 y287.length co288] (0, 0) _ rfl xB Tryz.underlying48 rfl (by kernel_rfl)) rfl ?_
  exact ⟨_, y0_13, rR HO289, UpW.out⟩
 rw [if_neg c2] at H
 exact absurd H (by simp)

/-! ### spec_l10Table: function 80 -/
def spec_l10Table.l0 : Nat → List (S48) → List (S48) → Int → Option ((List (S48)))
 | 0, _, _, _ => none
 | k + 1, x0, x3, x4 => if x4 < (x0.length : Int) then (if 0 ≤ x4 then ((spec_l10Copy.f ((rd_T48 x0 x4).f0) ((rd_T48 x0 x4).f1) ((rd_T48 x0 x4).f2)).bind fun bt294 => (if x3.length < 2932031007402 then (spec_l10Table.l0 k x0 (x3 ++ [(⟨bt294.1, bt294.2.1, bt294.2.2⟩ : S48)]) (wrap64 (x4 + 1))) else (none))) else (none)) else (some x3)
def spec_l10Table.f (k : Nat) (l0 : List (S48)) : Option ((List (S48))) := spec_l10Table.l0 k l0 (([] : List (S48))) 0
theorem spec_l10Table.mono_l : ∀ k, (∀ y0 y1 y2, LeO (spec_l10Table.l0 k y0 y1 y2) (spec_l10Table.l0 (k + 1) y0 y1 y2))
 | 0 => fun _ _ _ r h => by simp [spec_l10Table.l0] at h
 | k + 1 => by
  have ih0 := spec_l10Table.mono_l k
  intro y0 y1 y2
  unfold spec_l10Table.l0
  repeat' first | (with_reducible exact ih0 _ _ _) | (with_reducible exact LeO.refl _) | (with_reducible exact LeO.none _) | (with_reducible refine LeO.ite ?_ ?_) | (with_reducible refine LeO.bind ?_ (fun _ => ?_))
theorem spec_l10Table.mono : ∀ a0 k, LeO (spec_l10Table.f k a0) (spec_l10Table.f (k + 1) a0) := by
 intro a0 k
 have ih0 := spec_l10Table.mono_l k
 unfold spec_l10Table.f
 repeat' first | (with_reducible exact ih0 _ _ _) | (with_reducible exact LeO.refl _) | (with_reducible exact LeO.none _) | (with_reducible refine LeO.ite ?_ ?_) | (with_reducible refine LeO.bind ?_ (fun _ => ?_))
set_option maxHeartbeats 8000000 in
set_option maxRecDepth 100000 in
theorem spec_l10Table.calls (k : Nat) (A0 : Option Addr) (c0 : Nat) (l0 : List (S48)) (r : List (S48)) (w : World) (hr0 : Kd.C k48 w A0 l0.length l0) (hc0 : l0.length ≤ c0) (h : spec_l10Table.f k l0 = some r) :
  Calls Tryz.prog 80 #[.slice A0 l0.length c0] w fun e w' => ∃ v0_ : Value, e = .returned (v0_) ∧ Kd.S k48 48 w' w.heap.size (fun _ => True) v0_ r ∧ Below w.heap.size w w' := by
 have hu48 := Tryz.underlying48; have HR0 := Aside0.mk hr0; have HC0 := Aside0.mk hc0; clear hr0 hc0; have HB := Aside0.mk (Below.refl w.heap.size w); have H := h; unfold spec_l10Table.f at H; clear h; obtain ⟨y290, hy290⟩ : ∃ y_ : List (S48), y_ = (([] : List (S48))) := ⟨_, rfl⟩
 replace H : (spec_l10Table.l0 k l0 y290 0) = some r := by first | (rw [hy290]; with_reducible exact H) | (have H2_ := (Option.bind_some _ _).symm.trans H; rw [hy290]; with_reducible exact H2_) | (have H2_ := (Option.bind_some _ _).symm.trans H; with_reducible exact H2_) | with_reducible exact H | (rw [hy290]; exact H) | exact H
 have Ny290 := Aside0.mk hy290; clear hy290; have H' := Aside0.mk H; clear H
 go_enter Tryz.func80, Tryz.ntmps80
 go_wp2_with (first | ((with_reducible refine gate_dst (N := 5) rfl ?_); refine Kd.S_lit k48 _ 48 ?hg (N := 5) ?hd (xs := ([] : List (S48))) (inner := []) (ok := fun _ => True) (okp := fun _ => True) ?hr ?hp (fun _ hk => hk) trivial (Below.refl _ _) (Nat.le_refl _) (by simp) ?_; (case hd => rfl); (case hg => rfl); (case hr => first | (go_simp; done) | (go_simp; rfl)); (case hp => exact (Reps.none _ _)); intro v291 w2 ho3 hb hg_ hnew_; clear hg_ hnew_; (first | rw [← Ny290.out] at ho3 | (simp only [Int.reduceToNat] at ho3; rw [← Ny290.out] at ho3)); have HO292 := Aside0.mk (Kd.S_lower ho3 (below_size (bI HB.out))); replace HB := bs HB hb; clear hb ho3))
 go_loopg [3, 4] k (fun kq v3 v4 w' => ∃ (x3_1 : List (S48)) (x4_1 : Int), v4 = .int .i64 x4_1 ∧ Aside0 (spec_l10Table.l0 kq l0 x3_1 x4_1 = some r) ∧ Aside0 (kq ≤ k) ∧ Aside0 (Kd.S k48 48 w' w.heap.size (fun _ => True) v3 x3_1) ∧ Aside0 (Below w.heap.size w w'))
 case atStart => exact ⟨(y290), (0), y0_13, H', ⟨Nat.le_refl _⟩, ⟨by (with_reducible repeat (first | apply Kd.S_alloc | apply Kd.S_drewN | apply Kd.S_drew)); exact HO292.out⟩, ⟨bI HB.out⟩⟩
 case round =>
  clear H'
  try clear p2
  obtain ⟨x3_1, x4_1, rfl, HA, HK1, HO_3, HB⟩ := hrel; cases gk with
  | zero => exact absurd HA.out (by simp [spec_l10Table.l0])
  | succ k1 =>
   have H := HA.out; clear HA
   simp only [spec_l10Table.l0] at H
   by_cases c4 : x4_1 < (l0.length : Int)
   ·
    rw [if_pos c4] at H
    have c4b0 : decide (x4_1 < (l0.length : Int)) = true := decide_eq_true c4; clear c4
    by_cases c5 : 0 ≤ x4_1
    rotate_left
    ·
     rw [if_neg c5] at H
     exact absurd H (by simp)
    rw [if_pos c5] at H
    have c5b0 : decide (0 ≤ x4_1) = true := decide_eq_true c5; clear c5; obtain ⟨⟨t294, t295, t296⟩, A6, H⟩ := oB H; (try dsimp only at H)
    by_cases c7 : x3_1.length < 2932031007402
    rotate_left
    ·
     rw [if_neg c7] at H
     exact absurd H (by simp)
    rw [if_pos c7] at H
    have LMc7 := Aside0.mk c7; clear c7; obtain ⟨y299, hy299⟩ : ∃ y_ : List (S48), y_ = (x3_1 ++ [(⟨t294, t295, t296⟩ : S48)]) := ⟨_, rfl⟩
    replace H : (spec_l10Table.l0 k1 l0 y299 (wrap64 (x4_1 + 1))) = some r := by first | (rw [hy299]; with_reducible exact H) | (have H2_ := (Option.bind_some _ _).symm.trans H; rw [hy299]; with_reducible exact H2_) | (have H2_ := (Option.bind_some _ _).symm.trans H; with_reducible exact H2_) | with_reducible exact H | (rw [hy299]; exact H) | exact H
    have Ny299 := Aside0.mk hy299; clear hy299; have H' := Aside0.mk H; clear H; have p293 : 0 ≤ (x4_1 : Int) := of_decide_eq_true y0_12; have q293 : x4_1 < (l0.length : Int) := of_decide_eq_true y0_12; obtain ⟨ad293, A293_2, c293_2, e293, hx293_0, hx293_1, hx293_2, hl293_2, hi293_2⟩ := at_T48 HR0.out x4_1 p293 q293; cases e293; replace hx293_0 := bx HB hx293_0; replace hx293_1 := bx HB hx293_1; replace hx293_2 := bx HB hx293_2; have HR293_2 := Aside0.mk hi293_2; have HC293_2 := Aside0.mk hl293_2; clear hi293_2 hl293_2; replace p293 := eq_true p293; replace q293 := eq_true q293
    go_wp2_with (first | ((with_reducible refine gate_callee (f := 78) rfl ?_); refine gB (some 17) Tryz.func78 #[.agg #[.int .i64 ((rd_T48 l0 x4_1).f0), .string ((rd_T48 l0 x4_1).f1), .slice A293_2 ((rd_T48 l0 x4_1).f2).length c293_2]] ?_; (with_reducible refine (spec_l10Copy.calls ((rd_T48 l0 x4_1).f0) ((rd_T48 l0 x4_1).f1) _ _ ((rd_T48 l0 x4_1).f2) t294 t295 t296 _ ?side1 ?side2 A6.out).mono ?_); (case side1 => exact ch HR293_2 HB); (case side2 => exact HC293_2.out); rintro e w8 ⟨v297, rfl, ho0, hb⟩; refine ⟨_, rfl, ?_⟩; replace HO_3 := Aside0.mk (Kd.S_elder' (sI HO_3.out) (Kd.R_base ho0) hb); have HO298 := Aside0.mk (Kd.R_lower ho0 (below_size (bI HB.out))); replace HB := bs HB hb; (try clear hb); (try clear ho0); obtain ⟨Ao10, co10, eo10⟩ := Kd.R_slice HO298.out; subst eo10) | ((with_reducible refine gate_builtin (b := .append) (xs := #[.tmp 12, .tmp 18]) rfl ?_); at_builtin; refine Kd.S_append k48 (w0 := w) w.heap.size rfl (.tmp 12) (.tmp 18) 44 48 (.agg #[(.int .i64 0), (.string ⟨#[]⟩), (.slice none 0 0)]) 48 rfl Tryz.underlying44 info48 rfl (by decide) (by omega) u3 x3_1 (⟨t294, t295, t296⟩ : S48) [.int .i64 t294, .string t295, .slice Ao10 t296.length co10] (fun _ => True) (fun k_ => some k_ = (.slice Ao10 t296.length co10 : Value).ownBlock) rfl rfl ?aP (fun k_ hk_ => ((Kd.R_mono (ok' := fun k_ => ((fun _ => True)) k_ ∧ some k_ ≠ (u3 : Value).ownBlock) (Kd.R_apart' (HO298.out) (Kd.S_typed HO_3.out) (by decide)) (fun k_ hk => ⟨trivial, hk.2⟩))).1 k_ hk_.symm) ?aF ?aO ?aB ?aS ?aL ?_; (case aP => exact k48_mkM _ _ _ (⟨t294, t295, t296⟩ : S48) (Kd.R_mono (Kd.R_tight rfl (Kd.R_mono (ok' := fun k_ => ((fun _ => True)) k_ ∧ some k_ ≠ (u3 : Value).ownBlock) (Kd.R_apart' (HO298.out) (Kd.S_typed HO_3.out) (by decide)) (fun k_ hk => ⟨trivial, hk.2⟩))) (fun _ h_ => h_))); (case aB => exact (bI HB.out)); (case aF => exact (fun _ _ => trivial)); (case aO => exact (sI (Kd.S_mono HO_3.out (fun k_ hk => ⟨trivial, fun e_ => hk.2 e_⟩)))); (case aS => exact (below_size (bI HB.out))); (case aL => have := LMc7.out; omega); intro v300 w9 ho hb hg hat; rw [← Ny299.out] at ho; have n0_ := Aside0.mk (hb); have n1_ := Aside0.mk (ho); clear HB; clear HO_3; clear HO298; have HB := n0_; have HO301 := n1_; clear n0_ n1_; clear ho hb hg hat))
    go_roundg k1
    case measure => have := HK1.out; omega
    case rel => exact ⟨(y299), (wrap64 (x4_1 + 1)), y0_13, H', ⟨y0_16⟩, ⟨by (with_reducible repeat (first | apply Kd.S_alloc | apply Kd.S_drewN | apply Kd.S_drew)); exact HO301.out⟩, ⟨bI HB.out⟩⟩
   rw [if_neg c4] at H
   have c4b0 : decide (x4_1 < (l0.length : Int)) = false := decide_eq_false c4; clear c4; obtain rfl := Option.some.inj H
   go_wp2
   go_ret
   exact ⟨_, y0_7, y0_6, bI HB.out⟩

/-! ### spec_TableAdd: function 18 -/
mutual
def spec_TableAdd.l0 : Nat → List (S48) → List (S48) → Bool → Int → Int → Int → Int → ByteArray → List Int → Option ((List (S48)) × Bool)
 | 0, _, _, _, _, _, _, _, _, _ => none
 | k + 1, x1, x8, x9, x10, x303000, x303001, x304000, x304001, x304002 => if x10 < (x1.length : Int) then (if 0 ≤ x10 then ((spec_l10Copy.f ((rd_T48 x1 x10).f0) ((rd_T48 x1 x10).f1) ((rd_T48 x1 x10).f2)).bind fun bt308 => (if x9 = true then (spec_TableAdd.j1 k x1 x8 x9 x10 false x303000 x303001 x304000 x304001 x304002 bt308.1 bt308.2.1 bt308.2.2) else ((spec_l10Before.f bt308.1 bt308.2.1 bt308.2.2 x304000 x304001 x304002).bind fun t314 => (spec_TableAdd.j1 k x1 x8 x9 x10 (!t314) x303000 x303001 x304000 x304001 x304002 bt308.1 bt308.2.1 bt308.2.2)))) else (none)) else (if x9 = true then (spec_TableAdd.j2 k x1 x8 x303000 x303001 x304000 x304001 x304002) else ((spec_l10Copy.f x304000 x304001 x304002).bind fun bt339 => (if x8.length < 2932031007402 then (spec_TableAdd.j2 k x1 (x8 ++ [(⟨bt339.1, bt339.2.1, bt339.2.2⟩ : S48)]) x303000 x303001 x304000 x304001 x304002) else (none))))
def spec_TableAdd.j1 : Nat → List (S48) → List (S48) → Bool → Int → Bool → Int → Int → Int → ByteArray → List Int → Int → ByteArray → List Int → Option ((List (S48)) × Bool)
 | 0, _, _, _, _, _, _, _, _, _, _, _, _, _ => none
 | k + 1, x1, x8, x9, x10, x33, x303000, x303001, x304000, x304001, x304002, x314000, x314001, x314002 => if x33 = true then ((spec_PartJoin.f k x314000 x314001 x314002 x304000 x304001 x304002).bind fun bt315 => (if bt315.2.2.2 = true then (if x8.length < 2932031007402 then (spec_TableAdd.l0 k x1 (x8 ++ [(⟨bt315.1, bt315.2.1, bt315.2.2.1⟩ : S48)]) true (wrap64 (x10 + 1)) x303000 x303001 x304000 x304001 x304002) else (none)) else ((spec_l10Copy.f x304000 x304001 x304002).bind fun bt325 => (if x8.length < 2932031007402 then ((some (x8 ++ [(⟨bt325.1, bt325.2.1, bt325.2.2⟩ : S48)] : List (S48))).bind fun y330 => (if y330.length < 2932031007402 then (spec_TableAdd.l0 k x1 (y330 ++ [(⟨x314000, x314001, x314002⟩ : S48)]) true (wrap64 (x10 + 1)) x303000 x303001 x304000 x304001 x304002) else (none))) else (none))))) else (if x8.length < 2932031007402 then (spec_TableAdd.l0 k x1 (x8 ++ [(⟨x314000, x314001, x314002⟩ : S48)]) x9 (wrap64 (x10 + 1)) x303000 x303001 x304000 x304001 x304002) else (none))
def spec_TableAdd.j2 : Nat → List (S48) → List (S48) → Int → Int → Int → ByteArray → List Int → Option ((List (S48)) × Bool)
 | 0, _, _, _, _, _, _, _ => none
 | k + 1, x1, x8, x303000, x303001, x304000, x304001, x304002 => (spec_TableOk.f k x303000 x303001 x8).bind fun t347 => (if t347 = true then ((spec_PartOk.f k x303000 x303001 x304000 x304001 x304002).bind fun t348 => (if t348 = true then (some (x8, true)) else ((spec_l10Table.f k x1).bind fun t349 => (some (t349, false))))) else ((spec_l10Table.f k x1).bind fun t352 => (some (t352, false))))
end
def spec_TableAdd.f (k : Nat) (a0_0 : Int) (a0_1 : Int) (l1 : List (S48)) (a2_0 : Int) (a2_1 : ByteArray) (l2_2 : List Int) : Option ((List (S48)) × Bool) := spec_TableAdd.l0 k l1 (([] : List (S48))) false 0 a0_0 a0_1 a2_0 a2_1 l2_2
theorem spec_TableAdd.mono_l : ∀ k, (∀ y0 y1 y2 y3 y4 y5 y6 y7 y8, LeO (spec_TableAdd.l0 k y0 y1 y2 y3 y4 y5 y6 y7 y8) (spec_TableAdd.l0 (k + 1) y0 y1 y2 y3 y4 y5 y6 y7 y8)) ∧ (∀ y0 y1 y2 y3 y4 y5 y6 y7 y8 y9 y10 y11 y12, LeO (spec_TableAdd.j1 k y0 y1 y2 y3 y4 y5 y6 y7 y8 y9 y10 y11 y12) (spec_TableAdd.j1 (k + 1) y0 y1 y2 y3 y4 y5 y6 y7 y8 y9 y10 y11 y12)) ∧ (∀ y0 y1 y2 y3 y4 y5 y6, LeO (spec_TableAdd.j2 k y0 y1 y2 y3 y4 y5 y6) (spec_TableAdd.j2 (k + 1) y0 y1 y2 y3 y4 y5 y6))
 | 0 => ⟨fun _ _ _ _ _ _ _ _ _ r h => by simp [spec_TableAdd.l0] at h, fun _ _ _ _ _ _ _ _ _ _ _ _ _ r h => by simp [spec_TableAdd.j1] at h, fun _ _ _ _ _ _ _ r h => by simp [spec_TableAdd.j2] at h⟩
 | k + 1 => by
  obtain ⟨ih0, ih1, ih2⟩ := spec_TableAdd.mono_l k
  refine ⟨?_, ?_, ?_⟩
  ·
   intro y0 y1 y2 y3 y4 y5 y6 y7 y8
   unfold spec_TableAdd.l0
   repeat' first | (with_reducible exact ih0 _ _ _ _ _ _ _ _ _) | (with_reducible exact ih1 _ _ _ _ _ _ _ _ _ _ _ _ _) | (with_reducible exact ih2 _ _ _ _ _ _ _) | (with_reducible exact spec_PartJoin.mono _ _ _ _ _ _ _) | (with_reducible exact spec_PartOk.mono _ _ _ _ _ _) | (with_reducible exact spec_TableOk.mono _ _ _ _) | (with_reducible exact spec_l10Table.mono _ _) | (with_reducible exact LeO.refl _) | (with_reducible exact LeO.none _) | (with_reducible refine LeO.ite ?_ ?_) | (with_reducible refine LeO.bind ?_ (fun _ => ?_))
  ·
   intro y0 y1 y2 y3 y4 y5 y6 y7 y8 y9 y10 y11 y12
   unfold spec_TableAdd.j1
   repeat' first | (with_reducible exact ih0 _ _ _ _ _ _ _ _ _) | (with_reducible exact ih1 _ _ _ _ _ _ _ _ _ _ _ _ _) | (with_reducible exact ih2 _ _ _ _ _ _ _) | (with_reducible exact spec_PartJoin.mono _ _ _ _ _ _ _) | (with_reducible exact spec_PartOk.mono _ _ _ _ _ _) | (with_reducible exact spec_TableOk.mono _ _ _ _) | (with_reducible exact spec_l10Table.mono _ _) | (with_reducible exact LeO.refl _) | (with_reducible exact LeO.none _) | (with_reducible refine LeO.ite ?_ ?_) | (with_reducible refine LeO.bind ?_ (fun _ => ?_))
  intro y0 y1 y2 y3 y4 y5 y6
  unfold spec_TableAdd.j2
  repeat' first | (with_reducible exact ih0 _ _ _ _ _ _ _ _ _) | (with_reducible exact ih1 _ _ _ _ _ _ _ _ _ _ _ _ _) | (with_reducible exact ih2 _ _ _ _ _ _ _) | (with_reducible exact spec_PartJoin.mono _ _ _ _ _ _ _) | (with_reducible exact spec_PartOk.mono _ _ _ _ _ _) | (with_reducible exact spec_TableOk.mono _ _ _ _) | (with_reducible exact spec_l10Table.mono _ _) | (with_reducible exact LeO.refl _) | (with_reducible exact LeO.none _) | (with_reducible refine LeO.ite ?_ ?_) | (with_reducible refine LeO.bind ?_ (fun _ => ?_))
theorem spec_TableAdd.mono : ∀ a0 a1 a2 a3 a4 a5 k, LeO (spec_TableAdd.f k a0 a1 a2 a3 a4 a5) (spec_TableAdd.f (k + 1) a0 a1 a2 a3 a4 a5) := by
 intro a0 a1 a2 a3 a4 a5 k
 obtain ⟨ih0, ih1, ih2⟩ := spec_TableAdd.mono_l k
 unfold spec_TableAdd.f
 repeat' first | (with_reducible exact ih0 _ _ _ _ _ _ _ _ _) | (with_reducible exact ih1 _ _ _ _ _ _ _ _ _ _ _ _ _) | (with_reducible exact ih2 _ _ _ _ _ _ _) | (with_reducible exact spec_PartJoin.mono _ _ _ _ _ _ _) | (with_reducible exact spec_PartOk.mono _ _ _ _ _ _) | (with_reducible exact spec_TableOk.mono _ _ _ _) | (with_reducible exact spec_l10Table.mono _ _) | (with_reducible exact LeO.refl _) | (with_reducible exact LeO.none _) | (with_reducible refine LeO.ite ?_ ?_) | (with_reducible refine LeO.bind ?_ (fun _ => ?_))
set_option maxHeartbeats 8000000 in
set_option maxRecDepth 100000 in
theorem spec_TableAdd.calls (k : Nat) (a0_0 : Int) (a0_1 : Int) (A1 : Option Addr) (c1 : Nat) (l1 : List (S48)) (a2_0 : Int) (a2_1 : ByteArray) (A2_2 : Option Addr) (c2_2 : Nat) (l2_2 : List Int) (r1 : List (S48)) (r2 : Bool) (w : World) (hr1 : Kd.C k48 w A1 l1.length l1) (hc1 : l1.length ≤ c1) (hr2_2 : Kd.C (Kd.int .i64) w A2_2 l2_2.length l2_2) (hc2_2 : l2_2.length ≤ c2_2) (h : spec_TableAdd.f k a0_0 a0_1 l1 a2_0 a2_1 l2_2 = some (r1, r2)) :
  Calls Tryz.prog 18 #[.agg #[.int .i64 a0_0, .int .i64 a0_1], .slice A1 l1.length c1, .agg #[.int .i64 a2_0, .string a2_1, .slice A2_2 l2_2.length c2_2]] w fun e w' => ∃ v0_ : Value, e = .returned (.tuple #[v0_, .bool r2]) ∧ Kd.S k48 48 w' w.heap.size (fun _ => True) v0_ r1 ∧ Below w.heap.size w w' := by
 have hu32 := Tryz.underlying32; have hu48 := Tryz.underlying48; have HR1 := Aside0.mk hr1; have HC1 := Aside0.mk hc1; clear hr1 hc1; have HR2_2 := Aside0.mk hr2_2; have HC2_2 := Aside0.mk hc2_2; clear hr2_2 hc2_2; have HB := Aside0.mk (Below.refl w.heap.size w); have H := h; unfold spec_TableAdd.f at H; clear h; obtain ⟨y304, hy304⟩ : ∃ y_ : List (S48), y_ = (([] : List (S48))) := ⟨_, rfl⟩
 replace H : (spec_TableAdd.l0 k l1 y304 false 0 a0_0 a0_1 a2_0 a2_1 l2_2) = some (r1, r2) := by first | (rw [hy304]; with_reducible exact H) | (have H2_ := (Option.bind_some _ _).symm.trans H; rw [hy304]; with_reducible exact H2_) | (have H2_ := (Option.bind_some _ _).symm.trans H; with_reducible exact H2_) | with_reducible exact H | (rw [hy304]; exact H) | exact H
 have Ny304 := Aside0.mk hy304; clear hy304; have H' := Aside0.mk H; clear H
 go_enter Tryz.func18, Tryz.ntmps18
 go_wp2_with (first | ((with_reducible refine gd 3 ?_); refine bA 3 #[.int .i64 a0_0, .int .i64 a0_1] 32 ?_; intro gb302 hg w4 hbox hb; have BK302 := Aside0.mk (hbox); have GW302 := bg hg HB; have GJ302 := gi GW302; have GE302 := GW302; replace HB := bs HB hb; clear hb hbox hg) | ((with_reducible refine gd 5 ?_); refine bA 5 #[.int .i64 a2_0, .string a2_1, .slice A2_2 l2_2.length c2_2] 48 ?_; intro gb303 hg w5 hbox hb; have BK303 := Aside0.mk (hbox); have GW303 := bg hg HB; have GJ303 := gi GW303; have GE303 := GW303; replace HB := bs HB hb; have NB302_303 := b1 BK302 hg; have NI302_303 := ni NB302_303; have NB303_302 := b2 BK302 hg; have NI303_302 := ni NB303_302; replace BK302 := bk BK302 hb; clear hb hbox hg) | ((with_reducible refine gate_dst (N := 14) rfl ?_); refine Kd.S_lit k48 _ 48 ?hg (N := 14) ?hd (xs := ([] : List (S48))) (inner := []) (ok := fun _ => True) (okp := fun _ => True) ?hr ?hp (fun _ hk => hk) trivial (Below.refl _ _) (Nat.le_refl _) (by simp) ?_; (case hd => rfl); (case hg => rfl); (case hr => first | (go_simp; done) | (go_simp; rfl)); (case hp => exact (Reps.none _ _)); intro v305 w6 ho7 hb hg_ hnew_; clear hg_ hnew_; (first | rw [← Ny304.out] at ho7 | (simp only [Int.reduceToNat] at ho7; rw [← Ny304.out] at ho7)); have HO306 := Aside0.mk (Kd.S_lower (Kd.S_newB ho7 (g := gb303) (o := .cells #[.int .i64 a2_0, .string a2_1, .slice A2_2 l2_2.length c2_2] 48 (0, 0)) (kI BK303.out)) (below_size (bI HB.out))); replace BK302 := bk BK302 hb; replace BK303 := bk BK303 hb; replace HB := bs HB hb; clear hb ho7))
 go_loopg [8, 9, 10] k (fun kq v8 v9 v10 w' => ∃ (x8_1 : List (S48)) (x9_1 : Bool) (x10_1 : Int), v9 = .bool x9_1 ∧ v10 = .int .i64 x10_1 ∧ Aside0 (spec_TableAdd.l0 kq l1 x8_1 x9_1 x10_1 a0_0 a0_1 a2_0 a2_1 l2_2 = some (r1, r2)) ∧ Aside0 (kq ≤ k) ∧ Aside0 (Kd.S k48 48 w' w.heap.size (fun k_ => k_ ≠ gb303) v8 x8_1) ∧ Aside0 (w'.heap[gb302]? = some (.cells #[.int .i64 a0_0, .int .i64 a0_1] 32 (0, 0))) ∧ Aside0 (w'.heap[gb303]? = some (.cells #[.int .i64 a2_0, .string a2_1, (.slice A2_2 l2_2.length c2_2)] 48 (0, 0))) ∧ Aside0 (Below w.heap.size w w'))
 case atStart => exact ⟨(y304), (false), (0), y0_13, y0_13, H', ⟨Nat.le_refl _⟩, ⟨by (with_reducible repeat (first | apply Kd.S_alloc | apply Kd.S_drewN | apply Kd.S_drew)); exact Kd.S_mono HO306.out (fun _ hk => hk.2)⟩, ⟨gI BK302.out⟩, ⟨gI BK303.out⟩, ⟨bI HB.out⟩⟩
 case round =>
  clear H'
  try clear c1
  try clear c2
  try clear p2
  obtain ⟨x8_1, x9_1, x10_1, rfl, rfl, HA, HK1, HO_8, BK302, BK303, HB⟩ := hrel; cases gk with
  | zero => exact absurd HA.out (by simp [spec_TableAdd.l0])
  | succ k1 =>
   have H := HA.out; clear HA
   simp only [spec_TableAdd.l0] at H
   by_cases c8 : x10_1 < (l1.length : Int)
   ·
    rw [if_pos c8] at H
    have c8b0 : decide (x10_1 < (l1.length : Int)) = true := decide_eq_true c8; clear c8
    by_cases c9 : 0 ≤ x10_1
    rotate_left
    ·
     rw [if_neg c9] at H
     exact absurd H (by simp)
    rw [if_pos c9] at H
    have c9b0 : decide (0 ≤ x10_1) = true := decide_eq_true c9; clear c9; obtain ⟨⟨t308, t309, t310⟩, A10, H⟩ := oB H; (try dsimp only at H); have HC11 := Aside0.mk H; clear H; have p307 : 0 ≤ (x10_1 : Int) := of_decide_eq_true y0_12; have q307 : x10_1 < (l1.length : Int) := of_decide_eq_true y0_12; obtain ⟨ad307, A307_2, c307_2, e307, hx307_0, hx307_1, hx307_2, hl307_2, hi307_2⟩ := at_T48 HR1.out x10_1 p307 q307; cases e307; replace hx307_0 := bx HB hx307_0; replace hx307_1 := bx HB hx307_1; replace hx307_2 := bx HB hx307_2; have HR307_2 := Aside0.mk hi307_2; have HC307_2 := Aside0.mk hl307_2; clear hi307_2 hl307_2; replace p307 := eq_true p307; replace q307 := eq_true q307
    go_upto_region 7 with (first | ((with_reducible refine gate_callee (f := 78) rfl ?_); refine gB (some 25) Tryz.func78 #[.agg #[.int .i64 ((rd_T48 l1 x10_1).f0), .string ((rd_T48 l1 x10_1).f1), .slice A307_2 ((rd_T48 l1 x10_1).f2).length c307_2]] ?_; (with_reducible refine (spec_l10Copy.calls ((rd_T48 l1 x10_1).f0) ((rd_T48 l1 x10_1).f1) _ _ ((rd_T48 l1 x10_1).f2) t308 t309 t310 _ ?side1 ?side2 A10.out).mono ?_); (case side1 => exact ch HR307_2 HB); (case side2 => exact HC307_2.out); rintro e w12 ⟨v311, rfl, ho0, hb⟩; refine ⟨_, rfl, ?_⟩; replace HO_8 := Aside0.mk (Kd.S_elder' (sI HO_8.out) (Kd.R_base ho0) hb); have HO312 := Aside0.mk (Kd.R_lower ho0 (below_size (bI HB.out))); replace BK302 := bk BK302 hb; replace BK303 := bk BK303 hb; replace HB := bs HB hb; (try clear hb); (try clear ho0)) | ((with_reducible refine gd 11 ?_); refine bA 11 #[.int .i64 0, .string (⟨#[]⟩ : ByteArray), .slice none 0 0] 48 ?_; intro gb313 hg w13 hbox hb; replace HO_8 := Aside0.mk (Kd.S_below (Kd.S_elderB (sI HO_8.out) gb313 (Nat.le_of_eq hg.symm)) hb); replace HO312 := rb HO312 hb; have BK313 := Aside0.mk (hbox); have GW313 := bg hg HB; have GJ313 := gi GW313; have GE313 := GW313; replace HB := bs HB hb; have NB302_313 := b1 BK302 hg; have NI302_313 := ni NB302_313; have NB313_302 := b2 BK302 hg; have NI313_302 := ni NB313_302; replace BK302 := bk BK302 hb; have NB303_313 := b1 BK303 hg; have NI303_313 := ni NB303_313; have NB313_303 := b2 BK303 hg; have NI313_303 := ni NB313_303; replace BK303 := bk BK303 hb; clear hb hbox hg; have hnb14 := NB313_302.out; have hnc14 := NB302_313.out; have hnb15 := NB313_303.out; have hnc15 := NB303_313.out; obtain ⟨hcz16_0, hcz16_1, hcz16_2, hfz16_0, hfz16_1, hfz16_2⟩ := cs3 BK313; obtain ⟨Ao17, co17, eo17⟩ := Kd.R_slice HO312.out; subst eo17))
    (try simp only [Act.put, List.setIfInBounds_toArray, List.set_cons_zero, List.set_cons_succ])
    go_cut [33] (fun v33 wc => ∃ (kq : Nat) (x33_10 : Bool), v33 = .bool x33_10 ∧ Aside0 (spec_TableAdd.j1 kq l1 x8_1 x9_1 x10_1 x33_10 a0_0 a0_1 a2_0 a2_1 l2_2 t308 t309 t310 = some (r1, r2)) ∧ Aside0 (kq ≤ k1) ∧ Aside0 (Kd.S k48 48 wc w.heap.size (fun k_ => some k_ ≠ ((.slice Ao17 t310.length co17) : Value).ownBlock ∧ k_ ≠ gb303 ∧ k_ ≠ gb313) u8 x8_1) ∧ Aside0 (Kd.R (Kd.int .i64) 3 wc w.heap.size (fun _ => True) (.slice Ao17 t310.length co17) t310) ∧ Aside0 (wc.heap[gb302]? = some (.cells #[.int .i64 a0_0, .int .i64 a0_1] 32 (0, 0))) ∧ Aside0 (wc.heap[gb303]? = some (.cells #[.int .i64 a2_0, .string a2_1, (.slice A2_2 l2_2.length c2_2)] 48 (0, 0))) ∧ Aside0 (wc.heap[gb313]? = some (.cells #[.int .i64 t308, .string t309, (.slice Ao17 t310.length co17)] 48 (0, 0))) ∧ Aside0 (Below w.heap.size w wc))
    case first =>
     have H := HC11.out; clear HC11
     by_cases c18 : x9_1 = true
     ·
      subst c18
      rw [if_pos rfl] at H
      have H' := Aside0.mk H; clear H
      go_wp2
      go_meet
      case rel => exact ⟨_, (false), y0_13, H', ⟨y0_10⟩, ⟨by (with_reducible repeat (first | apply Kd.S_alloc | apply Kd.S_drewN | apply Kd.S_drew)); exact Kd.S_mono (Kd.S_far (p := ⟨gb313, 2, none⟩) (Kd.S_far (p := ⟨gb313, 1, none⟩) (Kd.S_far (p := ⟨gb313, 0, none⟩) (Kd.S_mono HO_8.out (fun k_ hk => (⟨hk, hk.2⟩ : _ ∧ k_ ≠ gb313))) (fun _ hk => hk.2) (.int .i64 t308)) (fun _ hk => hk.2) (.string t309)) (fun _ hk => hk.2) (.slice Ao17 t310.length co17)) (fun _ hk => ⟨hk.1.1.2, ⟨hk.1.1.1, hk.1.2⟩⟩)⟩, ⟨by (with_reducible repeat (first | apply Kd.R_alloc | apply Kd.R_drewN | apply Kd.R_drew)); exact Kd.R_mono (Kd.R_far (p := ⟨gb313, 2, none⟩) (Kd.R_far (p := ⟨gb313, 1, none⟩) (Kd.R_far (p := ⟨gb313, 0, none⟩) (Kd.R_types HO312.out BK313.out (by decide)) (fun _ hk => hk.2) (.int .i64 t308)) (fun _ hk => hk.2) (.string t309)) (fun _ hk => hk.2) (.slice Ao17 t310.length co17)) (fun _ hk => trivial)⟩, ⟨gI BK302.out⟩, ⟨gI BK303.out⟩, ⟨pI BK313⟩, ⟨bI HB.out⟩⟩
     replace c18 := Bool.eq_false_iff.mpr c18; subst c18
     rw [if_neg (show ¬ (false = true) by decide)] at H
     obtain ⟨t314, A19, H⟩ := oB H; (try dsimp only at H); have H' := Aside0.mk H; clear H; have hnb20 := NB313_302.out; have hnc20 := NB302_313.out; have hnb21 := NB313_303.out; have hnc21 := NB303_313.out; have hcz22_0 := bc0 BK313.out; have hcz22_1 := bc1 BK313.out; have hcz22_2 := bc2 BK313.out; have hfz22_0 := blk_frozen BK313.out 0; have hfz22_1 := blk_frozen BK313.out 1; have hfz22_2 := blk_frozen BK313.out 2; have hnb23 := NB303_302.out; have hnc23 := NB302_303.out; have hcz24_0 := bc0 BK303.out; have hcz24_1 := bc1 BK303.out; have hcz24_2 := bc2 BK303.out; have hfz24_0 := blk_frozen BK303.out 0; have hfz24_1 := blk_frozen BK303.out 1; have hfz24_2 := blk_frozen BK303.out 2
     go_wp2_with (first | (go_at_call 79; (with_reducible refine (spec_l10Before.calls t308 t309 _ _ t310 a2_0 a2_1 _ _ l2_2 t314 _ ?side1 ?side2 ?side3 ?side4 A19.out).mono ?_); (case side1 => refine (Kd.R_reads' (e := 3) (base := w.heap.size) (ok := fun k_ => True) (n := t310.length) (c := co17) ?_).2.2; exact (rI (Kd.R_mono (Kd.R_far (p := ⟨gb313, 2, none⟩) (Kd.R_far (p := ⟨gb313, 1, none⟩) (Kd.R_far (p := ⟨gb313, 0, none⟩) (Kd.R_types HO312.out BK313.out (by decide)) (fun _ hk => hk.2) (.int .i64 t308)) (fun _ hk => hk.2) (.string t309)) (fun _ hk => hk.2) (.slice Ao17 t310.length co17)) (fun _ h_ => h_.1)))); (case side2 => exact (Kd.R_reads' HO312.out).2.1); (case side3 => exact Kd.C_below HR2_2.out (bI HB.out)); (case side4 => exact HC2_2.out); rintro e w25 ⟨rfl, hb⟩; replace HO_8 := Aside0.mk (Kd.S_below (sI (Kd.S_mono (Kd.S_far (p := ⟨gb313, 2, none⟩) (Kd.S_far (p := ⟨gb313, 1, none⟩) (Kd.S_far (p := ⟨gb313, 0, none⟩) (Kd.S_mono HO_8.out (fun k_ hk => (⟨hk, hk.2⟩ : _ ∧ k_ ≠ gb313))) (fun _ hk => hk.2) (.int .i64 t308)) (fun _ hk => hk.2) (.string t309)) (fun _ hk => hk.2) (.slice Ao17 t310.length co17)) (fun _ h_ => h_.1))) hb); replace HO312 := Aside0.mk (Kd.R_below (rI (Kd.R_mono (Kd.R_far (p := ⟨gb313, 2, none⟩) (Kd.R_far (p := ⟨gb313, 1, none⟩) (Kd.R_far (p := ⟨gb313, 0, none⟩) (Kd.R_types HO312.out BK313.out (by decide)) (fun _ hk => hk.2) (.int .i64 t308)) (fun _ hk => hk.2) (.string t309)) (fun _ hk => hk.2) (.slice Ao17 t310.length co17)) (fun _ h_ => h_.1))) hb); replace BK302 := Aside0.mk (blk_below (g := gb302) (o := .cells #[.int .i64 a0_0, .int .i64 a0_1] 32 (0, 0)) (gI BK302.out) hb); replace BK303 := Aside0.mk (blk_below (g := gb303) (o := .cells #[.int .i64 a2_0, .string a2_1, .slice A2_2 l2_2.length c2_2] 48 (0, 0)) (gI BK303.out) hb); replace BK313 := bp BK313 hb #[.int .i64 t308, .string t309, .slice Ao17 t310.length co17]; replace HB := bs HB hb; (try clear hb); (try clear hb2); (try clear hk); (try clear hi)))
     go_meet
     case rel => exact ⟨_, (!t314), y0_13, H', ⟨y0_10⟩, ⟨by (with_reducible repeat (first | apply Kd.S_alloc | apply Kd.S_drewN | apply Kd.S_drew)); exact Kd.S_mono HO_8.out (fun _ hk => ⟨hk.1.2, ⟨hk.1.1, hk.2⟩⟩)⟩, ⟨by (with_reducible repeat (first | apply Kd.R_alloc | apply Kd.R_drewN | apply Kd.R_drew)); exact HO312.out⟩, ⟨gI BK302.out⟩, ⟨gI BK303.out⟩, ⟨gI BK313.out⟩, ⟨bI HB.out⟩⟩
    case rest =>
     clear HC11
     try clear c1
     try clear c2
     try clear p2
     try clear c3
     try clear p3
     try clear q3
     try clear hx3
     try clear c7
     try clear c8
     try clear c8b0
     try clear c9
     try clear c9b0
     try clear c14
     try clear c15
     try clear c18
     try clear c20
     try clear c21
     try clear c23
     try clear hcz16_0
     try clear hcz16_1
     try clear hcz16_2
     try clear hcz22_0
     try clear hcz22_1
     try clear hcz22_2
     try clear hcz24_0
     try clear hcz24_1
     try clear hcz24_2
     try clear hfz16_0
     try clear hfz16_1
     try clear hfz16_2
     try clear hfz22_0
     try clear hfz22_1
     try clear hfz22_2
     try clear hfz24_0
     try clear hfz24_1
     try clear hfz24_2
     try clear hx307_0
     try clear hx307_1
     try clear hx307_2
     try clear p2
     try clear p307
     try clear q307
     obtain ⟨kq, x33_10, rfl, HA, HJ10, HO_8, HO_314002, BK302, BK303, BK313, HB⟩ := hcut; cases kq with
     | zero => exact absurd HA.out (by simp [spec_TableAdd.j1])
     | succ kj10 =>
      have H := HA.out; clear HA
      simp only [spec_TableAdd.j1] at H
      by_cases c26 : x33_10 = true
      ·
       subst c26
       rw [if_pos rfl] at H
       obtain ⟨⟨t315, t316, t317, t320⟩, A27, H⟩ := oB H; (try dsimp only at H)
       by_cases c28 : t320 = true
       ·
        subst c28
        rw [if_pos rfl] at H
        by_cases c29 : x8_1.length < 2932031007402
        rotate_left
        ·
         rw [if_neg c29] at H
         exact absurd H (by simp)
        rw [if_pos c29] at H
        have LMc29 := Aside0.mk c29; clear c29; obtain ⟨y322, hy322⟩ : ∃ y_ : List (S48), y_ = (x8_1 ++ [(⟨t315, t316, t317⟩ : S48)]) := ⟨_, rfl⟩
        replace H : (spec_TableAdd.l0 kj10 l1 y322 true (wrap64 (x10_1 + 1)) a0_0 a0_1 a2_0 a2_1 l2_2) = some (r1, r2) := by first | (rw [hy322]; with_reducible exact H) | (have H2_ := (Option.bind_some _ _).symm.trans H; rw [hy322]; with_reducible exact H2_) | (have H2_ := (Option.bind_some _ _).symm.trans H; with_reducible exact H2_) | with_reducible exact H | (rw [hy322]; exact H) | exact H
        have Ny322 := Aside0.mk hy322; clear hy322; have H' := Aside0.mk H; clear H; have hnb30 := NB313_302.out; have hnc30 := NB302_313.out; have hnb31 := NB313_303.out; have hnc31 := NB303_313.out; have hcz32_0 := bc0 BK313.out; have hcz32_1 := bc1 BK313.out; have hcz32_2 := bc2 BK313.out; have hfz32_0 := blk_frozen BK313.out 0; have hfz32_1 := blk_frozen BK313.out 1; have hfz32_2 := blk_frozen BK313.out 2; have hnb33 := NB303_302.out; have hnc33 := NB302_303.out; have hcz34_0 := bc0 BK303.out; have hcz34_1 := bc1 BK303.out; have hcz34_2 := bc2 BK303.out; have hfz34_0 := blk_frozen BK303.out 0; have hfz34_1 := blk_frozen BK303.out 1; have hfz34_2 := blk_frozen BK303.out 2
        go_wp2_with (first | ((with_reducible refine gate_callee (f := 30) rfl ?_); refine gB (some 37) Tryz.func30 #[.agg #[.int .i64 t308, .string t309, .slice Ao17 t310.length co17], .agg #[.int .i64 a2_0, .string a2_1, .slice A2_2 l2_2.length c2_2]] ?_; (with_reducible refine (spec_PartJoin.calls kj10 t308 t309 _ _ t310 a2_0 a2_1 _ _ l2_2 t315 t316 t317 true _ ?side1 ?side2 ?side3 ?side4 A27.out).mono ?_); (case side1 => repeat (first | exact (Kd.R_reads' HO_314002.out).2.2 | (with_reducible refine Kd.C_alloc ?_ _) | (with_reducible refine Kd.C_drewN ?_ _) | (with_reducible refine Kd.C_drew ?_))); (case side2 => exact (Kd.R_reads' HO_314002.out).2.1); (case side3 => exact ch HR2_2 HB); (case side4 => exact HC2_2.out); rintro e w35 ⟨v318, rfl, ho0, hb⟩; refine ⟨_, rfl, ?_⟩; replace HO_8 := Aside0.mk (Kd.S_elder' (sI HO_8.out) (Kd.R_base ho0) hb); have HO319 := Aside0.mk (Kd.R_lower (Kd.R_new' ho0 (Kd.R_lt (rI HO_314002.out))) (below_size (bI HB.out))); replace HO_314002 := Aside0.mk (Kd.R_elder' (rI HO_314002.out) (Kd.R_base ho0) hb); replace BK302 := bk BK302 hb; replace BK303 := bk BK303 hb; replace BK313 := bk BK313 hb; replace HB := bs HB hb; (try clear hb); (try clear ho0)) | ((with_reducible refine gd 12 ?_); refine bA 12 #[.int .i64 0, .string (⟨#[]⟩ : ByteArray), .slice none 0 0] 48 ?_; intro gb321 hg w36 hbox hb; replace HO_8 := Aside0.mk (Kd.S_below (Kd.S_elderB (sI HO_8.out) gb321 (Nat.le_of_eq hg.symm)) hb); replace HO_314002 := rb HO_314002 hb; replace HO319 := rb HO319 hb; have BK321 := Aside0.mk (hbox); have GW321 := bg hg HB; have GJ321 := gi GW321; have GE321 := GW321; replace HB := bs HB hb; have NB302_321 := b1 BK302 hg; have NI302_321 := ni NB302_321; have NB321_302 := b2 BK302 hg; have NI321_302 := ni NB321_302; replace BK302 := bk BK302 hb; have NB303_321 := b1 BK303 hg; have NI303_321 := ni NB303_321; have NB321_303 := b2 BK303 hg; have NI321_303 := ni NB321_303; replace BK303 := bk BK303 hb; have NB313_321 := b1 BK313 hg; have NI313_321 := ni NB313_321; have NB321_313 := b2 BK313 hg; have NI321_313 := ni NB321_313; replace BK313 := bk BK313 hb; clear hb hbox hg; have hnb37 := NB321_302.out; have hnc37 := NB302_321.out; have hnb38 := NB321_303.out; have hnc38 := NB303_321.out; have hnb39 := NB321_313.out; have hnc39 := NB313_321.out; obtain ⟨hcz40_0, hcz40_1, hcz40_2, hfz40_0, hfz40_1, hfz40_2⟩ := cs3 BK321; obtain ⟨Ao41, co41, eo41⟩ := Kd.R_slice HO319.out; subst eo41) | ((with_reducible refine gate_store (t := 48) (p := 12) rfl ?_); refine store_event (t := 48) (p := 12) (v := ?vo_w42) (w1 := (((w36.setCell ⟨gb321, 0, none⟩ (.int .i64 t315)).setCell ⟨gb321, 1, none⟩ (.string t316)).setCell ⟨gb321, 2, none⟩ (.slice Ao41 t317.length co41))) ?hg ?ho ?hn ?hr ?_; (case ho => rfl); (case hg => rfl); (case hn => rfl); (case hr => first | (go_simp; done) | (go_simp; rfl)); intro w42 hw; have n0_ : Aside0 (Kd.S k48 48 w42 w.heap.size (fun k_ => some k_ ≠ (.slice Ao17 t310.length co17 : Value).ownBlock ∧ some k_ ≠ (.slice Ao41 t317.length co41 : Value).ownBlock ∧ k_ ≠ gb303 ∧ k_ ≠ gb313 ∧ k_ ≠ gb321) u8 x8_1) := ⟨(by rw [hw]; exact (sI (Kd.S_mono (Kd.S_far (p := ⟨gb321, 2, none⟩) (Kd.S_far (p := ⟨gb321, 1, none⟩) (Kd.S_far (p := ⟨gb321, 0, none⟩) (Kd.S_mono HO_8.out (fun k_ hk => (⟨hk, hk.2⟩ : _ ∧ k_ ≠ gb321))) (fun _ hk => hk.2) (.int .i64 t315)) (fun _ hk => hk.2) (.string t316)) (fun _ hk => hk.2) (.slice Ao41 t317.length co41)) (fun _ hk => ⟨hk.1.1.1.1, ⟨hk.1.1.2, ⟨hk.1.1.1.2.1, ⟨hk.1.1.1.2.2, hk.1.2⟩⟩⟩⟩))))⟩; have n1_ : Aside0 (Kd.R (Kd.int .i64) 3 w42 w.heap.size (fun k_ => some k_ ≠ (.slice Ao41 t317.length co41 : Value).ownBlock) (.slice Ao17 t310.length co17) t310) := ⟨(by rw [hw]; exact (rI (Kd.R_mono (Kd.R_far (p := ⟨gb321, 2, none⟩) (Kd.R_far (p := ⟨gb321, 1, none⟩) (Kd.R_far (p := ⟨gb321, 0, none⟩) (Kd.R_types HO_314002.out BK321.out (by decide)) (fun _ hk => hk.2) (.int .i64 t315)) (fun _ hk => hk.2) (.string t316)) (fun _ hk => hk.2) (.slice Ao41 t317.length co41)) (fun _ hk => hk.1.2))))⟩; have n2_ : Aside0 (Kd.R (Kd.int .i64) 3 w42 w.heap.size (fun k_ => some k_ ≠ (.slice Ao17 t310.length co17 : Value).ownBlock) (.slice Ao41 t317.length co41) t317) := ⟨(by rw [hw]; exact (rI (Kd.R_mono (Kd.R_far (p := ⟨gb321, 2, none⟩) (Kd.R_far (p := ⟨gb321, 1, none⟩) (Kd.R_far (p := ⟨gb321, 0, none⟩) (Kd.R_types HO319.out BK321.out (by decide)) (fun _ hk => hk.2) (.int .i64 t315)) (fun _ hk => hk.2) (.string t316)) (fun _ hk => hk.2) (.slice Ao41 t317.length co41)) (fun _ hk => hk.1.2))))⟩; have n3_ : Aside0 (w42.heap[gb302]? = some (.cells #[.int .i64 a0_0, .int .i64 a0_1] 32 (0, 0))) := ⟨(by rw [hw]; exact (gI BK302.out))⟩; have n4_ : Aside0 (w42.heap[gb303]? = some (.cells #[.int .i64 a2_0, .string a2_1, .slice A2_2 l2_2.length c2_2] 48 (0, 0))) := ⟨(by rw [hw]; exact (gI BK303.out))⟩; have n5_ : Aside0 (w42.heap[gb313]? = some (.cells #[.int .i64 t308, .string t309, .slice Ao17 t310.length co17] 48 (0, 0))) := ⟨(by rw [hw]; exact (gI BK313.out))⟩; have n6_ : Aside0 (w42.heap[gb321]? = some (.cells #[.int .i64 t315, .string t316, .slice Ao41 t317.length co41] 48 (0, 0))) := ⟨(by rw [hw]; exact (pI BK321))⟩; have n7_ : Aside0 (Below w.heap.size w w42) := ⟨(by rw [hw]; exact (bI HB.out))⟩; clear hw; clear HO_8; clear HO_314002; clear HO319; clear BK302; clear BK303; clear BK313; clear BK321; clear HB; have HO_8 := n0_; have HO_314002 := n1_; have HO319 := n2_; have BK302 := n3_; have BK303 := n4_; have BK313 := n5_; have BK321 := n6_; have HB := n7_; clear n0_ n1_ n2_ n3_ n4_ n5_ n6_ n7_; obtain ⟨hcz43_0, hcz43_1, hcz43_2, hfz43_0, hfz43_1, hfz43_2⟩ := cs3 BK321) | ((with_reducible refine gate_builtin (b := .append) (xs := #[.tmp 41, .tmp 43]) rfl ?_); at_builtin; refine Kd.S_append k48 (w0 := w) w.heap.size rfl (.tmp 41) (.tmp 43) 44 48 (.agg #[(.int .i64 0), (.string ⟨#[]⟩), (.slice none 0 0)]) 48 rfl Tryz.underlying44 info48 rfl (by decide) (by omega) u8 x8_1 (⟨t315, t316, t317⟩ : S48) [.int .i64 t315, .string t316, .slice Ao41 t317.length co41] (fun k_ => some k_ ≠ (.slice Ao17 t310.length co17 : Value).ownBlock ∧ k_ ≠ gb303 ∧ k_ ≠ gb313 ∧ k_ ≠ gb321) (fun k_ => some k_ = (.slice Ao41 t317.length co41 : Value).ownBlock) rfl rfl ?aP (fun k_ hk_ => ((Kd.R_mono (ok' := fun k_ => ((fun k_ => some k_ ≠ (.slice Ao17 t310.length co17 : Value).ownBlock ∧ k_ ≠ gb303 ∧ k_ ≠ gb313 ∧ k_ ≠ gb321)) k_ ∧ some k_ ≠ (u8 : Value).ownBlock) (Kd.R_types (Kd.R_types (Kd.R_types (Kd.R_apart' (HO319.out) (Kd.S_typed HO_8.out) (by decide)) BK303.out (by decide)) BK313.out (by decide)) BK321.out (by decide)) (fun k_ hk => ⟨⟨hk.1.1.1.1, ⟨hk.1.1.2, ⟨hk.1.2, hk.2⟩⟩⟩, hk.1.1.1.2⟩))).1 k_ hk_.symm) ?aF ?aO ?aB ?aS ?aL ?_; (case aP => exact k48_mkM _ _ _ (⟨t315, t316, t317⟩ : S48) (Kd.R_mono (Kd.R_tight rfl (Kd.R_mono (ok' := fun k_ => ((fun k_ => some k_ ≠ (.slice Ao17 t310.length co17 : Value).ownBlock ∧ k_ ≠ gb303 ∧ k_ ≠ gb313 ∧ k_ ≠ gb321)) k_ ∧ some k_ ≠ (u8 : Value).ownBlock) (Kd.R_types (Kd.R_types (Kd.R_types (Kd.R_apart' (HO319.out) (Kd.S_typed HO_8.out) (by decide)) BK303.out (by decide)) BK313.out (by decide)) BK321.out (by decide)) (fun k_ hk => ⟨⟨hk.1.1.1.1, ⟨hk.1.1.2, ⟨hk.1.2, hk.2⟩⟩⟩, hk.1.1.1.2⟩))) (fun _ h_ => h_))); (case aB => exact (bI HB.out)); (case aF => exact (fun k_ hk => ⟨Kd.fresh' (Kd.R_lt (rI HO_314002.out)) k_ hk, Kd.freshB (g := gb303) (o := .cells #[.int .i64 a2_0, .string a2_1, .slice A2_2 l2_2.length c2_2] 48 (0, 0)) (kI BK303.out) k_ hk, Kd.freshB (g := gb313) (o := .cells #[.int .i64 t308, .string t309, .slice Ao17 t310.length co17] 48 (0, 0)) (kI BK313.out) k_ hk, Kd.freshB (g := gb321) (o := .cells #[.int .i64 t315, .string t316, .slice Ao41 t317.length co41] 48 (0, 0)) (kI BK321.out) k_ hk⟩)); (case aO => exact (sI (Kd.S_mono HO_8.out (fun k_ hk => ⟨⟨hk.1, ⟨hk.2.2.1, ⟨hk.2.2.2.1, hk.2.2.2.2⟩⟩⟩, fun e_ => hk.2.1 e_⟩)))); (case aS => exact (below_size (bI HB.out))); (case aL => have := LMc29.out; omega); intro v323 w44 ho hb hg hat; rw [← Ny322.out] at ho; have n0_ := Aside0.mk (Kd.R_over' (rI HO_314002.out) (Kd.S_typed (sI HO_8.out)) (by decide) hg); have n1_ := bn BK302 hg (Kd.S_ne HO_8.out BK302.out (by decide)); have n2_ := bn BK303 hg (Kd.S_away HO_8.out (fun _ hk => hk.2.2.1)); have n3_ := bn BK313 hg (Kd.S_away HO_8.out (fun _ hk => hk.2.2.2.1)); have n4_ := bn BK321 hg (Kd.S_away HO_8.out (fun _ hk => hk.2.2.2.2)); have n5_ := Aside0.mk (hb); have n6_ := Aside0.mk (ho); clear HO_314002; clear BK302; clear BK303; clear BK313; clear BK321; clear HB; clear HO_8; clear HO319; have HO_314002 := n0_; have BK302 := n1_; have BK303 := n2_; have BK313 := n3_; have BK321 := n4_; have HB := n5_; have HO324 := n6_; clear n0_ n1_ n2_ n3_ n4_ n5_ n6_; clear ho hb hg hat))
        go_roundg kj10
        case measure => have := HK1.out; have := HJ10.out; omega
        case rel => exact ⟨(y322), (true), (wrap64 (x10_1 + 1)), y0_13, y0_13, H', ⟨by have := HK1.out; have := HJ10.out; omega⟩, ⟨by (with_reducible repeat (first | apply Kd.S_alloc | apply Kd.S_drewN | apply Kd.S_drew)); exact Kd.S_mono HO324.out (fun _ hk => hk.2.1)⟩, ⟨gI BK302.out⟩, ⟨gI BK303.out⟩, ⟨bI HB.out⟩⟩
       replace c28 := Bool.eq_false_iff.mpr c28; subst c28
       rw [if_neg (show ¬ (false = true) by decide)] at H
       obtain ⟨⟨t325, t326, t327⟩, A45, H⟩ := oB H; (try dsimp only at H)
       by_cases c46 : x8_1.length < 2932031007402
       rotate_left
       ·
        rw [if_neg c46] at H
        exact absurd H (by simp)
       rw [if_pos c46] at H
       have LMc46 := Aside0.mk c46; clear c46; obtain ⟨y330, hy330⟩ : ∃ y_ : List (S48), y_ = (x8_1 ++ [(⟨t325, t326, t327⟩ : S48)]) := ⟨_, rfl⟩
       replace H : (if y330.length < 2932031007402 then (spec_TableAdd.l0 kj10 l1 (y330 ++ [(⟨t308, t309, t310⟩ : S48)]) true (wrap64 (x10_1 + 1)) a0_0 a0_1 a2_0 a2_1 l2_2) else (none)) = some (r1, r2) := by first | (rw [hy330]; with_reducible exact H) | (have H2_ := (Option.bind_some _ _).symm.trans H; rw [hy330]; with_reducible exact H2_) | (have H2_ := (Option.bind_some _ _).symm.trans H; with_reducible exact H2_) | with_reducible exact H | (rw [hy330]; exact H) | exact H
       have Ny330 := Aside0.mk hy330; clear hy330
       by_cases c47 : y330.length < 2932031007402
       rotate_left
       ·
        rw [if_neg c47] at H
        exact absurd H (by simp)
       rw [if_pos c47] at H
       have LMc47 := Aside0.mk c47; clear c47; obtain ⟨y333, hy333⟩ : ∃ y_ : List (S48), y_ = (y330 ++ [(⟨t308, t309, t310⟩ : S48)]) := ⟨_, rfl⟩
       replace H : (spec_TableAdd.l0 kj10 l1 y333 true (wrap64 (x10_1 + 1)) a0_0 a0_1 a2_0 a2_1 l2_2) = some (r1, r2) := by first | (rw [hy333]; with_reducible exact H) | (have H2_ := (Option.bind_some _ _).symm.trans H; rw [hy333]; with_reducible exact H2_) | (have H2_ := (Option.bind_some _ _).symm.trans H; with_reducible exact H2_) | with_reducible exact H | (rw [hy333]; exact H) | exact H
       have Ny333 := Aside0.mk hy333; clear hy333; have H' := Aside0.mk H; clear H; have hnb48 := NB313_302.out; have hnc48 := NB302_313.out; have hnb49 := NB313_303.out; have hnc49 := NB303_313.out; have hcz50_0 := bc0 BK313.out; have hcz50_1 := bc1 BK313.out; have hcz50_2 := bc2 BK313.out; have hfz50_0 := blk_frozen BK313.out 0; have hfz50_1 := blk_frozen BK313.out 1; have hfz50_2 := blk_frozen BK313.out 2; have hnb51 := NB303_302.out; have hnc51 := NB302_303.out; have hcz52_0 := bc0 BK303.out; have hcz52_1 := bc1 BK303.out; have hcz52_2 := bc2 BK303.out; have hfz52_0 := blk_frozen BK303.out 0; have hfz52_1 := blk_frozen BK303.out 1; have hfz52_2 := blk_frozen BK303.out 2
       go_wp2_with (first | ((with_reducible refine gate_callee (f := 30) rfl ?_); refine gB (some 37) Tryz.func30 #[.agg #[.int .i64 t308, .string t309, .slice Ao17 t310.length co17], .agg #[.int .i64 a2_0, .string a2_1, .slice A2_2 l2_2.length c2_2]] ?_; (with_reducible refine (spec_PartJoin.calls kj10 t308 t309 _ _ t310 a2_0 a2_1 _ _ l2_2 t315 t316 t317 false _ ?side1 ?side2 ?side3 ?side4 A27.out).mono ?_); (case side1 => repeat (first | exact (Kd.R_reads' HO_314002.out).2.2 | (with_reducible refine Kd.C_alloc ?_ _) | (with_reducible refine Kd.C_drewN ?_ _) | (with_reducible refine Kd.C_drew ?_))); (case side2 => exact (Kd.R_reads' HO_314002.out).2.1); (case side3 => exact ch HR2_2 HB); (case side4 => exact HC2_2.out); rintro e w53 ⟨v318, rfl, ho0, hb⟩; refine ⟨_, rfl, ?_⟩; replace HO_8 := Aside0.mk (Kd.S_elder' (sI HO_8.out) (Kd.R_base ho0) hb); have HO319 := Aside0.mk (Kd.R_lower (Kd.R_new' ho0 (Kd.R_lt (rI HO_314002.out))) (below_size (bI HB.out))); replace HO_314002 := Aside0.mk (Kd.R_elder' (rI HO_314002.out) (Kd.R_base ho0) hb); replace BK302 := bk BK302 hb; replace BK303 := bk BK303 hb; replace BK313 := bk BK313 hb; replace HB := bs HB hb; (try clear hb); (try clear ho0)) | ((with_reducible refine gd 12 ?_); refine bA 12 #[.int .i64 0, .string (⟨#[]⟩ : ByteArray), .slice none 0 0] 48 ?_; intro gb321 hg w54 hbox hb; replace HO_8 := Aside0.mk (Kd.S_below (Kd.S_elderB (sI HO_8.out) gb321 (Nat.le_of_eq hg.symm)) hb); replace HO_314002 := rb HO_314002 hb; replace HO319 := rb HO319 hb; have BK321 := Aside0.mk (hbox); have GW321 := bg hg HB; have GJ321 := gi GW321; have GE321 := GW321; replace HB := bs HB hb; have NB302_321 := b1 BK302 hg; have NI302_321 := ni NB302_321; have NB321_302 := b2 BK302 hg; have NI321_302 := ni NB321_302; replace BK302 := bk BK302 hb; have NB303_321 := b1 BK303 hg; have NI303_321 := ni NB303_321; have NB321_303 := b2 BK303 hg; have NI321_303 := ni NB321_303; replace BK303 := bk BK303 hb; have NB313_321 := b1 BK313 hg; have NI313_321 := ni NB313_321; have NB321_313 := b2 BK313 hg; have NI321_313 := ni NB321_313; replace BK313 := bk BK313 hb; clear hb hbox hg; have hnb55 := NB321_302.out; have hnc55 := NB302_321.out; have hnb56 := NB321_303.out; have hnc56 := NB303_321.out; have hnb57 := NB321_313.out; have hnc57 := NB313_321.out; obtain ⟨hcz58_0, hcz58_1, hcz58_2, hfz58_0, hfz58_1, hfz58_2⟩ := cs3 BK321; obtain ⟨Ao59, co59, eo59⟩ := Kd.R_slice HO319.out; subst eo59; obtain ⟨hcz60_0, hcz60_1, hcz60_2, hfz60_0, hfz60_1, hfz60_2⟩ := cs3 BK303) | ((with_reducible refine gate_callee (f := 78) rfl ?_); refine gB (some 47) Tryz.func78 #[.agg #[.int .i64 a2_0, .string a2_1, .slice A2_2 l2_2.length c2_2]] ?_; (with_reducible refine (spec_l10Copy.calls a2_0 a2_1 _ _ l2_2 t325 t326 t327 _ ?side1 ?side2 A45.out).mono ?_); (case side1 => exact Kd.C_below HR2_2.out (bI HB.out)); (case side2 => exact HC2_2.out); rintro e w61 ⟨v328, rfl, ho0, hb⟩; refine ⟨_, rfl, ?_⟩; replace HO_8 := Aside0.mk (Kd.S_elder' (sI (Kd.S_mono (Kd.S_far (p := ⟨gb321, 2, none⟩) (Kd.S_far (p := ⟨gb321, 1, none⟩) (Kd.S_far (p := ⟨gb321, 0, none⟩) (Kd.S_mono HO_8.out (fun k_ hk => (⟨hk, hk.2⟩ : _ ∧ k_ ≠ gb321))) (fun _ hk => hk.2) (.int .i64 t315)) (fun _ hk => hk.2) (.string t316)) (fun _ hk => hk.2) (.slice Ao59 t317.length co59)) (fun _ h_ => h_.1))) (Kd.R_base ho0) hb); have HO329 := Aside0.mk (Kd.R_lower (Kd.R_new' (Kd.R_new' ho0 (Kd.R_lt (rI (Kd.R_mono (Kd.R_far (p := ⟨gb321, 2, none⟩) (Kd.R_far (p := ⟨gb321, 1, none⟩) (Kd.R_far (p := ⟨gb321, 0, none⟩) (Kd.R_types HO_314002.out BK321.out (by decide)) (fun _ hk => hk.2) (.int .i64 t315)) (fun _ hk => hk.2) (.string t316)) (fun _ hk => hk.2) (.slice Ao59 t317.length co59)) (fun _ h_ => h_.1))))) (Kd.R_lt (rI (Kd.R_mono (Kd.R_far (p := ⟨gb321, 2, none⟩) (Kd.R_far (p := ⟨gb321, 1, none⟩) (Kd.R_far (p := ⟨gb321, 0, none⟩) (Kd.R_types HO319.out BK321.out (by decide)) (fun _ hk => hk.2) (.int .i64 t315)) (fun _ hk => hk.2) (.string t316)) (fun _ hk => hk.2) (.slice Ao59 t317.length co59)) (fun _ h_ => h_.1))))) (below_size (bI HB.out))); replace HO_314002 := Aside0.mk (Kd.R_elder' (rI (Kd.R_mono (Kd.R_far (p := ⟨gb321, 2, none⟩) (Kd.R_far (p := ⟨gb321, 1, none⟩) (Kd.R_far (p := ⟨gb321, 0, none⟩) (Kd.R_types HO_314002.out BK321.out (by decide)) (fun _ hk => hk.2) (.int .i64 t315)) (fun _ hk => hk.2) (.string t316)) (fun _ hk => hk.2) (.slice Ao59 t317.length co59)) (fun _ h_ => h_.1))) (Kd.R_base ho0) hb); replace HO319 := Aside0.mk (Kd.R_elder' (rI (Kd.R_mono (Kd.R_far (p := ⟨gb321, 2, none⟩) (Kd.R_far (p := ⟨gb321, 1, none⟩) (Kd.R_far (p := ⟨gb321, 0, none⟩) (Kd.R_types HO319.out BK321.out (by decide)) (fun _ hk => hk.2) (.int .i64 t315)) (fun _ hk => hk.2) (.string t316)) (fun _ hk => hk.2) (.slice Ao59 t317.length co59)) (fun _ h_ => h_.1))) (Kd.R_base ho0) hb); replace BK302 := Aside0.mk (blk_below (g := gb302) (o := .cells #[.int .i64 a0_0, .int .i64 a0_1] 32 (0, 0)) (gI BK302.out) hb); replace BK303 := Aside0.mk (blk_below (g := gb303) (o := .cells #[.int .i64 a2_0, .string a2_1, .slice A2_2 l2_2.length c2_2] 48 (0, 0)) (gI BK303.out) hb); replace BK313 := Aside0.mk (blk_below (g := gb313) (o := .cells #[.int .i64 t308, .string t309, .slice Ao17 t310.length co17] 48 (0, 0)) (gI BK313.out) hb); replace BK321 := bp BK321 hb #[.int .i64 t315, .string t316, .slice Ao59 t317.length co59]; replace HB := bs HB hb; (try clear hb); (try clear ho0); obtain ⟨Ao63, co63, eo63⟩ := Kd.R_slice HO329.out; subst eo63) | ((with_reducible refine gate_builtin (b := .append) (xs := #[.tmp 45, .tmp 48]) rfl ?_); at_builtin; refine Kd.S_append k48 (w0 := w) w.heap.size rfl (.tmp 45) (.tmp 48) 44 48 (.agg #[(.int .i64 0), (.string ⟨#[]⟩), (.slice none 0 0)]) 48 rfl Tryz.underlying44 info48 rfl (by decide) (by omega) u8 x8_1 (⟨t325, t326, t327⟩ : S48) [.int .i64 t325, .string t326, .slice Ao63 t327.length co63] (fun k_ => some k_ ≠ (.slice Ao17 t310.length co17 : Value).ownBlock ∧ some k_ ≠ (.slice Ao59 t317.length co59 : Value).ownBlock ∧ k_ ≠ gb303 ∧ k_ ≠ gb313 ∧ k_ ≠ gb321) (fun k_ => some k_ = (.slice Ao63 t327.length co63 : Value).ownBlock) rfl rfl ?aP (fun k_ hk_ => ((Kd.R_mono (ok' := fun k_ => ((fun k_ => some k_ ≠ (.slice Ao17 t310.length co17 : Value).ownBlock ∧ some k_ ≠ (.slice Ao59 t317.length co59 : Value).ownBlock ∧ k_ ≠ gb303 ∧ k_ ≠ gb313 ∧ k_ ≠ gb321)) k_ ∧ some k_ ≠ (u8 : Value).ownBlock) (Kd.R_types (Kd.R_types (Kd.R_types (Kd.R_apart' (HO329.out) (Kd.S_typed HO_8.out) (by decide)) BK303.out (by decide)) BK313.out (by decide)) BK321.out (by decide)) (fun k_ hk => ⟨⟨hk.1.1.1.1.1.2, ⟨hk.1.1.1.1.2, ⟨hk.1.1.2, ⟨hk.1.2, hk.2⟩⟩⟩⟩, hk.1.1.1.2⟩))).1 k_ hk_.symm) ?aF ?aO ?aB ?aS ?aL ?_; (case aP => exact k48_mkM _ _ _ (⟨t325, t326, t327⟩ : S48) (Kd.R_mono (Kd.R_tight rfl (Kd.R_mono (ok' := fun k_ => ((fun k_ => some k_ ≠ (.slice Ao17 t310.length co17 : Value).ownBlock ∧ some k_ ≠ (.slice Ao59 t317.length co59 : Value).ownBlock ∧ k_ ≠ gb303 ∧ k_ ≠ gb313 ∧ k_ ≠ gb321)) k_ ∧ some k_ ≠ (u8 : Value).ownBlock) (Kd.R_types (Kd.R_types (Kd.R_types (Kd.R_apart' (HO329.out) (Kd.S_typed HO_8.out) (by decide)) BK303.out (by decide)) BK313.out (by decide)) BK321.out (by decide)) (fun k_ hk => ⟨⟨hk.1.1.1.1.1.2, ⟨hk.1.1.1.1.2, ⟨hk.1.1.2, ⟨hk.1.2, hk.2⟩⟩⟩⟩, hk.1.1.1.2⟩))) (fun _ h_ => h_))); (case aB => exact (bI HB.out)); (case aF => exact (fun k_ hk => ⟨Kd.fresh' (Kd.R_lt (rI HO_314002.out)) k_ hk, Kd.fresh' (Kd.R_lt (rI HO319.out)) k_ hk, Kd.freshB (g := gb303) (o := .cells #[.int .i64 a2_0, .string a2_1, .slice A2_2 l2_2.length c2_2] 48 (0, 0)) (kI BK303.out) k_ hk, Kd.freshB (g := gb313) (o := .cells #[.int .i64 t308, .string t309, .slice Ao17 t310.length co17] 48 (0, 0)) (kI BK313.out) k_ hk, Kd.freshB (g := gb321) (o := .cells #[.int .i64 t315, .string t316, .slice Ao59 t317.length co59] 48 (0, 0)) (kI BK321.out) k_ hk⟩)); (case aO => exact (sI (Kd.S_mono HO_8.out (fun k_ hk => ⟨⟨hk.1.1.1.1, ⟨hk.1.1.2, ⟨hk.1.1.1.2.1, ⟨hk.1.1.1.2.2, hk.1.2⟩⟩⟩⟩, fun e_ => hk.2 e_⟩)))); (case aS => exact (below_size (bI HB.out))); (case aL => have := LMc46.out; omega); intro v331 w62 ho hb hg hat; rw [← Ny330.out] at ho; have n0_ := Aside0.mk (Kd.R_over' (rI HO_314002.out) (Kd.S_typed (sI HO_8.out)) (by decide) hg); have n1_ := bn BK302 hg (Kd.S_ne HO_8.out BK302.out (by decide)); have n2_ := bn BK303 hg (Kd.S_away HO_8.out (fun _ hk => hk.1.1.1.2.1)); have n3_ := bn BK313 hg (Kd.S_away HO_8.out (fun _ hk => hk.1.1.1.2.2)); have n4_ := Aside0.mk (Kd.R_over' (rI HO319.out) (Kd.S_typed (sI HO_8.out)) (by decide) hg); have n5_ := bn BK321 hg (Kd.S_away HO_8.out (fun _ hk => hk.1.2)); have n6_ := Aside0.mk (hb); have n7_ := Aside0.mk (ho); clear HO_314002; clear BK302; clear BK303; clear BK313; clear HO319; clear BK321; clear HB; clear HO_8; clear HO329; have HO_314002 := n0_; have BK302 := n1_; have BK303 := n2_; have BK313 := n3_; have HO319 := n4_; have BK321 := n5_; have HB := n6_; have HO332 := n7_; clear n0_ n1_ n2_ n3_ n4_ n5_ n6_ n7_; clear ho hb hg hat; obtain ⟨hcz64_0, hcz64_1, hcz64_2, hfz64_0, hfz64_1, hfz64_2⟩ := cs3 BK313) | ((with_reducible refine gate_builtin (b := .append) (xs := #[.tmp 50, .tmp 52]) rfl ?_); at_builtin; refine Kd.S_append k48 (w0 := w) w.heap.size rfl (.tmp 50) (.tmp 52) 44 48 (.agg #[(.int .i64 0), (.string ⟨#[]⟩), (.slice none 0 0)]) 48 rfl Tryz.underlying44 info48 rfl (by decide) (by omega) v331 y330 (⟨t308, t309, t310⟩ : S48) [.int .i64 t308, .string t309, .slice Ao17 t310.length co17] (fun k_ => some k_ ≠ (.slice Ao59 t317.length co59 : Value).ownBlock ∧ k_ ≠ gb303 ∧ k_ ≠ gb313 ∧ k_ ≠ gb321) (fun k_ => some k_ = (.slice Ao17 t310.length co17 : Value).ownBlock) rfl rfl ?aP (fun k_ hk_ => ((Kd.R_mono (ok' := fun k_ => ((fun k_ => some k_ ≠ (.slice Ao59 t317.length co59 : Value).ownBlock ∧ k_ ≠ gb303 ∧ k_ ≠ gb313 ∧ k_ ≠ gb321)) k_ ∧ some k_ ≠ (v331 : Value).ownBlock) (Kd.R_types (Kd.R_types (Kd.R_types (Kd.R_apart' (HO_314002.out) (Kd.S_typed HO332.out) (by decide)) BK303.out (by decide)) BK313.out (by decide)) BK321.out (by decide)) (fun k_ hk => ⟨⟨hk.1.1.1.1.1.2, ⟨hk.1.1.2, ⟨hk.1.2, hk.2⟩⟩⟩, hk.1.1.1.2⟩))).1 k_ hk_.symm) ?aF ?aO ?aB ?aS ?aL ?_; (case aP => exact k48_mkM _ _ _ (⟨t308, t309, t310⟩ : S48) (Kd.R_mono (Kd.R_tight rfl (Kd.R_mono (ok' := fun k_ => ((fun k_ => some k_ ≠ (.slice Ao59 t317.length co59 : Value).ownBlock ∧ k_ ≠ gb303 ∧ k_ ≠ gb313 ∧ k_ ≠ gb321)) k_ ∧ some k_ ≠ (v331 : Value).ownBlock) (Kd.R_types (Kd.R_types (Kd.R_types (Kd.R_apart' (HO_314002.out) (Kd.S_typed HO332.out) (by decide)) BK303.out (by decide)) BK313.out (by decide)) BK321.out (by decide)) (fun k_ hk => ⟨⟨hk.1.1.1.1.1.2, ⟨hk.1.1.2, ⟨hk.1.2, hk.2⟩⟩⟩, hk.1.1.1.2⟩))) (fun _ h_ => h_))); (case aB => exact (bI HB.out)); (case aF => exact (fun k_ hk => ⟨Kd.fresh' (Kd.R_lt (rI HO319.out)) k_ hk, Kd.freshB (g := gb303) (o := .cells #[.int .i64 a2_0, .string a2_1, .slice A2_2 l2_2.length c2_2] 48 (0, 0)) (kI BK303.out) k_ hk, Kd.freshB (g := gb313) (o := .cells #[.int .i64 t308, .string t309, .slice Ao17 t310.length co17] 48 (0, 0)) (kI BK313.out) k_ hk, Kd.freshB (g := gb321) (o := .cells #[.int .i64 t315, .string t316, .slice Ao59 t317.length co59] 48 (0, 0)) (kI BK321.out) k_ hk⟩)); (case aO => exact (sI (Kd.S_mono HO332.out (fun k_ hk => ⟨⟨hk.2.1, ⟨hk.2.2.1, ⟨hk.2.2.2.1, hk.2.2.2.2⟩⟩⟩, fun e_ => hk.1 e_⟩)))); (case aS => exact (below_size (bI HB.out))); (case aL => have := LMc47.out; omega); intro v334 w65 ho hb hg hat; rw [← Ny333.out] at ho; have n0_ := bn BK302 hg (Kd.S_ne HO332.out BK302.out (by decide)); have n1_ := bn BK303 hg (Kd.S_away HO332.out (fun _ hk => hk.2.2.1)); have n2_ := bn BK313 hg (Kd.S_away HO332.out (fun _ hk => hk.2.2.2.1)); have n3_ := Aside0.mk (Kd.R_over' (rI HO319.out) (Kd.S_typed (sI HO332.out)) (by decide) hg); have n4_ := bn BK321 hg (Kd.S_away HO332.out (fun _ hk => hk.2.2.2.2)); have n5_ := Aside0.mk (hb); have n6_ := Aside0.mk (ho); clear BK302; clear BK303; clear BK313; clear HO319; clear BK321; clear HB; clear HO332; clear HO_314002; have BK302 := n0_; have BK303 := n1_; have BK313 := n2_; have HO319 := n3_; have BK321 := n4_; have HB := n5_; have HO335 := n6_; clear n0_ n1_ n2_ n3_ n4_ n5_ n6_; clear ho hb hg hat))
       go_roundg kj10
       case measure => have := HK1.out; have := HJ10.out; omega
       case rel => exact ⟨(y333), (true), (wrap64 (x10_1 + 1)), y0_13, y0_13, H', ⟨by have := HK1.out; have := HJ10.out; omega⟩, ⟨by (with_reducible repeat (first | apply Kd.S_alloc | apply Kd.S_drewN | apply Kd.S_drew)); exact Kd.S_mono HO335.out (fun _ hk => hk.2.1)⟩, ⟨gI BK302.out⟩, ⟨gI BK303.out⟩, ⟨bI HB.out⟩⟩
      replace c26 := Bool.eq_false_iff.mpr c26; subst c26
      rw [if_neg (show ¬ (false = true) by decide)] at H
      by_cases c66 : x8_1.length < 2932031007402
      rotate_left
      ·
       rw [if_neg c66] at H
       exact absurd H (by simp)
      rw [if_pos c66] at H
      have LMc66 := Aside0.mk c66; clear c66; obtain ⟨y336, hy336⟩ : ∃ y_ : List (S48), y_ = (x8_1 ++ [(⟨t308, t309, t310⟩ : S48)]) := ⟨_, rfl⟩
      replace H : (spec_TableAdd.l0 kj10 l1 y336 x9_1 (wrap64 (x10_1 + 1)) a0_0 a0_1 a2_0 a2_1 l2_2) = some (r1, r2) := by first | (rw [hy336]; with_reducible exact H) | (have H2_ := (Option.bind_some _ _).symm.trans H; rw [hy336]; with_reducible exact H2_) | (have H2_ := (Option.bind_some _ _).symm.trans H; with_reducible exact H2_) | with_reducible exact H | (rw [hy336]; exact H) | exact H
      have Ny336 := Aside0.mk hy336; clear hy336; have H' := Aside0.mk H; clear H; have hnb67 := NB313_302.out; have hnc67 := NB302_313.out; have hnb68 := NB313_303.out; have hnc68 := NB303_313.out; have hcz69_0 := bc0 BK313.out; have hcz69_1 := bc1 BK313.out; have hcz69_2 := bc2 BK313.out; have hfz69_0 := blk_frozen BK313.out 0; have hfz69_1 := blk_frozen BK313.out 1; have hfz69_2 := blk_frozen BK313.out 2
      go_wp2_with (first | ((with_reducible refine gate_builtin (b := .append) (xs := #[.tmp 50, .tmp 52]) rfl ?_); at_builtin; refine Kd.S_append k48 (w0 := w) w.heap.size rfl (.tmp 50) (.tmp 52) 44 48 (.agg #[(.int .i64 0), (.string ⟨#[]⟩), (.slice none 0 0)]) 48 rfl Tryz.underlying44 info48 rfl (by decide) (by omega) u8 x8_1 (⟨t308, t309, t310⟩ : S48) [.int .i64 t308, .string t309, .slice Ao17 t310.length co17] (fun k_ => k_ ≠ gb303 ∧ k_ ≠ gb313) (fun k_ => some k_ = (.slice Ao17 t310.length co17 : Value).ownBlock) rfl rfl ?aP (fun k_ hk_ => ((Kd.R_mono (ok' := fun k_ => ((fun k_ => k_ ≠ gb303 ∧ k_ ≠ gb313)) k_ ∧ some k_ ≠ (u8 : Value).ownBlock) (Kd.R_types (Kd.R_types (Kd.R_apart' (HO_314002.out) (Kd.S_typed HO_8.out) (by decide)) BK303.out (by decide)) BK313.out (by decide)) (fun k_ hk => ⟨⟨hk.1.2, hk.2⟩, hk.1.1.2⟩))).1 k_ hk_.symm) ?aF ?aO ?aB ?aS ?aL ?_; (case aP => exact k48_mkM _ _ _ (⟨t308, t309, t310⟩ : S48) (Kd.R_mono (Kd.R_tight rfl (Kd.R_mono (ok' := fun k_ => ((fun k_ => k_ ≠ gb303 ∧ k_ ≠ gb313)) k_ ∧ some k_ ≠ (u8 : Value).ownBlock) (Kd.R_types (Kd.R_types (Kd.R_apart' (HO_314002.out) (Kd.S_typed HO_8.out) (by decide)) BK303.out (by decide)) BK313.out (by decide)) (fun k_ hk => ⟨⟨hk.1.2, hk.2⟩, hk.1.1.2⟩))) (fun _ h_ => h_))); (case aB => exact (bI HB.out)); (case aF => exact (fun k_ hk => ⟨Kd.freshB (g := gb303) (o := .cells #[.int .i64 a2_0, .string a2_1, .slice A2_2 l2_2.length c2_2] 48 (0, 0)) (kI BK303.out) k_ hk, Kd.freshB (g := gb313) (o := .cells #[.int .i64 t308, .string t309, .slice Ao17 t310.length co17] 48 (0, 0)) (kI BK313.out) k_ hk⟩)); (case aO => exact (sI (Kd.S_mono HO_8.out (fun k_ hk => ⟨⟨hk.2.1, hk.2.2⟩, fun e_ => hk.1 e_⟩)))); (case aS => exact (below_size (bI HB.out))); (case aL => have := LMc66.out; omega); intro v337 w70 ho hb hg hat; rw [← Ny336.out] at ho; have n0_ := bn BK302 hg (Kd.S_ne HO_8.out BK302.out (by decide)); have n1_ := bn BK303 hg (Kd.S_away HO_8.out (fun _ hk => hk.2.1)); have n2_ := bn BK313 hg (Kd.S_away HO_8.out (fun _ hk => hk.2.2)); have n3_ := Aside0.mk (hb); have n4_ := Aside0.mk (ho); clear BK302; clear BK303; clear BK313; clear HB; clear HO_8; clear HO_314002; have BK302 := n0_; have BK303 := n1_; have BK313 := n2_; have HB := n3_; have HO338 := n4_; clear n0_ n1_ n2_ n3_ n4_; clear ho hb hg hat))
      go_roundg kj10
      case measure => have := HK1.out; have := HJ10.out; omega
      case rel => exact ⟨(y336), (x9_1), (wrap64 (x10_1 + 1)), y0_13, y0_13, H', ⟨by have := HK1.out; have := HJ10.out; omega⟩, ⟨by (with_reducible repeat (first | apply Kd.S_alloc | apply Kd.S_drewN | apply Kd.S_drew)); exact Kd.S_mono HO338.out (fun _ hk => hk.1)⟩, ⟨gI BK302.out⟩, ⟨gI BK303.out⟩, ⟨bI HB.out⟩⟩
   rw [if_neg c8] at H
   have c8b0 : decide (x10_1 < (l1.length : Int)) = false := decide_eq_false c8; clear c8; have HC71 := Aside0.mk H; clear H
   go_upto_if 55 with (fail)
   go_cut [8] (fun v8 wc => ∃ (kq : Nat) (x8_70 : List (S48)), Aside0 (spec_TableAdd.j2 kq l1 x8_70 a0_0 a0_1 a2_0 a2_1 l2_2 = some (r1, r2)) ∧ Aside0 (kq ≤ k1) ∧ Aside0 (Kd.S k48 48 wc w.heap.size (fun k_ => k_ ≠ gb303) v8 x8_70) ∧ Aside0 (wc.heap[gb302]? = some (.cells #[.int .i64 a0_0, .int .i64 a0_1] 32 (0, 0))) ∧ Aside0 (wc.heap[gb303]? = some (.cells #[.int .i64 a2_0, .string a2_1, (.slice A2_2 l2_2.length c2_2)] 48 (0, 0))) ∧ Aside0 (Below w.heap.size w wc))
   case first =>
    have H := HC71.out; clear HC71
    by_cases c72 : x9_1 = true
    ·
     subst c72
     rw [if_pos rfl] at H
     have H' := Aside0.mk H; clear H
     go_wp2
     go_meet
     case rel => exact ⟨_, (x8_1), H', ⟨y0_10⟩, ⟨by (with_reducible repeat (first | apply Kd.S_alloc | apply Kd.S_drewN | apply Kd.S_drew)); exact HO_8.out⟩, ⟨gI BK302.out⟩, ⟨gI BK303.out⟩, ⟨bI HB.out⟩⟩
    replace c72 := Bool.eq_false_iff.mpr c72; subst c72
    rw [if_neg (show ¬ (false = true) by decide)] at H
    obtain ⟨⟨t339, t340, t341⟩, A73, H⟩ := oB H; (try dsimp only at H)
    by_cases c74 : x8_1.length < 2932031007402
    rotate_left
    ·
     rw [if_neg c74] at H
     exact absurd H (by simp)
    rw [if_pos c74] at H
    have LMc74 := Aside0.mk c74; clear c74; obtain ⟨y344, hy344⟩ : ∃ y_ : List (S48), y_ = (x8_1 ++ [(⟨t339, t340, t341⟩ : S48)]) := ⟨_, rfl⟩
    replace H : (spec_TableAdd.j2 k1 l1 y344 a0_0 a0_1 a2_0 a2_1 l2_2) = some (r1, r2) := by first | (rw [hy344]; with_reducible exact H) | (have H2_ := (Option.bind_some _ _).symm.trans H; rw [hy344]; with_reducible exact H2_) | (have H2_ := (Option.bind_some _ _).symm.trans H; with_reducible exact H2_) | with_reducible exact H | (rw [hy344]; exact H) | exact H
    have Ny344 := Aside0.mk hy344; clear hy344; have H' := Aside0.mk H; clear H; have hnb75 := NB303_302.out; have hnc75 := NB302_303.out; have hcz76_0 := bc0 BK303.out; have hcz76_1 := bc1 BK303.out; have hcz76_2 := bc2 BK303.out; have hfz76_0 := blk_frozen BK303.out 0; have hfz76_1 := blk_frozen BK303.out 1; have hfz76_2 := blk_frozen BK303.out 2
    go_wp2_with (first | ((with_reducible refine gate_callee (f := 78) rfl ?_); refine gB (some 58) Tryz.func78 #[.agg #[.int .i64 a2_0, .string a2_1, .slice A2_2 l2_2.length c2_2]] ?_; (with_reducible refine (spec_l10Copy.calls a2_0 a2_1 _ _ l2_2 t339 t340 t341 _ ?side1 ?side2 A73.out).mono ?_); (case side1 => exact ch HR2_2 HB); (case side2 => exact HC2_2.out); rintro e w77 ⟨v342, rfl, ho0, hb⟩; refine ⟨_, rfl, ?_⟩; replace HO_8 := Aside0.mk (Kd.S_elder' (sI HO_8.out) (Kd.R_base ho0) hb); have HO343 := Aside0.mk (Kd.R_lower ho0 (below_size (bI HB.out))); replace BK302 := bk BK302 hb; replace BK303 := bk BK303 hb; replace HB := bs HB hb; (try clear hb); (try clear ho0); obtain ⟨Ao79, co79, eo79⟩ := Kd.R_slice HO343.out; subst eo79) | ((with_reducible refine gate_builtin (b := .append) (xs := #[.tmp 56, .tmp 59]) rfl ?_); at_builtin; refine Kd.S_append k48 (w0 := w) w.heap.size rfl (.tmp 56) (.tmp 59) 44 48 (.agg #[(.int .i64 0), (.string ⟨#[]⟩), (.slice none 0 0)]) 48 rfl Tryz.underlying44 info48 rfl (by decide) (by omega) u8 x8_1 (⟨t339, t340, t341⟩ : S48) [.int .i64 t339, .string t340, .slice Ao79 t341.length co79] (fun k_ => k_ ≠ gb303) (fun k_ => some k_ = (.slice Ao79 t341.length co79 : Value).ownBlock) rfl rfl ?aP (fun k_ hk_ => ((Kd.R_mono (ok' := fun k_ => ((fun k_ => k_ ≠ gb303)) k_ ∧ some k_ ≠ (u8 : Value).ownBlock) (Kd.R_types (Kd.R_apart' (HO343.out) (Kd.S_typed HO_8.out) (by decide)) BK303.out (by decide)) (fun k_ hk => ⟨hk.2, hk.1.2⟩))).1 k_ hk_.symm) ?aF ?aO ?aB ?aS ?aL ?_; (case aP => exact k48_mkM _ _ _ (⟨t339, t340, t341⟩ : S48) (Kd.R_mono (Kd.R_tight rfl (Kd.R_mono (ok' := fun k_ => ((fun k_ => k_ ≠ gb303)) k_ ∧ some k_ ≠ (u8 : Value).ownBlock) (Kd.R_types (Kd.R_apart' (HO343.out) (Kd.S_typed HO_8.out) (by decide)) BK303.out (by decide)) (fun k_ hk => ⟨hk.2, hk.1.2⟩))) (fun _ h_ => h_))); (case aB => exact (bI HB.out)); (case aF => exact (fun k_ hk => Kd.freshB (g := gb303) (o := .cells #[.int .i64 a2_0, .string a2_1, .slice A2_2 l2_2.length c2_2] 48 (0, 0)) (kI BK303.out) k_ hk)); (case aO => exact (sI (Kd.S_mono HO_8.out (fun k_ hk => ⟨hk.1, fun e_ => hk.2 e_⟩)))); (case aS => exact (below_size (bI HB.out))); (case aL => have := LMc74.out; omega); intro v345 w78 ho hb hg hat; rw [← Ny344.out] at ho; have n0_ := bn BK302 hg (Kd.S_ne HO_8.out BK302.out (by decide)); have n1_ := bn BK303 hg (Kd.S_away HO_8.out (fun _ hk => hk.1)); have n2_ := Aside0.mk (hb); have n3_ := Aside0.mk (ho); clear BK302; clear BK303; clear HB; clear HO_8; clear HO343; have BK302 := n0_; have BK303 := n1_; have HB := n2_; have HO346 := n3_; clear n0_ n1_ n2_ n3_; clear ho hb hg hat))
    go_meet
    case rel => exact ⟨_, (y344), H', ⟨y0_10⟩, ⟨by (with_reducible repeat (first | apply Kd.S_alloc | apply Kd.S_drewN | apply Kd.S_drew)); exact HO346.out⟩, ⟨gI BK302.out⟩, ⟨gI BK303.out⟩, ⟨bI HB.out⟩⟩
   case rest =>
    clear HC71
    try clear c1
    try clear c2
    try clear p2
    try clear c3
    try clear p3
    try clear q3
    try clear hx3
    try clear c4
    try clear c5
    try clear c6
    try clear p6
    try clear c7
    try clear c8
    try clear c8b0
    try clear c9
    try clear c9b0
    try clear c14
    try clear c15
    try clear c18
    try clear c20
    try clear c21
    try clear c23
    try clear c26
    try clear c28
    try clear c29
    try clear c30
    try clear p30
    try clear q30
    try clear hx30
    try clear c31
    try clear c33
    try clear c37
    try clear c38
    try clear c39
    try clear c46
    try clear c47
    try clear c48
    try clear c49
    try clear c51
    try clear c55
    try clear c56
    try clear c57
    try clear p64
    try clear c66
    try clear c67
    try clear c68
    try clear c72
    try clear c74
    try clear c75
    try clear c78
    try clear hcz16_0
    try clear hcz16_1
    try clear hcz16_2
    try clear hcz22_0
    try clear hcz22_1
    try clear hcz22_2
    try clear hcz24_0
    try clear hcz24_1
    try clear hcz24_2
    try clear hcz32_0
    try clear hcz32_1
    try clear hcz32_2
    try clear hcz34_0
    try clear hcz34_1
    try clear hcz34_2
    try clear hcz40_0
    try clear hcz40_1
    try clear hcz40_2
    try clear hcz43_0
    try clear hcz43_1
    try clear hcz43_2
    try clear hcz50_0
    try clear hcz50_1
    try clear hcz50_2
    try clear hcz52_0
    try clear hcz52_1
    try clear hcz52_2
    try clear hcz58_0
    try clear hcz58_1
    try clear hcz58_2
    try clear hcz60_0
    try clear hcz60_1
    try clear hcz60_2
    try clear hcz64_0
    try clear hcz64_1
    try clear hcz64_2
    try clear hcz69_0
    try clear hcz69_1
    try clear hcz69_2
    try clear hcz76_0
    try clear hcz76_1
    try clear hcz76_2
    try clear hfz16_0
    try clear hfz16_1
    try clear hfz16_2
    try clear hfz22_0
    try clear hfz22_1
    try clear hfz22_2
    try clear hfz24_0
    try clear hfz24_1
    try clear hfz24_2
    try clear hfz32_0
    try clear hfz32_1
    try clear hfz32_2
    try clear hfz34_0
    try clear hfz34_1
    try clear hfz34_2
    try clear hfz40_0
    try clear hfz40_1
    try clear hfz40_2
    try clear hfz43_0
    try clear hfz43_1
    try clear hfz43_2
    try clear hfz50_0
    try clear hfz50_1
    try clear hfz50_2
    try clear hfz52_0
    try clear hfz52_1
    try clear hfz52_2
    try clear hfz58_0
    try clear hfz58_1
    try clear hfz58_2
    try clear hfz60_0
    try clear hfz60_1
    try clear hfz60_2
    try clear hfz64_0
    try clear hfz64_1
    try clear hfz64_2
    try clear hfz69_0
    try clear hfz69_1
    try clear hfz69_2
    try clear hfz76_0
    try clear hfz76_1
    try clear hfz76_2
    try clear hx307_0
    try clear hx307_1
    try clear hx307_2
    try clear p2
    try clear p3
    try clear p307
    try clear q3
    try clear q307
    obtain ⟨kq, x8_70, HA, HJ70, HO_8, BK302, BK303, HB⟩ := hcut; cases kq with
    | zero => exact absurd HA.out (by simp [spec_TableAdd.j2])
    | succ kj70 =>
     have H := HA.out; clear HA
     simp only [spec_TableAdd.j2] at H
     obtain ⟨t347, A80, H⟩ := oB H; (try dsimp only at H)
     by_cases c81 : t347 = true
     ·
      subst c81
      rw [if_pos rfl] at H
      obtain ⟨t348, A82, H⟩ := oB H; (try dsimp only at H)
      by_cases c83 : t348 = true
      ·
       subst c83
       rw [if_pos rfl] at H
       simp only [Option.some.injEq, Prod.mk.injEq] at H
       obtain ⟨rfl, rfl⟩ := H; have hnb84 := NB302_303.out; have hnc84 := NB303_302.out; have hcz85_0 := bc0 BK302.out; have hcz85_1 := bc1 BK302.out; have hfz85_0 := blk_frozen BK302.out 0; have hfz85_1 := blk_frozen BK302.out 1; obtain ⟨Ao86, co86, eo86⟩ := Kd.S_slice HO_8.out; subst eo86
       go_wp2_with (first | ((with_reducible refine gate_callee (f := 47) rfl ?_); refine gB (some 63) Tryz.func47 #[.agg #[.int .i64 a0_0, .int .i64 a0_1], .slice Ao86 x8_70.length co86] ?_; (with_reducible refine (spec_TableOk.calls kj70 a0_0 a0_1 _ _ x8_70 true _ ?side1 ?side2 A80.out).mono ?_); (case side1 => repeat (first | exact (Kd.S_reads' HO_8.out).2.2 | (with_reducible refine Kd.C_alloc ?_ _) | (with_reducible refine Kd.C_drewN ?_ _) | (with_reducible refine Kd.C_drew ?_))); (case side2 => exact (Kd.S_reads' HO_8.out).2.1); rintro e w87 ⟨rfl, hb⟩; refine ⟨_, rfl, ?_⟩; replace HO_8 := sb HO_8 hb; replace BK302 := bk BK302 hb; replace BK303 := bk BK303 hb; replace HB := bs HB hb; (try clear hb); (try clear hb2); (try clear hk); (try clear hi); obtain ⟨hcz88_0, hcz88_1, hfz88_0, hfz88_1⟩ := cs2 BK302; obtain ⟨hcz89_0, hcz89_1, hcz89_2, hfz89_0, hfz89_1, hfz89_2⟩ := cs3 BK303) | (go_at_call 49; (with_reducible refine (spec_PartOk.calls kj70 a0_0 a0_1 a2_0 a2_1 _ _ l2_2 true _ ?side1 ?side2 A82.out).mono ?_); (case side1 => exact ch HR2_2 HB); (case side2 => exact HC2_2.out); rintro e w90 ⟨rfl, hb⟩; replace HO_8 := sb HO_8 hb; replace BK302 := bk BK302 hb; replace BK303 := bk BK303 hb; replace HB := bs HB hb; (try clear hb); (try clear hb2); (try clear hk); (try clear hi)))
       go_ret2
       exact ⟨_, y0_7, by (with_reducible repeat (first | apply Kd.S_alloc | apply Kd.S_drewN | apply Kd.S_drew)); exact Kd.S_mono HO_8.out (fun _ hk => trivial), bI HB.out⟩
      replace c83 := Bool.eq_false_iff.mpr c83; subst c83
      rw [if_neg (show ¬ (false = true) by decide)] at H
      obtain ⟨t349, A91, H⟩ := oB H; (try dsimp only at H)
      simp only [Option.some.injEq, Prod.mk.injEq] at H
      obtain ⟨rfl, rfl⟩ := H; have hnb92 := NB302_303.out; have hnc92 := NB303_302.out; have hcz93_0 := bc0 BK302.out; have hcz93_1 := bc1 BK302.out; have hfz93_0 := blk_frozen BK302.out 0; have hfz93_1 := blk_frozen BK302.out 1; obtain ⟨Ao94, co94, eo94⟩ := Kd.S_slice HO_8.out; subst eo94
      go_wp2_with (first | ((with_reducible refine gate_callee (f := 47) rfl ?_); refine gB (some 63) Tryz.func47 #[.agg #[.int .i64 a0_0, .int .i64 a0_1], .slice Ao94 x8_70.length co94] ?_; (with_reducible refine (spec_TableOk.calls kj70 a0_0 a0_1 _ _ x8_70 true _ ?side1 ?side2 A80.out).mono ?_); (case side1 => repeat (first | exact (Kd.S_reads' HO_8.out).2.2 | (with_reducible refine Kd.C_alloc ?_ _) | (with_reducible refine Kd.C_drewN ?_ _) | (with_reducible refine Kd.C_drew ?_))); (case side2 => exact (Kd.S_reads' HO_8.out).2.1); rintro e w95 ⟨rfl, hb⟩; refine ⟨_, rfl, ?_⟩; replace HO_8 := sb HO_8 hb; replace BK302 := bk BK302 hb; replace BK303 := bk BK303 hb; replace HB := bs HB hb; (try clear hb); (try clear hb2); (try clear hk); (try clear hi); obtain ⟨hcz96_0, hcz96_1, hfz96_0, hfz96_1⟩ := cs2 BK302; obtain ⟨hcz97_0, hcz97_1, hcz97_2, hfz97_0, hfz97_1, hfz97_2⟩ := cs3 BK303) | (go_at_call 49; (with_reducible refine (spec_PartOk.calls kj70 a0_0 a0_1 a2_0 a2_1 _ _ l2_2 false _ ?side1 ?side2 A82.out).mono ?_); (case side1 => exact ch HR2_2 HB); (case side2 => exact HC2_2.out); rintro e w98 ⟨rfl, hb⟩; replace HO_8 := sb HO_8 hb; replace BK302 := bk BK302 hb; replace BK303 := bk BK303 hb; replace HB := bs HB hb; (try clear hb); (try clear hb2); (try clear hk); (try clear hi)) | ((with_reducible refine gate_callee (f := 80) rfl ?_); refine gB (some 72) Tryz.func80 #[.slice A1 l1.length c1] ?_; (with_reducible refine (spec_l10Table.calls kj70 _ _ l1 t349 _ ?side1 ?side2 A91.out).mono ?_); (case side1 => exact ch HR1 HB); (case side2 => exact HC1.out); rintro e w99 ⟨v350, rfl, ho0, hb⟩; refine ⟨_, rfl, ?_⟩; have HO351 := Aside0.mk (Kd.S_lower (Kd.S_newB (Kd.S_new' ho0 (Kd.S_lt (sI HO_8.out))) (g := gb303) (o := .cells #[.int .i64 a2_0, .string a2_1, .slice A2_2 l2_2.length c2_2] 48 (0, 0)) (kI BK303.out)) (below_size (bI HB.out))); replace HO_8 := Aside0.mk (Kd.S_elder' (sI HO_8.out) (Kd.S_base ho0) hb); replace BK302 := bk BK302 hb; replace BK303 := bk BK303 hb; replace HB := bs HB hb; (try clear hb)))
      go_ret2
      exact ⟨_, y0_7, by (with_reducible repeat (first | apply Kd.S_alloc | apply Kd.S_drewN | apply Kd.S_drew)); exact Kd.S_mono HO351.out (fun _ hk => trivial), bI HB.out⟩
     replace c81 := Bool.eq_false_iff.mpr c81; subst c81
     rw [if_neg (show ¬ (false = true) by decide)] at H
     obtain ⟨t352, A100, H⟩ := oB H; (try dsimp only at H)
     simp only [Option.some.injEq, Prod.mk.injEq] at H
     obtain ⟨rfl, rfl⟩ := H; have hnb101 := NB302_303.out; have hnc101 := NB303_302.out; have hcz102_0 := bc0 BK302.out; have hcz102_1 := bc1 BK302.out; have hfz102_0 := blk_frozen BK302.out 0; have hfz102_1 := blk_frozen BK302.out 1; obtain ⟨Ao103, co103, eo103⟩ := Kd.S_slice HO_8.out; subst eo103
     go_wp2_with (first | ((with_reducible refine gate_callee (f := 47) rfl ?_); refine gB (some 63) Tryz.func47 #[.agg #[.int .i64 a0_0, .int .i64 a0_1], .slice Ao103 x8_70.length co103] ?_; (with_reducible refine (spec_TableOk.calls kj70 a0_0 a0_1 _ _ x8_70 false _ ?side1 ?side2 A80.out).mono ?_); (case side1 => repeat (first | exact (Kd.S_reads' HO_8.out).2.2 | (with_reducible refine Kd.C_alloc ?_ _) | (with_reducible refine Kd.C_drewN ?_ _) | (with_reducible refine Kd.C_drew ?_))); (case side2 => exact (Kd.S_reads' HO_8.out).2.1); rintro e w104 ⟨rfl, hb⟩; refine ⟨_, rfl, ?_⟩; replace HO_8 := sb HO_8 hb; replace BK302 := bk BK302 hb; replace BK303 := bk BK303 hb; replace HB := bs HB hb; (try clear hb); (try clear hb2); (try clear hk); (try clear hi)) | ((with_reducible refine gate_callee (f := 80) rfl ?_); refine gB (some 72) Tryz.func80 #[.slice A1 l1.length c1] ?_; (with_reducible refine (spec_l10Table.calls kj70 _ _ l1 t352 _ ?side1 ?side2 A100.out).mono ?_); (case side1 => exact ch HR1 HB); (case side2 => exact HC1.out); rintro e w105 ⟨v353, rfl, ho0, hb⟩; refine ⟨_, rfl, ?_⟩; have HO354 := Aside0.mk (Kd.S_lower (Kd.S_newB (Kd.S_new' ho0 (Kd.S_lt (sI HO_8.out))) (g := gb303) (o := .cells #[.int .i64 a2_0, .string a2_1, .slice A2_2 l2_2.length c2_2] 48 (0, 0)) (kI BK303.out)) (below_size (bI HB.out))); replace HO_8 := Aside0.mk (Kd.S_elder' (sI HO_8.out) (Kd.S_base ho0) hb); replace BK302 := bk BK302 hb; replace BK303 := bk BK303 hb; replace HB := bs HB hb; (try clear hb)))
     go_ret2
     exact ⟨_, y0_7, by (with_reducible repeat (first | apply Kd.S_alloc | apply Kd.S_drewN | apply Kd.S_drew)); exact Kd.S_mono HO354.out (fun _ hk => trivial), bI HB.out⟩

end Go.Proofs.YtdmjhgogljhfkaaGreatDoor.PFnExactTableAdd
