-- By a program of this session, out of the translation (the print of the kit, with turns of its own). Lean checks it.
import Derived.Test.YtnpbopadajbopaaPFnExactTableDropx0
import Derived.Test.YtnpbopadajbopaaPFnExactTableDropx2
namespace Go.Proofs.Ytnpbopadajbopaa.PFnExactTableDrop
open Go.RowKit Go.Proofs.YtnpbopadajbopaaW.PrintWords Go.Proofs.YtnpbopadajbopaaW.PrintLast Go.Proofs.YtnpbopadajbopaaW.PrintMore
attribute [local go_sem] max2_int min2_int max_two min_two max_three min_three max_four min_four   -- for this text's walks alone
attribute [local go_sem] cell_in frozen_in
set_option synthInstance.maxSize 1000000
set_option synthInstance.maxHeartbeats 2000000
set_option linter.unusedVariables false
set_option linter.unusedSimpArgs false

/-! ### spec_TableDrop: function 14 -/
def spec_TableDrop.l0 : Nat → List (S26) → Int → List (S26) → Int → Option ((List (S26)))
 | 0, _, _, _, _ => none
 | k + 1, x0, x1, x5, x6 => if x6 < (x0.length : Int) then (if 0 ≤ x6 then (if ((rd_T26 x0 x6).f0) ≥ x1 then ((spec_l10Copy.f ((rd_T26 x0 x6).f0) ((rd_T26 x0 x6).f1) ((rd_T26 x0 x6).f2)).bind fun bt151 => (if x5.length < 2932031007402 then (spec_TableDrop.l0 k x0 x1 (x5 ++ [(⟨bt151.1, bt151.2.1, bt151.2.2⟩ : S26)]) (wrap64 (x6 + 1))) else (none))) else (spec_TableDrop.l0 k x0 x1 x5 (wrap64 (x6 + 1)))) else (none)) else (some x5)
def spec_TableDrop.f (k : Nat) (l0 : List (S26)) (a1 : Int) : Option ((List (S26))) := spec_TableDrop.l0 k l0 a1 (([] : List (S26))) 0
theorem spec_TableDrop.mono_l : ∀ k, (∀ y0 y1 y2 y3, LeO (spec_TableDrop.l0 k y0 y1 y2 y3) (spec_TableDrop.l0 (k + 1) y0 y1 y2 y3))
 | 0 => fun _ _ _ _ r h => by simp [spec_TableDrop.l0] at h
 | k + 1 => by
  have ih0 := spec_TableDrop.mono_l k
  intro y0 y1 y2 y3
  unfold spec_TableDrop.l0
  repeat' first | (with_reducible exact ih0 _ _ _ _) | (with_reducible exact LeO.refl _) | (with_reducible exact LeO.none _) | (with_reducible refine LeO.ite ?_ ?_) | (with_reducible refine LeO.bind ?_ (fun _ => ?_))
theorem spec_TableDrop.mono : ∀ a0 a1 k, LeO (spec_TableDrop.f k a0 a1) (spec_TableDrop.f (k + 1) a0 a1) := by
 intro a0 a1 k
 have ih0 := spec_TableDrop.mono_l k
 unfold spec_TableDrop.f
 repeat' first | (with_reducible exact ih0 _ _ _ _) | (with_reducible exact LeO.refl _) | (with_reducible exact LeO.none _) | (with_reducible refine LeO.ite ?_ ?_) | (with_reducible refine LeO.bind ?_ (fun _ => ?_))
set_option maxHeartbeats 8000000 in
set_option maxRecDepth 100000 in
theorem spec_TableDrop.calls (k : Nat) (A0 : Option Addr) (c0 : Nat) (l0 : List (S26)) (a1 : Int) (r : List (S26)) (w : World) (hr0 : Kd.C k26 w A0 l0.length l0) (hc0 : l0.length ≤ c0) (h : spec_TableDrop.f k l0 a1 = some r) :
  Calls Try.prog 14 #[.slice A0 l0.length c0, .int .i64 a1] w fun e w' => ∃ v0_ : Value, e = .returned (v0_) ∧ Kd.S k26 26 w' w.heap.size (fun _ => True) v0_ r ∧ Below w.heap.size w w' := by
 have hu26 := Try.underlying26; have HR0 := Aside0.mk hr0; have HC0 := Aside0.mk hc0; clear hr0 hc0; have HB := Aside0.mk (Below.refl w.heap.size w); have H := h; unfold spec_TableDrop.f at H; clear h; obtain ⟨y146, hy146⟩ : ∃ y_ : List (S26), y_ = (([] : List (S26))) := ⟨_, rfl⟩
 replace H : (spec_TableDrop.l0 k l0 a1 y146 0) = some r := by first | (rw [hy146]; with_reducible exact H) | (have H2_ := (Option.bind_some _ _).symm.trans H; rw [hy146]; with_reducible exact H2_) | (have H2_ := (Option.bind_some _ _).symm.trans H; with_reducible exact H2_) | with_reducible exact H | (rw [hy146]; exact H) | exact H
 have Ny146 := Aside0.mk hy146; clear hy146; have H' := Aside0.mk H; clear H
 go_enter Try.func14, Try.ntmps14
 go_wp2_with (first | ((with_reducible refine gate_dst (N := 7) rfl ?_); refine Kd.S_lit k26 _ 26 ?hg (N := 7) ?hd (xs := ([] : List (S26))) (inner := []) (ok := fun _ => True) (okp := fun _ => True) ?hr ?hp (fun _ hk => hk) trivial (Below.refl _ _) (Nat.le_refl _) (by simp) ?_; (case hd => rfl); (case hg => rfl); (case hr => first | (go_simp; done) | (go_simp; rfl)); (case hp => exact (Reps.none _ _)); intro v147 w3 ho4 hb hg_ hnew_; clear hg_ hnew_; (first | rw [← Ny146.out] at ho4 | (simp only [Int.reduceToNat] at ho4; rw [← Ny146.out] at ho4)); have HO148 := Aside0.mk (Kd.S_lower ho4 (below_size (bI HB.out))); replace HB := bs HB hb; clear hb ho4))
 go_loopg [5, 6] k (fun kq v5 v6 w' => ∃ (x5_1 : List (S26)) (x6_1 : Int), v6 = .int .i64 x6_1 ∧ Aside0 (spec_TableDrop.l0 kq l0 a1 x5_1 x6_1 = some r) ∧ Aside0 (kq ≤ k) ∧ Aside0 (Kd.S k26 26 w' w.heap.size (fun _ => True) v5 x5_1) ∧ Aside0 (Below w.heap.size w w'))
 case atStart => exact ⟨(y146), (0), y0_5, H', ⟨Nat.le_refl _⟩, ⟨by (with_reducible repeat (first | apply Kd.S_alloc | apply Kd.S_drewN | apply Kd.S_drew)); exact HO148.out⟩, ⟨bI HB.out⟩⟩
 case round =>
  clear H'
  try clear c1
  try clear p2
  obtain ⟨x5_1, x6_1, rfl, HA, HK1, HO_5, HB⟩ := hrel; cases gk with
  | zero => exact absurd HA.out (by simp [spec_TableDrop.l0])
  | succ k1 =>
   have H := HA.out; clear HA
   simp only [spec_TableDrop.l0] at H
   by_cases c5 : x6_1 < (l0.length : Int)
   ·
    rw [if_pos c5] at H
    have c5b0 : decide (x6_1 < (l0.length : Int)) = true := decide_eq_true c5; clear c5
    by_cases c6 : 0 ≤ x6_1
    rotate_left
    ·
     rw [if_neg c6] at H
     exact absurd H (by simp)
    rw [if_pos c6] at H
    have c6b0 : decide (0 ≤ x6_1) = true := decide_eq_true c6; clear c6
    by_cases c7 : ((rd_T26 l0 x6_1).f0) ≥ a1
    ·
     rw [if_pos c7] at H
     have c7b0 : decide (a1 ≤ ((rd_T26 l0 x6_1).f0)) = true := decide_eq_true c7; clear c7; obtain ⟨⟨t151, t152, t153⟩, A8, H⟩ := oB H; (try dsimp only at H)
     by_cases c9 : x5_1.length < 2932031007402
     rotate_left
     ·
      rw [if_neg c9] at H
      exact absurd H (by simp)
     rw [if_pos c9] at H
     have LMc9 := Aside0.mk c9; clear c9; obtain ⟨y156, hy156⟩ : ∃ y_ : List (S26), y_ = (x5_1 ++ [(⟨t151, t152, t153⟩ : S26)]) := ⟨_, rfl⟩
     replace H : (spec_TableDrop.l0 k1 l0 a1 y156 (wrap64 (x6_1 + 1))) = some r := by first | (rw [hy156]; with_reducible exact H) | (have H2_ := (Option.bind_some _ _).symm.trans H; rw [hy156]; with_reducible exact H2_) | (have H2_ := (Option.bind_some _ _).symm.trans H; with_reducible exact H2_) | with_reducible exact H | (rw [hy156]; exact H) | exact H
     have Ny156 := Aside0.mk hy156; clear hy156; have H' := Aside0.mk H; clear H; have p149 : 0 ≤ (x6_1 : Int) := of_decide_eq_true y0_4; have q149 : x6_1 < (l0.length : Int) := of_decide_eq_true y0_4; obtain ⟨ad149, A149_2, c149_2, e149, hx149_0, hx149_1, hx149_2, hl149_2, hi149_2⟩ := at_T26 HR0.out x6_1 p149 q149; have hr149_2 := hx149_2; cases e149; replace hx149_0 := bx HB hx149_0; replace hx149_1 := bx HB hx149_1; replace hx149_2 := bx HB hx149_2; have HR149_2 := Aside0.mk hi149_2; have HC149_2 := Aside0.mk hl149_2; clear hi149_2 hl149_2; replace p149 := eq_true p149; replace q149 := eq_true q149; have p150 : 0 ≤ (x6_1 : Int) := of_decide_eq_true y0_4; have q150 : x6_1 < (l0.length : Int) := of_decide_eq_true y0_4; obtain ⟨ad150, A150_2, c150_2, e150, hx150_0, hx150_1, hx150_2, hl150_2, hi150_2⟩ := at_T26 HR0.out x6_1 p150 q150
     obtain rfl : ad149 = ad150 := (by injection e150)
     replace hx150_0 := bx HB hx150_0; replace hx150_1 := bx HB hx150_1; replace hx150_2 := bx HB hx150_2; have HR150_2 := Aside0.mk hi150_2; have HC150_2 := Aside0.mk hl150_2; clear hi150_2 hl150_2; replace p150 := eq_true p150; replace q150 := eq_true q150; have ea_ := Option.some.inj (hx149_2.symm.trans hx150_2)
     injection ea_ with ea_ en_ ec_
     subst ea_; subst ec_; clear en_
     go_wp2_with (first | ((with_reducible refine gate_callee (f := 18) rfl ?_); refine gB (some 26) Try.func18 #[.agg #[.int .i64 ((rd_T26 l0 x6_1).f0), .string ((rd_T26 l0 x6_1).f1), .slice A149_2 ((rd_T26 l0 x6_1).f2).length c149_2]] ?_; (with_reducible refine (spec_l10Copy.calls ((rd_T26 l0 x6_1).f0) ((rd_T26 l0 x6_1).f1) _ _ ((rd_T26 l0 x6_1).f2) t151 t152 t153 _ ?side1 ?side2 A8.out).mono ?_); (case side1 => exact ch HR150_2 HB); (case side2 => exact HC150_2.out); rintro e w10 ⟨v154, rfl, ho0, hb⟩; refine ⟨_, rfl, ?_⟩; replace HO_5 := Aside0.mk (Kd.S_elder' (sI HO_5.out) (Kd.R_base ho0) hb); have HO155 := Aside0.mk (Kd.R_lower ho0 (below_size (bI HB.out))); replace HB := bs HB hb; (try clear hb); (try clear ho0); obtain ⟨Ao12, co12, eo12⟩ := Kd.R_slice HO155.out; subst eo12) | ((with_reducible refine gate_builtin (b := .append) (xs := #[.tmp 21, .tmp 27]) rfl ?_); at_builtin; refine Kd.S_append k26 (w0 := w) w.heap.size rfl (.tmp 21) (.tmp 27) 28 26 (.agg #[(.int .i64 0), (.string ⟨#[]⟩), (.slice none 0 0)]) 48 rfl Try.underlying28 info26 rfl (by decide) (by omega) u5 x5_1 (⟨t151, t152, t153⟩ : S26) [.int .i64 t151, .string t152, .slice Ao12 t153.length co12] (fun _ => True) (fun k_ => some k_ = (.slice Ao12 t153.length co12 : Value).ownBlock) rfl rfl ?aP (fun k_ hk_ => ((Kd.R_mono (ok' := fun k_ => ((fun _ => True)) k_ ∧ some k_ ≠ (u5 : Value).ownBlock) (Kd.R_apart' (HO155.out) (Kd.S_typed HO_5.out) (by decide)) (fun k_ hk => ⟨trivial, hk.2⟩))).1 k_ hk_.symm) ?aF ?aO ?aB ?aS ?aL ?_; (case aP => exact k26_mkM _ _ _ (⟨t151, t152, t153⟩ : S26) (Kd.R_mono (Kd.R_tight rfl (Kd.R_mono (ok' := fun k_ => ((fun _ => True)) k_ ∧ some k_ ≠ (u5 : Value).ownBlock) (Kd.R_apart' (HO155.out) (Kd.S_typed HO_5.out) (by decide)) (fun k_ hk => ⟨trivial, hk.2⟩))) (fun _ h_ => h_))); (case aB => exact (bI HB.out)); (case aF => exact (fun _ _ => trivial)); (case aO => exact (sI (Kd.S_mono HO_5.out (fun k_ hk => ⟨trivial, fun e_ => hk.2 e_⟩)))); (case aS => exact (below_size (bI HB.out))); (case aL => have := LMc9.out; omega); intro v157 w11 ho hb hg hat; rw [← Ny156.out] at ho; have n0_ := Aside0.mk (hb); have n1_ := Aside0.mk (ho); clear HB; clear HO_5; clear HO155; have HB := n0_; have HO158 := n1_; clear n0_ n1_; clear ho hb hg hat))
     go_roundg k1
     case measure => have := HK1.out; omega
     case rel => exact ⟨(y156), (wrap64 (x6_1 + 1)), y0_5, H', ⟨y0_6⟩, ⟨by (with_reducible repeat (first | apply Kd.S_alloc | apply Kd.S_drewN | apply Kd.S_drew)); exact HO158.out⟩, ⟨bI HB.out⟩⟩
    rw [if_neg c7] at H
    have c7b0 : decide (a1 ≤ ((rd_T26 l0 x6_1).f0)) = false := decide_eq_false c7; clear c7; have H' := Aside0.mk H; clear H; have p149 : 0 ≤ (x6_1 : Int) := of_decide_eq_true y0_4; have q149 : x6_1 < (l0.length : Int) := of_decide_eq_true y0_4; obtain ⟨ad149, A149_2, c149_2, e149, hx149_0, hx149_1, hx149_2, hl149_2, hi149_2⟩ := at_T26 HR0.out x6_1 p149 q149; have hr149_2 := hx149_2; cases e149; replace hx149_0 := bx HB hx149_0; replace hx149_1 := bx HB hx149_1; replace hx149_2 := bx HB hx149_2; have HR149_2 := Aside0.mk hi149_2; have HC149_2 := Aside0.mk hl149_2; clear hi149_2 hl149_2; replace p149 := eq_true p149; replace q149 := eq_true q149
    go_wp2
    go_roundg k1
    case measure => have := HK1.out; omega
    case rel => exact ⟨(x5_1), (wrap64 (x6_1 + 1)), y0_5, H', ⟨y0_6⟩, ⟨y0_1⟩, ⟨bI HB.out⟩⟩
   rw [if_neg c5] at H
   have c5b0 : decide (x6_1 < (l0.length : Int)) = false := decide_eq_false c5; clear c5; obtain rfl := Option.some.inj H
   go_wp2
   go_ret
   exact ⟨_, y0_2, y0_1, bI HB.out⟩

/-! ### impl_copyInts: function 27 -/
def impl_copyInts.f (l0 : List Int) : Option (List Int) := if ([] : List Int).length + l0.length < 17592186044416 then (some (([] : List Int) ++ l0)) else (none)
set_option maxHeartbeats 8000000 in
set_option maxRecDepth 100000 in
theorem impl_copyInts.calls (A0 : Option Addr) (c0 : Nat) (l0 : List Int) (r : List Int) (w : World) (hr0 : Kd.C (Kd.int .i64) w A0 l0.length l0) (hc0 : l0.length ≤ c0) (h : impl_copyInts.f l0 = some r) :
  Calls Try.prog 27 #[.slice A0 l0.length c0] w fun e w' => ∃ v0_ : Value, e = .returned (v0_) ∧ Kd.R (Kd.int .i64) 3 w' w.heap.size (fun _ => True) v0_ r ∧ Below w.heap.size w w' := by
 have HR0 := Aside0.mk hr0; have HC0 := Aside0.mk hc0; clear hr0 hc0; have HB := Aside0.mk (Below.refl w.heap.size w); have H := h; unfold impl_copyInts.f at H; clear h
 by_cases c2 : ([] : List Int).length + l0.length < 17592186044416
 ·
  rw [if_pos c2] at H
  have LMc2 := Aside0.mk c2; clear c2; obtain ⟨y159, hy159⟩ : ∃ y_ : List Int, y_ = (([] : List Int) ++ l0) := ⟨_, rfl⟩
  replace H : (some y159) = some r := by first | (rw [hy159]; with_reducible exact H) | (have H2_ := (Option.bind_some _ _).symm.trans H; rw [hy159]; with_reducible exact H2_) | (have H2_ := (Option.bind_some _ _).symm.trans H; with_reducible exact H2_) | with_reducible exact H | (rw [hy159]; exact H) | exact H
  have Ny159 := Aside0.mk hy159; clear hy159; obtain rfl := Option.some.inj H
  go_enter Try.func27, Try.ntmps27
  go_wp2_with (first | ((with_reducible refine gate_builtin (b := .append) (xs := #[.const (.slice none 0 0), .tmp 3]) rfl ?_); at_builtin; refine Kd.R_append_rows (Kd.int .i64) (w0 := w) w.heap.size rfl (.const (.slice none 0 0)) (.tmp 3) 24 3 (.int .i64 0) 8 rfl Try.underlying24 info3 rfl (by decide) (by omega) (.slice none 0 0) ([] : List Int) l0 _ _ _ (fun _ => True) (fun _ => False) rfl rfl ?aO ?aR (fun _ _ h => h) (fun _ h => h.elim) ?aF ?aB ?aS ?aL ?_; (case aR => exact cI HR0.out); (case aB => exact (bI HB.out)); (case aF => exact (fun _ _ => trivial)); (case aO => exact ((Kd.R_nil _ _ _ _ (fun _ => True)))); (case aS => exact (below_size (bI HB.out))); (case aL => have := LMc2.out; omega); intro v160 w3 ho hb hg hat; rw [← Ny159.out] at ho; replace HB := Aside0.mk (hb); have HO161 := Aside0.mk (ho); clear ho hb hg hat))
  go_ret
  exact ⟨_, y0_2, by (with_reducible repeat (first | apply Kd.R_alloc | apply Kd.R_drewN | apply Kd.R_drew)); exact HO161.out, bI HB.out⟩
 rw [if_neg c2] at H
 exact absurd H (by simp)

/-! ### impl_copyPart: function 20 -/
def impl_copyPart.f (a0_0 : Int) (a0_1 : ByteArray) (l0_2 : List Int) : Option (Int × ByteArray × List Int) := (impl_copyInts.f l0_2).bind fun t164 => (some (a0_0, a0_1, t164))
set_option maxHeartbeats 8000000 in
set_option maxRecDepth 100000 in
theorem impl_copyPart.calls (a0_0 : Int) (a0_1 : ByteArray) (A0_2 : Option Addr) (c0_2 : Nat) (l0_2 : List Int) (r1 : Int) (r2 : ByteArray) (r3 : List Int) (w : World) (hr0_2 : Kd.C (Kd.int .i64) w A0_2 l0_2.length l0_2) (hc0_2 : l0_2.length ≤ c0_2) (h : impl_copyPart.f a0_0 a0_1 l0_2 = some (r1, r2, r3)) :
  Calls Try.prog 20 #[.agg #[.int .i64 a0_0, .string a0_1, .slice A0_2 l0_2.length c0_2]] w fun e w' => ∃ v2_ : Value, e = .returned (.agg #[.int .i64 r1, .string r2, v2_]) ∧ Kd.R (Kd.int .i64) 3 w' w.heap.size (fun _ => True) v2_ r3 ∧ Below w.heap.size w w' := by
 have hu26 := Try.underlying26; have HR0_2 := Aside0.mk hr0_2; have HC0_2 := Aside0.mk hc0_2; clear hr0_2 hc0_2; have HB := Aside0.mk (Below.refl w.heap.size w)
 have H := h; unfold impl_copyPart.f at H
 clear h; obtain ⟨t164, A2, H⟩ := oB H; (try dsimp only at H)
 simp only [Option.some.injEq, Prod.mk.injEq] at H
 obtain ⟨rfl, rfl, rfl⟩ := H
 go_enter Try.func20, Try.ntmps20
 go_wp2_with (first | ((with_reducible refine gd 1 ?_); refine bL 1 #[.int .i64 a0_0, .string a0_1, .slice A0_2 l0_2.length c0_2] 26 ?_; intro gb162 w3 _ _ _) | ((with_reducible refine gd 2 ?_); refine bL 2 #[.int .i64 0, .string (⟨#[]⟩ : ByteArray), .slice none 0 0] 26 ?_; intro gb163 w4 _ _ _) | ((with_reducible refine gate_callee (f := 27) rfl ?_); refine gC1 (some 5) Try.func27 (impl_copyInts.calls (hr0 := pC HR0_2) (hc0 := HC0_2.out) (w := _) (h := A2.out)) ?_; intro Ao165 co165 w5 _ HO166))
 refine bodyPost_ret (results_cell_row rfl _ _ gb163 26 #[.int .i64 a0_0, .string a0_1, .slice Ao165 t164.length co165] (0, 0) _ rfl xB Try.underlying26 rfl (by kernel_rfl)) rfl ?_
 exact ⟨_, y0_5, rR HO166, UpW.out⟩

/-! ### impl_TableDrop: function 15 -/
def impl_TableDrop.l0 : Nat → Int → List (S26) → List (S26) → Int → Int → Option ((List (S26)))
 | 0, _, _, _, _, _ => none
 | k + 1, x1, x5, x8, x9, x10 => if x10 < x9 then (if 0 ≤ x10 then (if x10 < (x8.length : Int) then (if ((rd_T26 x8 x10).f0) ≥ x1 then ((impl_copyPart.f ((rd_T26 x8 x10).f0) ((rd_T26 x8 x10).f1) ((rd_T26 x8 x10).f2)).bind fun bt169 => (if x5.length < 2932031007402 then (impl_TableDrop.l0 k x1 (x5 ++ [(⟨bt169.1, bt169.2.1, bt169.2.2⟩ : S26)]) x8 x9 (wrap64 (x10 + 1))) else (none))) else (impl_TableDrop.l0 k x1 x5 x8 x9 (wrap64 (x10 + 1)))) else (none)) else (none)) else (some x5)
def impl_TableDrop.f (k : Nat) (l0 : List (S26)) (a1 : Int) : Option ((List (S26))) := impl_TableDrop.l0 k a1 ([] : List (S26)) l0 (l0.length : Int) 0
theorem impl_TableDrop.mono_l : ∀ k, (∀ y0 y1 y2 y3 y4, LeO (impl_TableDrop.l0 k y0 y1 y2 y3 y4) (impl_TableDrop.l0 (k + 1) y0 y1 y2 y3 y4))
 | 0 => fun _ _ _ _ _ r h => by simp [impl_TableDrop.l0] at h
 | k + 1 => by
  have ih0 := impl_TableDrop.mono_l k
  intro y0 y1 y2 y3 y4
  unfold impl_TableDrop.l0
  repeat' first | (with_reducible exact ih0 _ _ _ _ _) | (with_reducible exact LeO.refl _) | (with_reducible exact LeO.none _) | (with_reducible refine LeO.ite ?_ ?_) | (with_reducible refine LeO.bind ?_ (fun _ => ?_))
theorem impl_TableDrop.mono : ∀ a0 a1 k, LeO (impl_TableDrop.f k a0 a1) (impl_TableDrop.f (k + 1) a0 a1) := by
 intro a0 a1 k
 have ih0 := impl_TableDrop.mono_l k
 unfold impl_TableDrop.f
 repeat' first | (with_reducible exact ih0 _ _ _ _ _) | (with_reducible exact LeO.refl _) | (with_reducible exact LeO.none _) | (with_reducible refine LeO.ite ?_ ?_) | (with_reducible refine LeO.bind ?_ (fun _ => ?_))
set_option maxHeartbeats 8000000 in
set_option maxRecDepth 100000 in
theorem impl_TableDrop.calls (k : Nat) (A0 : Option Addr) (c0 : Nat) (l0 : List (S26)) (a1 : Int) (r : List (S26)) (w : World) (hr0 : Kd.C k26 w A0 l0.length l0) (hc0 : l0.length ≤ c0) (h : impl_TableDrop.f k l0 a1 = some r) :
  Calls Try.prog 15 #[.slice A0 l0.length c0, .int .i64 a1] w fun e w' => ∃ v0_ : Value, e = .returned (v0_) ∧ Kd.S k26 26 w' w.heap.size (fun _ => True) v0_ r ∧ Below w.heap.size w w' := by
 have hu26 := Try.underlying26; have HR0 := Aside0.mk hr0; have HC0 := Aside0.mk hc0; clear hr0 hc0; have HB := Aside0.mk (Below.refl w.heap.size w); have H := h; unfold impl_TableDrop.f at H; clear h; have H' := Aside0.mk H; clear H
 go_enter Try.func15, Try.ntmps15
 go_wp2
 go_loopg [5, 10] k (fun kq v5 v10 w' => ∃ (x5_1 : List (S26)) (x10_1 : Int), v10 = .int .i64 x10_1 ∧ Aside0 (impl_TableDrop.l0 kq a1 x5_1 l0 (l0.length : Int) x10_1 = some r) ∧ Aside0 (kq ≤ k) ∧ Aside0 (Kd.S k26 26 w' w.heap.size (fun _ => True) v5 x5_1) ∧ Aside0 (Below w.heap.size w w'))
 case atStart => exact ⟨(([] : List (S26))), (0), y0_5, H', ⟨Nat.le_refl _⟩, ⟨by first | exact Kd.S_nil _ _ _ _ _ | exact Kd.N_nil _ _ _ _ _ | exact Kd.V_nil _ _ _ _ _ | exact Kd.Q_nil _ _ _ _ _ | exact Kd.R_nil _ _ _ _ _⟩, ⟨bI HB.out⟩⟩
 case round =>
  clear H'
  try clear c1
  try clear p2
  obtain ⟨x5_1, x10_1, rfl, HA, HK1, HO_5, HB⟩ := hrel; cases gk with
  | zero => exact absurd HA.out (by simp [impl_TableDrop.l0])
  | succ k1 =>
   have H := HA.out; clear HA
   simp only [impl_TableDrop.l0] at H
   by_cases c3 : x10_1 < (l0.length : Int)
   ·
    rw [if_pos c3] at H
    have c3b0 : decide (x10_1 < (l0.length : Int)) = true := decide_eq_true c3; clear c3
    by_cases c4 : 0 ≤ x10_1
    rotate_left
    ·
     rw [if_neg c4] at H
     exact absurd H (by simp)
    rw [if_pos c4] at H
    have c4b0 : decide (0 ≤ x10_1) = true := decide_eq_true c4; clear c4
    by_cases c5 : x10_1 < (l0.length : Int)
    rotate_left
    ·
     rw [if_neg c5] at H
     exact absurd H (by simp)
    rw [if_pos c5] at H
    have c5b0 : decide (x10_1 < (l0.length : Int)) = true := decide_eq_true c5; clear c5
    by_cases c6 : ((rd_T26 l0 x10_1).f0) ≥ a1
    ·
     rw [if_pos c6] at H
     have c6b0 : decide (a1 ≤ ((rd_T26 l0 x10_1).f0)) = true := decide_eq_true c6; clear c6; obtain ⟨⟨t169, t170, t171⟩, A7, H⟩ := oB H; (try dsimp only at H)
     by_cases c8 : x5_1.length < 2932031007402
     rotate_left
     ·
      rw [if_neg c8] at H
      exact absurd H (by simp)
     rw [if_pos c8] at H
     have LMc8 := Aside0.mk c8; clear c8; obtain ⟨y174, hy174⟩ : ∃ y_ : List (S26), y_ = (x5_1 ++ [(⟨t169, t170, t171⟩ : S26)]) := ⟨_, rfl⟩
     replace H : (impl_TableDrop.l0 k1 a1 y174 l0 (l0.length : Int) (wrap64 (x10_1 + 1))) = some r := by first | (rw [hy174]; with_reducible exact H) | (have H2_ := (Option.bind_some _ _).symm.trans H; rw [hy174]; with_reducible exact H2_) | (have H2_ := (Option.bind_some _ _).symm.trans H; with_reducible exact H2_) | with_reducible exact H | (rw [hy174]; exact H) | exact H
     have Ny174 := Aside0.mk hy174; clear hy174; have H' := Aside0.mk H; clear H; have p167 : 0 ≤ (x10_1 : Int) := of_decide_eq_true y0_4; have q167 : x10_1 < (l0.length : Int) := of_decide_eq_true y0_4; obtain ⟨ad167, A167_2, c167_2, e167, hx167_0, hx167_1, hx167_2, hl167_2, hi167_2⟩ := at_T26 HR0.out x10_1 p167 q167; have hr167_2 := hx167_2; cases e167; replace hx167_0 := bx HB hx167_0; replace hx167_1 := bx HB hx167_1; replace hx167_2 := bx HB hx167_2; have HR167_2 := Aside0.mk hi167_2; have HC167_2 := Aside0.mk hl167_2; clear hi167_2 hl167_2; replace p167 := eq_true p167; replace q167 := eq_true q167
     go_wp2_with (first | ((with_reducible refine gd 7 ?_); refine bA 7 #[.int .i64 0, .string (⟨#[]⟩ : ByteArray), .slice none 0 0] 26 ?_; intro gb168 hg w9 hbox hb; replace HO_5 := Aside0.mk (Kd.S_below (Kd.S_elderB (sI HO_5.out) gb168 (Nat.le_of_eq hg.symm)) hb); have BK168 := Aside0.mk (hbox); have GW168 := bg hg HB; have GJ168 := gi GW168; have GE168 := GW168; replace HB := bs HB hb; clear hb hbox hg; obtain ⟨hcz10_0, hcz10_1, hcz10_2, hfz10_0, hfz10_1, hfz10_2⟩ := cs3 BK168) | ((with_reducible refine gate_callee (f := 20) rfl ?_); refine gB (some 20) Try.func20 #[.agg #[.int .i64 ((rd_T26 l0 x10_1).f0), .string ((rd_T26 l0 x10_1).f1), .slice A167_2 ((rd_T26 l0 x10_1).f2).length c167_2]] ?_; (with_reducible refine (impl_copyPart.calls ((rd_T26 l0 x10_1).f0) ((rd_T26 l0 x10_1).f1) _ _ ((rd_T26 l0 x10_1).f2) t169 t170 t171 _ ?side1 ?side2 A7.out).mono ?_); (case side1 => exact Kd.C_below HR167_2.out (bI HB.out)); (case side2 => exact HC167_2.out); rintro e w11 ⟨v172, rfl, ho0, hb⟩; refine ⟨_, rfl, ?_⟩; replace HO_5 := Aside0.mk (Kd.S_elder' (sI (Kd.S_mono (Kd.S_far (p := ⟨gb168, 2, none⟩) (Kd.S_far (p := ⟨gb168, 1, none⟩) (Kd.S_far (p := ⟨gb168, 0, none⟩) (Kd.S_mono HO_5.out (fun k_ hk => (⟨hk, hk.2⟩ : _ ∧ k_ ≠ gb168))) (fun _ hk => hk.2) (.int .i64 ((rd_T26 l0 x10_1).f0))) (fun _ hk => hk.2) (.string ((rd_T26 l0 x10_1).f1))) (fun _ hk => hk.2) (.slice A167_2 ((rd_T26 l0 x10_1).f2).length c167_2)) (fun _ h_ => h_.1))) (Kd.R_base ho0) hb); have HO173 := Aside0.mk (Kd.R_lower ho0 (below_size (bI HB.out))); replace BK168 := bp BK168 hb #[.int .i64 ((rd_T26 l0 x10_1).f0), .string ((rd_T26 l0 x10_1).f1), .slice A167_2 ((rd_T26 l0 x10_1).f2).length c167_2]; replace HB := bs HB hb; (try clear hb); (try clear ho0); obtain ⟨Ao13, co13, eo13⟩ := Kd.R_slice HO173.out; subst eo13) | ((with_reducible refine gate_builtin (b := .append) (xs := #[.tmp 18, .tmp 21]) rfl ?_); at_builtin; refine Kd.S_append k26 (w0 := w) w.heap.size rfl (.tmp 18) (.tmp 21) 28 26 (.agg #[(.int .i64 0), (.string ⟨#[]⟩), (.slice none 0 0)]) 48 rfl Try.underlying28 info26 rfl (by decide) (by omega) u5 x5_1 (⟨t169, t170, t171⟩ : S26) [.int .i64 t169, .string t170, .slice Ao13 t171.length co13] (fun k_ => k_ ≠ gb168) (fun k_ => some k_ = (.slice Ao13 t171.length co13 : Value).ownBlock) rfl rfl ?aP (fun k_ hk_ => ((Kd.R_mono (ok' := fun k_ => ((fun k_ => k_ ≠ gb168)) k_ ∧ some k_ ≠ (u5 : Value).ownBlock) (Kd.R_types (Kd.R_apart' (HO173.out) (Kd.S_typed HO_5.out) (by decide)) BK168.out (by decide)) (fun k_ hk => ⟨hk.2, hk.1.2⟩))).1 k_ hk_.symm) ?aF ?aO ?aB ?aS ?aL ?_; (case aP => exact k26_mkM _ _ _ (⟨t169, t170, t171⟩ : S26) (Kd.R_mono (Kd.R_tight rfl (Kd.R_mono (ok' := fun k_ => ((fun k_ => k_ ≠ gb168)) k_ ∧ some k_ ≠ (u5 : Value).ownBlock) (Kd.R_types (Kd.R_apart' (HO173.out) (Kd.S_typed HO_5.out) (by decide)) BK168.out (by decide)) (fun k_ hk => ⟨hk.2, hk.1.2⟩))) (fun _ h_ => h_))); (case aB => exact (bI HB.out)); (case aF => exact (fun k_ hk => Kd.freshB (g := gb168) (o := .cells #[.int .i64 ((rd_T26 l0 x10_1).f0), .string ((rd_T26 l0 x10_1).f1), .slice A167_2 ((rd_T26 l0 x10_1).f2).length c167_2] 26 (0, 0)) (kI BK168.out) k_ hk)); (case aO => exact (sI (Kd.S_mono HO_5.out (fun k_ hk => ⟨hk.1.2, fun e_ => hk.2 e_⟩)))); (case aS => exact (below_size (bI HB.out))); (case aL => have := LMc8.out; omega); intro v175 w12 ho hb hg hat; rw [← Ny174.out] at ho; have n0_ := bn BK168 hg (Kd.S_away HO_5.out (fun _ hk => hk.1.2)); have n1_ := Aside0.mk (hb); have n2_ := Aside0.mk (ho); clear BK168; clear HB; clear HO_5; clear HO173; have BK168 := n0_; have HB := n1_; have HO176 := n2_; clear n0_ n1_ n2_; clear ho hb hg hat))
     go_roundg k1
     case measure => have := HK1.out; omega
     case rel => exact ⟨(y174), (wrap64 (x10_1 + 1)), y0_5, H', ⟨y0_6⟩, ⟨by (with_reducible repeat (first | apply Kd.S_alloc | apply Kd.S_drewN | apply Kd.S_drew)); exact Kd.S_mono HO176.out (fun _ hk => trivial)⟩, ⟨bI HB.out⟩⟩
    rw [if_neg c6] at H
    have c6b0 : decide (a1 ≤ ((rd_T26 l0 x10_1).f0)) = false := decide_eq_false c6; clear c6; have H' := Aside0.mk H; clear H; have p167 : 0 ≤ (x10_1 : Int) := of_decide_eq_true y0_4; have q167 : x10_1 < (l0.length : Int) := of_decide_eq_true y0_4; obtain ⟨ad167, A167_2, c167_2, e167, hx167_0, hx167_1, hx167_2, hl167_2, hi167_2⟩ := at_T26 HR0.out x10_1 p167 q167; have hr167_2 := hx167_2; cases e167; replace hx167_0 := bx HB hx167_0; replace hx167_1 := bx HB hx167_1; replace hx167_2 := bx HB hx167_2; have HR167_2 := Aside0.mk hi167_2; have HC167_2 := Aside0.mk hl167_2; clear hi167_2 hl167_2; replace p167 := eq_true p167; replace q167 := eq_true q167
    go_wp2_with (first | ((with_reducible refine gd 7 ?_); refine bA 7 #[.int .i64 0, .string (⟨#[]⟩ : ByteArray), .slice none 0 0] 26 ?_; intro gb168 hg w14 hbox hb; replace HO_5 := Aside0.mk (Kd.S_below (Kd.S_elderB (sI HO_5.out) gb168 (Nat.le_of_eq hg.symm)) hb); have BK168 := Aside0.mk (hbox); have GW168 := bg hg HB; have GJ168 := gi GW168; have GE168 := GW168; replace HB := bs HB hb; clear hb hbox hg; obtain ⟨hcz15_0, hcz15_1, hcz15_2, hfz15_0, hfz15_1, hfz15_2⟩ := cs3 BK168))
    go_roundg k1
    case measure => have := HK1.out; omega
    case rel => exact ⟨(x5_1), (wrap64 (x10_1 + 1)), y0_5, H', ⟨y0_6⟩, ⟨by (with_reducible repeat (first | apply Kd.S_alloc | apply Kd.S_drewN | apply Kd.S_drew)); exact Kd.S_mono (Kd.S_far (p := ⟨gb168, 2, none⟩) (Kd.S_far (p := ⟨gb168, 1, none⟩) (Kd.S_far (p := ⟨gb168, 0, none⟩) (Kd.S_mono HO_5.out (fun k_ hk => (⟨hk, hk.2⟩ : _ ∧ k_ ≠ gb168))) (fun _ hk => hk.2) (.int .i64 ((rd_T26 l0 x10_1).f0))) (fun _ hk => hk.2) (.string ((rd_T26 l0 x10_1).f1))) (fun _ hk => hk.2) (.slice A167_2 ((rd_T26 l0 x10_1).f2).length c167_2)) (fun _ hk => trivial)⟩, ⟨bI HB.out⟩⟩
   rw [if_neg c3] at H
   have c3b0 : decide (x10_1 < (l0.length : Int)) = false := decide_eq_false c3; clear c3; obtain rfl := Option.some.inj H
   go_wp2
   go_ret
   exact ⟨_, y0_2, y0_1, bI HB.out⟩

/-! ### laws_heldIntS: function 24 -/
def laws_heldIntS.l0 : Nat → List Int → Int → Int → Option (Int)
 | 0, _, _, _ => none
 | k + 1, x0, x1, x5 => if x5 < (x0.length : Int) then (if 0 ≤ x5 then (if (rd x0 x5) = x1 then (laws_heldIntS.l0 k x0 (wrap64 (x1 + 1)) (wrap64 (x5 + 1))) else (some (-1))) else (none)) else (some x1)
def laws_heldIntS.f (k : Nat) (l0 : List Int) (a1 : Int) : Option (Int) := laws_heldIntS.l0 k l0 a1 0
theorem laws_heldIntS.mono_l : ∀ k, (∀ y0 y1 y2, LeO (laws_heldIntS.l0 k y0 y1 y2) (laws_heldIntS.l0 (k + 1) y0 y1 y2))
 | 0 => fun _ _ _ r h => by simp [laws_heldIntS.l0] at h
 | k + 1 => by
  have ih0 := laws_heldIntS.mono_l k
  intro y0 y1 y2
  unfold laws_heldIntS.l0
  repeat' first | (with_reducible exact ih0 _ _ _) | (with_reducible exact LeO.refl _) | (with_reducible exact LeO.none _) | (with_reducible refine LeO.ite ?_ ?_) | (with_reducible refine LeO.bind ?_ (fun _ => ?_))
theorem laws_heldIntS.mono : ∀ a0 a1 k, LeO (laws_heldIntS.f k a0 a1) (laws_heldIntS.f (k + 1) a0 a1) := by
 intro a0 a1 k
 have ih0 := laws_heldIntS.mono_l k
 unfold laws_heldIntS.f
 repeat' first | (with_reducible exact ih0 _ _ _) | (with_reducible exact LeO.refl _) | (with_reducible exact LeO.none _) | (with_reducible refine LeO.ite ?_ ?_) | (with_reducible refine LeO.bind ?_ (fun _ => ?_))
set_option maxHeartbeats 8000000 in
set_option maxRecDepth 100000 in
theorem laws_heldIntS.calls (k : Nat) (A0 : Option Addr) (c0 : Nat) (l0 : List Int) (a1 : Int) (r : Int) (w : World) (hr0 : Kd.C (Kd.int .i64) w A0 l0.length l0) (hc0 : l0.length ≤ c0) (h : laws_heldIntS.f k l0 a1 = some r) :
  Calls Try.prog 24 #[.slice A0 l0.length c0, .int .i64 a1] w fun e w' => e = .returned (.int .i64 r) ∧ Drawn0 w w' := by
 have HR0 := Aside0.mk hr0; have HC0 := Aside0.mk hc0; clear hr0 hc0; have H := h; unfold laws_heldIntS.f at H; clear h; have H' := Aside0.mk H; clear H
 go_enter Try.func24, Try.ntmps24
 go_wp2
 go_loopg [1, 5] k (fun kq v1 v5 w' => ∃ (x1_1 : Int) (x5_1 : Int), v1 = .int .i64 x1_1 ∧ v5 = .int .i64 x5_1 ∧ Aside0 (laws_heldIntS.l0 kq l0 x1_1 x5_1 = some r) ∧ Aside0 (kq ≤ k) ∧ Drawn0 w w')
 case atStart => exact ⟨(a1), (0), y0_5, y0_5, H', ⟨Nat.le_refl _⟩, y0_3⟩
 case round =>
  clear H'
  try clear c2
  try clear p2
  obtain ⟨x1_1, x5_1, rfl, rfl, HA, HK1, ⟨m1, rfl⟩⟩ := hrel; cases gk with
  | zero => exact absurd HA.out (by simp [laws_heldIntS.l0])
  | succ k1 =>
   have H := HA.out; clear HA
   simp only [laws_heldIntS.l0] at H
   by_cases c3 : x5_1 < (l0.length : Int)
   ·
    rw [if_pos c3] at H
    have c3b0 : decide (x5_1 < (l0.length : Int)) = true := decide_eq_true c3; clear c3
    by_cases c4 : 0 ≤ x5_1
    rotate_left
    ·
     rw [if_neg c4] at H
     exact absurd H (by simp)
    rw [if_pos c4] at H
    have c4b0 : decide (0 ≤ x5_1) = true := decide_eq_true c4; clear c4
    by_cases c5 : (rd l0 x5_1) = x1_1
    ·
     rw [if_pos c5] at H
     have c5b0 : ((rd l0 x5_1) == x1_1) = true := beq_iff_eq.mpr c5; have c5b1 : ((rd l0 x5_1) != x1_1) = false := bne_eq_false_iff_eq.mpr c5; clear c5; have H' := Aside0.mk H; clear H; have p177 : 0 ≤ (x5_1 : Int) := of_decide_eq_true y0_4; have q177 : x5_1 < (l0.length : Int) := of_decide_eq_true y0_4; obtain ⟨ad177, e177, hx177_0⟩ := Kd.at_int HR0.out x5_1 p177 q177; cases e177; replace p177 := eq_true p177; replace q177 := eq_true q177
     go_wp2
     go_roundg k1
     case measure => have := HK1.out; omega
     case rel => exact ⟨(wrap64 (x1_1 + 1)), (wrap64 (x5_1 + 1)), y0_5, y0_5, H', ⟨y0_6⟩, y0_3⟩
    rw [if_neg c5] at H
    have c5b0 : ((rd l0 x5_1) == x1_1) = false := beq_eq_false_iff_ne.mpr c5; have c5b1 : ((rd l0 x5_1) != x1_1) = true := bne_iff_ne.mpr c5; obtain rfl := Option.some.inj H; have p177 : 0 ≤ (x5_1 : Int) := of_decide_eq_true y0_4; have q177 : x5_1 < (l0.length : Int) := of_decide_eq_true y0_4; obtain ⟨ad177, e177, hx177_0⟩ := Kd.at_int HR0.out x5_1 p177 q177; cases e177; replace p177 := eq_true p177; replace q177 := eq_true q177
    go_wp2
    go_ret
    exact ⟨y0_5, y0_3⟩
   rw [if_neg c3] at H
   have c3b0 : decide (x5_1 < (l0.length : Int)) = false := decide_eq_false c3; clear c3; obtain rfl := Option.some.inj H
   go_wp2
   go_ret
   exact ⟨y0_5, y0_3⟩

end Go.Proofs.Ytnpbopadajbopaa.PFnExactTableDrop
