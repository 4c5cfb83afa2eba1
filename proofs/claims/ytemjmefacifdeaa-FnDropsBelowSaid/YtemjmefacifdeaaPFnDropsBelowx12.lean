-- By a program of this session, out of the translation (the print of the kit, with turns of its own). Lean checks it.
import Derived.Test.YtemjmefacifdeaaPFnDropsBelowx0
import Derived.Test.YtemjmefacifdeaaPFnDropsBelowx1
import Derived.Test.YtemjmefacifdeaaPFnDropsBelowx11
namespace Go.Proofs.Ytemjmefacifdeaa.PFnDropsBelow
open Go.RowKit Go.Proofs.YtemjmefacifdeaaW.PrintWords Go.Proofs.YtemjmefacifdeaaW.PrintLast Go.Proofs.YtemjmefacifdeaaW.PrintMore
attribute [local go_sem] max2_int min2_int max_two min_two max_three min_three max_four min_four   -- for this text's walks alone
set_option linter.unusedVariables false
set_option linter.unusedSimpArgs false

/-! ### spec_DrawTableDrop: function 21 -/
def spec_DrawTableDrop.f (k : Nat) (l0 : List Int) : Option ((List (S26)) × Int) := (spec_l1New.f k l0).bind fun bt564 => ((spec_l7DrawConf.f bt564.1 bt564.2.1 bt564.2.2).bind fun bt568 => ((spec_l10DrawTable.f k bt564.1 bt568.2.2.1 bt568.2.2.2 bt568.1 bt568.2.1).bind fun bt572 => ((spec_l1Below.f bt564.1 bt572.2.1 bt572.2.2 6).bind fun bt577 => (some (bt572.1, bt577.1)))))
theorem spec_DrawTableDrop.mono : ∀ a0 k, LeO (spec_DrawTableDrop.f k a0) (spec_DrawTableDrop.f (k + 1) a0) := by
 intro a0 k
 unfold spec_DrawTableDrop.f
 repeat' first | (with_reducible exact spec_l10DrawTable.mono _ _ _ _ _ _) | (with_reducible exact spec_l1New.mono _ _) | (with_reducible exact LeO.refl _) | (with_reducible exact LeO.none _) | (with_reducible refine LeO.ite ?_ ?_) | (with_reducible refine LeO.bind ?_ (fun _ => ?_))
set_option maxHeartbeats 8000000 in
set_option maxRecDepth 100000 in
theorem spec_DrawTableDrop.calls (k : Nat) (A0 : Option Addr) (c0 : Nat) (l0 : List Int) (r1 : List (S26)) (r2 : Int) (w : World) (hr0 : Kd.C (Kd.int .u8) w A0 l0.length l0) (hc0 : l0.length ≤ c0) (h : spec_DrawTableDrop.f k l0 = some (r1, r2)) :
  Calls Try.prog 21 #[.slice A0 l0.length c0] w fun e w' => ∃ v0_ : Value, e = .returned (.tuple #[v0_, .int .i64 r2]) ∧ Kd.S k26 26 w' w.heap.size (fun _ => True) v0_ r1 ∧ Below w.heap.size w w' := by
 have HR0 := Aside0.mk hr0; have HC0 := Aside0.mk hc0; clear hr0 hc0; have HB := Aside0.mk (Below.refl w.heap.size w)
 have H : ((spec_l1New.f k l0).bind fun bt564 => ((spec_l7DrawConf.f bt564.1 bt564.2.1 bt564.2.2).bind fun bt568 => ((spec_l10DrawTable.f k bt564.1 bt568.2.2.1 bt568.2.2.2 bt568.1 bt568.2.1).bind fun bt572 => ((spec_l1Below.f bt564.1 bt572.2.1 bt572.2.2 6).bind fun bt577 => (some (bt572.1, bt577.1)))))) = some (r1, r2) := h
 clear h; obtain ⟨⟨t564, t565, t566⟩, A20, H⟩ := Option.bind_eq_some_iff.mp H
 try dsimp only at H
 have A2 := Aside0.mk A20; clear A20; obtain ⟨⟨t568, t569, t570, t571⟩, A30, H⟩ := Option.bind_eq_some_iff.mp H
 try dsimp only at H
 have A3 := Aside0.mk A30; clear A30; obtain ⟨⟨t572, t575, t576⟩, A40, H⟩ := Option.bind_eq_some_iff.mp H
 try dsimp only at H
 have A4 := Aside0.mk A40; clear A40; obtain ⟨⟨t577, t578, t579⟩, A50, H⟩ := Option.bind_eq_some_iff.mp H
 try dsimp only at H
 have A5 := Aside0.mk A50; clear A50
 simp only [Option.some.injEq, Prod.mk.injEq] at H
 obtain ⟨rfl, rfl⟩ := H
 go_enter Try.func21, Try.ntmps21
 go_wp2_with (first | ((with_reducible refine gate_callee (f := 41) rfl ?_); refine gB (some 7) Try.func41 #[.slice A0 l0.length c0] ?_; (with_reducible refine (spec_l1New.calls k _ _ l0 t564 t565 t566 w _ ?side1 ?side2 ?side3 A2.out).mono ?_); (case side1 => exact bI HB.out); (case side2 => exact HR0.out); (case side3 => exact HC0.out); rintro e w6 ⟨g567, rfl, hi, hb, hb2⟩; refine ⟨_, rfl, ?_⟩; replace HB := Aside0.mk (hb); have HI567 := Aside0.mk (hi); (try clear hb); (try clear hb2); (try clear hk); (try clear hi)) | ((with_reducible refine gate_callee (f := 43) rfl ?_); refine gB (some 10) Try.func43 #[.pointer (some ⟨g567, 0, none⟩)] ?_; (with_reducible refine (spec_l7DrawConf.calls g567 t564 t565 t566 t568 t569 t570 t571 w _ ?side1 ?side2 A3.out).mono ?_); (case side1 => repeat (first | (with_reducible first | exact HI567.out | apply IsS68.alloc | apply IsS68.drewN | apply IsS68.drew | apply IsS68.set_1 | apply IsS68.set_2) | exact HI567.out)); (case side2 => repeat (first | (with_reducible first | exact HB.out | apply below_alloc | apply pw_below_drewN | apply below_drew1 | refine below_set ?_ (IsS68.ge HI567.out)) | exact HB.out)); rintro e w7 ⟨rfl, hi, hb, hk⟩; refine ⟨_, rfl, ?_⟩; replace HB := Aside0.mk (hb); replace HI567 := Aside0.mk (hi); (try clear hb); (try clear hb2); (try clear hk); (try clear hi)) | ((with_reducible refine gate_callee (f := 42) rfl ?_); refine gB (some 11) Try.func42 #[.pointer (some ⟨g567, 0, none⟩), .agg #[.int .i64 t568, .int .i64 t569]] ?_; (with_reducible refine (spec_l10DrawTable.calls k g567 t564 t570 t571 t568 t569 t572 t575 t576 w _ ?side1 ?side2 A4.out).mono ?_); (case side1 => repeat (first | (with_reducible first | exact HI567.out | apply IsS68.alloc | apply IsS68.drewN | apply IsS68.drew | apply IsS68.set_1 | apply IsS68.set_2) | exact HI567.out)); (case side2 => repeat (first | (with_reducible first | exact HB.out | apply below_alloc | apply pw_below_drewN | apply below_drew1 | refine below_set ?_ (IsS68.ge HI567.out)) | exact HB.out)); rintro e w8 ⟨v573, rfl, ho0, hi, hb, hk⟩; refine ⟨_, rfl, ?_⟩; have HO574 := Aside0.mk (Kd.S_lower ho0 (below_size (by repeat (first | (with_reducible first | exact HB.out | apply below_alloc | apply pw_below_drewN | apply below_drew1 | refine below_set ?_ (IsS68.ge HI567.out)) | exact HB.out)))); replace HB := Aside0.mk (hb); replace HI567 := Aside0.mk (hi); (try clear hb); (try clear hb2); (try clear hi)) | ((with_reducible refine gate_callee (f := 44) rfl ?_); refine gB (some 14) Try.func44 #[.pointer (some ⟨g567, 0, none⟩), .int .i64 6] ?_; (with_reducible refine (spec_l1Below.calls g567 t564 t575 t576 6 t577 t578 t579 w _ ?side1 ?side2 A5.out).mono ?_); (case side1 => repeat (first | (with_reducible first | exact HI567.out | apply IsS68.alloc | apply IsS68.drewN | apply IsS68.drew | apply IsS68.set_1 | apply IsS68.set_2) | exact HI567.out)); (case side2 => repeat (first | (with_reducible first | exact HB.out | apply below_alloc | apply pw_below_drewN | apply below_drew1 | refine below_set ?_ (IsS68.ge HI567.out)) | exact HB.out)); rintro e w9 ⟨rfl, hi, hb, hk⟩; refine ⟨_, rfl, ?_⟩; replace HO574 := Aside0.mk (Kd.S_mono (Kd.S_keep (IsS68.apartS (show IsS68 w _ g567 t564 t575 t576 from by repeat (first | (with_reducible first | exact HI567.out | apply IsS68.alloc | apply IsS68.drewN | apply IsS68.drew | apply IsS68.set_1 | apply IsS68.set_2) | exact HI567.out)) (sI HO574.out) (by decide)) hk (fun _ h => h.2)) (fun _ h => h.1)); replace HB := Aside0.mk (hb); replace HI567 := Aside0.mk (hi); (try clear hb); (try clear hb2); (try clear hk); (try clear hi)))
 go_ret2
 exact ⟨_, y0_16, by (with_reducible repeat (first | apply Kd.S_alloc | apply Kd.S_drewN | apply Kd.S_drew)); exact HO574.out, by repeat (first | (with_reducible first | exact HB.out | apply below_alloc | apply pw_below_drewN | apply below_drew1 | refine below_set ?_ (IsS68.ge HI567.out)) | exact HB.out)⟩

/-! ### impl_copyInts: function 37 -/
def impl_copyInts.f (l0 : List Int) : Option (List Int) := if ([] : List Int).length + l0.length < 17592186044416 then (some (([] : List Int) ++ l0)) else (none)
set_option maxHeartbeats 8000000 in
set_option maxRecDepth 100000 in
theorem impl_copyInts.calls (A0 : Option Addr) (c0 : Nat) (l0 : List Int) (r : List Int) (w : World) (hr0 : Kd.C (Kd.int .i64) w A0 l0.length l0) (hc0 : l0.length ≤ c0) (h : impl_copyInts.f l0 = some r) :
  Calls Try.prog 37 #[.slice A0 l0.length c0] w fun e w' => ∃ v0_ : Value, e = .returned (v0_) ∧ Kd.R (Kd.int .i64) 3 w' w.heap.size (fun _ => True) v0_ r ∧ Below w.heap.size w w' := by
 have HR0 := Aside0.mk hr0; have HC0 := Aside0.mk hc0; clear hr0 hc0; have HB := Aside0.mk (Below.refl w.heap.size w); have H : (if ([] : List Int).length + l0.length < 17592186044416 then (some (([] : List Int) ++ l0)) else (none)) = some r := h; clear h
 by_cases c2 : ([] : List Int).length + l0.length < 17592186044416
 ·
  rw [if_pos c2] at H
  have LMc2 := Aside0.mk c2; clear c2; obtain ⟨y580, hy580⟩ : ∃ y_ : List Int, y_ = (([] : List Int) ++ l0) := ⟨_, rfl⟩
  replace H : (some y580) = some r := by first | (rw [hy580]; with_reducible exact H) | (have H2_ := (Option.bind_some _ _).symm.trans H; rw [hy580]; with_reducible exact H2_) | (have H2_ := (Option.bind_some _ _).symm.trans H; with_reducible exact H2_) | with_reducible exact H | (rw [hy580]; exact H) | exact H
  have Ny580 := Aside0.mk hy580; clear hy580; obtain rfl := Option.some.inj H
  go_enter Try.func37, Try.ntmps37
  go_wp2_with (first | ((with_reducible refine gate_builtin (b := .append) (xs := #[.const (.slice none 0 0), .tmp 3]) rfl ?_); at_builtin; refine Kd.R_append_rows (Kd.int .i64) (w0 := w) w.heap.size rfl (.const (.slice none 0 0)) (.tmp 3) 22 3 (.int .i64 0) 8 rfl Try.underlying22 info3 rfl (by decide) (by omega) (.slice none 0 0) ([] : List Int) l0 _ _ _ (fun _ => True) (fun _ => False) rfl rfl ?aO ?aR (fun _ _ h => h) (fun _ h => h.elim) ?aF ?aB ?aS ?aL ?_; (case aR => exact cI HR0.out); (case aB => exact (bI HB.out)); (case aF => exact (fun _ _ => trivial)); (case aO => exact ((Kd.R_nil _ _ _ _ (fun _ => True)))); (case aS => exact (below_size (bI HB.out))); (case aL => have := LMc2.out; omega); intro v581 w3 ho hb hg hat; rw [← Ny580.out] at ho; replace HB := Aside0.mk (hb); have HO582 := Aside0.mk (ho); clear ho hb hg hat))
  go_ret
  exact ⟨_, y0_16, by (with_reducible repeat (first | apply Kd.R_alloc | apply Kd.R_drewN | apply Kd.R_drew)); exact HO582.out, bI HB.out⟩
 rw [if_neg c2] at H
 exact absurd H (by simp)

/-! ### impl_copyPart: function 45 -/
def impl_copyPart.f (a0_0 : Int) (a0_1 : ByteArray) (l0_2 : List Int) : Option (Int × ByteArray × List Int) := (impl_copyInts.f l0_2).bind fun t585 => (some (a0_0, a0_1, t585))
set_option maxHeartbeats 8000000 in
set_option maxRecDepth 100000 in
theorem impl_copyPart.calls (a0_0 : Int) (a0_1 : ByteArray) (A0_2 : Option Addr) (c0_2 : Nat) (l0_2 : List Int) (r1 : Int) (r2 : ByteArray) (r3 : List Int) (w : World) (hr0_2 : Kd.C (Kd.int .i64) w A0_2 l0_2.length l0_2) (hc0_2 : l0_2.length ≤ c0_2) (h : impl_copyPart.f a0_0 a0_1 l0_2 = some (r1, r2, r3)) :
  Calls Try.prog 45 #[.agg #[.int .i64 a0_0, .string a0_1, .slice A0_2 l0_2.length c0_2]] w fun e w' => ∃ v2_ : Value, e = .returned (.agg #[.int .i64 r1, .string r2, v2_]) ∧ Kd.R (Kd.int .i64) 3 w' w.heap.size (fun _ => True) v2_ r3 ∧ Below w.heap.size w w' := by
 have hu26 := Try.underlying26; have HR0_2 := Aside0.mk hr0_2; have HC0_2 := Aside0.mk hc0_2; clear hr0_2 hc0_2; have HB := Aside0.mk (Below.refl w.heap.size w)
 have H : ((impl_copyInts.f l0_2).bind fun t585 => (some (a0_0, a0_1, t585))) = some (r1, r2, r3) := h
 clear h; obtain ⟨t585, A20, H⟩ := Option.bind_eq_some_iff.mp H
 try dsimp only at H
 have A2 := Aside0.mk A20; clear A20
 simp only [Option.some.injEq, Prod.mk.injEq] at H
 obtain ⟨rfl, rfl, rfl⟩ := H
 go_enter Try.func45, Try.ntmps45
 go_wp2_with (first | ((with_reducible refine gd 1 ?_); refine bA 1 #[.int .i64 a0_0, .string a0_1, .slice A0_2 l0_2.length c0_2] 26 ?_; intro gb583 hg w3 hbox hb; have BK583 := Aside0.mk (hbox); have GW583 := bg hg HB; have GJ583 := gi GW583; have GE583 := GW583; replace HB := bs HB hb; clear hb hbox hg) | ((with_reducible refine gd 2 ?_); refine bA 2 #[.int .i64 0, .string (⟨#[]⟩ : ByteArray), .slice none 0 0] 26 ?_; intro gb584 hg w4 hbox hb; have BK584 := Aside0.mk (hbox); have GW584 := bg hg HB; have GJ584 := gi GW584; have GE584 := GW584; replace HB := bs HB hb; have NB583_584 := b1 BK583 hg; have NI583_584 := ni NB583_584; have NB584_583 := b2 BK583 hg; have NI584_583 := ni NB584_583; replace BK583 := bk BK583 hb; clear hb hbox hg; have hnb5 := NB583_584.out; have hnc5 := NB584_583.out; obtain ⟨hcz6_0, hcz6_1, hcz6_2, hfz6_0, hfz6_1, hfz6_2⟩ := cs3 BK583) | ((with_reducible refine gate_callee (f := 37) rfl ?_); refine gB (some 5) Try.func37 #[.slice A0_2 l0_2.length c0_2] ?_; (with_reducible refine (impl_copyInts.calls _ _ l0_2 t585 _ ?side1 ?side2 A2.out).mono ?_); (case side1 => exact ch HR0_2 HB); (case side2 => exact HC0_2.out); rintro e w7 ⟨v586, rfl, ho0, hb⟩; refine ⟨_, rfl, ?_⟩; have HO587 := Aside0.mk (Kd.R_lower ho0 (below_size (bI HB.out))); replace BK583 := bk BK583 hb; replace BK584 := bk BK584 hb; replace HB := bs HB hb; (try clear hb); (try clear ho0); obtain ⟨Ao8, co8, eo8⟩ := Kd.R_slice HO587.out; subst eo8; obtain ⟨hcz9_0, hcz9_1, hcz9_2, hfz9_0, hfz9_1, hfz9_2⟩ := cs3 BK583; obtain ⟨hcz10_0, hcz10_1, hcz10_2, hfz10_0, hfz10_1, hfz10_2⟩ := cs3 BK584))
 refine bodyPost_ret (results_cell_row rfl _ _ gb584 26 #[.int .i64 a0_0, .string a0_1, .slice Ao8 t585.length co8] (0, 0) _ rfl (pI BK584) Try.underlying26 rfl (by kernel_rfl)) rfl ?_
 exact ⟨_, y0_16, by (with_reducible repeat (first | apply Kd.R_alloc | apply Kd.R_drewN | apply Kd.R_drew)); exact Kd.R_mono (Kd.R_far (p := ⟨gb584, 2, none⟩) (Kd.R_far (p := ⟨gb584, 1, none⟩) (Kd.R_far (p := ⟨gb584, 0, none⟩) (Kd.R_far (p := ⟨gb583, 2, none⟩) (Kd.R_types (Kd.R_types HO587.out BK583.out (by decide)) BK584.out (by decide)) (fun _ hk => hk.1.2) (.slice Ao8 t585.length co8)) (fun _ hk => hk.2) (.int .i64 a0_0)) (fun _ hk => hk.2) (.string a0_1)) (fun _ hk => hk.2) (.slice Ao8 t585.length co8)) (fun _ hk => trivial), bI HB.out⟩

/-! ### impl_TableDrop: function 22 -/
def impl_TableDrop.l0 : Nat → Int → List (S26) → List (S26) → Int → Int → Option ((List (S26)))
 | 0, _, _, _, _, _ => none
 | k + 1, x1, x5, x8, x9, x10 => if x10 < x9 then (if 0 ≤ x10 then (if x10 < (x8.length : Int) then (if ((rd_T26 x8 x10).f0) ≥ x1 then ((impl_copyPart.f ((rd_T26 x8 x10).f0) ((rd_T26 x8 x10).f1) ((rd_T26 x8 x10).f2)).bind fun bt590 => (if x5.length < 2932031007402 then (impl_TableDrop.l0 k x1 (x5 ++ [(⟨bt590.1, bt590.2.1, bt590.2.2⟩ : S26)]) x8 x9 (wrap64 (x10 + 1))) else (none))) else (impl_TableDrop.l0 k x1 x5 x8 x9 (wrap64 (x10 + 1)))) else (none)) else (none)) else (some x5)
def impl_TableDrop.f (k : Nat) (l0 : List (S26)) (a1 : Int) : Option ((List (S26))) := impl_TableDrop.l0 k a1 ([] : List (S26)) l0 (l0.length : Int) 0
theorem impl_TableDrop.mono_l : ∀ k, (∀ y0 y1 y2 y3 y4, LeO (impl_TableDrop.l0 k y0 y1 y2 y3 y4) (impl_TableDrop.l0 (k + 1) y0 y1 y2 y3 y4))
 | 0 => fun _ _ _ _ _ r h => by simp [impl_TableDrop.l0] at h
 | k + 1 => by
  have ih0 := impl_TableDrop.mono_l k
  intro y0 y1 y2 y3 y4
  unfold impl_TableDrop.l0
  repeat' first | (with_reducible exact ih0 _ _ _ _ _) | (with_reducible exact LeO.refl _) | (with_reducible exact LeO.none _) | (with_reducible refine LeO.ite ?_ ?_) | (with_reducible refine LeO.bind ?_ (fun _ => ?_))
theorem impl_TableDrop.mono : ∀ a0 a1 k, LeO (impl_TableDrop.f k a0 a1) (impl_TableDrop.f (k + 1) a0 a1) := by
 intro a0 a1 k
 have ih0 := impl_TableDrop.mono_l k
 unfold impl_TableDrop.f
 repeat' first | (with_reducible exact ih0 _ _ _ _ _) | (with_reducible exact LeO.refl _) | (with_reducible exact LeO.none _) | (with_reducible refine LeO.ite ?_ ?_) | (with_reducible refine LeO.bind ?_ (fun _ => ?_))
set_option maxHeartbeats 8000000 in
set_option maxRecDepth 100000 in
theorem impl_TableDrop.calls (k : Nat) (A0 : Option Addr) (c0 : Nat) (l0 : List (S26)) (a1 : Int) (r : List (S26)) (w : World) (hr0 : Kd.C k26 w A0 l0.length l0) (hc0 : l0.length ≤ c0) (h : impl_TableDrop.f k l0 a1 = some r) :
  Calls Try.prog 22 #[.slice A0 l0.length c0, .int .i64 a1] w fun e w' => ∃ v0_ : Value, e = .returned (v0_) ∧ Kd.S k26 26 w' w.heap.size (fun _ => True) v0_ r ∧ Below w.heap.size w w' := by
 have hu26 := Try.underlying26; have HR0 := Aside0.mk hr0; have HC0 := Aside0.mk hc0; clear hr0 hc0; have HB := Aside0.mk (Below.refl w.heap.size w); have H : (impl_TableDrop.l0 k a1 ([] : List (S26)) l0 (l0.length : Int) 0) = some r := h; clear h; have H' := Aside0.mk H; clear H
 go_enter Try.func22, Try.ntmps22
 go_wp2
 go_loopg [5, 10] k (fun kq v5 v10 w' => ∃ (x5_1 : List (S26)) (x10_1 : Int), v10 = .int .i64 x10_1 ∧ Aside0 (impl_TableDrop.l0 kq a1 x5_1 l0 (l0.length : Int) x10_1 = some r) ∧ Aside0 (kq ≤ k) ∧ Aside0 (Kd.S k26 26 w' w.heap.size (fun _ => True) v5 x5_1) ∧ Aside0 (Below w.heap.size w w'))
 case atStart => exact ⟨(([] : List (S26))), (0), y0_21, H', ⟨Nat.le_refl _⟩, ⟨by first | exact Kd.S_nil _ _ _ _ _ | exact Kd.N_nil _ _ _ _ _ | exact Kd.V_nil _ _ _ _ _ | exact Kd.Q_nil _ _ _ _ _ | exact Kd.R_nil _ _ _ _ _⟩, ⟨bI HB.out⟩⟩
 case round =>
  clear H'
  try clear c2
  try clear p2
  obtain ⟨x5_1, x10_1, rfl, HA, HK1, HO_5, HB⟩ := hrel; cases gk with
  | zero => exact absurd HA.out (by simp [impl_TableDrop.l0])
  | succ k1 =>
   have H := HA.out; clear HA
   simp only [impl_TableDrop.l0] at H
   by_cases c3 : x10_1 < (l0.length : Int)
   ·
    rw [if_pos c3] at H
    have c3b0 : decide (x10_1 < (l0.length : Int)) = true := decide_eq_true c3; clear c3
    by_cases c4 : 0 ≤ x10_1
    rotate_left
    ·
     rw [if_neg c4] at H
     exact absurd H (by simp)
    rw [if_pos c4] at H
    have c4b0 : decide (0 ≤ x10_1) = true := decide_eq_true c4; clear c4
    by_cases c5 : x10_1 < (l0.length : Int)
    rotate_left
    ·
     rw [if_neg c5] at H
     exact absurd H (by simp)
    rw [if_pos c5] at H
    have c5b0 : decide (x10_1 < (l0.length : Int)) = true := decide_eq_true c5; clear c5
    by_cases c6 : ((rd_T26 l0 x10_1).f0) ≥ a1
    ·
     rw [if_pos c6] at H
     have c6b0 : decide (a1 ≤ ((rd_T26 l0 x10_1).f0)) = true := decide_eq_true c6; clear c6; obtain ⟨⟨t590, t591, t592⟩, A70, H⟩ := Option.bind_eq_some_iff.mp H
     try dsimp only at H
     have A7 := Aside0.mk A70; clear A70
     by_cases c8 : x5_1.length < 2932031007402
     rotate_left
     ·
      rw [if_neg c8] at H
      exact absurd H (by simp)
     rw [if_pos c8] at H
     have LMc8 := Aside0.mk c8; clear c8; obtain ⟨y595, hy595⟩ : ∃ y_ : List (S26), y_ = (x5_1 ++ [(⟨t590, t591, t592⟩ : S26)]) := ⟨_, rfl⟩
     replace H : (impl_TableDrop.l0 k1 a1 y595 l0 (l0.length : Int) (wrap64 (x10_1 + 1))) = some r := by first | (rw [hy595]; with_reducible exact H) | (have H2_ := (Option.bind_some _ _).symm.trans H; rw [hy595]; with_reducible exact H2_) | (have H2_ := (Option.bind_some _ _).symm.trans H; with_reducible exact H2_) | with_reducible exact H | (rw [hy595]; exact H) | exact H
     have Ny595 := Aside0.mk hy595; clear hy595; have H' := Aside0.mk H; clear H; have p588 : 0 ≤ (x10_1 : Int) := of_decide_eq_true y0_20; have q588 : x10_1 < (l0.length : Int) := of_decide_eq_true y0_20; obtain ⟨ad588, A588_2, c588_2, e588, hx588_0, hx588_1, hx588_2, hl588_2, hi588_2⟩ := at_T26 HR0.out x10_1 p588 q588; cases e588; replace hx588_0 := bx HB hx588_0; replace hx588_1 := bx HB hx588_1; replace hx588_2 := bx HB hx588_2; have HR588_2 := Aside0.mk hi588_2; have HC588_2 := Aside0.mk hl588_2; clear hi588_2 hl588_2; replace p588 := eq_true p588; replace q588 := eq_true q588
     go_wp2_with (first | ((with_reducible refine gd 7 ?_); refine bA 7 #[.int .i64 0, .string (⟨#[]⟩ : ByteArray), .slice none 0 0] 26 ?_; intro gb589 hg w9 hbox hb; replace HO_5 := Aside0.mk (Kd.S_below (Kd.S_elderB (sI HO_5.out) gb589 (Nat.le_of_eq hg.symm)) hb); have BK589 := Aside0.mk (hbox); have GW589 := bg hg HB; have GJ589 := gi GW589; have GE589 := GW589; replace HB := bs HB hb; clear hb hbox hg; obtain ⟨hcz10_0, hcz10_1, hcz10_2, hfz10_0, hfz10_1, hfz10_2⟩ := cs3 BK589) | ((with_reducible refine gate_callee (f := 45) rfl ?_); refine gB (some 20) Try.func45 #[.agg #[.int .i64 ((rd_T26 l0 x10_1).f0), .string ((rd_T26 l0 x10_1).f1), .slice A588_2 ((rd_T26 l0 x10_1).f2).length c588_2]] ?_; (with_reducible refine (impl_copyPart.calls ((rd_T26 l0 x10_1).f0) ((rd_T26 l0 x10_1).f1) _ _ ((rd_T26 l0 x10_1).f2) t590 t591 t592 _ ?side1 ?side2 A7.out).mono ?_); (case side1 => exact Kd.C_below HR588_2.out (bI HB.out)); (case side2 => exact HC588_2.out); rintro e w11 ⟨v593, rfl, ho0, hb⟩; refine ⟨_, rfl, ?_⟩; replace HO_5 := Aside0.mk (Kd.S_elder' (sI (Kd.S_mono (Kd.S_far (p := ⟨gb589, 2, none⟩) (Kd.S_far (p := ⟨gb589, 1, none⟩) (Kd.S_far (p := ⟨gb589, 0, none⟩) (Kd.S_mono HO_5.out (fun k_ hk => (⟨hk, hk.2⟩ : _ ∧ k_ ≠ gb589))) (fun _ hk => hk.2) (.int .i64 ((rd_T26 l0 x10_1).f0))) (fun _ hk => hk.2) (.string ((rd_T26 l0 x10_1).f1))) (fun _ hk => hk.2) (.slice A588_2 ((rd_T26 l0 x10_1).f2).length c588_2)) (fun _ h_ => h_.1))) (Kd.R_base ho0) hb); have HO594 := Aside0.mk (Kd.R_lower ho0 (below_size (bI HB.out))); replace BK589 := bp BK589 hb #[.int .i64 ((rd_T26 l0 x10_1).f0), .string ((rd_T26 l0 x10_1).f1), .slice A588_2 ((rd_T26 l0 x10_1).f2).length c588_2]; replace HB := bs HB hb; (try clear hb); (try clear ho0); obtain ⟨Ao13, co13, eo13⟩ := Kd.R_slice HO594.out; subst eo13) | ((with_reducible refine gate_builtin (b := .append) (xs := #[.tmp 18, .tmp 21]) rfl ?_); at_builtin; refine Kd.S_append k26 (w0 := w) w.heap.size rfl (.tmp 18) (.tmp 21) 43 26 (.agg #[(.int .i64 0), (.string ⟨#[]⟩), (.slice none 0 0)]) 48 rfl Try.underlying43 info26 rfl (by decide) (by omega) u5 x5_1 (⟨t590, t591, t592⟩ : S26) [.int .i64 t590, .string t591, .slice Ao13 t592.length co13] (fun k_ => k_ ≠ gb589) (fun k_ => some k_ = (.slice Ao13 t592.length co13 : Value).ownBlock) rfl rfl ?aP (fun k_ hk_ => ((Kd.R_mono (ok' := fun k_ => ((fun k_ => k_ ≠ gb589)) k_ ∧ some k_ ≠ (u5 : Value).ownBlock) (Kd.R_types (Kd.R_apart' (HO594.out) (Kd.S_typed HO_5.out) (by decide)) BK589.out (by decide)) (fun k_ hk => ⟨hk.2, hk.1.2⟩))).1 k_ hk_.symm) ?aF ?aO ?aB ?aS ?aL ?_; (case aP => exact k26_mkM _ _ _ (⟨t590, t591, t592⟩ : S26) (Kd.R_mono (Kd.R_tight rfl (Kd.R_mono (ok' := fun k_ => ((fun k_ => k_ ≠ gb589)) k_ ∧ some k_ ≠ (u5 : Value).ownBlock) (Kd.R_types (Kd.R_apart' (HO594.out) (Kd.S_typed HO_5.out) (by decide)) BK589.out (by decide)) (fun k_ hk => ⟨hk.2, hk.1.2⟩))) (fun _ h_ => h_))); (case aB => exact (bI HB.out)); (case aF => exact (fun k_ hk => Kd.freshB (g := gb589) (o := .cells #[.int .i64 ((rd_T26 l0 x10_1).f0), .string ((rd_T26 l0 x10_1).f1), .slice A588_2 ((rd_T26 l0 x10_1).f2).length c588_2] 26 (0, 0)) (kI BK589.out) k_ hk)); (case aO => exact (sI (Kd.S_mono HO_5.out (fun k_ hk => ⟨hk.1.2, fun e_ => hk.2 e_⟩)))); (case aS => exact (below_size (bI HB.out))); (case aL => have := LMc8.out; omega); intro v596 w12 ho hb hg hat; rw [← Ny595.out] at ho; have n0_ := bn BK589 hg (Kd.S_away HO_5.out (fun _ hk => hk.1.2)); have n1_ := Aside0.mk (hb); have n2_ := Aside0.mk (ho); clear BK589; clear HB; clear HO_5; clear HO594; have BK589 := n0_; have HB := n1_; have HO597 := n2_; clear n0_ n1_ n2_; clear ho hb hg hat))
     go_roundg k1
     case measure => have := HK1.out; omega
     case rel => exact ⟨(y595), (wrap64 (x10_1 + 1)), y0_21, H', ⟨y0_25⟩, ⟨by (with_reducible repeat (first | apply Kd.S_alloc | apply Kd.S_drewN | apply Kd.S_drew)); exact Kd.S_mono HO597.out (fun _ hk => trivial)⟩, ⟨bI HB.out⟩⟩
    rw [if_neg c6] at H
    have c6b0 : decide (a1 ≤ ((rd_T26 l0 x10_1).f0)) = false := decide_eq_false c6; clear c6; have H' := Aside0.mk H; clear H; have p588 : 0 ≤ (x10_1 : Int) := of_decide_eq_true y0_20; have q588 : x10_1 < (l0.length : Int) := of_decide_eq_true y0_20; obtain ⟨ad588, A588_2, c588_2, e588, hx588_0, hx588_1, hx588_2, hl588_2, hi588_2⟩ := at_T26 HR0.out x10_1 p588 q588; cases e588; replace hx588_0 := bx HB hx588_0; replace hx588_1 := bx HB hx588_1; replace hx588_2 := bx HB hx588_2; have HR588_2 := Aside0.mk hi588_2; have HC588_2 := Aside0.mk hl588_2; clear hi588_2 hl588_2; replace p588 := eq_true p588; replace q588 := eq_true q588
    go_wp2_with (first | ((with_reducible refine gd 7 ?_); refine bA 7 #[.int .i64 0, .string (⟨#[]⟩ : ByteArray), .slice none 0 0] 26 ?_; intro gb589 hg w14 hbox hb; replace HO_5 := Aside0.mk (Kd.S_below (Kd.S_elderB (sI HO_5.out) gb589 (Nat.le_of_eq hg.symm)) hb); have BK589 := Aside0.mk (hbox); have GW589 := bg hg HB; have GJ589 := gi GW589; have GE589 := GW589; replace HB := bs HB hb; clear hb hbox hg; obtain ⟨hcz15_0, hcz15_1, hcz15_2, hfz15_0, hfz15_1, hfz15_2⟩ := cs3 BK589))
    go_roundg k1
    case measure => have := HK1.out; omega
    case rel => exact ⟨(x5_1), (wrap64 (x10_1 + 1)), y0_21, H', ⟨y0_25⟩, ⟨by (with_reducible repeat (first | apply Kd.S_alloc | apply Kd.S_drewN | apply Kd.S_drew)); exact Kd.S_mono (Kd.S_far (p := ⟨gb589, 2, none⟩) (Kd.S_far (p := ⟨gb589, 1, none⟩) (Kd.S_far (p := ⟨gb589, 0, none⟩) (Kd.S_mono HO_5.out (fun k_ hk => (⟨hk, hk.2⟩ : _ ∧ k_ ≠ gb589))) (fun _ hk => hk.2) (.int .i64 ((rd_T26 l0 x10_1).f0))) (fun _ hk => hk.2) (.string ((rd_T26 l0 x10_1).f1))) (fun _ hk => hk.2) (.slice A588_2 ((rd_T26 l0 x10_1).f2).length c588_2)) (fun _ hk => trivial)⟩, ⟨bI HB.out⟩⟩
   rw [if_neg c3] at H
   have c3b0 : decide (x10_1 < (l0.length : Int)) = false := decide_eq_false c3; clear c3; obtain rfl := Option.some.inj H
   go_wp2
   go_ret
   exact ⟨_, y0_16, y0_14, bI HB.out⟩

/-! ### laws_sameInts: function 47 -/
def laws_sameInts.l0 : Nat → List Int → List Int → Int → Option (Bool)
 | 0, _, _, _ => none
 | k + 1, x0, x1, x5 => if x5 < (x0.length : Int) then (if 0 ≤ x5 then (if x5 < (x1.length : Int) then (if (rd x0 x5) = (rd x1 x5) then (laws_sameInts.l0 k x0 x1 (wrap64 (x5 + 1))) else (some false)) else (none)) else (none)) else (some true)
def laws_sameInts.f (k : Nat) (l0 : List Int) (l1 : List Int) : Option (Bool) := if (l0.length : Int) = (l1.length : Int) then (laws_sameInts.l0 k l0 l1 0) else (some false)
theorem laws_sameInts.mono_l : ∀ k, (∀ y0 y1 y2, LeO (laws_sameInts.l0 k y0 y1 y2) (laws_sameInts.l0 (k + 1) y0 y1 y2))
 | 0 => fun _ _ _ r h => by simp [laws_sameInts.l0] at h
 | k + 1 => by
  have ih0 := laws_sameInts.mono_l k
  intro y0 y1 y2
  unfold laws_sameInts.l0
  repeat' first | (with_reducible exact ih0 _ _ _) | (with_reducible exact LeO.refl _) | (with_reducible exact LeO.none _) | (with_reducible refine LeO.ite ?_ ?_) | (with_reducible refine LeO.bind ?_ (fun _ => ?_))
theorem laws_sameInts.mono : ∀ a0 a1 k, LeO (laws_sameInts.f k a0 a1) (laws_sameInts.f (k + 1) a0 a1) := by
 intro a0 a1 k
 have ih0 := laws_sameInts.mono_l k
 unfold laws_sameInts.f
 repeat' first | (with_reducible exact ih0 _ _ _) | (with_reducible exact LeO.refl _) | (with_reducible exact LeO.none _) | (with_reducible refine LeO.ite ?_ ?_) | (with_reducible refine LeO.bind ?_ (fun _ => ?_))
set_option maxHeartbeats 8000000 in
set_option maxRecDepth 100000 in
theorem laws_sameInts.calls (k : Nat) (A0 : Option Addr) (c0 : Nat) (l0 : List Int) (A1 : Option Addr) (c1 : Nat) (l1 : List Int) (r : Bool) (w : World) (hr0 : Kd.C (Kd.int .i64) w A0 l0.length l0) (hc0 : l0.length ≤ c0) (hr1 : Kd.C (Kd.int .i64) w A1 l1.length l1) (hc1 : l1.length ≤ c1) (h : laws_sameInts.f k l0 l1 = some r) :
  Calls Try.prog 47 #[.slice A0 l0.length c0, .slice A1 l1.length c1] w fun e w' => e = .returned (.bool r) ∧ Drawn0 w w' := by
 have HR0 := Aside0.mk hr0; have HC0 := Aside0.mk hc0; clear hr0 hc0; have HR1 := Aside0.mk hr1; have HC1 := Aside0.mk hc1; clear hr1 hc1; have H : (if (l0.length : Int) = (l1.length : Int) then (laws_sameInts.l0 k l0 l1 0) else (some false)) = some r := h; clear h
 by_cases c3 : (l0.length : Int) = (l1.length : Int)
 ·
  rw [if_pos c3] at H
  have c3b0 : ((l0.length : Int) == (l1.length : Int)) = true := beq_iff_eq.mpr c3; have c3b1 : ((l0.length : Int) != (l1.length : Int)) = false := bne_eq_false_iff_eq.mpr c3
  have c3b2 : (l0.length == l1.length) = true := by first | simpa using c3 | (simp at c3 ⊢; omega)
  clear c3; have H' := Aside0.mk H; clear H
  go_enter Try.func47, Try.ntmps47
  go_wp2
  repeat (go_quiet (fail); try go_wp2)
  go_loopg [5] k (fun kq v5 w' => ∃ (x5_1 : Int), v5 = .int .i64 x5_1 ∧ Aside0 (laws_sameInts.l0 kq l0 l1 x5_1 = some r) ∧ Aside0 (kq ≤ k) ∧ Drawn0 w w')
  case atStart => exact ⟨(0), y0_21, H', ⟨Nat.le_refl _⟩, y0_18⟩
  case round =>
   clear H'
   try clear c1
   try clear p2
   try clear c3
   try clear c3b0
   try clear c3b1
   try clear c3b2
   obtain ⟨x5_1, rfl, HA, HK1, ⟨m1, rfl⟩⟩ := hrel; cases gk with
   | zero => exact absurd HA.out (by simp [laws_sameInts.l0])
   | succ k1 =>
    have H := HA.out; clear HA
    simp only [laws_sameInts.l0] at H
    by_cases c4 : x5_1 < (l0.length : Int)
    ·
     rw [if_pos c4] at H
     have c4b0 : decide (x5_1 < (l0.length : Int)) = true := decide_eq_true c4; clear c4
     by_cases c5 : 0 ≤ x5_1
     rotate_left
     ·
      rw [if_neg c5] at H
      exact absurd H (by simp)
     rw [if_pos c5] at H
     have c5b0 : decide (0 ≤ x5_1) = true := decide_eq_true c5; clear c5
     by_cases c6 : x5_1 < (l1.length : Int)
     rotate_left
     ·
      rw [if_neg c6] at H
      exact absurd H (by simp)
     rw [if_pos c6] at H
     have c6b0 : decide (x5_1 < (l1.length : Int)) = true := decide_eq_true c6; clear c6
     by_cases c7 : (rd l0 x5_1) = (rd l1 x5_1)
     ·
      rw [if_pos c7] at H
      have c7b0 : ((rd l0 x5_1) == (rd l1 x5_1)) = true := beq_iff_eq.mpr c7; have c7b1 : ((rd l0 x5_1) != (rd l1 x5_1)) = false := bne_eq_false_iff_eq.mpr c7; clear c7; have H' := Aside0.mk H; clear H; have p598 : 0 ≤ (x5_1 : Int) := of_decide_eq_true y0_20; have q598 : x5_1 < (l0.length : Int) := of_decide_eq_true y0_20; obtain ⟨ad598, e598, hx598_0⟩ := Kd.at_int HR0.out x5_1 p598 q598; cases e598; replace p598 := eq_true p598; replace q598 := eq_true q598; have p599 : 0 ≤ (x5_1 : Int) := of_decide_eq_true y0_20; have q599 : x5_1 < (l1.length : Int) := of_decide_eq_true y0_20; obtain ⟨ad599, e599, hx599_0⟩ := Kd.at_int HR1.out x5_1 p599 q599; cases e599; replace p599 := eq_true p599; replace q599 := eq_true q599
      go_wp2
      repeat (go_quiet (fail); try go_wp2)
      go_roundg k1
      case measure => have := HK1.out; omega
      case rel => exact ⟨(wrap64 (x5_1 + 1)), y0_21, H', ⟨y0_25⟩, y0_18⟩
     rw [if_neg c7] at H
     have c7b0 : ((rd l0 x5_1) == (rd l1 x5_1)) = false := beq_eq_false_iff_ne.mpr c7; have c7b1 : ((rd l0 x5_1) != (rd l1 x5_1)) = true := bne_iff_ne.mpr c7; obtain rfl := Option.some.inj H; have p598 : 0 ≤ (x5_1 : Int) := of_decide_eq_true y0_20; have q598 : x5_1 < (l0.length : Int) := of_decide_eq_true y0_20; obtain ⟨ad598, e598, hx598_0⟩ := Kd.at_int HR0.out x5_1 p598 q598; cases e598; replace p598 := eq_true p598; replace q598 := eq_true q598; have p599 : 0 ≤ (x5_1 : Int) := of_decide_eq_true y0_20; have q599 : x5_1 < (l1.length : Int) := of_decide_eq_true y0_20; obtain ⟨ad599, e599, hx599_0⟩ := Kd.at_int HR1.out x5_1 p599 q599; cases e599; replace p599 := eq_true p599; replace q599 := eq_true q599
     go_wp2
     repeat (go_quiet (fail); try go_wp2)
     go_ret
     exact ⟨y0_21, y0_18⟩
    rw [if_neg c4] at H
    have c4b0 : decide (x5_1 < (l0.length : Int)) = false := decide_eq_false c4; clear c4; obtain rfl := Option.some.inj H
    go_wp2
    repeat (go_quiet (fail); try go_wp2)
    go_ret
    exact ⟨y0_21, y0_18⟩
 rw [if_neg c3] at H
 have c3b0 : ((l0.length : Int) == (l1.length : Int)) = false := beq_eq_false_iff_ne.mpr c3; have c3b1 : ((l0.length : Int) != (l1.length : Int)) = true := bne_iff_ne.mpr c3
 have c3b2 : (l0.length == l1.length) = false := by first | simpa using c3 | (simp at c3 ⊢; omega)
 obtain rfl := Option.some.inj H
 go_enter Try.func47, Try.ntmps47
 go_wp2
 repeat (go_quiet (fail); try go_wp2)
 go_ret
 exact ⟨y0_21, y0_18⟩

/-! ### laws_samePart: function 25 -/
def laws_samePart.f (k : Nat) (a0_0 : Int) (a0_1 : ByteArray) (l0_2 : List Int) (a1_0 : Int) (a1_1 : ByteArray) (l1_2 : List Int) : Option (Bool) := if a0_0 = a1_0 then (if a0_1.toList = a1_1.toList then ((laws_sameInts.f k l0_2 l1_2).bind fun t602 => (some t602)) else (some false)) else (some false)
theorem laws_samePart.mono : ∀ a0 a1 a2 a3 a4 a5 k, LeO (laws_samePart.f k a0 a1 a2 a3 a4 a5) (laws_samePart.f (k + 1) a0 a1 a2 a3 a4 a5) := by
 intro a0 a1 a2 a3 a4 a5 k
 unfold laws_samePart.f
 repeat' first | (with_reducible exact laws_sameInts.mono _ _ _) | (with_reducible exact LeO.refl _) | (with_reducible exact LeO.none _) | (with_reducible refine LeO.ite ?_ ?_) | (with_reducible refine LeO.bind ?_ (fun _ => ?_))
set_option maxHeartbeats 8000000 in
set_option maxRecDepth 100000 in
theorem laws_samePart.calls (k : Nat) (a0_0 : Int) (a0_1 : ByteArray) (A0_2 : Option Addr) (c0_2 : Nat) (l0_2 : List Int) (a1_0 : Int) (a1_1 : ByteArray) (A1_2 : Option Addr) (c1_2 : Nat) (l1_2 : List Int) (r : Bool) (w : World) (hr0_2 : Kd.C (Kd.int .i64) w A0_2 l0_2.length l0_2) (hc0_2 : l0_2.length ≤ c0_2) (hr1_2 : Kd.C (Kd.int .i64) w A1_2 l1_2.length l1_2) (hc1_2 : l1_2.length ≤ c1_2) (h : laws_samePart.f k a0_0 a0_1 l0_2 a1_0 a1_1 l1_2 = some r) :
  Calls Try.prog 25 #[.agg #[.int .i64 a0_0, .string a0_1, .slice A0_2 l0_2.length c0_2], .agg #[.int .i64 a1_0, .string a1_1, .slice A1_2 l1_2.length c1_2]] w fun e w' => e = .returned (.bool r) ∧ Below w.heap.size w w' := by
 have hu26 := Try.underlying26; have HR0_2 := Aside0.mk hr0_2; have HC0_2 := Aside0.mk hc0_2; clear hr0_2 hc0_2; have HR1_2 := Aside0.mk hr1_2; have HC1_2 := Aside0.mk hc1_2; clear hr1_2 hc1_2; have HB := Aside0.mk (Below.refl w.heap.size w)
 have H : (if a0_0 = a1_0 then (if a0_1.toList = a1_1.toList then ((laws_sameInts.f k l0_2 l1_2).bind fun t602 => (some t602)) else (some false)) else (some false)) = some r := h
 clear h
 by_cases c3 : a0_0 = a1_0
 ·
  rw [if_pos c3] at H
  have c3b0 : (a0_0 == a1_0) = true := beq_iff_eq.mpr c3; have c3b1 : (a0_0 != a1_0) = false := bne_eq_false_iff_eq.mpr c3; clear c3
  by_cases c4 : a0_1.toList = a1_1.toList
  ·
   rw [if_pos c4] at H
   have c4b0 : (a0_1.toList == a1_1.toList) = true := beq_iff_eq.mpr c4; have c4b1 : (a0_1.toList != a1_1.toList) = false := bne_eq_false_iff_eq.mpr c4; clear c4; obtain ⟨t602, A50, H⟩ := Option.bind_eq_some_iff.mp H
   try dsimp only at H
   have A5 := Aside0.mk A50; clear A50; obtain rfl := Option.some.inj H
   go_enter Try.func25, Try.ntmps25
   go_wp2_with (first | ((with_reducible refine gd 2 ?_); refine bA 2 #[.int .i64 a0_0, .string a0_1, .slice A0_2 l0_2.length c0_2] 26 ?_; intro gb600 hg w6 hbox hb; have BK600 := Aside0.mk (hbox); have GW600 := bg hg HB; have GJ600 := gi GW600; have GE600 := GW600; replace HB := bs HB hb; clear hb hbox hg) | ((with_reducible refine gd 3 ?_); refine bA 3 #[.int .i64 a1_0, .string a1_1, .slice A1_2 l1_2.length c1_2] 26 ?_; intro gb601 hg w7 hbox hb; have BK601 := Aside0.mk (hbox); have GW601 := bg hg HB; have GJ601 := gi GW601; have GE601 := GW601; replace HB := bs HB hb; have NB600_601 := b1 BK600 hg; have NI600_601 := ni NB600_601; have NB601_600 := b2 BK600 hg; have NI601_600 := ni NB601_600; replace BK600 := bk BK600 hb; clear hb hbox hg; have hnb8 := NB600_601.out; have hnc8 := NB601_600.out; obtain ⟨hcz9_0, hcz9_1, hcz9_2, hfz9_0, hfz9_1, hfz9_2⟩ := cs3 BK600; obtain ⟨hcz10_0, hcz10_1, hcz10_2, hfz10_0, hfz10_1, hfz10_2⟩ := cs3 BK601) | (go_at_call 47; (with_reducible refine (laws_sameInts.calls k _ _ l0_2 _ _ l1_2 t602 _ ?side1 ?side2 ?side3 ?side4 A5.out).mono ?_); (case side1 => exact ch HR0_2 HB); (case side2 => exact HC0_2.out); (case side3 => exact ch HR1_2 HB); (case side4 => exact HC1_2.out); rintro e w' ⟨rfl, ⟨nd, rfl⟩⟩))
   go_ret
   exact ⟨y0_16, bI HB.out⟩
  rw [if_neg c4] at H
  have c4b0 : (a0_1.toList == a1_1.toList) = false := beq_eq_false_iff_ne.mpr c4; have c4b1 : (a0_1.toList != a1_1.toList) = true := bne_iff_ne.mpr c4; obtain rfl := Option.some.inj H
  go_enter Try.func25, Try.ntmps25
  go_wp2_with (first | ((with_reducible refine gd 2 ?_); refine bA 2 #[.int .i64 a0_0, .string a0_1, .slice A0_2 l0_2.length c0_2] 26 ?_; intro gb600 hg w11 hbox hb; have BK600 := Aside0.mk (hbox); have GW600 := bg hg HB; have GJ600 := gi GW600; have GE600 := GW600; replace HB := bs HB hb; clear hb hbox hg) | ((with_reducible refine gd 3 ?_); refine bA 3 #[.int .i64 a1_0, .string a1_1, .slice A1_2 l1_2.length c1_2] 26 ?_; intro gb601 hg w12 hbox hb; have BK601 := Aside0.mk (hbox); have GW601 := bg hg HB; have GJ601 := gi GW601; have GE601 := GW601; replace HB := bs HB hb; have NB600_601 := b1 BK600 hg; have NI600_601 := ni NB600_601; have NB601_600 := b2 BK600 hg; have NI601_600 := ni NB601_600; replace BK600 := bk BK600 hb; clear hb hbox hg; have hnb13 := NB600_601.out; have hnc13 := NB601_600.out; obtain ⟨hcz14_0, hcz14_1, hcz14_2, hfz14_0, hfz14_1, hfz14_2⟩ := cs3 BK600; obtain ⟨hcz15_0, hcz15_1, hcz15_2, hfz15_0, hfz15_1, hfz15_2⟩ := cs3 BK601))
  go_ret
  exact ⟨y0_16, bI HB.out⟩
 rw [if_neg c3] at H
 have c3b0 : (a0_0 == a1_0) = false := beq_eq_false_iff_ne.mpr c3; have c3b1 : (a0_0 != a1_0) = true := bne_iff_ne.mpr c3; obtain rfl := Option.some.inj H
 go_enter Try.func25, Try.ntmps25
 go_wp2_with (first | ((with_reducible refine gd 2 ?_); refine bA 2 #[.int .i64 a0_0, .string a0_1, .slice A0_2 l0_2.length c0_2] 26 ?_; intro gb600 hg w16 hbox hb; have BK600 := Aside0.mk (hbox); have GW600 := bg hg HB; have GJ600 := gi GW600; have GE600 := GW600; replace HB := bs HB hb; clear hb hbox hg) | ((with_reducible refine gd 3 ?_); refine bA 3 #[.int .i64 a1_0, .string a1_1, .slice A1_2 l1_2.length c1_2] 26 ?_; intro gb601 hg w17 hbox hb; have BK601 := Aside0.mk (hbox); have GW601 := bg hg HB; have GJ601 := gi GW601; have GE601 := GW601; replace HB := bs HB hb; have NB600_601 := b1 BK600 hg; have NI600_601 := ni NB600_601; have NB601_600 := b2 BK600 hg; have NI601_600 := ni NB601_600; replace BK600 := bk BK600 hb; clear hb hbox hg; have hnb18 := NB600_601.out; have hnc18 := NB601_600.out; obtain ⟨hcz19_0, hcz19_1, hcz19_2, hfz19_0, hfz19_1, hfz19_2⟩ := cs3 BK600; obtain ⟨hcz20_0, hcz20_1, hcz20_2, hfz20_0, hfz20_1, hfz20_2⟩ := cs3 BK601))
 go_ret
 exact ⟨y0_16, bI HB.out⟩

/-! ### laws_sameTable: function 23 -/
def laws_sameTable.l0 : Nat → List (S26) → List (S26) → Int → Option (Bool)
 | 0, _, _, _ => none
 | k + 1, x0, x1, x5 => if x5 < (x0.length : Int) then (if 0 ≤ x5 then (if x5 < (x1.length : Int) then ((laws_samePart.f k ((rd_T26 x0 x5).f0) ((rd_T26 x0 x5).f1) ((rd_T26 x0 x5).f2) ((rd_T26 x1 x5).f0) ((rd_T26 x1 x5).f1) ((rd_T26 x1 x5).f2)).bind fun t605 => (if t605 = true then (laws_sameTable.l0 k x0 x1 (wrap64 (x5 + 1))) else (some false))) else (none)) else (none)) else (some true)
def laws_sameTable.f (k : Nat) (l0 : List (S26)) (l1 : List (S26)) : Option (Bool) := if (l0.length : Int) = (l1.length : Int) then (laws_sameTable.l0 k l0 l1 0) else (some false)
theorem laws_sameTable.mono_l : ∀ k, (∀ y0 y1 y2, LeO (laws_sameTable.l0 k y0 y1 y2) (laws_sameTable.l0 (k + 1) y0 y1 y2))
 | 0 => fun _ _ _ r h => by simp [laws_sameTable.l0] at h
 | k + 1 => by
  have ih0 := laws_sameTable.mono_l k
  intro y0 y1 y2
  unfold laws_sameTable.l0
  repeat' first | (with_reducible exact ih0 _ _ _) | (with_reducible exact laws_samePart.mono _ _ _ _ _ _ _) | (with_reducible exact LeO.refl _) | (with_reducible exact LeO.none _) | (with_reducible refine LeO.ite ?_ ?_) | (with_reducible refine LeO.bind ?_ (fun _ => ?_))
theorem laws_sameTable.mono : ∀ a0 a1 k, LeO (laws_sameTable.f k a0 a1) (laws_sameTable.f (k + 1) a0 a1) := by
 intro a0 a1 k
 have ih0 := laws_sameTable.mono_l k
 unfold laws_sameTable.f
 repeat' first | (with_reducible exact ih0 _ _ _) | (with_reducible exact laws_samePart.mono _ _ _ _ _ _ _) | (with_reducible exact LeO.refl _) | (with_reducible exact LeO.none _) | (with_reducible refine LeO.ite ?_ ?_) | (with_reducible refine LeO.bind ?_ (fun _ => ?_))
def laws_sameTable.T6 : Bool × List (List Nat × List Nat) := (true, [([], []), ([], []), ([0, 1], [0, 1]), ([2], [2]), ([], []), ([], []), ([4, 5], [4, 5]), ([6], [6]), ([3, 7], [3, 7]), ([8], [8])])
def laws_sameTable.B6 : List Nat := [0, 0, 3, 7, 0, 0, 48, 112, 255, 511]
theorem laws_sameTable.tab6 : rtab .any (opsOf Try.f23 6) = laws_sameTable.T6 := by kernel_rfl
theorem laws_sameTable.bits6 : waitsOk laws_sameTable.T6.2 laws_sameTable.B6 = true := by kernel_rfl
set_option maxHeartbeats 8000000 in
set_option maxRecDepth 100000 in
theorem laws_sameTable.calls (k : Nat) (A0 : Option Addr) (c0 : Nat) (l0 : List (S26)) (A1 : Option Addr) (c1 : Nat) (l1 : List (S26)) (r : Bool) (w : World) (hr0 : Kd.C k26 w A0 l0.length l0) (hc0 : l0.length ≤ c0) (hr1 : Kd.C k26 w A1 l1.length l1) (hc1 : l1.length ≤ c1) (h : laws_sameTable.f k l0 l1 = some r) :
  Calls Try.prog 23 #[.slice A0 l0.length c0, .slice A1 l1.length c1] w fun e w' => e = .returned (.bool r) ∧ Below w.heap.size w w' := by
 have hu26 := Try.underlying26; have HR0 := Aside0.mk hr0; have HC0 := Aside0.mk hc0; clear hr0 hc0; have HR1 := Aside0.mk hr1; have HC1 := Aside0.mk hc1; clear hr1 hc1; have HB := Aside0.mk (Below.refl w.heap.size w); have H : (if (l0.length : Int) = (l1.length : Int) then (laws_sameTable.l0 k l0 l1 0) else (some false)) = some r := h; clear h
 by_cases c3 : (l0.length : Int) = (l1.length : Int)
 ·
  rw [if_pos c3] at H
  have c3b0 : ((l0.length : Int) == (l1.length : Int)) = true := beq_iff_eq.mpr c3; have c3b1 : ((l0.length : Int) != (l1.length : Int)) = false := bne_eq_false_iff_eq.mpr c3
  have c3b2 : (l0.length == l1.length) = true := by first | simpa using c3 | (simp at c3 ⊢; omega)
  clear c3; have H' := Aside0.mk H; clear H
  go_enter Try.func23, Try.ntmps23
  go_wp2
  go_loopg [5] k (fun kq v5 w' => ∃ (x5_1 : Int), v5 = .int .i64 x5_1 ∧ Aside0 (laws_sameTable.l0 kq l0 l1 x5_1 = some r) ∧ Aside0 (kq ≤ k) ∧ Aside0 (Below w.heap.size w w'))
  case atStart => exact ⟨(0), y0_21, H', ⟨Nat.le_refl _⟩, ⟨bI HB.out⟩⟩
  case round =>
   clear H'
   try clear c1
   try clear c2
   try clear p2
   try clear c3
   try clear c3b0
   try clear c3b1
   try clear c3b2
   obtain ⟨x5_1, rfl, HA, HK1, HB⟩ := hrel; cases gk with
   | zero => exact absurd HA.out (by simp [laws_sameTable.l0])
   | succ k1 =>
    have H := HA.out; clear HA
    simp only [laws_sameTable.l0] at H
    by_cases c4 : x5_1 < (l0.length : Int)
    ·
     rw [if_pos c4] at H
     have c4b0 : decide (x5_1 < (l0.length : Int)) = true := decide_eq_true c4; clear c4
     by_cases c5 : 0 ≤ x5_1
     rotate_left
     ·
      rw [if_neg c5] at H
      exact absurd H (by simp)
     rw [if_pos c5] at H
     have c5b0 : decide (0 ≤ x5_1) = true := decide_eq_true c5; clear c5
     by_cases c6 : x5_1 < (l1.length : Int)
     rotate_left
     ·
      rw [if_neg c6] at H
      exact absurd H (by simp)
     rw [if_pos c6] at H
     have c6b0 : decide (x5_1 < (l1.length : Int)) = true := decide_eq_true c6; clear c6; obtain ⟨t605, A70, H⟩ := Option.bind_eq_some_iff.mp H
     try dsimp only at H
     have A7 := Aside0.mk A70; clear A70
     by_cases c8 : t605 = true
     ·
      subst c8
      rw [if_pos rfl] at H
      have H' := Aside0.mk H; clear H
      try go_wp2
      replace HB := Aside0.mk (below_drew1 HB.out); have p603 : 0 ≤ (x5_1 : Int) := of_decide_eq_true y0_20; have q603 : x5_1 < (l0.length : Int) := of_decide_eq_true y0_20; obtain ⟨ad603, A603_2, c603_2, e603, hx603_0, hx603_1, hx603_2, hl603_2, hi603_2⟩ := at_T26 HR0.out x5_1 p603 q603; have hw603_2 := hx603_2; have hw603_1 := hx603_1; have hw603_0 := hx603_0; cases e603; replace hx603_0 := bx HB hx603_0; replace hx603_1 := bx HB hx603_1; replace hx603_2 := bx HB hx603_2; have HR603_2 := Aside0.mk hi603_2; have HC603_2 := Aside0.mk hl603_2; clear hi603_2 hl603_2; replace p603 := eq_true p603; replace q603 := eq_true q603; have p604 : 0 ≤ (x5_1 : Int) := of_decide_eq_true y0_20; have q604 : x5_1 < (l1.length : Int) := of_decide_eq_true y0_20; obtain ⟨ad604, A604_2, c604_2, e604, hx604_0, hx604_1, hx604_2, hl604_2, hi604_2⟩ := at_T26 HR1.out x5_1 p604 q604; have hw604_2 := hx604_2; have hw604_1 := hx604_1; have hw604_0 := hx604_0; cases e604; replace hx604_0 := bx HB hx604_0; replace hx604_1 := bx HB hx604_1; replace hx604_2 := bx HB hx604_2; have HR604_2 := Aside0.mk hi604_2; have HC604_2 := Aside0.mk hl604_2; clear hi604_2 hl604_2; replace p604 := eq_true p604; replace q604 := eq_true q604
      refine start_ (n := 10) (S := fun w' => w'.cell? (ad603.add ((x5_1).toNat * 3)) = some (.int .i64 ((rd_T26 l0 x5_1).f0)) ∧ w'.cell? ⟨(ad603.add ((x5_1).toNat * 3)).block, (ad603.add ((x5_1).toNat * 3)).off + 1, none⟩ = some (.string ((rd_T26 l0 x5_1).f1)) ∧ w'.cell? ⟨(ad603.add ((x5_1).toNat * 3)).block, (ad603.add ((x5_1).toNat * 3)).off + 2, none⟩ = some (.slice A603_2 ((rd_T26 l0 x5_1).f2).length c603_2) ∧ w'.cell? (ad604.add ((x5_1).toNat * 3)) = some (.int .i64 ((rd_T26 l1 x5_1).f0)) ∧ w'.cell? ⟨(ad604.add ((x5_1).toNat * 3)).block, (ad604.add ((x5_1).toNat * 3)).off + 1, none⟩ = some (.string ((rd_T26 l1 x5_1).f1)) ∧ w'.cell? ⟨(ad604.add ((x5_1).toNat * 3)).block, (ad604.add ((x5_1).toNat * 3)).off + 2, none⟩ = some (.slice A604_2 ((rd_T26 l1 x5_1).f2).length c604_2)) (ds := []) #[false, false, false, false, false, false, false, false, false, false] (by kernel_rfl) rfl rfl ⟨(bx HB hw603_0), (bx HB hw603_1), (bx HB hw603_2), (bx HB hw604_0), (bx HB hw604_1), (bx HB hw604_2)⟩ (fun hHeld => ?_); refine with_tabW laws_sameTable.tab6 laws_sameTable.bits6 (fun HT_ HW_ => ?_)
      generalize wr.drew = w9 at HB HR603_2 HR604_2 hx603_0 hx603_1 hx603_2 hx604_0 hx604_1 hx604_2 hHeld ⊢
      refine pA 0 (some 17) (bz 10 1) HT_ ?_
      refine pA 1 (some 18) (bz 10 3) HT_ ?_
      refine pA 2 (some 19) (bz 10 7) HT_ ?_
      refine pA 4 (some 21) (bz 10 23) HT_ ?_
      refine pA 5 (some 22) (bz 10 55) HT_ ?_
      refine pA 6 (some 23) (bz 10 119) HT_ ?_
      refine tA 3 (some 20) (bz 10 127) HT_ HW_ hHeld ?_
      refine tA 7 (some 24) (bz 10 255) HT_ HW_ hHeld ?_
      refine oA 8 (some 25) (bz 10 511) HT_ (fun K hK => ?_)
      refine gA Try.func25 #[.agg #[.int .i64 ((rd_T26 l0 x5_1).f0), .string ((rd_T26 l0 x5_1).f1), .slice A603_2 ((rd_T26 l0 x5_1).f2).length c603_2], .agg #[.int .i64 ((rd_T26 l1 x5_1).f0), .string ((rd_T26 l1 x5_1).f1), .slice A604_2 ((rd_T26 l1 x5_1).f2).length c604_2]] ?_
      with_reducible refine (laws_samePart.calls k1 ((rd_T26 l0 x5_1).f0) ((rd_T26 l0 x5_1).f1) _ _ ((rd_T26 l0 x5_1).f2) ((rd_T26 l1 x5_1).f0) ((rd_T26 l1 x5_1).f1) _ _ ((rd_T26 l1 x5_1).f2) true _ ?side1 ?side2 ?side3 ?side4 A7.out).mono ?_
      (case side1 => exact ch HR603_2 HB)
      (case side2 => exact HC603_2.out)
      (case side3 => exact ch HR604_2 HB)
      (case side4 => exact HC604_2.out)
      rintro e w10 ⟨rfl, hb⟩
      refine ⟨_, rfl, ?_⟩
      replace HB := bs HB hb
      (try clear hb)
      (try clear hb2)
      (try clear hk)
      (try clear hi)
      refine hK.out _ _ ⟨(bx HB hw603_0), (bx HB hw603_1), (bx HB hw603_2), (bx HB hw604_0), (bx HB hw604_1), (bx HB hw604_2)⟩ (fun hHeld => ?_)
      clear hK K
      refine nA (some 25) ?_
      refine pA 9 (some 26) (bz 10 1023) HT_ ?_
      refine done_ (done_of HT_.out (by kernel_rfl)) ?_
      try go_wp2
      go_roundg k1
      case measure => have := HK1.out; omega
      case rel => exact ⟨(wrap64 (x5_1 + 1)), y0_21, H', ⟨y0_25⟩, ⟨bI HB.out⟩⟩
     replace c8 := Bool.eq_false_iff.mpr c8; subst c8
     rw [if_neg (show ¬ (false = true) by decide)] at H
     obtain rfl := Option.some.inj H
     try go_wp2
     replace HB := Aside0.mk (below_drew1 HB.out); have p603 : 0 ≤ (x5_1 : Int) := of_decide_eq_true y0_20; have q603 : x5_1 < (l0.length : Int) := of_decide_eq_true y0_20; obtain ⟨ad603, A603_2, c603_2, e603, hx603_0, hx603_1, hx603_2, hl603_2, hi603_2⟩ := at_T26 HR0.out x5_1 p603 q603; have hw603_2 := hx603_2; have hw603_1 := hx603_1; have hw603_0 := hx603_0; cases e603; replace hx603_0 := bx HB hx603_0; replace hx603_1 := bx HB hx603_1; replace hx603_2 := bx HB hx603_2; have HR603_2 := Aside0.mk hi603_2; have HC603_2 := Aside0.mk hl603_2; clear hi603_2 hl603_2; replace p603 := eq_true p603; replace q603 := eq_true q603; have p604 : 0 ≤ (x5_1 : Int) := of_decide_eq_true y0_20; have q604 : x5_1 < (l1.length : Int) := of_decide_eq_true y0_20; obtain ⟨ad604, A604_2, c604_2, e604, hx604_0, hx604_1, hx604_2, hl604_2, hi604_2⟩ := at_T26 HR1.out x5_1 p604 q604; have hw604_2 := hx604_2; have hw604_1 := hx604_1; have hw604_0 := hx604_0; cases e604; replace hx604_0 := bx HB hx604_0; replace hx604_1 := bx HB hx604_1; replace hx604_2 := bx HB hx604_2; have HR604_2 := Aside0.mk hi604_2; have HC604_2 := Aside0.mk hl604_2; clear hi604_2 hl604_2; replace p604 := eq_true p604; replace q604 := eq_true q604
     refine start_ (n := 10) (S := fun w' => w'.cell? (ad603.add ((x5_1).toNat * 3)) = some (.int .i64 ((rd_T26 l0 x5_1).f0)) ∧ w'.cell? ⟨(ad603.add ((x5_1).toNat * 3)).block, (ad603.add ((x5_1).toNat * 3)).off + 1, none⟩ = some (.string ((rd_T26 l0 x5_1).f1)) ∧ w'.cell? ⟨(ad603.add ((x5_1).toNat * 3)).block, (ad603.add ((x5_1).toNat * 3)).off + 2, none⟩ = some (.slice A603_2 ((rd_T26 l0 x5_1).f2).length c603_2) ∧ w'.cell? (ad604.add ((x5_1).toNat * 3)) = some (.int .i64 ((rd_T26 l1 x5_1).f0)) ∧ w'.cell? ⟨(ad604.add ((x5_1).toNat * 3)).block, (ad604.add ((x5_1).toNat * 3)).off + 1, none⟩ = some (.string ((rd_T26 l1 x5_1).f1)) ∧ w'.cell? ⟨(ad604.add ((x5_1).toNat * 3)).block, (ad604.add ((x5_1).toNat * 3)).off + 2, none⟩ = some (.slice A604_2 ((rd_T26 l1 x5_1).f2).length c604_2)) (ds := []) #[false, false, false, false, false, false, false, false, false, false] (by kernel_rfl) rfl rfl ⟨(bx HB hw603_0), (bx HB hw603_1), (bx HB hw603_2), (bx HB hw604_0), (bx HB hw604_1), (bx HB hw604_2)⟩ (fun hHeld => ?_); refine with_tabW laws_sameTable.tab6 laws_sameTable.bits6 (fun HT_ HW_ => ?_)
     generalize wr.drew = w11 at HB HR603_2 HR604_2 hx603_0 hx603_1 hx603_2 hx604_0 hx604_1 hx604_2 hHeld ⊢
     refine pA 0 (some 17) (bz 10 1) HT_ ?_
     refine pA 1 (some 18) (bz 10 3) HT_ ?_
     refine pA 2 (some 19) (bz 10 7) HT_ ?_
     refine pA 4 (some 21) (bz 10 23) HT_ ?_
     refine pA 5 (some 22) (bz 10 55) HT_ ?_
     refine pA 6 (some 23) (bz 10 119) HT_ ?_
     refine tA 3 (some 20) (bz 10 127) HT_ HW_ hHeld ?_
     refine tA 7 (some 24) (bz 10 255) HT_ HW_ hHeld ?_
     refine oA 8 (some 25) (bz 10 511) HT_ (fun K hK => ?_)
     refine gA Try.func25 #[.agg #[.int .i64 ((rd_T26 l0 x5_1).f0), .string ((rd_T26 l0 x5_1).f1), .slice A603_2 ((rd_T26 l0 x5_1).f2).length c603_2], .agg #[.int .i64 ((rd_T26 l1 x5_1).f0), .string ((rd_T26 l1 x5_1).f1), .slice A604_2 ((rd_T26 l1 x5_1).f2).length c604_2]] ?_
     with_reducible refine (laws_samePart.calls k1 ((rd_T26 l0 x5_1).f0) ((rd_T26 l0 x5_1).f1) _ _ ((rd_T26 l0 x5_1).f2) ((rd_T26 l1 x5_1).f0) ((rd_T26 l1 x5_1).f1) _ _ ((rd_T26 l1 x5_1).f2) false _ ?side1 ?side2 ?side3 ?side4 A7.out).mono ?_
     (case side1 => exact ch HR603_2 HB)
     (case side2 => exact HC603_2.out)
     (case side3 => exact ch HR604_2 HB)
     (case side4 => exact HC604_2.out)
     rintro e w12 ⟨rfl, hb⟩
     refine ⟨_, rfl, ?_⟩
     replace HB := bs HB hb
     (try clear hb)
     (try clear hb2)
     (try clear hk)
     (try clear hi)
     refine hK.out _ _ ⟨(bx HB hw603_0), (bx HB hw603_1), (bx HB hw603_2), (bx HB hw604_0), (bx HB hw604_1), (bx HB hw604_2)⟩ (fun hHeld => ?_)
     clear hK K
     refine nA (some 25) ?_
     refine pA 9 (some 26) (bz 10 1023) HT_ ?_
     refine done_ (done_of HT_.out (by kernel_rfl)) ?_
     try go_wp2
     go_ret
     exact ⟨y0_16, bI HB.out⟩
    rw [if_neg c4] at H
    have c4b0 : decide (x5_1 < (l0.length : Int)) = false := decide_eq_false c4; clear c4; obtain rfl := Option.some.inj H
    go_wp2
    go_ret
    exact ⟨y0_16, bI HB.out⟩
 rw [if_neg c3] at H
 have c3b0 : ((l0.length : Int) == (l1.length : Int)) = false := beq_eq_false_iff_ne.mpr c3; have c3b1 : ((l0.length : Int) != (l1.length : Int)) = true := bne_iff_ne.mpr c3
 have c3b2 : (l0.length == l1.length) = false := by first | simpa using c3 | (simp at c3 ⊢; omega)
 obtain rfl := Option.some.inj H
 go_enter Try.func23, Try.ntmps23
 go_wp2
 go_ret
 exact ⟨y0_16, bI HB.out⟩

end Go.Proofs.Ytemjmefacifdeaa.PFnDropsBelow
