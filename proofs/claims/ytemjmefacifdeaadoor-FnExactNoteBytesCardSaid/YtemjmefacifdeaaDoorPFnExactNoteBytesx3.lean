-- By a program of this session, out of the translation (the print of the kit, with turns of its own). Lean checks it.
import Derived.Test.YtemjmefacifdeaaDoorPFnExactNoteBytesx0
import Derived.Test.YtemjmefacifdeaaDoorPFnExactNoteBytesx1
import Derived.Test.YtemjmefacifdeaaDoorPFnExactNoteBytesx2
namespace Go.Proofs.YtemjmefacifdeaaDoor.PFnExactNoteBytes
open Go.RowKit Go.Proofs.YtemjmefacifdeaaDoorW.PrintWords Go.Proofs.YtemjmefacifdeaaDoorW.PrintLast Go.Proofs.YtemjmefacifdeaaDoorW.PrintMore
attribute [local go_sem] max2_int min2_int max_two min_two max_three min_three max_four min_four   -- for this text's walks alone
set_option linter.unusedVariables false
set_option linter.unusedSimpArgs false

/-! ### spec_TxsOf: function 54 -/
def spec_TxsOf.l0 : Nat → List (S80) → List ByteArray → Int → Option ((List (S80)) × Bool)
 | 0, _, _, _ => none
 | k + 1, x4, x5, x6 => if x6 < (x5.length : Int) then (if 0 ≤ x6 then ((spec_TxOf.f k (rdOf ByteArray.empty x5 x6)).bind fun bt169 => (if bt169.2.2.2.2 = true then (if x4.length < 4398046511104 then (spec_TxsOf.l0 k (x4 ++ [(⟨bt169.1, bt169.2.1, bt169.2.2.1, bt169.2.2.2.1⟩ : S80)]) x5 (wrap64 (x6 + 1))) else (none)) else (some ((([] : List (S80))), false)))) else (none)) else (some (x4, true))
def spec_TxsOf.f (k : Nat) (a0 : ByteArray) : Option ((List (S80)) × Bool) := (some (([] : List (S80)) : List (S80))).bind fun y162 => (if a0.toList = ([] : List UInt8) then (some (y162, true)) else ((spec_Split.f k a0 44).bind fun t165 => (spec_TxsOf.l0 k y162 t165 0)))
theorem spec_TxsOf.mono_l : ∀ k, (∀ y0 y1 y2, LeO (spec_TxsOf.l0 k y0 y1 y2) (spec_TxsOf.l0 (k + 1) y0 y1 y2))
 | 0 => fun _ _ _ r h => by simp [spec_TxsOf.l0] at h
 | k + 1 => by
  have ih0 := spec_TxsOf.mono_l k
  intro y0 y1 y2
  unfold spec_TxsOf.l0
  repeat' first | (with_reducible exact ih0 _ _ _) | (with_reducible exact spec_Split.mono _ _ _) | (with_reducible exact spec_TxOf.mono _ _) | (with_reducible exact LeO.refl _) | (with_reducible exact LeO.none _) | (with_reducible refine LeO.ite ?_ ?_) | (with_reducible refine LeO.bind ?_ (fun _ => ?_))
theorem spec_TxsOf.mono : ∀ a0 k, LeO (spec_TxsOf.f k a0) (spec_TxsOf.f (k + 1) a0) := by
 intro a0 k
 have ih0 := spec_TxsOf.mono_l k
 unfold spec_TxsOf.f
 repeat' first | (with_reducible exact ih0 _ _ _) | (with_reducible exact spec_Split.mono _ _ _) | (with_reducible exact spec_TxOf.mono _ _) | (with_reducible exact LeO.refl _) | (with_reducible exact LeO.none _) | (with_reducible refine LeO.ite ?_ ?_) | (with_reducible refine LeO.bind ?_ (fun _ => ?_))
set_option maxHeartbeats 8000000 in
set_option maxRecDepth 100000 in
theorem spec_TxsOf.calls (k : Nat) (a0 : ByteArray) (r1 : List (S80)) (r2 : Bool) (w : World) (h : spec_TxsOf.f k a0 = some (r1, r2)) :
  Calls Tryd.prog 54 #[.string a0] w fun e w' => ∃ v0_ : Value, e = .returned (.tuple #[v0_, .bool r2]) ∧ Kd.R k80 80 w' w.heap.size (fun _ => True) v0_ r1 ∧ Below w.heap.size w w' := by
 have hu80 := Tryd.underlying80; have HB := Aside0.mk (Below.refl w.heap.size w)
 have H : ((some (([] : List (S80)) : List (S80))).bind fun y162 => (if a0.toList = ([] : List UInt8) then (some (y162, true)) else ((spec_Split.f k a0 44).bind fun t165 => (spec_TxsOf.l0 k y162 t165 0)))) = some (r1, r2) := h
 clear h; obtain ⟨y162, hy162⟩ : ∃ y_ : List (S80), y_ = (([] : List (S80))) := ⟨_, rfl⟩
 replace H : (if a0.toList = ([] : List UInt8) then (some (y162, true)) else ((spec_Split.f k a0 44).bind fun t165 => (spec_TxsOf.l0 k y162 t165 0))) = some (r1, r2) := by first | (rw [hy162]; with_reducible exact H) | (have H2_ := (Option.bind_some _ _).symm.trans H; rw [hy162]; with_reducible exact H2_) | (have H2_ := (Option.bind_some _ _).symm.trans H; with_reducible exact H2_) | with_reducible exact H | (rw [hy162]; exact H) | exact H
 have Ny162 := Aside0.mk hy162; clear hy162
 by_cases c2 : a0.toList = ([] : List UInt8)
 ·
  rw [if_pos c2] at H
  have c2b0 : (a0.toList == ([] : List UInt8)) = true := beq_iff_eq.mpr c2; have c2b1 : (a0.toList != ([] : List UInt8)) = false := bne_eq_false_iff_eq.mpr c2; clear c2
  simp only [Option.some.injEq, Prod.mk.injEq] at H
  obtain ⟨rfl, rfl⟩ := H
  go_enter Tryd.func54, Tryd.ntmps54
  go_wp2_with (first | ((with_reducible refine gate_dst (N := 9) rfl ?_); refine Kd.R_lit k80 _ 80 ?hg (N := 9) ?hd (xs := ([] : List (S80))) (inner := []) (ok := fun _ => True) (okp := fun _ => True) ?hr ?hp (fun _ hk => hk) trivial (Below.refl _ _) (Nat.le_refl _) (by simp) ?_; (case hd => rfl); (case hg => rfl); (case hr => first | (go_simp; done) | (go_simp; rfl)); (case hp => exact (Reps.none _ _)); intro v163 w3 ho4 hb hg_ hnew_; clear hg_ hnew_; (first | rw [← Ny162.out] at ho4 | (simp only [Int.reduceToNat] at ho4; rw [← Ny162.out] at ho4)); have HO164 := Aside0.mk (Kd.R_lower ho4 (below_size (bI HB.out))); replace HB := bs HB hb; clear hb ho4))
  go_ret2
  exact ⟨_, y0_7, by (with_reducible repeat (first | apply Kd.R_alloc | apply Kd.R_drewN | apply Kd.R_drew)); exact HO164.out, bI HB.out⟩
 rw [if_neg c2] at H
 have c2b0 : (a0.toList == ([] : List UInt8)) = false := beq_eq_false_iff_ne.mpr c2; have c2b1 : (a0.toList != ([] : List UInt8)) = true := bne_iff_ne.mpr c2; obtain ⟨t165, A50, H⟩ := Option.bind_eq_some_iff.mp H
 try dsimp only at H
 have A5 := Aside0.mk A50; clear A50; have H' := Aside0.mk H; clear H
 go_enter Tryd.func54, Tryd.ntmps54
 go_wp2_with (first | ((with_reducible refine gate_dst (N := 9) rfl ?_); refine Kd.R_lit k80 _ 80 ?hg (N := 9) ?hd (xs := ([] : List (S80))) (inner := []) (ok := fun _ => True) (okp := fun _ => True) ?hr ?hp (fun _ hk => hk) trivial (Below.refl _ _) (Nat.le_refl _) (by simp) ?_; (case hd => rfl); (case hg => rfl); (case hr => first | (go_simp; done) | (go_simp; rfl)); (case hp => exact (Reps.none _ _)); intro v163 w6 ho7 hb hg_ hnew_; clear hg_ hnew_; (first | rw [← Ny162.out] at ho7 | (simp only [Int.reduceToNat] at ho7; rw [← Ny162.out] at ho7)); have HO164 := Aside0.mk (Kd.R_lower ho7 (below_size (bI HB.out))); replace HB := bs HB hb; clear hb ho7) | ((with_reducible refine gate_callee (f := 51) rfl ?_); refine gB (some 14) Tryd.func51 #[.string a0, .int .u8 44] ?_; (with_reducible refine (spec_Split.calls k a0 44 t165 _ A5.out).mono ?_); rintro e w8 ⟨v166, rfl, ho0, hb⟩; refine ⟨_, rfl, ?_⟩; replace HO164 := rb HO164 hb; have HO167 := Aside0.mk (Kd.R_lower ho0 (below_size (bI HB.out))); replace HB := bs HB hb; (try clear hb); (try clear ho0)))
 go_loopg [4, 6] k (fun kq v4 v6 w' => ∃ (x4_1 : List (S80)) (x6_1 : Int), v6 = .int .i64 x6_1 ∧ Aside0 (spec_TxsOf.l0 kq x4_1 t165 x6_1 = some (r1, r2)) ∧ Aside0 (kq ≤ k) ∧ Aside0 (Kd.R k80 80 w' w.heap.size (fun _ => True) v4 x4_1) ∧ Aside0 (Kd.R Kd.string 9 w' w.heap.size (fun _ => True) v166 t165) ∧ Aside0 (Below w.heap.size w w'))
 case atStart => exact ⟨(y162), (0), y0_10, H', ⟨Nat.le_refl _⟩, ⟨by (with_reducible repeat (first | apply Kd.R_alloc | apply Kd.R_drewN | apply Kd.R_drew)); exact HO164.out⟩, ⟨by (with_reducible repeat (first | apply Kd.R_alloc | apply Kd.R_drewN | apply Kd.R_drew)); exact HO167.out⟩, ⟨bI HB.out⟩⟩
 case round =>
  clear H'
  try clear c2
  try clear c2b0
  try clear c2b1
  try clear p2
  try clear c5
  obtain ⟨x4_1, x6_1, rfl, HA, HK1, HO_4, HO_5, HB⟩ := hrel; cases gk with
  | zero => exact absurd HA.out (by simp [spec_TxsOf.l0])
  | succ k1 =>
   have H := HA.out; clear HA
   simp only [spec_TxsOf.l0] at H
   by_cases c9 : x6_1 < (t165.length : Int)
   ·
    rw [if_pos c9] at H
    have c9b0 : decide (x6_1 < (t165.length : Int)) = true := decide_eq_true c9; clear c9
    by_cases c10 : 0 ≤ x6_1
    rotate_left
    ·
     rw [if_neg c10] at H
     exact absurd H (by simp)
    rw [if_pos c10] at H
    have c10b0 : decide (0 ≤ x6_1) = true := decide_eq_true c10; clear c10; obtain ⟨⟨t169, t170, t171, t172, t173⟩, A110, H⟩ := Option.bind_eq_some_iff.mp H
    try dsimp only at H
    have A11 := Aside0.mk A110; clear A110
    by_cases c12 : t173 = true
    ·
     subst c12
     rw [if_pos rfl] at H
     by_cases c13 : x4_1.length < 4398046511104
     rotate_left
     ·
      rw [if_neg c13] at H
      exact absurd H (by simp)
     rw [if_pos c13] at H
     have LMc13 := Aside0.mk c13; clear c13; obtain ⟨y175, hy175⟩ : ∃ y_ : List (S80), y_ = (x4_1 ++ [(⟨t169, t170, t171, t172⟩ : S80)]) := ⟨_, rfl⟩
     replace H : (spec_TxsOf.l0 k1 y175 t165 (wrap64 (x6_1 + 1))) = some (r1, r2) := by first | (rw [hy175]; with_reducible exact H) | (have H2_ := (Option.bind_some _ _).symm.trans H; rw [hy175]; with_reducible exact H2_) | (have H2_ := (Option.bind_some _ _).symm.trans H; with_reducible exact H2_) | with_reducible exact H | (rw [hy175]; exact H) | exact H
     have Ny175 := Aside0.mk hy175; clear hy175; have H' := Aside0.mk H; clear H; obtain ⟨Ao14, co14, eo14⟩ := Kd.R_slice HO_5.out; subst eo14; have p168 : 0 ≤ (x6_1 : Int) := of_decide_eq_true y0_9; have q168 : x6_1 < (t165.length : Int) := of_decide_eq_true y0_9; obtain ⟨ad168, e168, hx168_0⟩ := Kd.at_string (Kd.R_reads' HO_5.out).2.2 x6_1 p168 q168; cases e168; replace p168 := eq_true p168; replace q168 := eq_true q168
     go_wp2_with (first | ((with_reducible refine gate_callee (f := 62) rfl ?_); refine gB (some 26) Tryd.func62 #[.string (rdOf ByteArray.empty t165 x6_1)] ?_; (with_reducible refine (spec_TxOf.calls k1 (rdOf ByteArray.empty t165 x6_1) t169 t170 t171 t172 true _ A11.out).mono ?_); rintro e w15 ⟨rfl, hb⟩; refine ⟨_, rfl, ?_⟩; replace HO_4 := rb HO_4 hb; replace HO_5 := rb HO_5 hb; replace HB := bs HB hb; (try clear hb); (try clear hb2); (try clear hk); (try clear hi)) | ((with_reducible refine gd 7 ?_); refine bA 7 #[.int .i64 0, .int .i64 0, .int .i64 0, .int .i64 0] 80 ?_; intro gb174 hg w16 hbox hb; replace HO_4 := Aside0.mk (Kd.R_below (Kd.R_elderB (rI HO_4.out) gb174 (Nat.le_of_eq hg.symm)) hb); replace HO_5 := rb HO_5 hb; have BK174 := Aside0.mk (hbox); have GW174 := bg hg HB; have GJ174 := gi GW174; have GE174 := GW174; replace HB := bs HB hb; clear hb hbox hg; obtain ⟨hcz17_0, hcz17_1, hcz17_2, hcz17_3, hfz17_0, hfz17_1, hfz17_2, hfz17_3⟩ := cs4 BK174) | ((with_reducible refine gate_builtin (b := .append) (xs := #[.tmp 32, .tmp 34]) rfl ?_); at_builtin; refine Kd.R_append k80 (w0 := w) w.heap.size rfl (.tmp 32) (.tmp 34) 66 80 (.agg #[(.int .i64 0), (.int .i64 0), (.int .i64 0), (.int .i64 0)]) 32 rfl Tryd.underlying66 info80 rfl (by decide) (by omega) u4 x4_1 (⟨t169, t170, t171, t172⟩ : S80) [.int .i64 t169, .int .i64 t170, .int .i64 t171, .int .i64 t172] (fun k_ => k_ ≠ gb174) (fun _ => False) rfl (by first | (go_simp; done) | (go_simp; rfl)) ?aP (fun _ hk => hk.elim) ?aF ?aO ?aB ?aS ?aL ?_; (case aP => exact k80_mkM _ _ _ (⟨t169, t170, t171, t172⟩ : S80)); (case aB => exact (bI HB.out)); (case aF => exact (fun k_ hk => Kd.freshB (g := gb174) (o := .cells #[.int .i64 t169, .int .i64 t170, .int .i64 t171, .int .i64 t172] 80 (0, 0)) (pI BK174) k_ hk)); (case aO => exact (rI (Kd.R_mono (Kd.R_far (p := ⟨gb174, 3, none⟩) (Kd.R_far (p := ⟨gb174, 2, none⟩) (Kd.R_far (p := ⟨gb174, 1, none⟩) (Kd.R_far (p := ⟨gb174, 0, none⟩) (Kd.R_mono HO_4.out (fun k_ hk => (⟨hk, hk.2⟩ : _ ∧ k_ ≠ gb174))) (fun _ hk => hk.2) (.int .i64 t169)) (fun _ hk => hk.2) (.int .i64 t170)) (fun _ hk => hk.2) (.int .i64 t171)) (fun _ hk => hk.2) (.int .i64 t172)) (fun _ hk => hk.1.2)))); (case aS => exact (below_size (bI HB.out))); (case aL => have := LMc13.out; omega); intro v176 w18 ho hb hg hat; rw [← Ny175.out] at ho; have n0_ := Aside0.mk (Kd.R_over' (rI (Kd.R_mono (Kd.R_far (p := ⟨gb174, 3, none⟩) (Kd.R_far (p := ⟨gb174, 2, none⟩) (Kd.R_far (p := ⟨gb174, 1, none⟩) (Kd.R_far (p := ⟨gb174, 0, none⟩) (Kd.R_types HO_5.out BK174.out (by decide)) (fun _ hk => hk.2) (.int .i64 t169)) (fun _ hk => hk.2) (.int .i64 t170)) (fun _ hk => hk.2) (.int .i64 t171)) (fun _ hk => hk.2) (.int .i64 t172)) (fun _ h_ => h_.1))) (Kd.R_typed (rI (Kd.R_mono (Kd.R_far (p := ⟨gb174, 3, none⟩) (Kd.R_far (p := ⟨gb174, 2, none⟩) (Kd.R_far (p := ⟨gb174, 1, none⟩) (Kd.R_far (p := ⟨gb174, 0, none⟩) (Kd.R_mono HO_4.out (fun k_ hk => (⟨hk, hk.2⟩ : _ ∧ k_ ≠ gb174))) (fun _ hk => hk.2) (.int .i64 t169)) (fun _ hk => hk.2) (.int .i64 t170)) (fun _ hk => hk.2) (.int .i64 t171)) (fun _ hk => hk.2) (.int .i64 t172)) (fun _ h_ => h_.1)))) (by decide) hg); have n1_ := Aside0.mk (blk_grown (g := gb174) (o := .cells #[.int .i64 t169, .int .i64 t170, .int .i64 t171, .int .i64 t172] 80 (0, 0)) (pI BK174) hg (Kd.R_away HO_4.out (fun _ hk => hk.2))); have n2_ := Aside0.mk (hb); have n3_ := Aside0.mk (ho); clear HO_5; clear BK174; clear HB; clear HO_4; have HO_5 := n0_; have BK174 := n1_; have HB := n2_; have HO177 := n3_; clear n0_ n1_ n2_ n3_; clear ho hb hg hat))
     go_roundg k1
     case measure => have := HK1.out; omega
     case rel => exact ⟨(y175), (wrap64 (x6_1 + 1)), y0_10, H', ⟨y0_14⟩, ⟨by (with_reducible repeat (first | apply Kd.R_alloc | apply Kd.R_drewN | apply Kd.R_drew)); exact Kd.R_mono HO177.out (fun _ hk => trivial)⟩, ⟨y0_4⟩, ⟨bI HB.out⟩⟩
    replace c12 := Bool.eq_false_iff.mpr c12; subst c12
    rw [if_neg (show ¬ (false = true) by decide)] at H
    obtain ⟨y178, hy178⟩ : ∃ y_ : List (S80), y_ = (([] : List (S80))) := ⟨_, rfl⟩
    replace H : (some (y178, false)) = some (r1, r2) := by first | (rw [hy178]; with_reducible exact H) | (have H2_ := (Option.bind_some _ _).symm.trans H; rw [hy178]; with_reducible exact H2_) | (have H2_ := (Option.bind_some _ _).symm.trans H; with_reducible exact H2_) | with_reducible exact H | (rw [hy178]; exact H) | exact H
    have Ny178 := Aside0.mk hy178; clear hy178
    simp only [Option.some.injEq, Prod.mk.injEq] at H
    obtain ⟨rfl, rfl⟩ := H; obtain ⟨Ao19, co19, eo19⟩ := Kd.R_slice HO_5.out; subst eo19; have p168 : 0 ≤ (x6_1 : Int) := of_decide_eq_true y0_9; have q168 : x6_1 < (t165.length : Int) := of_decide_eq_true y0_9; obtain ⟨ad168, e168, hx168_0⟩ := Kd.at_string (Kd.R_reads' HO_5.out).2.2 x6_1 p168 q168; cases e168; replace p168 := eq_true p168; replace q168 := eq_true q168
    go_wp2_with (first | ((with_reducible refine gate_callee (f := 62) rfl ?_); refine gB (some 26) Tryd.func62 #[.string (rdOf ByteArray.empty t165 x6_1)] ?_; (with_reducible refine (spec_TxOf.calls k1 (rdOf ByteArray.empty t165 x6_1) t169 t170 t171 t172 false _ A11.out).mono ?_); rintro e w20 ⟨rfl, hb⟩; refine ⟨_, rfl, ?_⟩; replace HO_4 := rb HO_4 hb; replace HO_5 := rb HO_5 hb; replace HB := bs HB hb; (try clear hb); (try clear hb2); (try clear hk); (try clear hi)) | ((with_reducible refine gd 7 ?_); refine bA 7 #[.int .i64 0, .int .i64 0, .int .i64 0, .int .i64 0] 80 ?_; intro gb174 hg w21 hbox hb; replace HO_4 := Aside0.mk (Kd.R_below (Kd.R_elderB (rI HO_4.out) gb174 (Nat.le_of_eq hg.symm)) hb); replace HO_5 := rb HO_5 hb; have BK174 := Aside0.mk (hbox); have GW174 := bg hg HB; have GJ174 := gi GW174; have GE174 := GW174; replace HB := bs HB hb; clear hb hbox hg; obtain ⟨hcz22_0, hcz22_1, hcz22_2, hcz22_3, hfz22_0, hfz22_1, hfz22_2, hfz22_3⟩ := cs4 BK174) | ((with_reducible refine gate_dst (N := 31) rfl ?_); refine Kd.R_lit k80 _ 80 ?hg (N := 31) ?hd (xs := ([] : List (S80))) (inner := []) (ok := fun _ => True) (okp := fun _ => True) ?hr ?hp (fun _ hk => hk) trivial (Below.refl _ _) (Nat.le_refl _) (by simp) ?_; (case hd => rfl); (case hg => rfl); (case hr => first | (go_simp; done) | (go_simp; rfl)); (case hp => exact (Reps.none _ _)); intro v179 w23 ho24 hb hg_ hnew_; clear hg_ hnew_; (first | rw [← Ny178.out] at ho24 | (simp only [Int.reduceToNat] at ho24; rw [← Ny178.out] at ho24)); replace HO_5 := Aside0.mk (Kd.R_below (rI (Kd.R_mono (Kd.R_far (p := ⟨gb174, 3, none⟩) (Kd.R_far (p := ⟨gb174, 2, none⟩) (Kd.R_far (p := ⟨gb174, 1, none⟩) (Kd.R_far (p := ⟨gb174, 0, none⟩) (Kd.R_types HO_5.out BK174.out (by decide)) (fun _ hk => hk.2) (.int .i64 t169)) (fun _ hk => hk.2) (.int .i64 t170)) (fun _ hk => hk.2) (.int .i64 t171)) (fun _ hk => hk.2) (.int .i64 t172)) (fun _ h_ => h_.1))) hb); have HO180 := Aside0.mk (Kd.R_lower (Kd.R_newB (Kd.R_new' ho24 (Kd.R_lt (rI (Kd.R_mono (Kd.R_far (p := ⟨gb174, 3, none⟩) (Kd.R_far (p := ⟨gb174, 2, none⟩) (Kd.R_far (p := ⟨gb174, 1, none⟩) (Kd.R_far (p := ⟨gb174, 0, none⟩) (Kd.R_mono HO_4.out (fun k_ hk => (⟨hk, hk.2⟩ : _ ∧ k_ ≠ gb174))) (fun _ hk => hk.2) (.int .i64 t169)) (fun _ hk => hk.2) (.int .i64 t170)) (fun _ hk => hk.2) (.int .i64 t171)) (fun _ hk => hk.2) (.int .i64 t172)) (fun _ h_ => h_.1))))) (g := gb174) (o := .cells #[.int .i64 t169, .int .i64 t170, .int .i64 t171, .int .i64 t172] 80 (0, 0)) (pI BK174)) (below_size (bI HB.out))); replace HO_4 := Aside0.mk (Kd.R_elder' (rI (Kd.R_mono (Kd.R_far (p := ⟨gb174, 3, none⟩) (Kd.R_far (p := ⟨gb174, 2, none⟩) (Kd.R_far (p := ⟨gb174, 1, none⟩) (Kd.R_far (p := ⟨gb174, 0, none⟩) (Kd.R_mono HO_4.out (fun k_ hk => (⟨hk, hk.2⟩ : _ ∧ k_ ≠ gb174))) (fun _ hk => hk.2) (.int .i64 t169)) (fun _ hk => hk.2) (.int .i64 t170)) (fun _ hk => hk.2) (.int .i64 t171)) (fun _ hk => hk.2) (.int .i64 t172)) (fun _ h_ => h_.1))) (Kd.R_base ho24) hb); replace BK174 := bp BK174 hb #[.int .i64 t169, .int .i64 t170, .int .i64 t171, .int .i64 t172]; replace HB := bs HB hb; clear hb ho24))
    go_ret2
    exact ⟨_, y0_7, by (with_reducible repeat (first | apply Kd.R_alloc | apply Kd.R_drewN | apply Kd.R_drew)); exact Kd.R_mono HO180.out (fun _ hk => trivial), bI HB.out⟩
   rw [if_neg c9] at H
   have c9b0 : decide (x6_1 < (t165.length : Int)) = false := decide_eq_false c9; clear c9
   simp only [Option.some.injEq, Prod.mk.injEq] at H
   obtain ⟨rfl, rfl⟩ := H; obtain ⟨Ao25, co25, eo25⟩ := Kd.R_slice HO_5.out; subst eo25
   go_wp2
   go_ret2
   exact ⟨_, y0_7, by (with_reducible repeat (first | apply Kd.R_alloc | apply Kd.R_drewN | apply Kd.R_drew)); exact HO_4.out, bI HB.out⟩

/-! ### spec_Steps: function 43 -/
mutual
def spec_Steps.j0 : Nat → List (S68) → List (S68) → List ByteArray → Bool → Option ((List (S68)) × Bool)
 | 0, _, _, _, _ => none
 | k + 1, x4, x5, x6, x31 => if x31 = true then (some (x4, false)) else (spec_Steps.l0 k x4 x5 x6 0 1)
def spec_Steps.l0 : Nat → List (S68) → List (S68) → List ByteArray → Int → Int → Option ((List (S68)) × Bool)
 | 0, _, _, _, _, _ => none
 | k + 1, x4, x5, x6, x7, x8 => if x8 < (x6.length : Int) then (if 0 ≤ x8 then ((spec_l2Cut.f k (rdOf ByteArray.empty x6 x8) 124).bind fun bt192 => ((spec_Number.f k bt192.1).bind fun bt195 => ((spec_TxsOf.f k bt192.2.1).bind fun bt197 => (if bt192.2.2 = true then (if bt195.2 = true then (if bt197.2 = true then (if bt195.1 ≤ x7 then (some (x4, false)) else (if bt195.1 > 60 then (some (x4, false)) else (if (bt197.1.length : Int) > 2 then (some (x4, false)) else (if x5.length < 4398046511104 then (spec_Steps.l0 k x4 (x5 ++ [(⟨bt195.1, bt197.1⟩ : S68)]) x6 bt195.1 (wrap64 (x8 + 1))) else (none))))) else (some (x4, false))) else (some (x4, false))) else (some (x4, false)))))) else (none)) else (some (x5, true))
end
def spec_Steps.f (k : Nat) (a0 : ByteArray) : Option ((List (S68)) × Bool) := (some (([] : List (S68)) : List (S68))).bind fun y181 => ((some (([] : List (S68)) : List (S68))).bind fun y184 => (if a0.toList = ([] : List UInt8) then (some (y184, true)) else ((spec_Split.f k a0 47).bind fun t187 => (if 0 < (t187.length : Int) then (if (rdOf ByteArray.empty t187 0).toList = ([] : List UInt8) then (spec_Steps.j0 k y181 y184 t187 (decide ((t187.length : Int) > 31))) else (spec_Steps.j0 k y181 y184 t187 true)) else (none)))))
theorem spec_Steps.mono_l : ∀ k, (∀ y0 y1 y2 y3, LeO (spec_Steps.j0 k y0 y1 y2 y3) (spec_Steps.j0 (k + 1) y0 y1 y2 y3)) ∧ (∀ y0 y1 y2 y3 y4, LeO (spec_Steps.l0 k y0 y1 y2 y3 y4) (spec_Steps.l0 (k + 1) y0 y1 y2 y3 y4))
 | 0 => ⟨fun _ _ _ _ r h => by simp [spec_Steps.j0] at h, fun _ _ _ _ _ r h => by simp [spec_Steps.l0] at h⟩
 | k + 1 => by
  obtain ⟨ih0, ih1⟩ := spec_Steps.mono_l k
  refine ⟨?_, ?_⟩
  ·
   intro y0 y1 y2 y3
   unfold spec_Steps.j0
   repeat' first | (with_reducible exact ih0 _ _ _ _) | (with_reducible exact ih1 _ _ _ _ _) | (with_reducible exact spec_Number.mono _ _) | (with_reducible exact spec_Split.mono _ _ _) | (with_reducible exact spec_TxsOf.mono _ _) | (with_reducible exact spec_l2Cut.mono _ _ _) | (with_reducible exact LeO.refl _) | (with_reducible exact LeO.none _) | (with_reducible refine LeO.ite ?_ ?_) | (with_reducible refine LeO.bind ?_ (fun _ => ?_))
  intro y0 y1 y2 y3 y4
  unfold spec_Steps.l0
  repeat' first | (with_reducible exact ih0 _ _ _ _) | (with_reducible exact ih1 _ _ _ _ _) | (with_reducible exact spec_Number.mono _ _) | (with_reducible exact spec_Split.mono _ _ _) | (with_reducible exact spec_TxsOf.mono _ _) | (with_reducible exact spec_l2Cut.mono _ _ _) | (with_reducible exact LeO.refl _) | (with_reducible exact LeO.none _) | (with_reducible refine LeO.ite ?_ ?_) | (with_reducible refine LeO.bind ?_ (fun _ => ?_))
theorem spec_Steps.mono : ∀ a0 k, LeO (spec_Steps.f k a0) (spec_Steps.f (k + 1) a0) := by
 intro a0 k
 obtain ⟨ih0, ih1⟩ := spec_Steps.mono_l k
 unfold spec_Steps.f
 repeat' first | (with_reducible exact ih0 _ _ _ _) | (with_reducible exact ih1 _ _ _ _ _) | (with_reducible exact spec_Number.mono _ _) | (with_reducible exact spec_Split.mono _ _ _) | (with_reducible exact spec_TxsOf.mono _ _) | (with_reducible exact spec_l2Cut.mono _ _ _) | (with_reducible exact LeO.refl _) | (with_reducible exact LeO.none _) | (with_reducible refine LeO.ite ?_ ?_) | (with_reducible refine LeO.bind ?_ (fun _ => ?_))
set_option maxHeartbeats 8000000 in
set_option maxRecDepth 100000 in
theorem spec_Steps.calls (k : Nat) (a0 : ByteArray) (r1 : List (S68)) (r2 : Bool) (w : World) (h : spec_Steps.f k a0 = some (r1, r2)) :
  Calls Tryd.prog 43 #[.string a0] w fun e w' => ∃ v0_ : Value, e = .returned (.tuple #[v0_, .bool r2]) ∧ Kd.S k68 68 w' w.heap.size (fun _ => True) v0_ r1 ∧ Below w.heap.size w w' := by
 have hu68 := Tryd.underlying68; have HB := Aside0.mk (Below.refl w.heap.size w)
 have H : ((some (([] : List (S68)) : List (S68))).bind fun y181 => ((some (([] : List (S68)) : List (S68))).bind fun y184 => (if a0.toList = ([] : List UInt8) then (some (y184, true)) else ((spec_Split.f k a0 47).bind fun t187 => (if 0 < (t187.length : Int) then (if (rdOf ByteArray.empty t187 0).toList = ([] : List UInt8) then (spec_Steps.j0 k y181 y184 t187 (decide ((t187.length : Int) > 31))) else (spec_Steps.j0 k y181 y184 t187 true)) else (none)))))) = some (r1, r2) := h
 clear h; obtain ⟨y181, hy181⟩ : ∃ y_ : List (S68), y_ = (([] : List (S68))) := ⟨_, rfl⟩
 replace H : ((some (([] : List (S68)) : List (S68))).bind fun y184 => (if a0.toList = ([] : List UInt8) then (some (y184, true)) else ((spec_Split.f k a0 47).bind fun t187 => (if 0 < (t187.length : Int) then (if (rdOf ByteArray.empty t187 0).toList = ([] : List UInt8) then (spec_Steps.j0 k y181 y184 t187 (decide ((t187.length : Int) > 31))) else (spec_Steps.j0 k y181 y184 t187 true)) else (none))))) = some (r1, r2) := by first | (rw [hy181]; with_reducible exact H) | (have H2_ := (Option.bind_some _ _).symm.trans H; rw [hy181]; with_reducible exact H2_) | (have H2_ := (Option.bind_some _ _).symm.trans H; with_reducible exact H2_) | with_reducible exact H | (rw [hy181]; exact H) | exact H
 have Ny181 := Aside0.mk hy181; clear hy181; obtain ⟨y184, hy184⟩ : ∃ y_ : List (S68), y_ = (([] : List (S68))) := ⟨_, rfl⟩
 replace H : (if a0.toList = ([] : List UInt8) then (some (y184, true)) else ((spec_Split.f k a0 47).bind fun t187 => (if 0 < (t187.length : Int) then (if (rdOf ByteArray.empty t187 0).toList = ([] : List UInt8) then (spec_Steps.j0 k y181 y184 t187 (decide ((t187.length : Int) > 31))) else (spec_Steps.j0 k y181 y184 t187 true)) else (none)))) = some (r1, r2) := by first | (rw [hy184]; with_reducible exact H) | (have H2_ := (Option.bind_some _ _).symm.trans H; rw [hy184]; with_reducible exact H2_) | (have H2_ := (Option.bind_some _ _).symm.trans H; with_reducible exact H2_) | with_reducible exact H | (rw [hy184]; exact H) | exact H
 have Ny184 := Aside0.mk hy184; clear hy184
 by_cases c2 : a0.toList = ([] : List UInt8)
 ·
  rw [if_pos c2] at H
  have c2b0 : (a0.toList == ([] : List UInt8)) = true := beq_iff_eq.mpr c2; have c2b1 : (a0.toList != ([] : List UInt8)) = false := bne_eq_false_iff_eq.mpr c2; clear c2
  simp only [Option.some.injEq, Prod.mk.injEq] at H
  obtain ⟨rfl, rfl⟩ := H
  go_enter Tryd.func43, Tryd.ntmps43
  go_wp2_with (first | ((with_reducible refine gate_dst (N := 16) rfl ?_); (try (refine gate_guard (by rfl) ?_; dsimp only)); refine Kd.S_lit k68 _ 68 ?hg (N := 16) ?hd (xs := ([] : List (S68))) (inner := []) (ok := fun _ => True) (okp := fun _ => True) ?hr ?hp (fun _ hk => hk) trivial (Below.refl _ _) (Nat.le_refl _) (by simp) ?_; (case hd => rfl); (case hg => rfl); (case hr => first | (go_simp; done) | (go_simp; rfl)); (case hp => exact (Reps.none _ _)); intro v182 w3 ho4 hb hg_ hnew_; clear hg_ hnew_; (first | rw [← Ny181.out] at ho4 | (simp only [Int.reduceToNat] at ho4; rw [← Ny181.out] at ho4)); have HO183 := Aside0.mk (Kd.S_lower ho4 (below_size (bI HB.out))); replace HB := bs HB hb; clear hb ho4) | ((with_reducible refine gate_dst (N := 17) rfl ?_); (try (refine gate_guard (by rfl) ?_; dsimp only)); refine Kd.S_lit k68 _ 68 ?hg (N := 17) ?hd (xs := ([] : List (S68))) (inner := []) (ok := fun _ => True) (okp := fun _ => True) ?hr ?hp (fun _ hk => hk) trivial (Below.refl _ _) (Nat.le_refl _) (by simp) ?_; (case hd => rfl); (case hg => rfl); (case hr => first | (go_simp; done) | (go_simp; rfl)); (case hp => exact (Reps.none _ _)); intro v185 w5 ho6 hb hg_ hnew_; clear hg_ hnew_; (first | rw [← Ny184.out] at ho6 | (simp only [Int.reduceToNat] at ho6; rw [← Ny184.out] at ho6)); have HO186 := Aside0.mk (Kd.S_lower (Kd.S_new' ho6 (Kd.S_lt (sI HO183.out))) (below_size (bI HB.out))); replace HO183 := Aside0.mk (Kd.S_elder' (sI HO183.out) (Kd.S_base ho6) hb); replace HB := bs HB hb; clear hb ho6))
  go_ret2
  exact ⟨_, y0_7, by (with_reducible repeat (first | apply Kd.S_alloc | apply Kd.S_drewN | apply Kd.S_drew)); exact Kd.S_mono HO186.out (fun _ hk => trivial), bI HB.out⟩
 rw [if_neg c2] at H
 have c2b0 : (a0.toList == ([] : List UInt8)) = false := beq_eq_false_iff_ne.mpr c2; have c2b1 : (a0.toList != ([] : List UInt8)) = true := bne_iff_ne.mpr c2; obtain ⟨t187, A70, H⟩ := Option.bind_eq_some_iff.mp H
 try dsimp only at H
 have A7 := Aside0.mk A70; clear A70; have HC8 := Aside0.mk H; clear H
 go_enter Tryd.func43, Tryd.ntmps43
 go_upto_region 6 with (first | ((with_reducible refine gate_dst (N := 16) rfl ?_); (try (refine gate_guard (by rfl) ?_; dsimp only)); refine Kd.S_lit k68 _ 68 ?hg (N := 16) ?hd (xs := ([] : List (S68))) (inner := []) (ok := fun _ => True) (okp := fun _ => True) ?hr ?hp (fun _ hk => hk) trivial (Below.refl _ _) (Nat.le_refl _) (by simp) ?_; (case hd => rfl); (case hg => rfl); (case hr => first | (go_simp; done) | (go_simp; rfl)); (case hp => exact (Reps.none _ _)); intro v182 w9 ho10 hb hg_ hnew_; clear hg_ hnew_; (first | rw [← Ny181.out] at ho10 | (simp only [Int.reduceToNat] at ho10; rw [← Ny181.out] at ho10)); have HO183 := Aside0.mk (Kd.S_lower ho10 (below_size (bI HB.out))); replace HB := bs HB hb; clear hb ho10) | ((with_reducible refine gate_dst (N := 17) rfl ?_); (try (refine gate_guard (by rfl) ?_; dsimp only)); refine Kd.S_lit k68 _ 68 ?hg (N := 17) ?hd (xs := ([] : List (S68))) (inner := []) (ok := fun _ => True) (okp := fun _ => True) ?hr ?hp (fun _ hk => hk) trivial (Below.refl _ _) (Nat.le_refl _) (by simp) ?_; (case hd => rfl); (case hg => rfl); (case hr => first | (go_simp; done) | (go_simp; rfl)); (case hp => exact (Reps.none _ _)); intro v185 w11 ho12 hb hg_ hnew_; clear hg_ hnew_; (first | rw [← Ny184.out] at ho12 | (simp only [Int.reduceToNat] at ho12; rw [← Ny184.out] at ho12)); have HO186 := Aside0.mk (Kd.S_lower (Kd.S_new' ho12 (Kd.S_lt (sI HO183.out))) (below_size (bI HB.out))); replace HO183 := Aside0.mk (Kd.S_elder' (sI HO183.out) (Kd.S_base ho12) hb); replace HB := bs HB hb; clear hb ho12) | ((with_reducible refine gate_callee (f := 51) rfl ?_); refine gB (some 22) Tryd.func51 #[.string a0, .int .u8 47] ?_; (with_reducible refine (spec_Split.calls k a0 47 t187 _ A7.out).mono ?_); rintro e w13 ⟨v188, rfl, ho0, hb⟩; refine ⟨_, rfl, ?_⟩; replace HO183 := sb HO183 hb; replace HO186 := sb HO186 hb; have HO189 := Aside0.mk (Kd.R_lower ho0 (below_size (bI HB.out))); replace HB := bs HB hb; (try clear hb); (try clear ho0)))
 (try simp only [Act.put, List.setIfInBounds_toArray, List.set_cons_zero, List.set_cons_succ])
 go_cut [31] (fun v31 wc => ∃ (kq : Nat) (x31_7 : Bool), v31 = .bool x31_7 ∧ Aside0 (spec_Steps.j0 kq y181 y184 t187 x31_7 = some (r1, r2)) ∧ Aside0 (kq ≤ k) ∧ Aside0 (Kd.S k68 68 wc w.heap.size (fun k_ => some k_ ≠ (v185 : Value).ownBlock) v182 y181) ∧ Aside0 (Kd.S k68 68 wc w.heap.size (fun k_ => some k_ ≠ (v182 : Value).ownBlock) v185 y184) ∧ Aside0 (Kd.R Kd.string 9 wc w.heap.size (fun _ => True) v188 t187) ∧ Aside0 (Below w.heap.size w wc))
 case first =>
  have H := HC8.out; clear HC8
  by_cases c14 : 0 < (t187.length : Int)
  rotate_left
  ·
   rw [if_neg c14] at H
   exact absurd H (by simp)
  rw [if_pos c14] at H
  have c14b0 : decide (0 < (t187.length : Int)) = true := decide_eq_true c14
  have c14b1 : decide (0 < t187.length) = true := decide_eq_true (by omega)
  clear c14
  (first | rw [c14b0] | (simp only [i64_w, i32_w]; rw [c14b0]) | skip)
  by_cases c15 : (rdOf ByteArray.empty t187 0).toList = ([] : List UInt8)
  ·
   rw [if_pos c15] at H
   have c15b0 : ((rdOf ByteArray.empty t187 0).toList == ([] : List UInt8)) = true := beq_iff_eq.mpr c15; have c15b1 : ((rdOf ByteArray.empty t187 0).toList != ([] : List UInt8)) = false := bne_eq_false_iff_eq.mpr c15; clear c15; have H' := Aside0.mk H; clear H; obtain ⟨Ao16, co16, eo16⟩ := Kd.R_slice HO189.out; subst eo16
   have p190 : 0 ≤ (0 : Int) := (by omega)
   have q190 : 0 < (t187.length : Int) := of_decide_eq_true y0_9; obtain ⟨ad190, e190, hx190_0⟩ := Kd.at_string (Kd.R_reads' HO189.out).2.2 0 p190 q190; cases e190
   have qi190 : (0 < t187.length) = True := eq_true (by omega)
   (try rw [show ((0 : Int)).toNat = 0 from rfl] at hx190_0)
   (try rw [Addr.add_zero'] at hx190_0)
   replace p190 := eq_true p190; replace q190 := eq_true q190
   go_wp2
   go_meet
   case rel => exact ⟨_, (decide ((t187.length : Int) > 31)), y0_10, H', ⟨y0_11⟩, ⟨by (with_reducible repeat (first | apply Kd.S_alloc | apply Kd.S_drewN | apply Kd.S_drew)); exact Kd.S_mono HO183.out (fun _ hk => hk.2)⟩, ⟨by (with_reducible repeat (first | apply Kd.S_alloc | apply Kd.S_drewN | apply Kd.S_drew)); exact Kd.S_mono HO186.out (fun _ hk => hk.2)⟩, ⟨by (with_reducible repeat (first | apply Kd.R_alloc | apply Kd.R_drewN | apply Kd.R_drew)); exact HO189.out⟩, ⟨bI HB.out⟩⟩
  rw [if_neg c15] at H
  have c15b0 : ((rdOf ByteArray.empty t187 0).toList == ([] : List UInt8)) = false := beq_eq_false_iff_ne.mpr c15; have c15b1 : ((rdOf ByteArray.empty t187 0).toList != ([] : List UInt8)) = true := bne_iff_ne.mpr c15; have H' := Aside0.mk H; clear H; obtain ⟨Ao17, co17, eo17⟩ := Kd.R_slice HO189.out; subst eo17
  have p190 : 0 ≤ (0 : Int) := (by omega)
  have q190 : 0 < (t187.length : Int) := of_decide_eq_true y0_9; obtain ⟨ad190, e190, hx190_0⟩ := Kd.at_string (Kd.R_reads' HO189.out).2.2 0 p190 q190; cases e190
  have qi190 : (0 < t187.length) = True := eq_true (by omega)
  (try rw [show ((0 : Int)).toNat = 0 from rfl] at hx190_0)
  (try rw [Addr.add_zero'] at hx190_0)
  replace p190 := eq_true p190; replace q190 := eq_true q190
  go_wp2
  go_meet
  case rel => exact ⟨_, (true), y0_10, H', ⟨y0_11⟩, ⟨by (with_reducible repeat (first | apply Kd.S_alloc | apply Kd.S_drewN | apply Kd.S_drew)); exact Kd.S_mono HO183.out (fun _ hk => hk.2)⟩, ⟨by (with_reducible repeat (first | apply Kd.S_alloc | apply Kd.S_drewN | apply Kd.S_drew)); exact Kd.S_mono HO186.out (fun _ hk => hk.2)⟩, ⟨by (with_reducible repeat (first | apply Kd.R_alloc | apply Kd.R_drewN | apply Kd.R_drew)); exact HO189.out⟩, ⟨bI HB.out⟩⟩
 case rest =>
  clear HC8
  try clear c1
  try clear p1
  try clear q1
  try clear hx1
  try clear qi1
  try clear c2
  try clear c2b0
  try clear c2b1
  try clear p2
  try clear c4
  try clear c5
  try clear c14
  try clear c14b0
  try clear c14b1
  try clear c15
  try clear c15b0
  try clear c15b1
  try clear hx190_0
  try clear p190
  try clear q190
  obtain ⟨kq, x31_7, rfl, HA, HJ7, HO_4, HO_5, HO_6, HB⟩ := hcut; cases kq with
  | zero => exact absurd HA.out (by simp [spec_Steps.j0])
  | succ kj7 =>
   have H := HA.out; clear HA
   simp only [spec_Steps.j0] at H
   by_cases c18 : x31_7 = true
   ·
    subst c18
    rw [if_pos rfl] at H
    simp only [Option.some.injEq, Prod.mk.injEq] at H
    obtain ⟨rfl, rfl⟩ := H
    go_wp2
    go_ret2
    exact ⟨_, y0_7, y0_2, bI HB.out⟩
   replace c18 := Bool.eq_false_iff.mpr c18; subst c18
   rw [if_neg (show ¬ (false = true) by decide)] at H
   have H' := Aside0.mk H; clear H
   go_wp2
   go_loopg [5, 7, 8] kj7 (fun kq v5 v7 v8 w' => ∃ (x5_2 : List (S68)) (x7_2 : Int) (x8_2 : Int), v7 = .int .i64 x7_2 ∧ v8 = .int .i64 x8_2 ∧ Aside0 (spec_Steps.l0 kq y181 x5_2 t187 x7_2 x8_2 = some (r1, r2)) ∧ Aside0 (kq ≤ kj7) ∧ Aside0 (Kd.S k68 68 w' w.heap.size (fun k_ => some k_ ≠ (v5 : Value).ownBlock) v182 y181) ∧ Aside0 (Kd.S k68 68 w' w.heap.size (fun k_ => some k_ ≠ (v182 : Value).ownBlock) v5 x5_2) ∧ Aside0 (Kd.R Kd.string 9 w' w.heap.size (fun _ => True) v188 t187) ∧ Aside0 (Below w.heap.size w w'))
   case atStart => exact ⟨(y184), (0), (1), y0_10, y0_10, H', ⟨Nat.le_refl _⟩, ⟨by (with_reducible repeat (first | apply Kd.S_alloc | apply Kd.S_drewN | apply Kd.S_drew)); exact HO_4.out⟩, ⟨by (with_reducible repeat (first | apply Kd.S_alloc | apply Kd.S_drewN | apply Kd.S_drew)); exact HO_5.out⟩, ⟨by (with_reducible repeat (first | apply Kd.R_alloc | apply Kd.R_drewN | apply Kd.R_drew)); exact HO_6.out⟩, ⟨bI HB.out⟩⟩
   case round =>
    clear H'
    try clear c1
    try clear p1
    try clear q1
    try clear hx1
    try clear qi1
    try clear c2
    try clear c2b0
    try clear c2b1
    try clear p2
    try clear c4
    try clear c5
    try clear c14
    try clear c14b0
    try clear c14b1
    try clear c15
    try clear c15b0
    try clear c15b1
    try clear c18
    try clear hx190_0
    try clear p1
    try clear p190
    try clear p2
    try clear q1
    try clear q190
    obtain ⟨x5_2, x7_2, x8_2, rfl, rfl, HA, HK2, HO_4, HO_5, HO_6, HB⟩ := hrel; cases gk with
    | zero => exact absurd HA.out (by simp [spec_Steps.l0])
    | succ k2 =>
     have H := HA.out; clear HA
     simp only [spec_Steps.l0] at H
     by_cases c19 : x8_2 < (t187.length : Int)
     ·
      rw [if_pos c19] at H
      have c19b0 : decide (x8_2 < (t187.length : Int)) = true := decide_eq_true c19; clear c19
      by_cases c20 : 0 ≤ x8_2
      rotate_left
      ·
       rw [if_neg c20] at H
       exact absurd H (by simp)
      rw [if_pos c20] at H
      have c20b0 : decide (0 ≤ x8_2) = true := decide_eq_true c20; clear c20; obtain ⟨⟨t192, t193, t194⟩, A210, H⟩ := Option.bind_eq_some_iff.mp H
      try dsimp only at H
      have A21 := Aside0.mk A210; clear A210; obtain ⟨⟨t195, t196⟩, A220, H⟩ := Option.bind_eq_some_iff.mp H
      try dsimp only at H
      have A22 := Aside0.mk A220; clear A220; obtain ⟨⟨t197, t198⟩, A230, H⟩ := Option.bind_eq_some_iff.mp H
      try dsimp only at H
      have A23 := Aside0.mk A230; clear A230
      by_cases c24 : t194 = true
      ·
       subst c24
       rw [if_pos rfl] at H
       by_cases c25 : t196 = true
       ·
        subst c25
        rw [if_pos rfl] at H
        by_cases c26 : t198 = true
        ·
         subst c26
         rw [if_pos rfl] at H
         by_cases c27 : t195 ≤ x7_2
         ·
          rw [if_pos c27] at H
          have c27b0 : decide (t195 ≤ x7_2) = true := decide_eq_true c27; clear c27
          simp only [Option.some.injEq, Prod.mk.injEq] at H
          obtain ⟨rfl, rfl⟩ := H; obtain ⟨Ao28, co28, eo28⟩ := Kd.R_slice HO_6.out; subst eo28; have p191 : 0 ≤ (x8_2 : Int) := of_decide_eq_true y0_9; have q191 : x8_2 < (t187.length : Int) := of_decide_eq_true y0_9; obtain ⟨ad191, e191, hx191_0⟩ := Kd.at_string (Kd.R_reads' HO_6.out).2.2 x8_2 p191 q191; cases e191; replace p191 := eq_true p191; replace q191 := eq_true q191
          go_wp2_with (first | ((with_reducible refine gate_callee (f := 52) rfl ?_); refine gB (some 44) Tryd.func52 #[.string (rdOf ByteArray.empty t187 x8_2), .int .u8 124] ?_; (with_reducible refine (spec_l2Cut.calls k2 (rdOf ByteArray.empty t187 x8_2) 124 t192 t193 true _ A21.out).mono ?_); rintro e w' ⟨rfl, ⟨nd, rfl⟩⟩; refine ⟨_, rfl, ?_⟩) | ((with_reducible refine gate_callee (f := 53) rfl ?_); refine gB (some 50) Tryd.func53 #[.string t192] ?_; (with_reducible refine (spec_Number.calls k2 t192 t195 true _ A22.out).mono ?_); rintro e w29 ⟨rfl, hb⟩; refine ⟨_, rfl, ?_⟩; replace HO_4 := sb HO_4 hb; replace HO_5 := sb HO_5 hb; replace HO_6 := rb HO_6 hb; replace HB := bs HB hb; (try clear hb); (try clear hb2); (try clear hk); (try clear hi)) | ((with_reducible refine gate_callee (f := 54) rfl ?_); refine gB (some 55) Tryd.func54 #[.string t193] ?_; (with_reducible refine (spec_TxsOf.calls k2 t193 t197 true _ A23.out).mono ?_); rintro e w30 ⟨v199, rfl, ho0, hb⟩; refine ⟨_, rfl, ?_⟩; replace HO_4 := Aside0.mk (Kd.S_elder' (sI HO_4.out) (Kd.R_base ho0) hb); replace HO_5 := Aside0.mk (Kd.S_elder' (sI HO_5.out) (Kd.R_base ho0) hb); replace HO_6 := rb HO_6 hb; have HO200 := Aside0.mk (Kd.R_lower ho0 (below_size (bI HB.out))); replace HB := bs HB hb; (try clear hb)))
          go_ret2
          exact ⟨_, y0_7, y0_2, bI HB.out⟩
         rw [if_neg c27] at H
         have c27b0 : decide (t195 ≤ x7_2) = false := decide_eq_false c27; clear c27
         by_cases c31 : t195 > 60
         ·
          rw [if_pos c31] at H
          have c31b0 : decide (60 < t195) = true := decide_eq_true c31; clear c31
          simp only [Option.some.injEq, Prod.mk.injEq] at H
          obtain ⟨rfl, rfl⟩ := H; obtain ⟨Ao32, co32, eo32⟩ := Kd.R_slice HO_6.out; subst eo32; have p191 : 0 ≤ (x8_2 : Int) := of_decide_eq_true y0_9; have q191 : x8_2 < (t187.length : Int) := of_decide_eq_true y0_9; obtain ⟨ad191, e191, hx191_0⟩ := Kd.at_string (Kd.R_reads' HO_6.out).2.2 x8_2 p191 q191; cases e191; replace p191 := eq_true p191; replace q191 := eq_true q191
          go_wp2_with (first | ((with_reducible refine gate_callee (f := 52) rfl ?_); refine gB (some 44) Tryd.func52 #[.string (rdOf ByteArray.empty t187 x8_2), .int .u8 124] ?_; (with_reducible refine (spec_l2Cut.calls k2 (rdOf ByteArray.empty t187 x8_2) 124 t192 t193 true _ A21.out).mono ?_); rintro e w' ⟨rfl, ⟨nd, rfl⟩⟩; refine ⟨_, rfl, ?_⟩) | ((with_reducible refine gate_callee (f := 53) rfl ?_); refine gB (some 50) Tryd.func53 #[.string t192] ?_; (with_reducible refine (spec_Number.calls k2 t192 t195 true _ A22.out).mono ?_); rintro e w33 ⟨rfl, hb⟩; refine ⟨_, rfl, ?_⟩; replace HO_4 := sb HO_4 hb; replace HO_5 := sb HO_5 hb; replace HO_6 := rb HO_6 hb; replace HB := bs HB hb; (try clear hb); (try clear hb2); (try clear hk); (try clear hi)) | ((with_reducible refine gate_callee (f := 54) rfl ?_); refine gB (some 55) Tryd.func54 #[.string t193] ?_; (with_reducible refine (spec_TxsOf.calls k2 t193 t197 true _ A23.out).mono ?_); rintro e w34 ⟨v199, rfl, ho0, hb⟩; refine ⟨_, rfl, ?_⟩; replace HO_4 := Aside0.mk (Kd.S_elder' (sI HO_4.out) (Kd.R_base ho0) hb); replace HO_5 := Aside0.mk (Kd.S_elder' (sI HO_5.out) (Kd.R_base ho0) hb); replace HO_6 := rb HO_6 hb; have HO200 := Aside0.mk (Kd.R_lower ho0 (below_size (bI HB.out))); replace HB := bs HB hb; (try clear hb)))
          go_ret2
          exact ⟨_, y0_7, y0_2, bI HB.out⟩
         rw [if_neg c31] at H
         have c31b0 : decide (60 < t195) = false := decide_eq_false c31; clear c31
         by_cases c35 : (t197.length : Int) > 2
         ·
          rw [if_pos c35] at H
          have c35b0 : decide (2 < (t197.length : Int)) = true := decide_eq_true c35
          have c35b1 : decide (2 < t197.length) = true := decide_eq_true (by omega)
          clear c35
          simp only [Option.some.injEq, Prod.mk.injEq] at H
          obtain ⟨rfl, rfl⟩ := H; obtain ⟨Ao36, co36, eo36⟩ := Kd.R_slice HO_6.out; subst eo36; have p191 : 0 ≤ (x8_2 : Int) := of_decide_eq_true y0_9; have q191 : x8_2 < (t187.length : Int) := of_decide_eq_true y0_9; obtain ⟨ad191, e191, hx191_0⟩ := Kd.at_string (Kd.R_reads' HO_6.out).2.2 x8_2 p191 q191; cases e191; replace p191 := eq_true p191; replace q191 := eq_true q191
          go_wp2_with (first | ((with_reducible refine gate_callee (f := 52) rfl ?_); refine gB (some 44) Tryd.func52 #[.string (rdOf ByteArray.empty t187 x8_2), .int .u8 124] ?_; (with_reducible refine (spec_l2Cut.calls k2 (rdOf ByteArray.empty t187 x8_2) 124 t192 t193 true _ A21.out).mono ?_); rintro e w' ⟨rfl, ⟨nd, rfl⟩⟩; refine ⟨_, rfl, ?_⟩) | ((with_reducible refine gate_callee (f := 53) rfl ?_); refine gB (some 50) Tryd.func53 #[.string t192] ?_; (with_reducible refine (spec_Number.calls k2 t192 t195 true _ A22.out).mono ?_); rintro e w37 ⟨rfl, hb⟩; refine ⟨_, rfl, ?_⟩; replace HO_4 := sb HO_4 hb; replace HO_5 := sb HO_5 hb; replace HO_6 := rb HO_6 hb; replace HB := bs HB hb; (try clear hb); (try clear hb2); (try clear hk); (try clear hi)) | ((with_reducible refine gate_callee (f := 54) rfl ?_); refine gB (some 55) Tryd.func54 #[.string t193] ?_; (with_reducible refine (spec_TxsOf.calls k2 t193 t197 true _ A23.out).mono ?_); rintro e w38 ⟨v199, rfl, ho0, hb⟩; refine ⟨_, rfl, ?_⟩; replace HO_4 := Aside0.mk (Kd.S_elder' (sI HO_4.out) (Kd.R_base ho0) hb); replace HO_5 := Aside0.mk (Kd.S_elder' (sI HO_5.out) (Kd.R_base ho0) hb); replace HO_6 := rb HO_6 hb; have HO200 := Aside0.mk (Kd.R_lower ho0 (below_size (bI HB.out))); replace HB := bs HB hb; (try clear hb); obtain ⟨Ao39, co39, eo39⟩ := Kd.R_slice HO200.out; subst eo39))
          go_ret2
          exact ⟨_, y0_7, y0_2, bI HB.out⟩
         rw [if_neg c35] at H
         have c35b0 : decide (2 < (t197.length : Int)) = false := decide_eq_false c35
         have c35b1 : decide (2 < t197.length) = false := decide_eq_false (by omega)
         clear c35
         by_cases c40 : x5_2.length < 4398046511104
         rotate_left
         ·
          rw [if_neg c40] at H
          exact absurd H (by simp)
         rw [if_pos c40] at H
         have LMc40 := Aside0.mk c40; clear c40; obtain ⟨y201, hy201⟩ : ∃ y_ : List (S68), y_ = (x5_2 ++ [(⟨t195, t197⟩ : S68)]) := ⟨_, rfl⟩
         replace H : (spec_Steps.l0 k2 y181 y201 t187 t195 (wrap64 (x8_2 + 1))) = some (r1, r2) := by first | (rw [hy201]; with_reducible exact H) | (have H2_ := (Option.bind_some _ _).symm.trans H; rw [hy201]; with_reducible exact H2_) | (have H2_ := (Option.bind_some _ _).symm.trans H; with_reducible exact H2_) | with_reducible exact H | (rw [hy201]; exact H) | exact H
         have Ny201 := Aside0.mk hy201; clear hy201; have H' := Aside0.mk H; clear H; obtain ⟨Ao41, co41, eo41⟩ := Kd.R_slice HO_6.out; subst eo41; have p191 : 0 ≤ (x8_2 : Int) := of_decide_eq_true y0_9; have q191 : x8_2 < (t187.length : Int) := of_decide_eq_true y0_9; obtain ⟨ad191, e191, hx191_0⟩ := Kd.at_string (Kd.R_reads' HO_6.out).2.2 x8_2 p191 q191; cases e191; replace p191 := eq_true p191; replace q191 := eq_true q191
         go_wp2_with (first | ((with_reducible refine gate_callee (f := 52) rfl ?_); refine gB (some 44) Tryd.func52 #[.string (rdOf ByteArray.empty t187 x8_2), .int .u8 124] ?_; (with_reducible refine (spec_l2Cut.calls k2 (rdOf ByteArray.empty t187 x8_2) 124 t192 t193 true _ A21.out).mono ?_); rintro e w' ⟨rfl, ⟨nd, rfl⟩⟩; refine ⟨_, rfl, ?_⟩) | ((with_reducible refine gate_callee (f := 53) rfl ?_); refine gB (some 50) Tryd.func53 #[.string t192] ?_; (with_reducible refine (spec_Number.calls k2 t192 t195 true _ A22.out).mono ?_); rintro e w42 ⟨rfl, hb⟩; refine ⟨_, rfl, ?_⟩; replace HO_4 := sb HO_4 hb; replace HO_5 := sb HO_5 hb; replace HO_6 := rb HO_6 hb; replace HB := bs HB hb; (try clear hb); (try clear hb2); (try clear hk); (try clear hi)) | ((with_reducible refine gate_callee (f := 54) rfl ?_); refine gB (some 55) Tryd.func54 #[.string t193] ?_; (with_reducible refine (spec_TxsOf.calls k2 t193 t197 true _ A23.out).mono ?_); rintro e w43 ⟨v199, rfl, ho0, hb⟩; refine ⟨_, rfl, ?_⟩; replace HO_4 := Aside0.mk (Kd.S_elder' (sI HO_4.out) (Kd.R_base ho0) hb); replace HO_5 := Aside0.mk (Kd.S_elder' (sI HO_5.out) (Kd.R_base ho0) hb); replace HO_6 := rb HO_6 hb; have HO200 := Aside0.mk (Kd.R_lower ho0 (below_size (bI HB.out))); replace HB := bs HB hb; (try clear hb); obtain ⟨Ao44, co44, eo44⟩ := Kd.R_slice HO200.out; subst eo44) | ((with_reducible refine gate_builtin (b := .append) (xs := #[.tmp 84, .tmp 88]) rfl ?_); (try (refine gate_guard (by rfl) ?_; dsimp only)); at_builtin; refine Kd.S_append k68 (w0 := w) w.heap.size rfl (.tmp 84) (.tmp 88) 62 68 (.agg #[(.int .i64 0), (.slice none 0 0)]) 32 rfl Tryd.underlying62 info68 rfl (by decide) (by omega) u5 x5_2 (⟨t195, t197⟩ : S68) [.int .i64 t195, .slice Ao44 t197.length co44] (fun k_ => some k_ ≠ (v182 : Value).ownBlock) (fun k_ => some k_ = (.slice Ao44 t197.length co44 : Value).ownBlock) rfl rfl ?aP (fun k_ hk_ => ((Kd.R_mono (ok' := fun k_ => ((fun k_ => some k_ ≠ (v182 : Value).ownBlock)) k_ ∧ some k_ ≠ (u5 : Value).ownBlock) (Kd.R_apart' (Kd.R_apart' (HO200.out) (Kd.S_typed HO_4.out) (by decide)) (Kd.S_typed HO_5.out) (by decide)) (fun k_ hk => ⟨hk.1.2, hk.2⟩))).1 k_ hk_.symm) ?aF ?aO ?aB ?aS ?aL ?_; (case aP => exact k68_mkM _ _ _ (⟨t195, t197⟩ : S68) (Kd.R_mono (Kd.R_tight rfl (Kd.R_mono (ok' := fun k_ => ((fun k_ => some k_ ≠ (v182 : Value).ownBlock)) k_ ∧ some k_ ≠ (u5 : Value).ownBlock) (Kd.R_apart' (Kd.R_apart' (HO200.out) (Kd.S_typed HO_4.out) (by decide)) (Kd.S_typed HO_5.out) (by decide)) (fun k_ hk => ⟨hk.1.2, hk.2⟩))) (fun _ h_ => h_))); (case aB => exact (bI HB.out)); (case aF => exact (fun k_ hk => Kd.fresh' (Kd.S_lt (sI HO_4.out)) k_ hk)); (case aO => exact (sI (Kd.S_mono HO_5.out (fun k_ hk => ⟨hk.1, fun e_ => hk.2 e_⟩)))); (case aS => exact (below_size (bI HB.out))); (case aL => have := LMc40.out; omega); intro v202 w45 ho hb hg hat; rw [← Ny201.out] at ho; have n0_ := Aside0.mk (Kd.S_after (ok := (fun k_ => some k_ ≠ (.slice Ao44 t197.length co44 : Value).ownBlock)) (sI (Kd.S_mono HO_4.out (fun _ hk => ⟨hk.2, hk.1⟩))) hg hat); have n1_ := Aside0.mk (Kd.R_over' (rI HO_6.out) (Kd.S_typed (sI HO_5.out)) (by decide) hg); have n2_ := Aside0.mk (hb); have n3_ := Aside0.mk (ho); clear HO_4; clear HO_6; clear HB; clear HO_5; clear HO200; have HO_4 := n0_; have HO_6 := n1_; have HB := n2_; have HO203 := n3_; clear n0_ n1_ n2_ n3_; clear ho hb hg hat))
         go_roundg k2
         case measure => have := HJ7.out; have := HK2.out; omega
         case rel => exact ⟨(y201), (t195), (wrap64 (x8_2 + 1)), y0_10, y0_10, H', ⟨by have := HJ7.out; have := HK2.out; omega⟩, ⟨by (with_reducible repeat (first | apply Kd.S_alloc | apply Kd.S_drewN | apply Kd.S_drew)); exact Kd.S_mono HO_4.out (fun _ hk => hk.2)⟩, ⟨by (with_reducible repeat (first | apply Kd.S_alloc | apply Kd.S_drewN | apply Kd.S_drew)); exact HO203.out⟩, ⟨by (with_reducible repeat (first | apply Kd.R_alloc | apply Kd.R_drewN | apply Kd.R_drew)); exact HO_6.out⟩, ⟨bI HB.out⟩⟩
        replace c26 := Bool.eq_false_iff.mpr c26; subst c26
        rw [if_neg (show ¬ (false = true) by decide)] at H
        simp only [Option.some.injEq, Prod.mk.injEq] at H
        obtain ⟨rfl, rfl⟩ := H; obtain ⟨Ao46, co46, eo46⟩ := Kd.R_slice HO_6.out; subst eo46; have p191 : 0 ≤ (x8_2 : Int) := of_decide_eq_true y0_9; have q191 : x8_2 < (t187.length : Int) := of_decide_eq_true y0_9; obtain ⟨ad191, e191, hx191_0⟩ := Kd.at_string (Kd.R_reads' HO_6.out).2.2 x8_2 p191 q191; cases e191; replace p191 := eq_true p191; replace q191 := eq_true q191
        go_wp2_with (first | ((with_reducible refine gate_callee (f := 52) rfl ?_); refine gB (some 44) Tryd.func52 #[.string (rdOf ByteArray.empty t187 x8_2), .int .u8 124] ?_; (with_reducible refine (spec_l2Cut.calls k2 (rdOf ByteArray.empty t187 x8_2) 124 t192 t193 true _ A21.out).mono ?_); rintro e w' ⟨rfl, ⟨nd, rfl⟩⟩; refine ⟨_, rfl, ?_⟩) | ((with_reducible refine gate_callee (f := 53) rfl ?_); refine gB (some 50) Tryd.func53 #[.string t192] ?_; (with_reducible refine (spec_Number.calls k2 t192 t195 true _ A22.out).mono ?_); rintro e w47 ⟨rfl, hb⟩; refine ⟨_, rfl, ?_⟩; replace HO_4 := sb HO_4 hb; replace HO_5 := sb HO_5 hb; replace HO_6 := rb HO_6 hb; replace HB := bs HB hb; (try clear hb); (try clear hb2); (try clear hk); (try clear hi)) | ((with_reducible refine gate_callee (f := 54) rfl ?_); refine gB (some 55) Tryd.func54 #[.string t193] ?_; (with_reducible refine (spec_TxsOf.calls k2 t193 t197 false _ A23.out).mono ?_); rintro e w48 ⟨v199, rfl, ho0, hb⟩; refine ⟨_, rfl, ?_⟩; replace HO_4 := Aside0.mk (Kd.S_elder' (sI HO_4.out) (Kd.R_base ho0) hb); replace HO_5 := Aside0.mk (Kd.S_elder' (sI HO_5.out) (Kd.R_base ho0) hb); replace HO_6 := rb HO_6 hb; have HO200 := Aside0.mk (Kd.R_lower ho0 (below_size (bI HB.out))); replace HB := bs HB hb; (try clear hb)))
        go_ret2
        exact ⟨_, y0_7, y0_2, bI HB.out⟩
       replace c25 := Bool.eq_false_iff.mpr c25; subst c25
       rw [if_neg (show ¬ (false = true) by decide)] at H
       simp only [Option.some.injEq, Prod.mk.injEq] at H
       obtain ⟨rfl, rfl⟩ := H; obtain ⟨Ao49, co49, eo49⟩ := Kd.R_slice HO_6.out; subst eo49; have p191 : 0 ≤ (x8_2 : Int) := of_decide_eq_true y0_9; have q191 : x8_2 < (t187.length : Int) := of_decide_eq_true y0_9; obtain ⟨ad191, e191, hx191_0⟩ := Kd.at_string (Kd.R_reads' HO_6.out).2.2 x8_2 p191 q191; cases e191; replace p191 := eq_true p191; replace q191 := eq_true q191
       go_wp2_with (first | ((with_reducible refine gate_callee (f := 52) rfl ?_); refine gB (some 44) Tryd.func52 #[.string (rdOf ByteArray.empty t187 x8_2), .int .u8 124] ?_; (with_reducible refine (spec_l2Cut.calls k2 (rdOf ByteArray.empty t187 x8_2) 124 t192 t193 true _ A21.out).mono ?_); rintro e w' ⟨rfl, ⟨nd, rfl⟩⟩; refine ⟨_, rfl, ?_⟩) | ((with_reducible refine gate_callee (f := 53) rfl ?_); refine gB (some 50) Tryd.func53 #[.string t192] ?_; (with_reducible refine (spec_Number.calls k2 t192 t195 false _ A22.out).mono ?_); rintro e w50 ⟨rfl, hb⟩; refine ⟨_, rfl, ?_⟩; replace HO_4 := sb HO_4 hb; replace HO_5 := sb HO_5 hb; replace HO_6 := rb HO_6 hb; replace HB := bs HB hb; (try clear hb); (try clear hb2); (try clear hk); (try clear hi)) | ((with_reducible refine gate_callee (f := 54) rfl ?_); refine gB (some 55) Tryd.func54 #[.string t193] ?_; (with_reducible refine (spec_TxsOf.calls k2 t193 t197 t198 _ A23.out).mono ?_); rintro e w51 ⟨v199, rfl, ho0, hb⟩; refine ⟨_, rfl, ?_⟩; replace HO_4 := Aside0.mk (Kd.S_elder' (sI HO_4.out) (Kd.R_base ho0) hb); replace HO_5 := Aside0.mk (Kd.S_elder' (sI HO_5.out) (Kd.R_base ho0) hb); replace HO_6 := rb HO_6 hb; have HO200 := Aside0.mk (Kd.R_lower ho0 (below_size (bI HB.out))); replace HB := bs HB hb; (try clear hb)))
       go_ret2
       exact ⟨_, y0_7, y0_2, bI HB.out⟩
      replace c24 := Bool.eq_false_iff.mpr c24; subst c24
      rw [if_neg (show ¬ (false = true) by decide)] at H
      simp only [Option.some.injEq, Prod.mk.injEq] at H
      obtain ⟨rfl, rfl⟩ := H; obtain ⟨Ao52, co52, eo52⟩ := Kd.R_slice HO_6.out; subst eo52; have p191 : 0 ≤ (x8_2 : Int) := of_decide_eq_true y0_9; have q191 : x8_2 < (t187.length : Int) := of_decide_eq_true y0_9; obtain ⟨ad191, e191, hx191_0⟩ := Kd.at_string (Kd.R_reads' HO_6.out).2.2 x8_2 p191 q191; cases e191; replace p191 := eq_true p191; replace q191 := eq_true q191
      go_wp2_with (first | ((with_reducible refine gate_callee (f := 52) rfl ?_); refine gB (some 44) Tryd.func52 #[.string (rdOf ByteArray.empty t187 x8_2), .int .u8 124] ?_; (with_reducible refine (spec_l2Cut.calls k2 (rdOf ByteArray.empty t187 x8_2) 124 t192 t193 false _ A21.out).mono ?_); rintro e w' ⟨rfl, ⟨nd, rfl⟩⟩; refine ⟨_, rfl, ?_⟩) | ((with_reducible refine gate_callee (f := 53) rfl ?_); refine gB (some 50) Tryd.func53 #[.string t192] ?_; (with_reducible refine (spec_Number.calls k2 t192 t195 t196 _ A22.out).mono ?_); rintro e w53 ⟨rfl, hb⟩; refine ⟨_, rfl, ?_⟩; replace HO_4 := sb HO_4 hb; replace HO_5 := sb HO_5 hb; replace HO_6 := rb HO_6 hb; replace HB := bs HB hb; (try clear hb); (try clear hb2); (try clear hk); (try clear hi)) | ((with_reducible refine gate_callee (f := 54) rfl ?_); refine gB (some 55) Tryd.func54 #[.string t193] ?_; (with_reducible refine (spec_TxsOf.calls k2 t193 t197 t198 _ A23.out).mono ?_); rintro e w54 ⟨v199, rfl, ho0, hb⟩; refine ⟨_, rfl, ?_⟩; replace HO_4 := Aside0.mk (Kd.S_elder' (sI HO_4.out) (Kd.R_base ho0) hb); replace HO_5 := Aside0.mk (Kd.S_elder' (sI HO_5.out) (Kd.R_base ho0) hb); replace HO_6 := rb HO_6 hb; have HO200 := Aside0.mk (Kd.R_lower ho0 (below_size (bI HB.out))); replace HB := bs HB hb; (try clear hb)))
      go_ret2
      exact ⟨_, y0_7, y0_2, bI HB.out⟩
     rw [if_neg c19] at H
     have c19b0 : decide (x8_2 < (t187.length : Int)) = false := decide_eq_false c19; clear c19
     simp only [Option.some.injEq, Prod.mk.injEq] at H
     obtain ⟨rfl, rfl⟩ := H; obtain ⟨Ao55, co55, eo55⟩ := Kd.R_slice HO_6.out; subst eo55
     go_wp2
     go_ret2
     exact ⟨_, y0_7, by (with_reducible repeat (first | apply Kd.S_alloc | apply Kd.S_drewN | apply Kd.S_drew)); exact Kd.S_mono HO_5.out (fun _ hk => trivial), bI HB.out⟩

/-! ### spec_NameOk: function 36 -/
def spec_NameOk.f (k : Nat) (a0 : ByteArray) : Option (Bool) := (spec_Steps.f k a0).bind fun bt204 => (some bt204.2)
theorem spec_NameOk.mono : ∀ a0 k, LeO (spec_NameOk.f k a0) (spec_NameOk.f (k + 1) a0) := by
 intro a0 k
 unfold spec_NameOk.f
 repeat' first | (with_reducible exact spec_Steps.mono _ _) | (with_reducible exact LeO.refl _) | (with_reducible exact LeO.none _) | (with_reducible refine LeO.ite ?_ ?_) | (with_reducible refine LeO.bind ?_ (fun _ => ?_))
set_option maxHeartbeats 8000000 in
set_option maxRecDepth 100000 in
theorem spec_NameOk.calls (k : Nat) (a0 : ByteArray) (r : Bool) (w : World) (h : spec_NameOk.f k a0 = some r) :
  Calls Tryd.prog 36 #[.string a0] w fun e w' => e = .returned (.bool r) ∧ Below w.heap.size w w' := by
 have HB := Aside0.mk (Below.refl w.heap.size w)
 have H : ((spec_Steps.f k a0).bind fun bt204 => (some bt204.2)) = some r := h
 clear h; obtain ⟨⟨t204, t205⟩, A20, H⟩ := Option.bind_eq_some_iff.mp H
 try dsimp only at H
 have A2 := Aside0.mk A20; clear A20; obtain rfl := Option.some.inj H
 go_enter Tryd.func36, Tryd.ntmps36
 go_wp2_with (first | ((with_reducible refine gate_callee (f := 43) rfl ?_); refine gB (some 7) Tryd.func43 #[.string a0] ?_; (with_reducible refine (spec_Steps.calls k a0 t204 t205 _ A2.out).mono ?_); rintro e w3 ⟨v206, rfl, ho0, hb⟩; refine ⟨_, rfl, ?_⟩; have HO207 := Aside0.mk (Kd.S_lower ho0 (below_size (bI HB.out))); replace HB := bs HB hb; (try clear hb); (try clear ho0)))
 go_ret
 exact ⟨y0_7, bI HB.out⟩

/-! ### spec_ConfOk: function 39 -/
def spec_ConfOk.f (a0_0 : Int) (a0_1 : Int) : Option (Bool) := (spec_l1In.f a0_0 4 7).bind fun t209 => (if t209 = true then ((spec_l1In.f a0_1 1 6).bind fun t210 => (some t210)) else (some false))
set_option maxHeartbeats 8000000 in
set_option maxRecDepth 100000 in
theorem spec_ConfOk.calls (a0_0 : Int) (a0_1 : Int) (r : Bool) (w : World) (h : spec_ConfOk.f a0_0 a0_1 = some r) :
  Calls Tryd.prog 39 #[.agg #[.int .i64 a0_0, .int .i64 a0_1]] w fun e w' => e = .returned (.bool r) ∧ Below w.heap.size w w' := by
 have hu32 := Tryd.underlying32; have HB := Aside0.mk (Below.refl w.heap.size w)
 have H : ((spec_l1In.f a0_0 4 7).bind fun t209 => (if t209 = true then ((spec_l1In.f a0_1 1 6).bind fun t210 => (some t210)) else (some false))) = some r := h
 clear h; obtain ⟨t209, A20, H⟩ := Option.bind_eq_some_iff.mp H
 try dsimp only at H
 have A2 := Aside0.mk A20; clear A20
 by_cases c3 : t209 = true
 ·
  subst c3
  rw [if_pos rfl] at H
  obtain ⟨t210, A40, H⟩ := Option.bind_eq_some_iff.mp H
  try dsimp only at H
  have A4 := Aside0.mk A40; clear A40; obtain rfl := Option.some.inj H
  go_enter Tryd.func39, Tryd.ntmps39
  go_wp2_with (first | ((with_reducible refine gd 1 ?_); refine bA 1 #[.int .i64 a0_0, .int .i64 a0_1] 32 ?_; intro gb208 hg w5 hbox hb; have BK208 := Aside0.mk (hbox); have GW208 := bg hg HB; have GJ208 := gi GW208; have GE208 := GW208; replace HB := bs HB hb; clear hb hbox hg; obtain ⟨hcz6_0, hcz6_1, hfz6_0, hfz6_1⟩ := cs2 BK208) | ((with_reducible refine gate_callee (f := 26) rfl ?_); refine gB (some 5) Tryd.func26 #[.int .i64 a0_0, .int .i64 4, .int .i64 7] ?_; (with_reducible refine (spec_l1In.calls a0_0 4 7 true _ A2.out).mono ?_); rintro e w' ⟨rfl, ⟨nd, rfl⟩⟩; refine ⟨_, rfl, ?_⟩) | (go_at_call 26; (with_reducible refine (spec_l1In.calls a0_1 1 6 t210 _ A4.out).mono ?_); rintro e w' ⟨rfl, ⟨nd, rfl⟩⟩))
  go_ret
  exact ⟨y0_7, bI HB.out⟩
 replace c3 := Bool.eq_false_iff.mpr c3; subst c3
 rw [if_neg (show ¬ (false = true) by decide)] at H
 obtain rfl := Option.some.inj H
 go_enter Tryd.func39, Tryd.ntmps39
 go_wp2_with (first | ((with_reducible refine gd 1 ?_); refine bA 1 #[.int .i64 a0_0, .int .i64 a0_1] 32 ?_; intro gb208 hg w7 hbox hb; have BK208 := Aside0.mk (hbox); have GW208 := bg hg HB; have GJ208 := gi GW208; have GE208 := GW208; replace HB := bs HB hb; clear hb hbox hg; obtain ⟨hcz8_0, hcz8_1, hfz8_0, hfz8_1⟩ := cs2 BK208) | ((with_reducible refine gate_callee (f := 26) rfl ?_); refine gB (some 5) Tryd.func26 #[.int .i64 a0_0, .int .i64 4, .int .i64 7] ?_; (with_reducible refine (spec_l1In.calls a0_0 4 7 false _ A2.out).mono ?_); rintro e w' ⟨rfl, ⟨nd, rfl⟩⟩; refine ⟨_, rfl, ?_⟩))
 go_ret
 exact ⟨y0_7, bI HB.out⟩

/-! ### spec_ViewOf: function 40 -/
def spec_ViewOf.f (k : Nat) (a0 : ByteArray) : Option (Int) := (spec_Steps.f k a0).bind fun bt211 => (if bt211.2 = true then (if (bt211.1.length : Int) = 0 then (some 0) else (if 0 ≤ (wrap64 ((bt211.1.length : Int) - 1)) then (if (wrap64 ((bt211.1.length : Int) - 1)) < (bt211.1.length : Int) then (some ((rd_T68 bt211.1 (wrap64 ((bt211.1.length : Int) - 1))).f0)) else (none)) else (none))) else (some 0))
theorem spec_ViewOf.mono : ∀ a0 k, LeO (spec_ViewOf.f k a0) (spec_ViewOf.f (k + 1) a0) := by
 intro a0 k
 unfold spec_ViewOf.f
 repeat' first | (with_reducible exact spec_Steps.mono _ _) | (with_reducible exact LeO.refl _) | (with_reducible exact LeO.none _) | (with_reducible refine LeO.ite ?_ ?_) | (with_reducible refine LeO.bind ?_ (fun _ => ?_))
set_option maxHeartbeats 8000000 in
set_option maxRecDepth 100000 in
theorem spec_ViewOf.calls (k : Nat) (a0 : ByteArray) (r : Int) (w : World) (h : spec_ViewOf.f k a0 = some r) :
  Calls Tryd.prog 40 #[.string a0] w fun e w' => e = .returned (.int .i64 r) ∧ Below w.heap.size w w' := by
 have HB := Aside0.mk (Below.refl w.heap.size w)
 have H : ((spec_Steps.f k a0).bind fun bt211 => (if bt211.2 = true then (if (bt211.1.length : Int) = 0 then (some 0) else (if 0 ≤ (wrap64 ((bt211.1.length : Int) - 1)) then (if (wrap64 ((bt211.1.length : Int) - 1)) < (bt211.1.length : Int) then (some ((rd_T68 bt211.1 (wrap64 ((bt211.1.length : Int) - 1))).f0)) else (none)) else (none))) else (some 0))) = some r := h
 clear h; obtain ⟨⟨t211, t212⟩, A20, H⟩ := Option.bind_eq_some_iff.mp H
 try dsimp only at H
 have A2 := Aside0.mk A20; clear A20
 by_cases c3 : t212 = true
 ·
  subst c3
  rw [if_pos rfl] at H
  by_cases c4 : (t211.length : Int) = 0
  ·
   rw [if_pos c4] at H
   have c4b0 : ((t211.length : Int) == 0) = true := beq_iff_eq.mpr c4; have c4b1 : ((t211.length : Int) != 0) = false := bne_eq_false_iff_eq.mpr c4; clear c4; obtain rfl := Option.some.inj H
   go_enter Tryd.func40, Tryd.ntmps40
   go_wp2_with (first | ((with_reducible refine gate_callee (f := 43) rfl ?_); refine gB (some 7) Tryd.func43 #[.string a0] ?_; (with_reducible refine (spec_Steps.calls k a0 t211 true _ A2.out).mono ?_); rintro e w5 ⟨v213, rfl, ho0, hb⟩; refine ⟨_, rfl, ?_⟩; have HO214 := Aside0.mk (Kd.S_lower ho0 (below_size (bI HB.out))); replace HB := bs HB hb; (try clear hb); (try clear ho0); obtain ⟨Ao6, co6, eo6⟩ := Kd.S_slice HO214.out; subst eo6))
   go_ret
   exact ⟨y0_7, bI HB.out⟩
  rw [if_neg c4] at H
  have c4b0 : ((t211.length : Int) == 0) = false := beq_eq_false_iff_ne.mpr c4; have c4b1 : ((t211.length : Int) != 0) = true := bne_iff_ne.mpr c4
  have c4b2 : ¬ (t211 = []) := fun h_ => c4 (by rw [h_]; rfl)
  obtain ⟨ji7, hji7⟩ : ∃ j_ : Int, (wrap64 ((t211.length : Int) - 1)) = j_ := ⟨_, rfl⟩
  replace H : (if 0 ≤ (ji7) then (if (ji7) < (t211.length : Int) then (some ((rd_T68 t211 (ji7)).f0)) else (none)) else (none)) = some r := by first | (rw [hji7] at H; exact H) | (simp only [hji7] at H ⊢; exact H)
  (try rw [hji7] at A2)
  have hji7w : (IntKind.i64.wrap ((t211.length : Int) - 1)) = ji7 := (i64_w _).trans hji7
  by_cases c8 : 0 ≤ (ji7)
  rotate_left
  ·
   rw [if_neg c8] at H
   exact absurd H (by simp)
  rw [if_pos c8] at H
  have c8b0 : decide (0 ≤ (ji7)) = true := decide_eq_true c8; clear c8
  by_cases c9 : (ji7) < (t211.length : Int)
  rotate_left
  ·
   rw [if_neg c9] at H
   exact absurd H (by simp)
  rw [if_pos c9] at H
  have c9b0 : decide ((ji7) < (t211.length : Int)) = true := decide_eq_true c9; clear c9; obtain rfl := Option.some.inj H
  go_enter Tryd.func40, Tryd.ntmps40
  go_wp2_with (first | ((with_reducible refine gate_callee (f := 43) rfl ?_); refine gB (some 7) Tryd.func43 #[.string a0] ?_; (with_reducible refine (spec_Steps.calls k a0 t211 true _ A2.out).mono ?_); rintro e w10 ⟨v213, rfl, ho0, hb⟩; refine ⟨_, rfl, ?_⟩; have HO214 := Aside0.mk (Kd.S_lower ho0 (below_size (bI HB.out))); replace HB := bs HB hb; (try clear hb); (try clear ho0); obtain ⟨Ao11, co11, eo11⟩ := Kd.S_slice HO214.out; subst eo11; have p215 : 0 ≤ ((ji7) : Int) := of_decide_eq_true y0_9; have q215 : (ji7) < (t211.length : Int) := of_decide_eq_true y0_9; obtain ⟨ad215, A215_1, c215_1, e215, hx215_0, hx215_1, hl215_1, hi215_1⟩ := at_T68 (Kd.S_reads' HO214.out).2.2 (ji7) p215 q215; cases e215; obtain ⟨ce215, hce215, hMe215, hcc215⟩ := Kd.S_get HO214.out z68 (ji7) p215 (by first | exact q215 | exact of_decide_eq_true y0_9 | (have e_ := (Kd.S_reads' HO214.out).1; omega)); obtain ⟨ve215_1, rfl, ge215_1⟩ := k68_openM hMe215; have hv215_1 := hcc215 1 _ rfl; rw [add_field _ _ 1 (by omega)] at hv215_1; replace hv215_1 := Option.some.inj (hv215_1.symm.trans hx215_1); rw [hv215_1] at ge215_1; have HL215_1 := Aside0.mk (show Kd.R k80 80 _ _ _ _ ((rd_T68 t211 (ji7)).f1) from ge215_1); clear hv215_1 ge215_1; clear hcc215 hce215; have HR215_1 := Aside0.mk hi215_1; have HC215_1 := Aside0.mk hl215_1; clear hi215_1 hl215_1; replace p215 := eq_true p215; replace q215 := eq_true q215))
  go_ret
  exact ⟨by first | rfl | (simp [errW_none, errW_some] <;> rfl) | (simp only [← hji7]; first | rfl | (simp [errW_none, errW_some] <;> rfl)) | (simp [*, errW_none, errW_some] <;> rfl), bI HB.out⟩
 replace c3 := Bool.eq_false_iff.mpr c3; subst c3
 rw [if_neg (show ¬ (false = true) by decide)] at H
 obtain rfl := Option.some.inj H
 go_enter Tryd.func40, Tryd.ntmps40
 go_wp2_with (first | ((with_reducible refine gate_callee (f := 43) rfl ?_); refine gB (some 7) Tryd.func43 #[.string a0] ?_; (with_reducible refine (spec_Steps.calls k a0 t211 false _ A2.out).mono ?_); rintro e w12 ⟨v213, rfl, ho0, hb⟩; refine ⟨_, rfl, ?_⟩; have HO214 := Aside0.mk (Kd.S_lower ho0 (below_size (bI HB.out))); replace HB := bs HB hb; (try clear hb); (try clear ho0)))
 go_ret
 exact ⟨y0_7, bI HB.out⟩

end Go.Proofs.YtemjmefacifdeaaDoor.PFnExactNoteBytes
