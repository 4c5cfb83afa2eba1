-- By a program of this session, out of the translation (the print of the kit, with turns of its own). Lean checks it.
import Derived.Test.YtemjmefacifdeaaPFnDropsBelowx0
import Derived.Test.YtemjmefacifdeaaPFnDropsBelowx2
import Derived.Test.YtemjmefacifdeaaPFnDropsBelowx3
namespace Go.Proofs.Ytemjmefacifdeaa.PFnDropsBelow
open Go.RowKit Go.Proofs.YtemjmefacifdeaaW.PrintWords Go.Proofs.YtemjmefacifdeaaW.PrintLast Go.Proofs.YtemjmefacifdeaaW.PrintMore
attribute [local go_sem] max2_int min2_int max_two min_two max_three min_three max_four min_four   -- for this text's walks alone
set_option linter.unusedVariables false
set_option linter.unusedSimpArgs false

/-! ### spec_TxsOf: function 85 -/
def spec_TxsOf.l0 : Nat → List (S87) → List ByteArray → Int → Option ((List (S87)) × Bool)
 | 0, _, _, _ => none
 | k + 1, x4, x5, x6 => if x6 < (x5.length : Int) then (if 0 ≤ x6 then ((spec_TxOf.f k (rdOf ByteArray.empty x5 x6)).bind fun bt241 => (if bt241.2.2.2.2 = true then (if x4.length < 4398046511104 then (spec_TxsOf.l0 k (x4 ++ [(⟨bt241.1, bt241.2.1, bt241.2.2.1, bt241.2.2.2.1⟩ : S87)]) x5 (wrap64 (x6 + 1))) else (none)) else (some ((([] : List (S87))), false)))) else (none)) else (some (x4, true))
def spec_TxsOf.f (k : Nat) (a0 : ByteArray) : Option ((List (S87)) × Bool) := (some (([] : List (S87)) : List (S87))).bind fun y234 => (if a0.toList = ([] : List UInt8) then (some (y234, true)) else ((spec_Split.f k a0 44).bind fun t237 => (spec_TxsOf.l0 k y234 t237 0)))
theorem spec_TxsOf.mono_l : ∀ k, (∀ y0 y1 y2, LeO (spec_TxsOf.l0 k y0 y1 y2) (spec_TxsOf.l0 (k + 1) y0 y1 y2))
 | 0 => fun _ _ _ r h => by simp [spec_TxsOf.l0] at h
 | k + 1 => by
  have ih0 := spec_TxsOf.mono_l k
  intro y0 y1 y2
  unfold spec_TxsOf.l0
  repeat' first | (with_reducible exact ih0 _ _ _) | (with_reducible exact spec_Split.mono _ _ _) | (with_reducible exact spec_TxOf.mono _ _) | (with_reducible exact LeO.refl _) | (with_reducible exact LeO.none _) | (with_reducible refine LeO.ite ?_ ?_) | (with_reducible refine LeO.bind ?_ (fun _ => ?_))
theorem spec_TxsOf.mono : ∀ a0 k, LeO (spec_TxsOf.f k a0) (spec_TxsOf.f (k + 1) a0) := by
 intro a0 k
 have ih0 := spec_TxsOf.mono_l k
 unfold spec_TxsOf.f
 repeat' first | (with_reducible exact ih0 _ _ _) | (with_reducible exact spec_Split.mono _ _ _) | (with_reducible exact spec_TxOf.mono _ _) | (with_reducible exact LeO.refl _) | (with_reducible exact LeO.none _) | (with_reducible refine LeO.ite ?_ ?_) | (with_reducible refine LeO.bind ?_ (fun _ => ?_))
set_option maxHeartbeats 8000000 in
set_option maxRecDepth 100000 in
theorem spec_TxsOf.calls (k : Nat) (a0 : ByteArray) (r1 : List (S87)) (r2 : Bool) (w : World) (h : spec_TxsOf.f k a0 = some (r1, r2)) :
  Calls Try.prog 85 #[.string a0] w fun e w' => ∃ v0_ : Value, e = .returned (.tuple #[v0_, .bool r2]) ∧ Kd.R k87 87 w' w.heap.size (fun _ => True) v0_ r1 ∧ Below w.heap.size w w' := by
 have hu87 := Try.underlying87; have HB := Aside0.mk (Below.refl w.heap.size w)
 have H : ((some (([] : List (S87)) : List (S87))).bind fun y234 => (if a0.toList = ([] : List UInt8) then (some (y234, true)) else ((spec_Split.f k a0 44).bind fun t237 => (spec_TxsOf.l0 k y234 t237 0)))) = some (r1, r2) := h
 clear h; obtain ⟨y234, hy234⟩ : ∃ y_ : List (S87), y_ = (([] : List (S87))) := ⟨_, rfl⟩
 replace H : (if a0.toList = ([] : List UInt8) then (some (y234, true)) else ((spec_Split.f k a0 44).bind fun t237 => (spec_TxsOf.l0 k y234 t237 0))) = some (r1, r2) := by first | (rw [hy234]; with_reducible exact H) | (have H2_ := (Option.bind_some _ _).symm.trans H; rw [hy234]; with_reducible exact H2_) | (have H2_ := (Option.bind_some _ _).symm.trans H; with_reducible exact H2_) | with_reducible exact H | (rw [hy234]; exact H) | exact H
 have Ny234 := Aside0.mk hy234; clear hy234
 by_cases c2 : a0.toList = ([] : List UInt8)
 ·
  rw [if_pos c2] at H
  have c2b0 : (a0.toList == ([] : List UInt8)) = true := beq_iff_eq.mpr c2; have c2b1 : (a0.toList != ([] : List UInt8)) = false := bne_eq_false_iff_eq.mpr c2; clear c2
  simp only [Option.some.injEq, Prod.mk.injEq] at H
  obtain ⟨rfl, rfl⟩ := H
  go_enter Try.func85, Try.ntmps85
  go_wp2_with (first | ((with_reducible refine gate_dst (N := 9) rfl ?_); refine Kd.R_lit k87 _ 87 ?hg (N := 9) ?hd (xs := ([] : List (S87))) (inner := []) (ok := fun _ => True) (okp := fun _ => True) ?hr ?hp (fun _ hk => hk) trivial (Below.refl _ _) (Nat.le_refl _) (by simp) ?_; (case hd => rfl); (case hg => rfl); (case hr => first | (go_simp; done) | (go_simp; rfl)); (case hp => exact (Reps.none _ _)); intro v235 w3 ho4 hb hg_ hnew_; clear hg_ hnew_; (first | rw [← Ny234.out] at ho4 | (simp only [Int.reduceToNat] at ho4; rw [← Ny234.out] at ho4)); have HO236 := Aside0.mk (Kd.R_lower ho4 (below_size (bI HB.out))); replace HB := bs HB hb; clear hb ho4))
  go_ret2
  exact ⟨_, y0_16, by (with_reducible repeat (first | apply Kd.R_alloc | apply Kd.R_drewN | apply Kd.R_drew)); exact HO236.out, bI HB.out⟩
 rw [if_neg c2] at H
 have c2b0 : (a0.toList == ([] : List UInt8)) = false := beq_eq_false_iff_ne.mpr c2; have c2b1 : (a0.toList != ([] : List UInt8)) = true := bne_iff_ne.mpr c2; obtain ⟨t237, A50, H⟩ := Option.bind_eq_some_iff.mp H
 try dsimp only at H
 have A5 := Aside0.mk A50; clear A50; have H' := Aside0.mk H; clear H
 go_enter Try.func85, Try.ntmps85
 go_wp2_with (first | ((with_reducible refine gate_dst (N := 9) rfl ?_); refine Kd.R_lit k87 _ 87 ?hg (N := 9) ?hd (xs := ([] : List (S87))) (inner := []) (ok := fun _ => True) (okp := fun _ => True) ?hr ?hp (fun _ hk => hk) trivial (Below.refl _ _) (Nat.le_refl _) (by simp) ?_; (case hd => rfl); (case hg => rfl); (case hr => first | (go_simp; done) | (go_simp; rfl)); (case hp => exact (Reps.none _ _)); intro v235 w6 ho7 hb hg_ hnew_; clear hg_ hnew_; (first | rw [← Ny234.out] at ho7 | (simp only [Int.reduceToNat] at ho7; rw [← Ny234.out] at ho7)); have HO236 := Aside0.mk (Kd.R_lower ho7 (below_size (bI HB.out))); replace HB := bs HB hb; clear hb ho7) | ((with_reducible refine gate_callee (f := 82) rfl ?_); refine gB (some 14) Try.func82 #[.string a0, .int .u8 44] ?_; (with_reducible refine (spec_Split.calls k a0 44 t237 _ A5.out).mono ?_); rintro e w8 ⟨v238, rfl, ho0, hb⟩; refine ⟨_, rfl, ?_⟩; replace HO236 := rb HO236 hb; have HO239 := Aside0.mk (Kd.R_lower ho0 (below_size (bI HB.out))); replace HB := bs HB hb; (try clear hb); (try clear ho0)))
 go_loopg [4, 6] k (fun kq v4 v6 w' => ∃ (x4_1 : List (S87)) (x6_1 : Int), v6 = .int .i64 x6_1 ∧ Aside0 (spec_TxsOf.l0 kq x4_1 t237 x6_1 = some (r1, r2)) ∧ Aside0 (kq ≤ k) ∧ Aside0 (Kd.R k87 87 w' w.heap.size (fun _ => True) v4 x4_1) ∧ Aside0 (Kd.R Kd.string 9 w' w.heap.size (fun _ => True) v238 t237) ∧ Aside0 (Below w.heap.size w w'))
 case atStart => exact ⟨(y234), (0), y0_21, H', ⟨Nat.le_refl _⟩, ⟨by (with_reducible repeat (first | apply Kd.R_alloc | apply Kd.R_drewN | apply Kd.R_drew)); exact HO236.out⟩, ⟨by (with_reducible repeat (first | apply Kd.R_alloc | apply Kd.R_drewN | apply Kd.R_drew)); exact HO239.out⟩, ⟨bI HB.out⟩⟩
 case round =>
  clear H'
  try clear c2
  try clear c2b0
  try clear c2b1
  try clear p2
  try clear c8
  obtain ⟨x4_1, x6_1, rfl, HA, HK1, HO_4, HO_5, HB⟩ := hrel; cases gk with
  | zero => exact absurd HA.out (by simp [spec_TxsOf.l0])
  | succ k1 =>
   have H := HA.out; clear HA
   simp only [spec_TxsOf.l0] at H
   by_cases c9 : x6_1 < (t237.length : Int)
   ·
    rw [if_pos c9] at H
    have c9b0 : decide (x6_1 < (t237.length : Int)) = true := decide_eq_true c9; clear c9
    by_cases c10 : 0 ≤ x6_1
    rotate_left
    ·
     rw [if_neg c10] at H
     exact absurd H (by simp)
    rw [if_pos c10] at H
    have c10b0 : decide (0 ≤ x6_1) = true := decide_eq_true c10; clear c10; obtain ⟨⟨t241, t242, t243, t244, t245⟩, A110, H⟩ := Option.bind_eq_some_iff.mp H
    try dsimp only at H
    have A11 := Aside0.mk A110; clear A110
    by_cases c12 : t245 = true
    ·
     subst c12
     rw [if_pos rfl] at H
     by_cases c13 : x4_1.length < 4398046511104
     rotate_left
     ·
      rw [if_neg c13] at H
      exact absurd H (by simp)
     rw [if_pos c13] at H
     have LMc13 := Aside0.mk c13; clear c13; obtain ⟨y247, hy247⟩ : ∃ y_ : List (S87), y_ = (x4_1 ++ [(⟨t241, t242, t243, t244⟩ : S87)]) := ⟨_, rfl⟩
     replace H : (spec_TxsOf.l0 k1 y247 t237 (wrap64 (x6_1 + 1))) = some (r1, r2) := by first | (rw [hy247]; with_reducible exact H) | (have H2_ := (Option.bind_some _ _).symm.trans H; rw [hy247]; with_reducible exact H2_) | (have H2_ := (Option.bind_some _ _).symm.trans H; with_reducible exact H2_) | with_reducible exact H | (rw [hy247]; exact H) | exact H
     have Ny247 := Aside0.mk hy247; clear hy247; have H' := Aside0.mk H; clear H; obtain ⟨Ao14, co14, eo14⟩ := Kd.R_slice HO_5.out; subst eo14; have p240 : 0 ≤ (x6_1 : Int) := of_decide_eq_true y0_20; have q240 : x6_1 < (t237.length : Int) := of_decide_eq_true y0_20; obtain ⟨ad240, e240, hx240_0⟩ := Kd.at_string (Kd.R_reads' HO_5.out).2.2 x6_1 p240 q240; cases e240; replace p240 := eq_true p240; replace q240 := eq_true q240
     go_wp2_with (first | ((with_reducible refine gate_callee (f := 88) rfl ?_); refine gB (some 26) Try.func88 #[.string (rdOf ByteArray.empty t237 x6_1)] ?_; (with_reducible refine (spec_TxOf.calls k1 (rdOf ByteArray.empty t237 x6_1) t241 t242 t243 t244 true _ A11.out).mono ?_); rintro e w15 ⟨rfl, hb⟩; refine ⟨_, rfl, ?_⟩; replace HO_4 := rb HO_4 hb; replace HO_5 := rb HO_5 hb; replace HB := bs HB hb; (try clear hb); (try clear hb2); (try clear hk); (try clear hi)) | ((with_reducible refine gd 7 ?_); refine bA 7 #[.int .i64 0, .int .i64 0, .int .i64 0, .int .i64 0] 87 ?_; intro gb246 hg w16 hbox hb; replace HO_4 := Aside0.mk (Kd.R_below (Kd.R_elderB (rI HO_4.out) gb246 (Nat.le_of_eq hg.symm)) hb); replace HO_5 := rb HO_5 hb; have BK246 := Aside0.mk (hbox); have GW246 := bg hg HB; have GJ246 := gi GW246; have GE246 := GW246; replace HB := bs HB hb; clear hb hbox hg; obtain ⟨hcz17_0, hcz17_1, hcz17_2, hcz17_3, hfz17_0, hfz17_1, hfz17_2, hfz17_3⟩ := cs4 BK246) | ((with_reducible refine gate_builtin (b := .append) (xs := #[.tmp 32, .tmp 34]) rfl ?_); at_builtin; refine Kd.R_append k87 (w0 := w) w.heap.size rfl (.tmp 32) (.tmp 34) 85 87 (.agg #[(.int .i64 0), (.int .i64 0), (.int .i64 0), (.int .i64 0)]) 32 rfl Try.underlying85 info87 rfl (by decide) (by omega) u4 x4_1 (⟨t241, t242, t243, t244⟩ : S87) [.int .i64 t241, .int .i64 t242, .int .i64 t243, .int .i64 t244] (fun k_ => k_ ≠ gb246) (fun _ => False) rfl (by first | (go_simp; done) | (go_simp; rfl)) ?aP (fun _ hk => hk.elim) ?aF ?aO ?aB ?aS ?aL ?_; (case aP => exact k87_mkM _ _ _ (⟨t241, t242, t243, t244⟩ : S87)); (case aB => exact (bI HB.out)); (case aF => exact (fun k_ hk => Kd.freshB (g := gb246) (o := .cells #[.int .i64 t241, .int .i64 t242, .int .i64 t243, .int .i64 t244] 87 (0, 0)) (pI BK246) k_ hk)); (case aO => exact (rI (Kd.R_mono (Kd.R_far (p := ⟨gb246, 3, none⟩) (Kd.R_far (p := ⟨gb246, 2, none⟩) (Kd.R_far (p := ⟨gb246, 1, none⟩) (Kd.R_far (p := ⟨gb246, 0, none⟩) (Kd.R_mono HO_4.out (fun k_ hk => (⟨hk, hk.2⟩ : _ ∧ k_ ≠ gb246))) (fun _ hk => hk.2) (.int .i64 t241)) (fun _ hk => hk.2) (.int .i64 t242)) (fun _ hk => hk.2) (.int .i64 t243)) (fun _ hk => hk.2) (.int .i64 t244)) (fun _ hk => hk.1.2)))); (case aS => exact (below_size (bI HB.out))); (case aL => have := LMc13.out; omega); intro v248 w18 ho hb hg hat; rw [← Ny247.out] at ho; have n0_ := Aside0.mk (Kd.R_over' (rI (Kd.R_mono (Kd.R_far (p := ⟨gb246, 3, none⟩) (Kd.R_far (p := ⟨gb246, 2, none⟩) (Kd.R_far (p := ⟨gb246, 1, none⟩) (Kd.R_far (p := ⟨gb246, 0, none⟩) (Kd.R_types HO_5.out BK246.out (by decide)) (fun _ hk => hk.2) (.int .i64 t241)) (fun _ hk => hk.2) (.int .i64 t242)) (fun _ hk => hk.2) (.int .i64 t243)) (fun _ hk => hk.2) (.int .i64 t244)) (fun _ h_ => h_.1))) (Kd.R_typed (rI (Kd.R_mono (Kd.R_far (p := ⟨gb246, 3, none⟩) (Kd.R_far (p := ⟨gb246, 2, none⟩) (Kd.R_far (p := ⟨gb246, 1, none⟩) (Kd.R_far (p := ⟨gb246, 0, none⟩) (Kd.R_mono HO_4.out (fun k_ hk => (⟨hk, hk.2⟩ : _ ∧ k_ ≠ gb246))) (fun _ hk => hk.2) (.int .i64 t241)) (fun _ hk => hk.2) (.int .i64 t242)) (fun _ hk => hk.2) (.int .i64 t243)) (fun _ hk => hk.2) (.int .i64 t244)) (fun _ h_ => h_.1)))) (by decide) hg); have n1_ := Aside0.mk (blk_grown (g := gb246) (o := .cells #[.int .i64 t241, .int .i64 t242, .int .i64 t243, .int .i64 t244] 87 (0, 0)) (pI BK246) hg (Kd.R_away HO_4.out (fun _ hk => hk.2))); have n2_ := Aside0.mk (hb); have n3_ := Aside0.mk (ho); clear HO_5; clear BK246; clear HB; clear HO_4; have HO_5 := n0_; have BK246 := n1_; have HB := n2_; have HO249 := n3_; clear n0_ n1_ n2_ n3_; clear ho hb hg hat))
     go_roundg k1
     case measure => have := HK1.out; omega
     case rel => exact ⟨(y247), (wrap64 (x6_1 + 1)), y0_21, H', ⟨y0_25⟩, ⟨by (with_reducible repeat (first | apply Kd.R_alloc | apply Kd.R_drewN | apply Kd.R_drew)); exact Kd.R_mono HO249.out (fun _ hk => trivial)⟩, ⟨y0_13⟩, ⟨bI HB.out⟩⟩
    replace c12 := Bool.eq_false_iff.mpr c12; subst c12
    rw [if_neg (show ¬ (false = true) by decide)] at H
    obtain ⟨y250, hy250⟩ : ∃ y_ : List (S87), y_ = (([] : List (S87))) := ⟨_, rfl⟩
    replace H : (some (y250, false)) = some (r1, r2) := by first | (rw [hy250]; with_reducible exact H) | (have H2_ := (Option.bind_some _ _).symm.trans H; rw [hy250]; with_reducible exact H2_) | (have H2_ := (Option.bind_some _ _).symm.trans H; with_reducible exact H2_) | with_reducible exact H | (rw [hy250]; exact H) | exact H
    have Ny250 := Aside0.mk hy250; clear hy250
    simp only [Option.some.injEq, Prod.mk.injEq] at H
    obtain ⟨rfl, rfl⟩ := H; obtain ⟨Ao19, co19, eo19⟩ := Kd.R_slice HO_5.out; subst eo19; have p240 : 0 ≤ (x6_1 : Int) := of_decide_eq_true y0_20; have q240 : x6_1 < (t237.length : Int) := of_decide_eq_true y0_20; obtain ⟨ad240, e240, hx240_0⟩ := Kd.at_string (Kd.R_reads' HO_5.out).2.2 x6_1 p240 q240; cases e240; replace p240 := eq_true p240; replace q240 := eq_true q240
    go_wp2_with (first | ((with_reducible refine gate_callee (f := 88) rfl ?_); refine gB (some 26) Try.func88 #[.string (rdOf ByteArray.empty t237 x6_1)] ?_; (with_reducible refine (spec_TxOf.calls k1 (rdOf ByteArray.empty t237 x6_1) t241 t242 t243 t244 false _ A11.out).mono ?_); rintro e w20 ⟨rfl, hb⟩; refine ⟨_, rfl, ?_⟩; replace HO_4 := rb HO_4 hb; replace HO_5 := rb HO_5 hb; replace HB := bs HB hb; (try clear hb); (try clear hb2); (try clear hk); (try clear hi)) | ((with_reducible refine gd 7 ?_); refine bA 7 #[.int .i64 0, .int .i64 0, .int .i64 0, .int .i64 0] 87 ?_; intro gb246 hg w21 hbox hb; replace HO_4 := Aside0.mk (Kd.R_below (Kd.R_elderB (rI HO_4.out) gb246 (Nat.le_of_eq hg.symm)) hb); replace HO_5 := rb HO_5 hb; have BK246 := Aside0.mk (hbox); have GW246 := bg hg HB; have GJ246 := gi GW246; have GE246 := GW246; replace HB := bs HB hb; clear hb hbox hg; obtain ⟨hcz22_0, hcz22_1, hcz22_2, hcz22_3, hfz22_0, hfz22_1, hfz22_2, hfz22_3⟩ := cs4 BK246) | ((with_reducible refine gate_dst (N := 31) rfl ?_); refine Kd.R_lit k87 _ 87 ?hg (N := 31) ?hd (xs := ([] : List (S87))) (inner := []) (ok := fun _ => True) (okp := fun _ => True) ?hr ?hp (fun _ hk => hk) trivial (Below.refl _ _) (Nat.le_refl _) (by simp) ?_; (case hd => rfl); (case hg => rfl); (case hr => first | (go_simp; done) | (go_simp; rfl)); (case hp => exact (Reps.none _ _)); intro v251 w23 ho24 hb hg_ hnew_; clear hg_ hnew_; (first | rw [← Ny250.out] at ho24 | (simp only [Int.reduceToNat] at ho24; rw [← Ny250.out] at ho24)); replace HO_5 := Aside0.mk (Kd.R_below (rI (Kd.R_mono (Kd.R_far (p := ⟨gb246, 3, none⟩) (Kd.R_far (p := ⟨gb246, 2, none⟩) (Kd.R_far (p := ⟨gb246, 1, none⟩) (Kd.R_far (p := ⟨gb246, 0, none⟩) (Kd.R_types HO_5.out BK246.out (by decide)) (fun _ hk => hk.2) (.int .i64 t241)) (fun _ hk => hk.2) (.int .i64 t242)) (fun _ hk => hk.2) (.int .i64 t243)) (fun _ hk => hk.2) (.int .i64 t244)) (fun _ h_ => h_.1))) hb); have HO252 := Aside0.mk (Kd.R_lower (Kd.R_newB (Kd.R_new' ho24 (Kd.R_lt (rI (Kd.R_mono (Kd.R_far (p := ⟨gb246, 3, none⟩) (Kd.R_far (p := ⟨gb246, 2, none⟩) (Kd.R_far (p := ⟨gb246, 1, none⟩) (Kd.R_far (p := ⟨gb246, 0, none⟩) (Kd.R_mono HO_4.out (fun k_ hk => (⟨hk, hk.2⟩ : _ ∧ k_ ≠ gb246))) (fun _ hk => hk.2) (.int .i64 t241)) (fun _ hk => hk.2) (.int .i64 t242)) (fun _ hk => hk.2) (.int .i64 t243)) (fun _ hk => hk.2) (.int .i64 t244)) (fun _ h_ => h_.1))))) (g := gb246) (o := .cells #[.int .i64 t241, .int .i64 t242, .int .i64 t243, .int .i64 t244] 87 (0, 0)) (pI BK246)) (below_size (bI HB.out))); replace HO_4 := Aside0.mk (Kd.R_elder' (rI (Kd.R_mono (Kd.R_far (p := ⟨gb246, 3, none⟩) (Kd.R_far (p := ⟨gb246, 2, none⟩) (Kd.R_far (p := ⟨gb246, 1, none⟩) (Kd.R_far (p := ⟨gb246, 0, none⟩) (Kd.R_mono HO_4.out (fun k_ hk => (⟨hk, hk.2⟩ : _ ∧ k_ ≠ gb246))) (fun _ hk => hk.2) (.int .i64 t241)) (fun _ hk => hk.2) (.int .i64 t242)) (fun _ hk => hk.2) (.int .i64 t243)) (fun _ hk => hk.2) (.int .i64 t244)) (fun _ h_ => h_.1))) (Kd.R_base ho24) hb); replace BK246 := bp BK246 hb #[.int .i64 t241, .int .i64 t242, .int .i64 t243, .int .i64 t244]; replace HB := bs HB hb; clear hb ho24))
    go_ret2
    exact ⟨_, y0_16, by (with_reducible repeat (first | apply Kd.R_alloc | apply Kd.R_drewN | apply Kd.R_drew)); exact Kd.R_mono HO252.out (fun _ hk => trivial), bI HB.out⟩
   rw [if_neg c9] at H
   have c9b0 : decide (x6_1 < (t237.length : Int)) = false := decide_eq_false c9; clear c9
   simp only [Option.some.injEq, Prod.mk.injEq] at H
   obtain ⟨rfl, rfl⟩ := H; obtain ⟨Ao25, co25, eo25⟩ := Kd.R_slice HO_5.out; subst eo25
   go_wp2
   go_ret2
   exact ⟨_, y0_16, by (with_reducible repeat (first | apply Kd.R_alloc | apply Kd.R_drewN | apply Kd.R_drew)); exact HO_4.out, bI HB.out⟩

/-! ### spec_Steps: function 77 -/
mutual
def spec_Steps.j0 : Nat → List (S94) → List (S94) → List ByteArray → Bool → Option ((List (S94)) × Bool)
 | 0, _, _, _, _ => none
 | k + 1, x4, x5, x6, x31 => if x31 = true then (some (x4, false)) else (spec_Steps.l0 k x4 x5 x6 0 1)
def spec_Steps.l0 : Nat → List (S94) → List (S94) → List ByteArray → Int → Int → Option ((List (S94)) × Bool)
 | 0, _, _, _, _, _ => none
 | k + 1, x4, x5, x6, x7, x8 => if x8 < (x6.length : Int) then (if 0 ≤ x8 then ((spec_l2Cut.f k (rdOf ByteArray.empty x6 x8) 124).bind fun bt264 => ((spec_Number.f k bt264.1).bind fun bt267 => ((spec_TxsOf.f k bt264.2.1).bind fun bt269 => (if bt264.2.2 = true then (if bt267.2 = true then (if bt269.2 = true then (if bt267.1 ≤ x7 then (some (x4, false)) else (if bt267.1 > 60 then (some (x4, false)) else (if (bt269.1.length : Int) > 2 then (some (x4, false)) else (if x5.length < 4398046511104 then (spec_Steps.l0 k x4 (x5 ++ [(⟨bt267.1, bt269.1⟩ : S94)]) x6 bt267.1 (wrap64 (x8 + 1))) else (none))))) else (some (x4, false))) else (some (x4, false))) else (some (x4, false)))))) else (none)) else (some (x5, true))
end
def spec_Steps.f (k : Nat) (a0 : ByteArray) : Option ((List (S94)) × Bool) := (some (([] : List (S94)) : List (S94))).bind fun y253 => ((some (([] : List (S94)) : List (S94))).bind fun y256 => (if a0.toList = ([] : List UInt8) then (some (y256, true)) else ((spec_Split.f k a0 47).bind fun t259 => (if 0 < (t259.length : Int) then (if (rdOf ByteArray.empty t259 0).toList = ([] : List UInt8) then (spec_Steps.j0 k y253 y256 t259 (decide ((t259.length : Int) > 31))) else (spec_Steps.j0 k y253 y256 t259 true)) else (none)))))
theorem spec_Steps.mono_l : ∀ k, (∀ y0 y1 y2 y3, LeO (spec_Steps.j0 k y0 y1 y2 y3) (spec_Steps.j0 (k + 1) y0 y1 y2 y3)) ∧ (∀ y0 y1 y2 y3 y4, LeO (spec_Steps.l0 k y0 y1 y2 y3 y4) (spec_Steps.l0 (k + 1) y0 y1 y2 y3 y4))
 | 0 => ⟨fun _ _ _ _ r h => by simp [spec_Steps.j0] at h, fun _ _ _ _ _ r h => by simp [spec_Steps.l0] at h⟩
 | k + 1 => by
  obtain ⟨ih0, ih1⟩ := spec_Steps.mono_l k
  refine ⟨?_, ?_⟩
  ·
   intro y0 y1 y2 y3
   unfold spec_Steps.j0
   repeat' first | (with_reducible exact ih0 _ _ _ _) | (with_reducible exact ih1 _ _ _ _ _) | (with_reducible exact spec_Number.mono _ _) | (with_reducible exact spec_Split.mono _ _ _) | (with_reducible exact spec_TxsOf.mono _ _) | (with_reducible exact spec_l2Cut.mono _ _ _) | (with_reducible exact LeO.refl _) | (with_reducible exact LeO.none _) | (with_reducible refine LeO.ite ?_ ?_) | (with_reducible refine LeO.bind ?_ (fun _ => ?_))
  intro y0 y1 y2 y3 y4
  unfold spec_Steps.l0
  repeat' first | (with_reducible exact ih0 _ _ _ _) | (with_reducible exact ih1 _ _ _ _ _) | (with_reducible exact spec_Number.mono _ _) | (with_reducible exact spec_Split.mono _ _ _) | (with_reducible exact spec_TxsOf.mono _ _) | (with_reducible exact spec_l2Cut.mono _ _ _) | (with_reducible exact LeO.refl _) | (with_reducible exact LeO.none _) | (with_reducible refine LeO.ite ?_ ?_) | (with_reducible refine LeO.bind ?_ (fun _ => ?_))
theorem spec_Steps.mono : ∀ a0 k, LeO (spec_Steps.f k a0) (spec_Steps.f (k + 1) a0) := by
 intro a0 k
 obtain ⟨ih0, ih1⟩ := spec_Steps.mono_l k
 unfold spec_Steps.f
 repeat' first | (with_reducible exact ih0 _ _ _ _) | (with_reducible exact ih1 _ _ _ _ _) | (with_reducible exact spec_Number.mono _ _) | (with_reducible exact spec_Split.mono _ _ _) | (with_reducible exact spec_TxsOf.mono _ _) | (with_reducible exact spec_l2Cut.mono _ _ _) | (with_reducible exact LeO.refl _) | (with_reducible exact LeO.none _) | (with_reducible refine LeO.ite ?_ ?_) | (with_reducible refine LeO.bind ?_ (fun _ => ?_))
set_option maxHeartbeats 8000000 in
set_option maxRecDepth 100000 in
theorem spec_Steps.calls (k : Nat) (a0 : ByteArray) (r1 : List (S94)) (r2 : Bool) (w : World) (h : spec_Steps.f k a0 = some (r1, r2)) :
  Calls Try.prog 77 #[.string a0] w fun e w' => ∃ v0_ : Value, e = .returned (.tuple #[v0_, .bool r2]) ∧ Kd.S k94 94 w' w.heap.size (fun _ => True) v0_ r1 ∧ Below w.heap.size w w' := by
 have hu94 := Try.underlying94; have HB := Aside0.mk (Below.refl w.heap.size w)
 have H : ((some (([] : List (S94)) : List (S94))).bind fun y253 => ((some (([] : List (S94)) : List (S94))).bind fun y256 => (if a0.toList = ([] : List UInt8) then (some (y256, true)) else ((spec_Split.f k a0 47).bind fun t259 => (if 0 < (t259.length : Int) then (if (rdOf ByteArray.empty t259 0).toList = ([] : List UInt8) then (spec_Steps.j0 k y253 y256 t259 (decide ((t259.length : Int) > 31))) else (spec_Steps.j0 k y253 y256 t259 true)) else (none)))))) = some (r1, r2) := h
 clear h; obtain ⟨y253, hy253⟩ : ∃ y_ : List (S94), y_ = (([] : List (S94))) := ⟨_, rfl⟩
 replace H : ((some (([] : List (S94)) : List (S94))).bind fun y256 => (if a0.toList = ([] : List UInt8) then (some (y256, true)) else ((spec_Split.f k a0 47).bind fun t259 => (if 0 < (t259.length : Int) then (if (rdOf ByteArray.empty t259 0).toList = ([] : List UInt8) then (spec_Steps.j0 k y253 y256 t259 (decide ((t259.length : Int) > 31))) else (spec_Steps.j0 k y253 y256 t259 true)) else (none))))) = some (r1, r2) := by first | (rw [hy253]; with_reducible exact H) | (have H2_ := (Option.bind_some _ _).symm.trans H; rw [hy253]; with_reducible exact H2_) | (have H2_ := (Option.bind_some _ _).symm.trans H; with_reducible exact H2_) | with_reducible exact H | (rw [hy253]; exact H) | exact H
 have Ny253 := Aside0.mk hy253; clear hy253; obtain ⟨y256, hy256⟩ : ∃ y_ : List (S94), y_ = (([] : List (S94))) := ⟨_, rfl⟩
 replace H : (if a0.toList = ([] : List UInt8) then (some (y256, true)) else ((spec_Split.f k a0 47).bind fun t259 => (if 0 < (t259.length : Int) then (if (rdOf ByteArray.empty t259 0).toList = ([] : List UInt8) then (spec_Steps.j0 k y253 y256 t259 (decide ((t259.length : Int) > 31))) else (spec_Steps.j0 k y253 y256 t259 true)) else (none)))) = some (r1, r2) := by first | (rw [hy256]; with_reducible exact H) | (have H2_ := (Option.bind_some _ _).symm.trans H; rw [hy256]; with_reducible exact H2_) | (have H2_ := (Option.bind_some _ _).symm.trans H; with_reducible exact H2_) | with_reducible exact H | (rw [hy256]; exact H) | exact H
 have Ny256 := Aside0.mk hy256; clear hy256
 by_cases c2 : a0.toList = ([] : List UInt8)
 ·
  rw [if_pos c2] at H
  have c2b0 : (a0.toList == ([] : List UInt8)) = true := beq_iff_eq.mpr c2; have c2b1 : (a0.toList != ([] : List UInt8)) = false := bne_eq_false_iff_eq.mpr c2; clear c2
  simp only [Option.some.injEq, Prod.mk.injEq] at H
  obtain ⟨rfl, rfl⟩ := H
  go_enter Try.func77, Try.ntmps77
  go_wp2_with (first | ((with_reducible refine gate_dst (N := 16) rfl ?_); (try (refine gate_guard (by rfl) ?_; dsimp only)); refine Kd.S_lit k94 _ 94 ?hg (N := 16) ?hd (xs := ([] : List (S94))) (inner := []) (ok := fun _ => True) (okp := fun _ => True) ?hr ?hp (fun _ hk => hk) trivial (Below.refl _ _) (Nat.le_refl _) (by simp) ?_; (case hd => rfl); (case hg => rfl); (case hr => first | (go_simp; done) | (go_simp; rfl)); (case hp => exact (Reps.none _ _)); intro v254 w3 ho4 hb hg_ hnew_; clear hg_ hnew_; (first | rw [← Ny253.out] at ho4 | (simp only [Int.reduceToNat] at ho4; rw [← Ny253.out] at ho4)); have HO255 := Aside0.mk (Kd.S_lower ho4 (below_size (bI HB.out))); replace HB := bs HB hb; clear hb ho4) | ((with_reducible refine gate_dst (N := 17) rfl ?_); (try (refine gate_guard (by rfl) ?_; dsimp only)); refine Kd.S_lit k94 _ 94 ?hg (N := 17) ?hd (xs := ([] : List (S94))) (inner := []) (ok := fun _ => True) (okp := fun _ => True) ?hr ?hp (fun _ hk => hk) trivial (Below.refl _ _) (Nat.le_refl _) (by simp) ?_; (case hd => rfl); (case hg => rfl); (case hr => first | (go_simp; done) | (go_simp; rfl)); (case hp => exact (Reps.none _ _)); intro v257 w5 ho6 hb hg_ hnew_; clear hg_ hnew_; (first | rw [← Ny256.out] at ho6 | (simp only [Int.reduceToNat] at ho6; rw [← Ny256.out] at ho6)); have HO258 := Aside0.mk (Kd.S_lower (Kd.S_new' ho6 (Kd.S_lt (sI HO255.out))) (below_size (bI HB.out))); replace HO255 := Aside0.mk (Kd.S_elder' (sI HO255.out) (Kd.S_base ho6) hb); replace HB := bs HB hb; clear hb ho6))
  go_ret2
  exact ⟨_, y0_16, by (with_reducible repeat (first | apply Kd.S_alloc | apply Kd.S_drewN | apply Kd.S_drew)); exact Kd.S_mono HO258.out (fun _ hk => trivial), bI HB.out⟩
 rw [if_neg c2] at H
 have c2b0 : (a0.toList == ([] : List UInt8)) = false := beq_eq_false_iff_ne.mpr c2; have c2b1 : (a0.toList != ([] : List UInt8)) = true := bne_iff_ne.mpr c2; obtain ⟨t259, A70, H⟩ := Option.bind_eq_some_iff.mp H
 try dsimp only at H
 have A7 := Aside0.mk A70; clear A70; have HC8 := Aside0.mk H; clear H
 go_enter Try.func77, Try.ntmps77
 go_upto_region 6 with (first | ((with_reducible refine gate_dst (N := 16) rfl ?_); (try (refine gate_guard (by rfl) ?_; dsimp only)); refine Kd.S_lit k94 _ 94 ?hg (N := 16) ?hd (xs := ([] : List (S94))) (inner := []) (ok := fun _ => True) (okp := fun _ => True) ?hr ?hp (fun _ hk => hk) trivial (Below.refl _ _) (Nat.le_refl _) (by simp) ?_; (case hd => rfl); (case hg => rfl); (case hr => first | (go_simp; done) | (go_simp; rfl)); (case hp => exact (Reps.none _ _)); intro v254 w9 ho10 hb hg_ hnew_; clear hg_ hnew_; (first | rw [← Ny253.out] at ho10 | (simp only [Int.reduceToNat] at ho10; rw [← Ny253.out] at ho10)); have HO255 := Aside0.mk (Kd.S_lower ho10 (below_size (bI HB.out))); replace HB := bs HB hb; clear hb ho10) | ((with_reducible refine gate_dst (N := 17) rfl ?_); (try (refine gate_guard (by rfl) ?_; dsimp only)); refine Kd.S_lit k94 _ 94 ?hg (N := 17) ?hd (xs := ([] : List (S94))) (inner := []) (ok := fun _ => True) (okp := fun _ => True) ?hr ?hp (fun _ hk => hk) trivial (Below.refl _ _) (Nat.le_refl _) (by simp) ?_; (case hd => rfl); (case hg => rfl); (case hr => first | (go_simp; done) | (go_simp; rfl)); (case hp => exact (Reps.none _ _)); intro v257 w11 ho12 hb hg_ hnew_; clear hg_ hnew_; (first | rw [← Ny256.out] at ho12 | (simp only [Int.reduceToNat] at ho12; rw [← Ny256.out] at ho12)); have HO258 := Aside0.mk (Kd.S_lower (Kd.S_new' ho12 (Kd.S_lt (sI HO255.out))) (below_size (bI HB.out))); replace HO255 := Aside0.mk (Kd.S_elder' (sI HO255.out) (Kd.S_base ho12) hb); replace HB := bs HB hb; clear hb ho12) | ((with_reducible refine gate_callee (f := 82) rfl ?_); refine gB (some 22) Try.func82 #[.string a0, .int .u8 47] ?_; (with_reducible refine (spec_Split.calls k a0 47 t259 _ A7.out).mono ?_); rintro e w13 ⟨v260, rfl, ho0, hb⟩; refine ⟨_, rfl, ?_⟩; replace HO255 := sb HO255 hb; replace HO258 := sb HO258 hb; have HO261 := Aside0.mk (Kd.R_lower ho0 (below_size (bI HB.out))); replace HB := bs HB hb; (try clear hb); (try clear ho0)))
 (try simp only [Act.put, List.setIfInBounds_toArray, List.set_cons_zero, List.set_cons_succ])
 go_cut [31] (fun v31 wc => ∃ (kq : Nat) (x31_7 : Bool), v31 = .bool x31_7 ∧ Aside0 (spec_Steps.j0 kq y253 y256 t259 x31_7 = some (r1, r2)) ∧ Aside0 (kq ≤ k) ∧ Aside0 (Kd.S k94 94 wc w.heap.size (fun k_ => some k_ ≠ (v257 : Value).ownBlock) v254 y253) ∧ Aside0 (Kd.S k94 94 wc w.heap.size (fun k_ => some k_ ≠ (v254 : Value).ownBlock) v257 y256) ∧ Aside0 (Kd.R Kd.string 9 wc w.heap.size (fun _ => True) v260 t259) ∧ Aside0 (Below w.heap.size w wc))
 case first =>
  have H := HC8.out; clear HC8
  by_cases c14 : 0 < (t259.length : Int)
  rotate_left
  ·
   rw [if_neg c14] at H
   exact absurd H (by simp)
  rw [if_pos c14] at H
  have c14b0 : decide (0 < (t259.length : Int)) = true := decide_eq_true c14
  have c14b1 : decide (0 < t259.length) = true := decide_eq_true (by omega)
  clear c14
  (first | rw [c14b0] | (simp only [i64_w, i32_w]; rw [c14b0]) | skip)
  by_cases c15 : (rdOf ByteArray.empty t259 0).toList = ([] : List UInt8)
  ·
   rw [if_pos c15] at H
   have c15b0 : ((rdOf ByteArray.empty t259 0).toList == ([] : List UInt8)) = true := beq_iff_eq.mpr c15; have c15b1 : ((rdOf ByteArray.empty t259 0).toList != ([] : List UInt8)) = false := bne_eq_false_iff_eq.mpr c15; clear c15; have H' := Aside0.mk H; clear H; obtain ⟨Ao16, co16, eo16⟩ := Kd.R_slice HO261.out; subst eo16
   have p262 : 0 ≤ (0 : Int) := (by omega)
   have q262 : 0 < (t259.length : Int) := of_decide_eq_true y0_20; obtain ⟨ad262, e262, hx262_0⟩ := Kd.at_string (Kd.R_reads' HO261.out).2.2 0 p262 q262; cases e262
   have qi262 : (0 < t259.length) = True := eq_true (by omega)
   (try rw [show ((0 : Int)).toNat = 0 from rfl] at hx262_0)
   (try rw [Addr.add_zero'] at hx262_0)
   replace p262 := eq_true p262; replace q262 := eq_true q262
   go_wp2
   go_meet
   case rel => exact ⟨_, (decide ((t259.length : Int) > 31)), y0_21, H', ⟨y0_22⟩, ⟨by (with_reducible repeat (first | apply Kd.S_alloc | apply Kd.S_drewN | apply Kd.S_drew)); exact Kd.S_mono HO255.out (fun _ hk => hk.2)⟩, ⟨by (with_reducible repeat (first | apply Kd.S_alloc | apply Kd.S_drewN | apply Kd.S_drew)); exact Kd.S_mono HO258.out (fun _ hk => hk.2)⟩, ⟨by (with_reducible repeat (first | apply Kd.R_alloc | apply Kd.R_drewN | apply Kd.R_drew)); exact HO261.out⟩, ⟨bI HB.out⟩⟩
  rw [if_neg c15] at H
  have c15b0 : ((rdOf ByteArray.empty t259 0).toList == ([] : List UInt8)) = false := beq_eq_false_iff_ne.mpr c15; have c15b1 : ((rdOf ByteArray.empty t259 0).toList != ([] : List UInt8)) = true := bne_iff_ne.mpr c15; have H' := Aside0.mk H; clear H; obtain ⟨Ao17, co17, eo17⟩ := Kd.R_slice HO261.out; subst eo17
  have p262 : 0 ≤ (0 : Int) := (by omega)
  have q262 : 0 < (t259.length : Int) := of_decide_eq_true y0_20; obtain ⟨ad262, e262, hx262_0⟩ := Kd.at_string (Kd.R_reads' HO261.out).2.2 0 p262 q262; cases e262
  have qi262 : (0 < t259.length) = True := eq_true (by omega)
  (try rw [show ((0 : Int)).toNat = 0 from rfl] at hx262_0)
  (try rw [Addr.add_zero'] at hx262_0)
  replace p262 := eq_true p262; replace q262 := eq_true q262
  go_wp2
  go_meet
  case rel => exact ⟨_, (true), y0_21, H', ⟨y0_22⟩, ⟨by (with_reducible repeat (first | apply Kd.S_alloc | apply Kd.S_drewN | apply Kd.S_drew)); exact Kd.S_mono HO255.out (fun _ hk => hk.2)⟩, ⟨by (with_reducible repeat (first | apply Kd.S_alloc | apply Kd.S_drewN | apply Kd.S_drew)); exact Kd.S_mono HO258.out (fun _ hk => hk.2)⟩, ⟨by (with_reducible repeat (first | apply Kd.R_alloc | apply Kd.R_drewN | apply Kd.R_drew)); exact HO261.out⟩, ⟨bI HB.out⟩⟩
 case rest =>
  clear HC8
  try clear c1
  try clear c2
  try clear c2b0
  try clear c2b1
  try clear p2
  try clear q2
  try clear hx2
  try clear qi2
  try clear c7
  try clear c8
  try clear c14
  try clear c14b0
  try clear c14b1
  try clear c15
  try clear c15b0
  try clear c15b1
  try clear hx262_0
  try clear p262
  try clear q262
  obtain ⟨kq, x31_7, rfl, HA, HJ7, HO_4, HO_5, HO_6, HB⟩ := hcut; cases kq with
  | zero => exact absurd HA.out (by simp [spec_Steps.j0])
  | succ kj7 =>
   have H := HA.out; clear HA
   simp only [spec_Steps.j0] at H
   by_cases c18 : x31_7 = true
   ·
    subst c18
    rw [if_pos rfl] at H
    simp only [Option.some.injEq, Prod.mk.injEq] at H
    obtain ⟨rfl, rfl⟩ := H
    go_wp2
    go_ret2
    exact ⟨_, y0_16, y0_12, bI HB.out⟩
   replace c18 := Bool.eq_false_iff.mpr c18; subst c18
   rw [if_neg (show ¬ (false = true) by decide)] at H
   have H' := Aside0.mk H; clear H
   go_wp2
   go_loopg [5, 7, 8] kj7 (fun kq v5 v7 v8 w' => ∃ (x5_2 : List (S94)) (x7_2 : Int) (x8_2 : Int), v7 = .int .i64 x7_2 ∧ v8 = .int .i64 x8_2 ∧ Aside0 (spec_Steps.l0 kq y253 x5_2 t259 x7_2 x8_2 = some (r1, r2)) ∧ Aside0 (kq ≤ kj7) ∧ Aside0 (Kd.S k94 94 w' w.heap.size (fun k_ => some k_ ≠ (v5 : Value).ownBlock) v254 y253) ∧ Aside0 (Kd.S k94 94 w' w.heap.size (fun k_ => some k_ ≠ (v254 : Value).ownBlock) v5 x5_2) ∧ Aside0 (Kd.R Kd.string 9 w' w.heap.size (fun _ => True) v260 t259) ∧ Aside0 (Below w.heap.size w w'))
   case atStart => exact ⟨(y256), (0), (1), y0_21, y0_21, H', ⟨Nat.le_refl _⟩, ⟨by (with_reducible repeat (first | apply Kd.S_alloc | apply Kd.S_drewN | apply Kd.S_drew)); exact HO_4.out⟩, ⟨y0_14⟩, ⟨by (with_reducible repeat (first | apply Kd.R_alloc | apply Kd.R_drewN | apply Kd.R_drew)); exact HO_6.out⟩, ⟨bI HB.out⟩⟩
   case round =>
    clear H'
    try clear c1
    try clear c2
    try clear c2b0
    try clear c2b1
    try clear p2
    try clear q2
    try clear hx2
    try clear qi2
    try clear c7
    try clear c8
    try clear c14
    try clear c14b0
    try clear c14b1
    try clear c15
    try clear c15b0
    try clear c15b1
    try clear c18
    try clear hx262_0
    try clear p2
    try clear p262
    try clear q2
    try clear q262
    obtain ⟨x5_2, x7_2, x8_2, rfl, rfl, HA, HK2, HO_4, HO_5, HO_6, HB⟩ := hrel; cases gk with
    | zero => exact absurd HA.out (by simp [spec_Steps.l0])
    | succ k2 =>
     have H := HA.out; clear HA
     simp only [spec_Steps.l0] at H
     by_cases c19 : x8_2 < (t259.length : Int)
     ·
      rw [if_pos c19] at H
      have c19b0 : decide (x8_2 < (t259.length : Int)) = true := decide_eq_true c19; clear c19
      by_cases c20 : 0 ≤ x8_2
      rotate_left
      ·
       rw [if_neg c20] at H
       exact absurd H (by simp)
      rw [if_pos c20] at H
      have c20b0 : decide (0 ≤ x8_2) = true := decide_eq_true c20; clear c20; obtain ⟨⟨t264, t265, t266⟩, A210, H⟩ := Option.bind_eq_some_iff.mp H
      try dsimp only at H
      have A21 := Aside0.mk A210; clear A210; obtain ⟨⟨t267, t268⟩, A220, H⟩ := Option.bind_eq_some_iff.mp H
      try dsimp only at H
      have A22 := Aside0.mk A220; clear A220; obtain ⟨⟨t269, t270⟩, A230, H⟩ := Option.bind_eq_some_iff.mp H
      try dsimp only at H
      have A23 := Aside0.mk A230; clear A230
      by_cases c24 : t266 = true
      ·
       subst c24
       rw [if_pos rfl] at H
       by_cases c25 : t268 = true
       ·
        subst c25
        rw [if_pos rfl] at H
        by_cases c26 : t270 = true
        ·
         subst c26
         rw [if_pos rfl] at H
         by_cases c27 : t267 ≤ x7_2
         ·
          rw [if_pos c27] at H
          have c27b0 : decide (t267 ≤ x7_2) = true := decide_eq_true c27; clear c27
          simp only [Option.some.injEq, Prod.mk.injEq] at H
          obtain ⟨rfl, rfl⟩ := H; obtain ⟨Ao28, co28, eo28⟩ := Kd.R_slice HO_6.out; subst eo28; have p263 : 0 ≤ (x8_2 : Int) := of_decide_eq_true y0_20; have q263 : x8_2 < (t259.length : Int) := of_decide_eq_true y0_20; obtain ⟨ad263, e263, hx263_0⟩ := Kd.at_string (Kd.R_reads' HO_6.out).2.2 x8_2 p263 q263; cases e263; replace p263 := eq_true p263; replace q263 := eq_true q263
          go_wp2_with (first | ((with_reducible refine gate_callee (f := 83) rfl ?_); refine gB (some 44) Try.func83 #[.string (rdOf ByteArray.empty t259 x8_2), .int .u8 124] ?_; (with_reducible refine (spec_l2Cut.calls k2 (rdOf ByteArray.empty t259 x8_2) 124 t264 t265 true _ A21.out).mono ?_); rintro e w' ⟨rfl, ⟨nd, rfl⟩⟩; refine ⟨_, rfl, ?_⟩) | ((with_reducible refine gate_callee (f := 84) rfl ?_); refine gB (some 50) Try.func84 #[.string t264] ?_; (with_reducible refine (spec_Number.calls k2 t264 t267 true _ A22.out).mono ?_); rintro e w29 ⟨rfl, hb⟩; refine ⟨_, rfl, ?_⟩; replace HO_4 := sb HO_4 hb; replace HO_5 := sb HO_5 hb; replace HO_6 := rb HO_6 hb; replace HB := bs HB hb; (try clear hb); (try clear hb2); (try clear hk); (try clear hi)) | ((with_reducible refine gate_callee (f := 85) rfl ?_); refine gB (some 55) Try.func85 #[.string t265] ?_; (with_reducible refine (spec_TxsOf.calls k2 t265 t269 true _ A23.out).mono ?_); rintro e w30 ⟨v271, rfl, ho0, hb⟩; refine ⟨_, rfl, ?_⟩; replace HO_4 := Aside0.mk (Kd.S_elder' (sI HO_4.out) (Kd.R_base ho0) hb); replace HO_5 := Aside0.mk (Kd.S_elder' (sI HO_5.out) (Kd.R_base ho0) hb); replace HO_6 := rb HO_6 hb; have HO272 := Aside0.mk (Kd.R_lower ho0 (below_size (bI HB.out))); replace HB := bs HB hb; (try clear hb)))
          go_ret2
          exact ⟨_, y0_16, y0_12, bI HB.out⟩
         rw [if_neg c27] at H
         have c27b0 : decide (t267 ≤ x7_2) = false := decide_eq_false c27; clear c27
         by_cases c31 : t267 > 60
         ·
          rw [if_pos c31] at H
          have c31b0 : decide (60 < t267) = true := decide_eq_true c31; clear c31
          simp only [Option.some.injEq, Prod.mk.injEq] at H
          obtain ⟨rfl, rfl⟩ := H; obtain ⟨Ao32, co32, eo32⟩ := Kd.R_slice HO_6.out; subst eo32; have p263 : 0 ≤ (x8_2 : Int) := of_decide_eq_true y0_20; have q263 : x8_2 < (t259.length : Int) := of_decide_eq_true y0_20; obtain ⟨ad263, e263, hx263_0⟩ := Kd.at_string (Kd.R_reads' HO_6.out).2.2 x8_2 p263 q263; cases e263; replace p263 := eq_true p263; replace q263 := eq_true q263
          go_wp2_with (first | ((with_reducible refine gate_callee (f := 83) rfl ?_); refine gB (some 44) Try.func83 #[.string (rdOf ByteArray.empty t259 x8_2), .int .u8 124] ?_; (with_reducible refine (spec_l2Cut.calls k2 (rdOf ByteArray.empty t259 x8_2) 124 t264 t265 true _ A21.out).mono ?_); rintro e w' ⟨rfl, ⟨nd, rfl⟩⟩; refine ⟨_, rfl, ?_⟩) | ((with_reducible refine gate_callee (f := 84) rfl ?_); refine gB (some 50) Try.func84 #[.string t264] ?_; (with_reducible refine (spec_Number.calls k2 t264 t267 true _ A22.out).mono ?_); rintro e w33 ⟨rfl, hb⟩; refine ⟨_, rfl, ?_⟩; replace HO_4 := sb HO_4 hb; replace HO_5 := sb HO_5 hb; replace HO_6 := rb HO_6 hb; replace HB := bs HB hb; (try clear hb); (try clear hb2); (try clear hk); (try clear hi)) | ((with_reducible refine gate_callee (f := 85) rfl ?_); refine gB (some 55) Try.func85 #[.string t265] ?_; (with_reducible refine (spec_TxsOf.calls k2 t265 t269 true _ A23.out).mono ?_); rintro e w34 ⟨v271, rfl, ho0, hb⟩; refine ⟨_, rfl, ?_⟩; replace HO_4 := Aside0.mk (Kd.S_elder' (sI HO_4.out) (Kd.R_base ho0) hb); replace HO_5 := Aside0.mk (Kd.S_elder' (sI HO_5.out) (Kd.R_base ho0) hb); replace HO_6 := rb HO_6 hb; have HO272 := Aside0.mk (Kd.R_lower ho0 (below_size (bI HB.out))); replace HB := bs HB hb; (try clear hb)))
          go_ret2
          exact ⟨_, y0_16, y0_12, bI HB.out⟩
         rw [if_neg c31] at H
         have c31b0 : decide (60 < t267) = false := decide_eq_false c31; clear c31
         by_cases c35 : (t269.length : Int) > 2
         ·
          rw [if_pos c35] at H
          have c35b0 : decide (2 < (t269.length : Int)) = true := decide_eq_true c35
          have c35b1 : decide (2 < t269.length) = true := decide_eq_true (by omega)
          clear c35
          simp only [Option.some.injEq, Prod.mk.injEq] at H
          obtain ⟨rfl, rfl⟩ := H; obtain ⟨Ao36, co36, eo36⟩ := Kd.R_slice HO_6.out; subst eo36; have p263 : 0 ≤ (x8_2 : Int) := of_decide_eq_true y0_20; have q263 : x8_2 < (t259.length : Int) := of_decide_eq_true y0_20; obtain ⟨ad263, e263, hx263_0⟩ := Kd.at_string (Kd.R_reads' HO_6.out).2.2 x8_2 p263 q263; cases e263; replace p263 := eq_true p263; replace q263 := eq_true q263
          go_wp2_with (first | ((with_reducible refine gate_callee (f := 83) rfl ?_); refine gB (some 44) Try.func83 #[.string (rdOf ByteArray.empty t259 x8_2), .int .u8 124] ?_; (with_reducible refine (spec_l2Cut.calls k2 (rdOf ByteArray.empty t259 x8_2) 124 t264 t265 true _ A21.out).mono ?_); rintro e w' ⟨rfl, ⟨nd, rfl⟩⟩; refine ⟨_, rfl, ?_⟩) | ((with_reducible refine gate_callee (f := 84) rfl ?_); refine gB (some 50) Try.func84 #[.string t264] ?_; (with_reducible refine (spec_Number.calls k2 t264 t267 true _ A22.out).mono ?_); rintro e w37 ⟨rfl, hb⟩; refine ⟨_, rfl, ?_⟩; replace HO_4 := sb HO_4 hb; replace HO_5 := sb HO_5 hb; replace HO_6 := rb HO_6 hb; replace HB := bs HB hb; (try clear hb); (try clear hb2); (try clear hk); (try clear hi)) | ((with_reducible refine gate_callee (f := 85) rfl ?_); refine gB (some 55) Try.func85 #[.string t265] ?_; (with_reducible refine (spec_TxsOf.calls k2 t265 t269 true _ A23.out).mono ?_); rintro e w38 ⟨v271, rfl, ho0, hb⟩; refine ⟨_, rfl, ?_⟩; replace HO_4 := Aside0.mk (Kd.S_elder' (sI HO_4.out) (Kd.R_base ho0) hb); replace HO_5 := Aside0.mk (Kd.S_elder' (sI HO_5.out) (Kd.R_base ho0) hb); replace HO_6 := rb HO_6 hb; have HO272 := Aside0.mk (Kd.R_lower ho0 (below_size (bI HB.out))); replace HB := bs HB hb; (try clear hb); obtain ⟨Ao39, co39, eo39⟩ := Kd.R_slice HO272.out; subst eo39))
          go_ret2
          exact ⟨_, y0_16, y0_12, bI HB.out⟩
         rw [if_neg c35] at H
         have c35b0 : decide (2 < (t269.length : Int)) = false := decide_eq_false c35
         have c35b1 : decide (2 < t269.length) = false := decide_eq_false (by omega)
         clear c35
         by_cases c40 : x5_2.length < 4398046511104
         rotate_left
         ·
          rw [if_neg c40] at H
          exact absurd H (by simp)
         rw [if_pos c40] at H
         have LMc40 := Aside0.mk c40; clear c40; obtain ⟨y273, hy273⟩ : ∃ y_ : List (S94), y_ = (x5_2 ++ [(⟨t267, t269⟩ : S94)]) := ⟨_, rfl⟩
         replace H : (spec_Steps.l0 k2 y253 y273 t259 t267 (wrap64 (x8_2 + 1))) = some (r1, r2) := by first | (rw [hy273]; with_reducible exact H) | (have H2_ := (Option.bind_some _ _).symm.trans H; rw [hy273]; with_reducible exact H2_) | (have H2_ := (Option.bind_some _ _).symm.trans H; with_reducible exact H2_) | with_reducible exact H | (rw [hy273]; exact H) | exact H
         have Ny273 := Aside0.mk hy273; clear hy273; have H' := Aside0.mk H; clear H; obtain ⟨Ao41, co41, eo41⟩ := Kd.R_slice HO_6.out; subst eo41; have p263 : 0 ≤ (x8_2 : Int) := of_decide_eq_true y0_20; have q263 : x8_2 < (t259.length : Int) := of_decide_eq_true y0_20; obtain ⟨ad263, e263, hx263_0⟩ := Kd.at_string (Kd.R_reads' HO_6.out).2.2 x8_2 p263 q263; cases e263; replace p263 := eq_true p263; replace q263 := eq_true q263
         go_wp2_with (first | ((with_reducible refine gate_callee (f := 83) rfl ?_); refine gB (some 44) Try.func83 #[.string (rdOf ByteArray.empty t259 x8_2), .int .u8 124] ?_; (with_reducible refine (spec_l2Cut.calls k2 (rdOf ByteArray.empty t259 x8_2) 124 t264 t265 true _ A21.out).mono ?_); rintro e w' ⟨rfl, ⟨nd, rfl⟩⟩; refine ⟨_, rfl, ?_⟩) | ((with_reducible refine gate_callee (f := 84) rfl ?_); refine gB (some 50) Try.func84 #[.string t264] ?_; (with_reducible refine (spec_Number.calls k2 t264 t267 true _ A22.out).mono ?_); rintro e w42 ⟨rfl, hb⟩; refine ⟨_, rfl, ?_⟩; replace HO_4 := sb HO_4 hb; replace HO_5 := sb HO_5 hb; replace HO_6 := rb HO_6 hb; replace HB := bs HB hb; (try clear hb); (try clear hb2); (try clear hk); (try clear hi)) | ((with_reducible refine gate_callee (f := 85) rfl ?_); refine gB (some 55) Try.func85 #[.string t265] ?_; (with_reducible refine (spec_TxsOf.calls k2 t265 t269 true _ A23.out).mono ?_); rintro e w43 ⟨v271, rfl, ho0, hb⟩; refine ⟨_, rfl, ?_⟩; replace HO_4 := Aside0.mk (Kd.S_elder' (sI HO_4.out) (Kd.R_base ho0) hb); replace HO_5 := Aside0.mk (Kd.S_elder' (sI HO_5.out) (Kd.R_base ho0) hb); replace HO_6 := rb HO_6 hb; have HO272 := Aside0.mk (Kd.R_lower ho0 (below_size (bI HB.out))); replace HB := bs HB hb; (try clear hb); obtain ⟨Ao44, co44, eo44⟩ := Kd.R_slice HO272.out; subst eo44) | ((with_reducible refine gate_builtin (b := .append) (xs := #[.tmp 84, .tmp 88]) rfl ?_); (try (refine gate_guard (by rfl) ?_; dsimp only)); at_builtin; refine Kd.S_append k94 (w0 := w) w.heap.size rfl (.tmp 84) (.tmp 88) 90 94 (.agg #[(.int .i64 0), (.slice none 0 0)]) 32 rfl Try.underlying90 info94 rfl (by decide) (by omega) u5 x5_2 (⟨t267, t269⟩ : S94) [.int .i64 t267, .slice Ao44 t269.length co44] (fun k_ => some k_ ≠ (v254 : Value).ownBlock) (fun k_ => some k_ = (.slice Ao44 t269.length co44 : Value).ownBlock) rfl rfl ?aP (fun k_ hk_ => ((Kd.R_mono (ok' := fun k_ => ((fun k_ => some k_ ≠ (v254 : Value).ownBlock)) k_ ∧ some k_ ≠ (u5 : Value).ownBlock) (Kd.R_apart' (Kd.R_apart' (HO272.out) (Kd.S_typed HO_4.out) (by decide)) (Kd.S_typed HO_5.out) (by decide)) (fun k_ hk => ⟨hk.1.2, hk.2⟩))).1 k_ hk_.symm) ?aF ?aO ?aB ?aS ?aL ?_; (case aP => exact k94_mkM _ _ _ (⟨t267, t269⟩ : S94) (Kd.R_mono (Kd.R_tight rfl (Kd.R_mono (ok' := fun k_ => ((fun k_ => some k_ ≠ (v254 : Value).ownBlock)) k_ ∧ some k_ ≠ (u5 : Value).ownBlock) (Kd.R_apart' (Kd.R_apart' (HO272.out) (Kd.S_typed HO_4.out) (by decide)) (Kd.S_typed HO_5.out) (by decide)) (fun k_ hk => ⟨hk.1.2, hk.2⟩))) (fun _ h_ => h_))); (case aB => exact (bI HB.out)); (case aF => exact (fun k_ hk => Kd.fresh' (Kd.S_lt (sI HO_4.out)) k_ hk)); (case aO => exact (sI (Kd.S_mono HO_5.out (fun k_ hk => ⟨hk.1, fun e_ => hk.2 e_⟩)))); (case aS => exact (below_size (bI HB.out))); (case aL => have := LMc40.out; omega); intro v274 w45 ho hb hg hat; rw [← Ny273.out] at ho; have n0_ := Aside0.mk (Kd.S_after (ok := (fun k_ => some k_ ≠ (.slice Ao44 t269.length co44 : Value).ownBlock)) (sI (Kd.S_mono HO_4.out (fun _ hk => ⟨hk.2, hk.1⟩))) hg hat); have n1_ := Aside0.mk (Kd.R_over' (rI HO_6.out) (Kd.S_typed (sI HO_5.out)) (by decide) hg); have n2_ := Aside0.mk (hb); have n3_ := Aside0.mk (ho); clear HO_4; clear HO_6; clear HB; clear HO_5; clear HO272; have HO_4 := n0_; have HO_6 := n1_; have HB := n2_; have HO275 := n3_; clear n0_ n1_ n2_ n3_; clear ho hb hg hat))
         go_roundg k2
         case measure => have := HJ7.out; have := HK2.out; omega
         case rel => exact ⟨(y273), (t267), (wrap64 (x8_2 + 1)), y0_21, y0_21, H', ⟨by have := HJ7.out; have := HK2.out; omega⟩, ⟨by (with_reducible repeat (first | apply Kd.S_alloc | apply Kd.S_drewN | apply Kd.S_drew)); exact Kd.S_mono HO_4.out (fun _ hk => hk.2)⟩, ⟨by (with_reducible repeat (first | apply Kd.S_alloc | apply Kd.S_drewN | apply Kd.S_drew)); exact HO275.out⟩, ⟨by (with_reducible repeat (first | apply Kd.R_alloc | apply Kd.R_drewN | apply Kd.R_drew)); exact HO_6.out⟩, ⟨bI HB.out⟩⟩
        replace c26 := Bool.eq_false_iff.mpr c26; subst c26
        rw [if_neg (show ¬ (false = true) by decide)] at H
        simp only [Option.some.injEq, Prod.mk.injEq] at H
        obtain ⟨rfl, rfl⟩ := H; obtain ⟨Ao46, co46, eo46⟩ := Kd.R_slice HO_6.out; subst eo46; have p263 : 0 ≤ (x8_2 : Int) := of_decide_eq_true y0_20; have q263 : x8_2 < (t259.length : Int) := of_decide_eq_true y0_20; obtain ⟨ad263, e263, hx263_0⟩ := Kd.at_string (Kd.R_reads' HO_6.out).2.2 x8_2 p263 q263; cases e263; replace p263 := eq_true p263; replace q263 := eq_true q263
        go_wp2_with (first | ((with_reducible refine gate_callee (f := 83) rfl ?_); refine gB (some 44) Try.func83 #[.string (rdOf ByteArray.empty t259 x8_2), .int .u8 124] ?_; (with_reducible refine (spec_l2Cut.calls k2 (rdOf ByteArray.empty t259 x8_2) 124 t264 t265 true _ A21.out).mono ?_); rintro e w' ⟨rfl, ⟨nd, rfl⟩⟩; refine ⟨_, rfl, ?_⟩) | ((with_reducible refine gate_callee (f := 84) rfl ?_); refine gB (some 50) Try.func84 #[.string t264] ?_; (with_reducible refine (spec_Number.calls k2 t264 t267 true _ A22.out).mono ?_); rintro e w47 ⟨rfl, hb⟩; refine ⟨_, rfl, ?_⟩; replace HO_4 := sb HO_4 hb; replace HO_5 := sb HO_5 hb; replace HO_6 := rb HO_6 hb; replace HB := bs HB hb; (try clear hb); (try clear hb2); (try clear hk); (try clear hi)) | ((with_reducible refine gate_callee (f := 85) rfl ?_); refine gB (some 55) Try.func85 #[.string t265] ?_; (with_reducible refine (spec_TxsOf.calls k2 t265 t269 false _ A23.out).mono ?_); rintro e w48 ⟨v271, rfl, ho0, hb⟩; refine ⟨_, rfl, ?_⟩; replace HO_4 := Aside0.mk (Kd.S_elder' (sI HO_4.out) (Kd.R_base ho0) hb); replace HO_5 := Aside0.mk (Kd.S_elder' (sI HO_5.out) (Kd.R_base ho0) hb); replace HO_6 := rb HO_6 hb; have HO272 := Aside0.mk (Kd.R_lower ho0 (below_size (bI HB.out))); replace HB := bs HB hb; (try clear hb)))
        go_ret2
        exact ⟨_, y0_16, y0_12, bI HB.out⟩
       replace c25 := Bool.eq_false_iff.mpr c25; subst c25
       rw [if_neg (show ¬ (false = true) by decide)] at H
       simp only [Option.some.injEq, Prod.mk.injEq] at H
       obtain ⟨rfl, rfl⟩ := H; obtain ⟨Ao49, co49, eo49⟩ := Kd.R_slice HO_6.out; subst eo49; have p263 : 0 ≤ (x8_2 : Int) := of_decide_eq_true y0_20; have q263 : x8_2 < (t259.length : Int) := of_decide_eq_true y0_20; obtain ⟨ad263, e263, hx263_0⟩ := Kd.at_string (Kd.R_reads' HO_6.out).2.2 x8_2 p263 q263; cases e263; replace p263 := eq_true p263; replace q263 := eq_true q263
       go_wp2_with (first | ((with_reducible refine gate_callee (f := 83) rfl ?_); refine gB (some 44) Try.func83 #[.string (rdOf ByteArray.empty t259 x8_2), .int .u8 124] ?_; (with_reducible refine (spec_l2Cut.calls k2 (rdOf ByteArray.empty t259 x8_2) 124 t264 t265 true _ A21.out).mono ?_); rintro e w' ⟨rfl, ⟨nd, rfl⟩⟩; refine ⟨_, rfl, ?_⟩) | ((with_reducible refine gate_callee (f := 84) rfl ?_); refine gB (some 50) Try.func84 #[.string t264] ?_; (with_reducible refine (spec_Number.calls k2 t264 t267 false _ A22.out).mono ?_); rintro e w50 ⟨rfl, hb⟩; refine ⟨_, rfl, ?_⟩; replace HO_4 := sb HO_4 hb; replace HO_5 := sb HO_5 hb; replace HO_6 := rb HO_6 hb; replace HB := bs HB hb; (try clear hb); (try clear hb2); (try clear hk); (try clear hi)) | ((with_reducible refine gate_callee (f := 85) rfl ?_); refine gB (some 55) Try.func85 #[.string t265] ?_; (with_reducible refine (spec_TxsOf.calls k2 t265 t269 t270 _ A23.out).mono ?_); rintro e w51 ⟨v271, rfl, ho0, hb⟩; refine ⟨_, rfl, ?_⟩; replace HO_4 := Aside0.mk (Kd.S_elder' (sI HO_4.out) (Kd.R_base ho0) hb); replace HO_5 := Aside0.mk (Kd.S_elder' (sI HO_5.out) (Kd.R_base ho0) hb); replace HO_6 := rb HO_6 hb; have HO272 := Aside0.mk (Kd.R_lower ho0 (below_size (bI HB.out))); replace HB := bs HB hb; (try clear hb)))
       go_ret2
       exact ⟨_, y0_16, y0_12, bI HB.out⟩
      replace c24 := Bool.eq_false_iff.mpr c24; subst c24
      rw [if_neg (show ¬ (false = true) by decide)] at H
      simp only [Option.some.injEq, Prod.mk.injEq] at H
      obtain ⟨rfl, rfl⟩ := H; obtain ⟨Ao52, co52, eo52⟩ := Kd.R_slice HO_6.out; subst eo52; have p263 : 0 ≤ (x8_2 : Int) := of_decide_eq_true y0_20; have q263 : x8_2 < (t259.length : Int) := of_decide_eq_true y0_20; obtain ⟨ad263, e263, hx263_0⟩ := Kd.at_string (Kd.R_reads' HO_6.out).2.2 x8_2 p263 q263; cases e263; replace p263 := eq_true p263; replace q263 := eq_true q263
      go_wp2_with (first | ((with_reducible refine gate_callee (f := 83) rfl ?_); refine gB (some 44) Try.func83 #[.string (rdOf ByteArray.empty t259 x8_2), .int .u8 124] ?_; (with_reducible refine (spec_l2Cut.calls k2 (rdOf ByteArray.empty t259 x8_2) 124 t264 t265 false _ A21.out).mono ?_); rintro e w' ⟨rfl, ⟨nd, rfl⟩⟩; refine ⟨_, rfl, ?_⟩) | ((with_reducible refine gate_callee (f := 84) rfl ?_); refine gB (some 50) Try.func84 #[.string t264] ?_; (with_reducible refine (spec_Number.calls k2 t264 t267 t268 _ A22.out).mono ?_); rintro e w53 ⟨rfl, hb⟩; refine ⟨_, rfl, ?_⟩; replace HO_4 := sb HO_4 hb; replace HO_5 := sb HO_5 hb; replace HO_6 := rb HO_6 hb; replace HB := bs HB hb; (try clear hb); (try clear hb2); (try clear hk); (try clear hi)) | ((with_reducible refine gate_callee (f := 85) rfl ?_); refine gB (some 55) Try.func85 #[.string t265] ?_; (with_reducible refine (spec_TxsOf.calls k2 t265 t269 t270 _ A23.out).mono ?_); rintro e w54 ⟨v271, rfl, ho0, hb⟩; refine ⟨_, rfl, ?_⟩; replace HO_4 := Aside0.mk (Kd.S_elder' (sI HO_4.out) (Kd.R_base ho0) hb); replace HO_5 := Aside0.mk (Kd.S_elder' (sI HO_5.out) (Kd.R_base ho0) hb); replace HO_6 := rb HO_6 hb; have HO272 := Aside0.mk (Kd.R_lower ho0 (below_size (bI HB.out))); replace HB := bs HB hb; (try clear hb)))
      go_ret2
      exact ⟨_, y0_16, y0_12, bI HB.out⟩
     rw [if_neg c19] at H
     have c19b0 : decide (x8_2 < (t259.length : Int)) = false := decide_eq_false c19; clear c19
     simp only [Option.some.injEq, Prod.mk.injEq] at H
     obtain ⟨rfl, rfl⟩ := H; obtain ⟨Ao55, co55, eo55⟩ := Kd.R_slice HO_6.out; subst eo55
     go_wp2
     go_ret2
     exact ⟨_, y0_16, by (with_reducible repeat (first | apply Kd.S_alloc | apply Kd.S_drewN | apply Kd.S_drew)); exact Kd.S_mono HO_5.out (fun _ hk => trivial), bI HB.out⟩

/-! ### spec_ViewOf: function 68 -/
def spec_ViewOf.f (k : Nat) (a0 : ByteArray) : Option (Int) := (spec_Steps.f k a0).bind fun bt276 => (if bt276.2 = true then (if (bt276.1.length : Int) = 0 then (some 0) else (if 0 ≤ (wrap64 ((bt276.1.length : Int) - 1)) then (if (wrap64 ((bt276.1.length : Int) - 1)) < (bt276.1.length : Int) then (some ((rd_T94 bt276.1 (wrap64 ((bt276.1.length : Int) - 1))).f0)) else (none)) else (none))) else (some 0))
theorem spec_ViewOf.mono : ∀ a0 k, LeO (spec_ViewOf.f k a0) (spec_ViewOf.f (k + 1) a0) := by
 intro a0 k
 unfold spec_ViewOf.f
 repeat' first | (with_reducible exact spec_Steps.mono _ _) | (with_reducible exact LeO.refl _) | (with_reducible exact LeO.none _) | (with_reducible refine LeO.ite ?_ ?_) | (with_reducible refine LeO.bind ?_ (fun _ => ?_))
set_option maxHeartbeats 8000000 in
set_option maxRecDepth 100000 in
theorem spec_ViewOf.calls (k : Nat) (a0 : ByteArray) (r : Int) (w : World) (h : spec_ViewOf.f k a0 = some r) :
  Calls Try.prog 68 #[.string a0] w fun e w' => e = .returned (.int .i64 r) ∧ Below w.heap.size w w' := by
 have HB := Aside0.mk (Below.refl w.heap.size w)
 have H : ((spec_Steps.f k a0).bind fun bt276 => (if bt276.2 = true then (if (bt276.1.length : Int) = 0 then (some 0) else (if 0 ≤ (wrap64 ((bt276.1.length : Int) - 1)) then (if (wrap64 ((bt276.1.length : Int) - 1)) < (bt276.1.length : Int) then (some ((rd_T94 bt276.1 (wrap64 ((bt276.1.length : Int) - 1))).f0)) else (none)) else (none))) else (some 0))) = some r := h
 clear h; obtain ⟨⟨t276, t277⟩, A20, H⟩ := Option.bind_eq_some_iff.mp H
 try dsimp only at H
 have A2 := Aside0.mk A20; clear A20
 by_cases c3 : t277 = true
 ·
  subst c3
  rw [if_pos rfl] at H
  by_cases c4 : (t276.length : Int) = 0
  ·
   rw [if_pos c4] at H
   have c4b0 : ((t276.length : Int) == 0) = true := beq_iff_eq.mpr c4; have c4b1 : ((t276.length : Int) != 0) = false := bne_eq_false_iff_eq.mpr c4; clear c4; obtain rfl := Option.some.inj H
   go_enter Try.func68, Try.ntmps68
   go_wp2_with (first | ((with_reducible refine gate_callee (f := 77) rfl ?_); refine gB (some 7) Try.func77 #[.string a0] ?_; (with_reducible refine (spec_Steps.calls k a0 t276 true _ A2.out).mono ?_); rintro e w5 ⟨v278, rfl, ho0, hb⟩; refine ⟨_, rfl, ?_⟩; have HO279 := Aside0.mk (Kd.S_lower ho0 (below_size (bI HB.out))); replace HB := bs HB hb; (try clear hb); (try clear ho0); obtain ⟨Ao6, co6, eo6⟩ := Kd.S_slice HO279.out; subst eo6))
   go_ret
   exact ⟨y0_16, bI HB.out⟩
  rw [if_neg c4] at H
  have c4b0 : ((t276.length : Int) == 0) = false := beq_eq_false_iff_ne.mpr c4; have c4b1 : ((t276.length : Int) != 0) = true := bne_iff_ne.mpr c4
  have c4b2 : ¬ (t276 = []) := fun h_ => c4 (by rw [h_]; rfl)
  obtain ⟨ji7, hji7⟩ : ∃ j_ : Int, (wrap64 ((t276.length : Int) - 1)) = j_ := ⟨_, rfl⟩
  replace H : (if 0 ≤ (ji7) then (if (ji7) < (t276.length : Int) then (some ((rd_T94 t276 (ji7)).f0)) else (none)) else (none)) = some r := by first | (rw [hji7] at H; exact H) | (simp only [hji7] at H ⊢; exact H)
  (try rw [hji7] at A2)
  have hji7w : (IntKind.i64.wrap ((t276.length : Int) - 1)) = ji7 := (i64_w _).trans hji7
  by_cases c8 : 0 ≤ (ji7)
  rotate_left
  ·
   rw [if_neg c8] at H
   exact absurd H (by simp)
  rw [if_pos c8] at H
  have c8b0 : decide (0 ≤ (ji7)) = true := decide_eq_true c8; clear c8
  by_cases c9 : (ji7) < (t276.length : Int)
  rotate_left
  ·
   rw [if_neg c9] at H
   exact absurd H (by simp)
  rw [if_pos c9] at H
  have c9b0 : decide ((ji7) < (t276.length : Int)) = true := decide_eq_true c9; clear c9; obtain rfl := Option.some.inj H
  go_enter Try.func68, Try.ntmps68
  go_wp2_with (first | ((with_reducible refine gate_callee (f := 77) rfl ?_); refine gB (some 7) Try.func77 #[.string a0] ?_; (with_reducible refine (spec_Steps.calls k a0 t276 true _ A2.out).mono ?_); rintro e w10 ⟨v278, rfl, ho0, hb⟩; refine ⟨_, rfl, ?_⟩; have HO279 := Aside0.mk (Kd.S_lower ho0 (below_size (bI HB.out))); replace HB := bs HB hb; (try clear hb); (try clear ho0); obtain ⟨Ao11, co11, eo11⟩ := Kd.S_slice HO279.out; subst eo11; have p280 : 0 ≤ ((ji7) : Int) := of_decide_eq_true y0_20; have q280 : (ji7) < (t276.length : Int) := of_decide_eq_true y0_20; obtain ⟨ad280, A280_1, c280_1, e280, hx280_0, hx280_1, hl280_1, hi280_1⟩ := at_T94 (Kd.S_reads' HO279.out).2.2 (ji7) p280 q280; cases e280; obtain ⟨ce280, hce280, hMe280, hcc280⟩ := Kd.S_get HO279.out z94 (ji7) p280 (by first | exact q280 | exact of_decide_eq_true y0_20 | (have e_ := (Kd.S_reads' HO279.out).1; omega)); obtain ⟨ve280_1, rfl, ge280_1⟩ := k94_openM hMe280; have hv280_1 := hcc280 1 _ rfl; rw [add_field _ _ 1 (by omega)] at hv280_1; replace hv280_1 := Option.some.inj (hv280_1.symm.trans hx280_1); rw [hv280_1] at ge280_1; have HL280_1 := Aside0.mk (show Kd.R k87 87 _ _ _ _ ((rd_T94 t276 (ji7)).f1) from ge280_1); clear hv280_1 ge280_1; clear hcc280 hce280; have HR280_1 := Aside0.mk hi280_1; have HC280_1 := Aside0.mk hl280_1; clear hi280_1 hl280_1; replace p280 := eq_true p280; replace q280 := eq_true q280))
  go_ret
  exact ⟨by first | rfl | (simp [errW_none, errW_some] <;> rfl) | (simp only [← hji7]; first | rfl | (simp [errW_none, errW_some] <;> rfl)) | (simp [*, errW_none, errW_some] <;> rfl), bI HB.out⟩
 replace c3 := Bool.eq_false_iff.mpr c3; subst c3
 rw [if_neg (show ¬ (false = true) by decide)] at H
 obtain rfl := Option.some.inj H
 go_enter Try.func68, Try.ntmps68
 go_wp2_with (first | ((with_reducible refine gate_callee (f := 77) rfl ?_); refine gB (some 7) Try.func77 #[.string a0] ?_; (with_reducible refine (spec_Steps.calls k a0 t276 false _ A2.out).mono ?_); rintro e w12 ⟨v278, rfl, ho0, hb⟩; refine ⟨_, rfl, ?_⟩; have HO279 := Aside0.mk (Kd.S_lower ho0 (below_size (bI HB.out))); replace HB := bs HB hb; (try clear hb); (try clear ho0)))
 go_ret
 exact ⟨y0_16, bI HB.out⟩

end Go.Proofs.Ytemjmefacifdeaa.PFnDropsBelow
