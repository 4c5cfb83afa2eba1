-- By a program of this session, out of the translation (the print of the kit, with turns of its own). Lean checks it.
import Derived.Test.YtnpbopadajbopaaGreatDoorPFnBlocksx0
import Derived.Test.YtnpbopadajbopaaGreatDoorPFnBlocksx3
import Derived.Test.YtnpbopadajbopaaGreatDoorPFnBlocksx4
namespace Go.Proofs.YtnpbopadajbopaaGreatDoor.PFnBlocks
open Go.RowKit Go.Proofs.YtnpbopadajbopaaGreatDoorW.PrintWords Go.Proofs.YtnpbopadajbopaaGreatDoorW.PrintLast Go.Proofs.YtnpbopadajbopaaGreatDoorW.PrintMore
attribute [local go_sem] max2_int min2_int max_two min_two max_three min_three max_four min_four   -- for this text's walks alone
attribute [local go_sem] cell_in frozen_in
set_option synthInstance.maxSize 1000000
set_option synthInstance.maxHeartbeats 2000000
set_option linter.unusedVariables false
set_option linter.unusedSimpArgs false

/-! ### spec_TxsOf: function 200 -/
def spec_TxsOf.l0 : Nat → List (S204) → List ByteArray → Int → Option ((List (S204)) × Bool)
 | 0, _, _, _ => none
 | k + 1, x4, x5, x6 => if x6 < (x5.length : Int) then (if 0 ≤ x6 then ((spec_TxOf.f k (rdOf ByteArray.empty x5 x6)).bind fun bt275 => (if bt275.2.2.2.2 = true then (if x4.length < 4398046511104 then (spec_TxsOf.l0 k (x4 ++ [(⟨bt275.1, bt275.2.1, bt275.2.2.1, bt275.2.2.2.1⟩ : S204)]) x5 (wrap64 (x6 + 1))) else (none)) else (some ((([] : List (S204))), false)))) else (none)) else (some (x4, true))
def spec_TxsOf.f (k : Nat) (a0 : ByteArray) : Option ((List (S204)) × Bool) := (some (([] : List (S204)) : List (S204))).bind fun y268 => (if a0.toList = ([] : List UInt8) then (some (y268, true)) else ((spec_Split.f k a0 44).bind fun t271 => (spec_TxsOf.l0 k y268 t271 0)))
theorem spec_TxsOf.mono_l : ∀ k, (∀ y0 y1 y2, LeO (spec_TxsOf.l0 k y0 y1 y2) (spec_TxsOf.l0 (k + 1) y0 y1 y2))
 | 0 => fun _ _ _ r h => by simp [spec_TxsOf.l0] at h
 | k + 1 => by
  have ih0 := spec_TxsOf.mono_l k
  intro y0 y1 y2
  unfold spec_TxsOf.l0
  repeat' first | (with_reducible exact ih0 _ _ _) | (with_reducible exact spec_Split.mono _ _ _) | (with_reducible exact spec_TxOf.mono _ _) | (with_reducible exact LeO.refl _) | (with_reducible exact LeO.none _) | (with_reducible refine LeO.ite ?_ ?_) | (with_reducible refine LeO.bind ?_ (fun _ => ?_))
theorem spec_TxsOf.mono : ∀ a0 k, LeO (spec_TxsOf.f k a0) (spec_TxsOf.f (k + 1) a0) := by
 intro a0 k
 have ih0 := spec_TxsOf.mono_l k
 unfold spec_TxsOf.f
 repeat' first | (with_reducible exact ih0 _ _ _) | (with_reducible exact spec_Split.mono _ _ _) | (with_reducible exact spec_TxOf.mono _ _) | (with_reducible exact LeO.refl _) | (with_reducible exact LeO.none _) | (with_reducible refine LeO.ite ?_ ?_) | (with_reducible refine LeO.bind ?_ (fun _ => ?_))
set_option maxHeartbeats 8000000 in
set_option maxRecDepth 100000 in
theorem spec_TxsOf.calls (k : Nat) (a0 : ByteArray) (r1 : List (S204)) (r2 : Bool) (w : World) (h : spec_TxsOf.f k a0 = some (r1, r2)) :
  Calls Tryz.prog 200 #[.string a0] w fun e w' => ∃ v0_ : Value, e = .returned (.tuple #[v0_, .bool r2]) ∧ Kd.R k204 204 w' w.heap.size (fun _ => True) v0_ r1 ∧ Below w.heap.size w w' := by
 have hu204 := Tryz.underlying204; have HB := Aside0.mk (Below.refl w.heap.size w)
 have H : ((some (([] : List (S204)) : List (S204))).bind fun y268 => (if a0.toList = ([] : List UInt8) then (some (y268, true)) else ((spec_Split.f k a0 44).bind fun t271 => (spec_TxsOf.l0 k y268 t271 0)))) = some (r1, r2) := h
 clear h; obtain ⟨y268, hy268⟩ : ∃ y_ : List (S204), y_ = (([] : List (S204))) := ⟨_, rfl⟩
 replace H : (if a0.toList = ([] : List UInt8) then (some (y268, true)) else ((spec_Split.f k a0 44).bind fun t271 => (spec_TxsOf.l0 k y268 t271 0))) = some (r1, r2) := by first | (rw [hy268]; with_reducible exact H) | (have H2_ := (Option.bind_some _ _).symm.trans H; rw [hy268]; with_reducible exact H2_) | (have H2_ := (Option.bind_some _ _).symm.trans H; with_reducible exact H2_) | with_reducible exact H | (rw [hy268]; exact H) | exact H
 have Ny268 := Aside0.mk hy268; clear hy268
 by_cases c2 : a0.toList = ([] : List UInt8)
 ·
  rw [if_pos c2] at H
  have c2b0 : (a0.toList == ([] : List UInt8)) = true := beq_iff_eq.mpr c2; have c2b1 : (a0.toList != ([] : List UInt8)) = false := bne_eq_false_iff_eq.mpr c2; clear c2
  simp only [Option.some.injEq, Prod.mk.injEq] at H
  obtain ⟨rfl, rfl⟩ := H
  go_enter Tryz.func200, Tryz.ntmps200
  go_wp2_with (first | ((with_reducible refine gate_dst (N := 9) rfl ?_); refine Kd.R_lit k204 _ 204 ?hg (N := 9) ?hd (xs := ([] : List (S204))) (inner := []) (ok := fun _ => True) (okp := fun _ => True) ?hr ?hp (fun _ hk => hk) trivial (Below.refl _ _) (Nat.le_refl _) (by simp) ?_; (case hd => rfl); (case hg => rfl); (case hr => first | (go_simp; done) | (go_simp; rfl)); (case hp => exact (Reps.none _ _)); intro v269 w3 ho4 hb hg_ hnew_; clear hg_ hnew_; (first | rw [← Ny268.out] at ho4 | (simp only [Int.reduceToNat] at ho4; rw [← Ny268.out] at ho4)); have HO270 := Aside0.mk (Kd.R_lower ho4 (below_size (bI HB.out))); replace HB := bs HB hb; clear hb ho4))
  go_ret2
  exact ⟨_, y0_14, by (with_reducible repeat (first | apply Kd.R_alloc | apply Kd.R_drewN | apply Kd.R_drew)); exact HO270.out, bI HB.out⟩
 rw [if_neg c2] at H
 have c2b0 : (a0.toList == ([] : List UInt8)) = false := beq_eq_false_iff_ne.mpr c2; have c2b1 : (a0.toList != ([] : List UInt8)) = true := bne_iff_ne.mpr c2; obtain ⟨t271, A50, H⟩ := Option.bind_eq_some_iff.mp H
 try dsimp only at H
 have A5 := Aside0.mk A50; clear A50; have H' := Aside0.mk H; clear H
 go_enter Tryz.func200, Tryz.ntmps200
 go_wp2_with (first | ((with_reducible refine gate_dst (N := 9) rfl ?_); refine Kd.R_lit k204 _ 204 ?hg (N := 9) ?hd (xs := ([] : List (S204))) (inner := []) (ok := fun _ => True) (okp := fun _ => True) ?hr ?hp (fun _ hk => hk) trivial (Below.refl _ _) (Nat.le_refl _) (by simp) ?_; (case hd => rfl); (case hg => rfl); (case hr => first | (go_simp; done) | (go_simp; rfl)); (case hp => exact (Reps.none _ _)); intro v269 w6 ho7 hb hg_ hnew_; clear hg_ hnew_; (first | rw [← Ny268.out] at ho7 | (simp only [Int.reduceToNat] at ho7; rw [← Ny268.out] at ho7)); have HO270 := Aside0.mk (Kd.R_lower ho7 (below_size (bI HB.out))); replace HB := bs HB hb; clear hb ho7) | ((with_reducible refine gate_callee (f := 197) rfl ?_); refine gB (some 14) Tryz.func197 #[.string a0, .int .u8 44] ?_; (with_reducible refine (spec_Split.calls k a0 44 t271 _ A5.out).mono ?_); rintro e w8 ⟨v272, rfl, ho0, hb⟩; refine ⟨_, rfl, ?_⟩; replace HO270 := rb HO270 hb; have HO273 := Aside0.mk (Kd.R_lower ho0 (below_size (bI HB.out))); replace HB := bs HB hb; (try clear hb); (try clear ho0)))
 go_loopg [4, 6] k (fun kq v4 v6 w' => ∃ (x4_1 : List (S204)) (x6_1 : Int), v6 = .int .i64 x6_1 ∧ Aside0 (spec_TxsOf.l0 kq x4_1 t271 x6_1 = some (r1, r2)) ∧ Aside0 (kq ≤ k) ∧ Aside0 (Kd.R k204 204 w' w.heap.size (fun _ => True) v4 x4_1) ∧ Aside0 (Kd.R Kd.string 9 w' w.heap.size (fun _ => True) v272 t271) ∧ Aside0 (Below w.heap.size w w'))
 case atStart => exact ⟨(y268), (0), y0_18, H', ⟨Nat.le_refl _⟩, ⟨by (with_reducible repeat (first | apply Kd.R_alloc | apply Kd.R_drewN | apply Kd.R_drew)); exact HO270.out⟩, ⟨by (with_reducible repeat (first | apply Kd.R_alloc | apply Kd.R_drewN | apply Kd.R_drew)); exact HO273.out⟩, ⟨bI HB.out⟩⟩
 case round =>
  clear H'
  try clear c1
  try clear c2
  try clear c2b0
  try clear c2b1
  try clear p2
  obtain ⟨x4_1, x6_1, rfl, HA, HK1, HO_4, HO_5, HB⟩ := hrel; cases gk with
  | zero => exact absurd HA.out (by simp [spec_TxsOf.l0])
  | succ k1 =>
   have H := HA.out; clear HA
   simp only [spec_TxsOf.l0] at H
   by_cases c9 : x6_1 < (t271.length : Int)
   ·
    rw [if_pos c9] at H
    have c9b0 : decide (x6_1 < (t271.length : Int)) = true := decide_eq_true c9; clear c9
    by_cases c10 : 0 ≤ x6_1
    rotate_left
    ·
     rw [if_neg c10] at H
     exact absurd H (by simp)
    rw [if_pos c10] at H
    have c10b0 : decide (0 ≤ x6_1) = true := decide_eq_true c10; clear c10; obtain ⟨⟨t275, t276, t277, t278, t279⟩, A110, H⟩ := Option.bind_eq_some_iff.mp H
    try dsimp only at H
    have A11 := Aside0.mk A110; clear A110
    by_cases c12 : t279 = true
    ·
     subst c12
     rw [if_pos rfl] at H
     by_cases c13 : x4_1.length < 4398046511104
     rotate_left
     ·
      rw [if_neg c13] at H
      exact absurd H (by simp)
     rw [if_pos c13] at H
     have LMc13 := Aside0.mk c13; clear c13; obtain ⟨y281, hy281⟩ : ∃ y_ : List (S204), y_ = (x4_1 ++ [(⟨t275, t276, t277, t278⟩ : S204)]) := ⟨_, rfl⟩
     replace H : (spec_TxsOf.l0 k1 y281 t271 (wrap64 (x6_1 + 1))) = some (r1, r2) := by first | (rw [hy281]; with_reducible exact H) | (have H2_ := (Option.bind_some _ _).symm.trans H; rw [hy281]; with_reducible exact H2_) | (have H2_ := (Option.bind_some _ _).symm.trans H; with_reducible exact H2_) | with_reducible exact H | (rw [hy281]; exact H) | exact H
     have Ny281 := Aside0.mk hy281; clear hy281; have H' := Aside0.mk H; clear H; obtain ⟨Ao14, co14, eo14⟩ := Kd.R_slice HO_5.out; subst eo14; have p274 : 0 ≤ (x6_1 : Int) := of_decide_eq_true y0_17; have q274 : x6_1 < (t271.length : Int) := of_decide_eq_true y0_17; obtain ⟨ad274, e274, hx274_0⟩ := Kd.at_string (Kd.R_reads' HO_5.out).2.2 x6_1 p274 q274; cases e274; replace p274 := eq_true p274; replace q274 := eq_true q274
     go_wp2_with (first | ((with_reducible refine gate_callee (f := 229) rfl ?_); refine gB (some 26) Tryz.func229 #[.string (rdOf ByteArray.empty t271 x6_1)] ?_; (with_reducible refine (spec_TxOf.calls k1 (rdOf ByteArray.empty t271 x6_1) t275 t276 t277 t278 true _ A11.out).mono ?_); rintro e w15 ⟨rfl, hb⟩; refine ⟨_, rfl, ?_⟩; replace HO_4 := rb HO_4 hb; replace HO_5 := rb HO_5 hb; replace HB := bs HB hb; (try clear hb); (try clear hb2); (try clear hk); (try clear hi)) | ((with_reducible refine gd 7 ?_); refine bA 7 #[.int .i64 0, .int .i64 0, .int .i64 0, .int .i64 0] 204 ?_; intro gb280 hg w16 hbox hb; replace HO_4 := Aside0.mk (Kd.R_below (Kd.R_elderB (rI HO_4.out) gb280 (Nat.le_of_eq hg.symm)) hb); replace HO_5 := rb HO_5 hb; have BK280 := Aside0.mk (hbox); have GW280 := bg hg HB; have GJ280 := gi GW280; have GE280 := GW280; replace HB := bs HB hb; clear hb hbox hg; obtain ⟨hcz17_0, hcz17_1, hcz17_2, hcz17_3, hfz17_0, hfz17_1, hfz17_2, hfz17_3⟩ := cs4 BK280) | ((with_reducible refine gate_builtin (b := .append) (xs := #[.tmp 32, .tmp 34]) rfl ?_); at_builtin; refine Kd.R_append k204 (w0 := w) w.heap.size rfl (.tmp 32) (.tmp 34) 101 204 (.agg #[(.int .i64 0), (.int .i64 0), (.int .i64 0), (.int .i64 0)]) 32 rfl Tryz.underlying101 info204 rfl (by decide) (by omega) u4 x4_1 (⟨t275, t276, t277, t278⟩ : S204) [.int .i64 t275, .int .i64 t276, .int .i64 t277, .int .i64 t278] (fun k_ => k_ ≠ gb280) (fun _ => False) rfl (by first | (go_simp; done) | (go_simp; rfl)) ?aP (fun _ hk => hk.elim) ?aF ?aO ?aB ?aS ?aL ?_; (case aP => exact k204_mkM _ _ _ (⟨t275, t276, t277, t278⟩ : S204)); (case aB => exact (bI HB.out)); (case aF => exact (fun k_ hk => Kd.freshB (g := gb280) (o := .cells #[.int .i64 t275, .int .i64 t276, .int .i64 t277, .int .i64 t278] 204 (0, 0)) (pI BK280) k_ hk)); (case aO => exact (rI (Kd.R_mono (Kd.R_far (p := ⟨gb280, 3, none⟩) (Kd.R_far (p := ⟨gb280, 2, none⟩) (Kd.R_far (p := ⟨gb280, 1, none⟩) (Kd.R_far (p := ⟨gb280, 0, none⟩) (Kd.R_mono HO_4.out (fun k_ hk => (⟨hk, hk.2⟩ : _ ∧ k_ ≠ gb280))) (fun _ hk => hk.2) (.int .i64 t275)) (fun _ hk => hk.2) (.int .i64 t276)) (fun _ hk => hk.2) (.int .i64 t277)) (fun _ hk => hk.2) (.int .i64 t278)) (fun _ hk => hk.1.2)))); (case aS => exact (below_size (bI HB.out))); (case aL => have := LMc13.out; omega); intro v282 w18 ho hb hg hat; rw [← Ny281.out] at ho; have n0_ := Aside0.mk (Kd.R_over' (rI (Kd.R_mono (Kd.R_far (p := ⟨gb280, 3, none⟩) (Kd.R_far (p := ⟨gb280, 2, none⟩) (Kd.R_far (p := ⟨gb280, 1, none⟩) (Kd.R_far (p := ⟨gb280, 0, none⟩) (Kd.R_types HO_5.out BK280.out (by decide)) (fun _ hk => hk.2) (.int .i64 t275)) (fun _ hk => hk.2) (.int .i64 t276)) (fun _ hk => hk.2) (.int .i64 t277)) (fun _ hk => hk.2) (.int .i64 t278)) (fun _ h_ => h_.1))) (Kd.R_typed (rI (Kd.R_mono (Kd.R_far (p := ⟨gb280, 3, none⟩) (Kd.R_far (p := ⟨gb280, 2, none⟩) (Kd.R_far (p := ⟨gb280, 1, none⟩) (Kd.R_far (p := ⟨gb280, 0, none⟩) (Kd.R_mono HO_4.out (fun k_ hk => (⟨hk, hk.2⟩ : _ ∧ k_ ≠ gb280))) (fun _ hk => hk.2) (.int .i64 t275)) (fun _ hk => hk.2) (.int .i64 t276)) (fun _ hk => hk.2) (.int .i64 t277)) (fun _ hk => hk.2) (.int .i64 t278)) (fun _ h_ => h_.1)))) (by decide) hg); have n1_ := Aside0.mk (blk_grown (g := gb280) (o := .cells #[.int .i64 t275, .int .i64 t276, .int .i64 t277, .int .i64 t278] 204 (0, 0)) (pI BK280) hg (Kd.R_away HO_4.out (fun _ hk => hk.2))); have n2_ := Aside0.mk (hb); have n3_ := Aside0.mk (ho); clear HO_5; clear BK280; clear HB; clear HO_4; have HO_5 := n0_; have BK280 := n1_; have HB := n2_; have HO283 := n3_; clear n0_ n1_ n2_ n3_; clear ho hb hg hat))
     go_roundg k1
     case measure => have := HK1.out; omega
     case rel => exact ⟨(y281), (wrap64 (x6_1 + 1)), y0_18, H', ⟨y0_21⟩, ⟨by (with_reducible repeat (first | apply Kd.R_alloc | apply Kd.R_drewN | apply Kd.R_drew)); exact Kd.R_mono HO283.out (fun _ hk => trivial)⟩, ⟨y0_12⟩, ⟨bI HB.out⟩⟩
    replace c12 := Bool.eq_false_iff.mpr c12; subst c12
    rw [if_neg (show ¬ (false = true) by decide)] at H
    obtain ⟨y284, hy284⟩ : ∃ y_ : List (S204), y_ = (([] : List (S204))) := ⟨_, rfl⟩
    replace H : (some (y284, false)) = some (r1, r2) := by first | (rw [hy284]; with_reducible exact H) | (have H2_ := (Option.bind_some _ _).symm.trans H; rw [hy284]; with_reducible exact H2_) | (have H2_ := (Option.bind_some _ _).symm.trans H; with_reducible exact H2_) | with_reducible exact H | (rw [hy284]; exact H) | exact H
    have Ny284 := Aside0.mk hy284; clear hy284
    simp only [Option.some.injEq, Prod.mk.injEq] at H
    obtain ⟨rfl, rfl⟩ := H; obtain ⟨Ao19, co19, eo19⟩ := Kd.R_slice HO_5.out; subst eo19; have p274 : 0 ≤ (x6_1 : Int) := of_decide_eq_true y0_17; have q274 : x6_1 < (t271.length : Int) := of_decide_eq_true y0_17; obtain ⟨ad274, e274, hx274_0⟩ := Kd.at_string (Kd.R_reads' HO_5.out).2.2 x6_1 p274 q274; cases e274; replace p274 := eq_true p274; replace q274 := eq_true q274
    go_wp2_with (first | ((with_reducible refine gate_callee (f := 229) rfl ?_); refine gB (some 26) Tryz.func229 #[.string (rdOf ByteArray.empty t271 x6_1)] ?_; (with_reducible refine (spec_TxOf.calls k1 (rdOf ByteArray.empty t271 x6_1) t275 t276 t277 t278 false _ A11.out).mono ?_); rintro e w20 ⟨rfl, hb⟩; refine ⟨_, rfl, ?_⟩; replace HO_4 := rb HO_4 hb; replace HO_5 := rb HO_5 hb; replace HB := bs HB hb; (try clear hb); (try clear hb2); (try clear hk); (try clear hi)) | ((with_reducible refine gd 7 ?_); refine bA 7 #[.int .i64 0, .int .i64 0, .int .i64 0, .int .i64 0] 204 ?_; intro gb280 hg w21 hbox hb; replace HO_4 := Aside0.mk (Kd.R_below (Kd.R_elderB (rI HO_4.out) gb280 (Nat.le_of_eq hg.symm)) hb); replace HO_5 := rb HO_5 hb; have BK280 := Aside0.mk (hbox); have GW280 := bg hg HB; have GJ280 := gi GW280; have GE280 := GW280; replace HB := bs HB hb; clear hb hbox hg; obtain ⟨hcz22_0, hcz22_1, hcz22_2, hcz22_3, hfz22_0, hfz22_1, hfz22_2, hfz22_3⟩ := cs4 BK280) | ((with_reducible refine gate_dst (N := 31) rfl ?_); refine Kd.R_lit k204 _ 204 ?hg (N := 31) ?hd (xs := ([] : List (S204))) (inner := []) (ok := fun _ => True) (okp := fun _ => True) ?hr ?hp (fun _ hk => hk) trivial (Below.refl _ _) (Nat.le_refl _) (by simp) ?_; (case hd => rfl); (case hg => rfl); (case hr => first | (go_simp; done) | (go_simp; rfl)); (case hp => exact (Reps.none _ _)); intro v285 w23 ho24 hb hg_ hnew_; clear hg_ hnew_; (first | rw [← Ny284.out] at ho24 | (simp only [Int.reduceToNat] at ho24; rw [← Ny284.out] at ho24)); replace HO_5 := Aside0.mk (Kd.R_below (rI (Kd.R_mono (Kd.R_far (p := ⟨gb280, 3, none⟩) (Kd.R_far (p := ⟨gb280, 2, none⟩) (Kd.R_far (p := ⟨gb280, 1, none⟩) (Kd.R_far (p := ⟨gb280, 0, none⟩) (Kd.R_types HO_5.out BK280.out (by decide)) (fun _ hk => hk.2) (.int .i64 t275)) (fun _ hk => hk.2) (.int .i64 t276)) (fun _ hk => hk.2) (.int .i64 t277)) (fun _ hk => hk.2) (.int .i64 t278)) (fun _ h_ => h_.1))) hb); have HO286 := Aside0.mk (Kd.R_lower (Kd.R_newB (Kd.R_new' ho24 (Kd.R_lt (rI (Kd.R_mono (Kd.R_far (p := ⟨gb280, 3, none⟩) (Kd.R_far (p := ⟨gb280, 2, none⟩) (Kd.R_far (p := ⟨gb280, 1, none⟩) (Kd.R_far (p := ⟨gb280, 0, none⟩) (Kd.R_mono HO_4.out (fun k_ hk => (⟨hk, hk.2⟩ : _ ∧ k_ ≠ gb280))) (fun _ hk => hk.2) (.int .i64 t275)) (fun _ hk => hk.2) (.int .i64 t276)) (fun _ hk => hk.2) (.int .i64 t277)) (fun _ hk => hk.2) (.int .i64 t278)) (fun _ h_ => h_.1))))) (g := gb280) (o := .cells #[.int .i64 t275, .int .i64 t276, .int .i64 t277, .int .i64 t278] 204 (0, 0)) (pI BK280)) (below_size (bI HB.out))); replace HO_4 := Aside0.mk (Kd.R_elder' (rI (Kd.R_mono (Kd.R_far (p := ⟨gb280, 3, none⟩) (Kd.R_far (p := ⟨gb280, 2, none⟩) (Kd.R_far (p := ⟨gb280, 1, none⟩) (Kd.R_far (p := ⟨gb280, 0, none⟩) (Kd.R_mono HO_4.out (fun k_ hk => (⟨hk, hk.2⟩ : _ ∧ k_ ≠ gb280))) (fun _ hk => hk.2) (.int .i64 t275)) (fun _ hk => hk.2) (.int .i64 t276)) (fun _ hk => hk.2) (.int .i64 t277)) (fun _ hk => hk.2) (.int .i64 t278)) (fun _ h_ => h_.1))) (Kd.R_base ho24) hb); replace BK280 := bp BK280 hb #[.int .i64 t275, .int .i64 t276, .int .i64 t277, .int .i64 t278]; replace HB := bs HB hb; clear hb ho24))
    go_ret2
    exact ⟨_, y0_14, by (with_reducible repeat (first | apply Kd.R_alloc | apply Kd.R_drewN | apply Kd.R_drew)); exact Kd.R_mono HO286.out (fun _ hk => trivial), bI HB.out⟩
   rw [if_neg c9] at H
   have c9b0 : decide (x6_1 < (t271.length : Int)) = false := decide_eq_false c9; clear c9
   simp only [Option.some.injEq, Prod.mk.injEq] at H
   obtain ⟨rfl, rfl⟩ := H; obtain ⟨Ao25, co25, eo25⟩ := Kd.R_slice HO_5.out; subst eo25
   go_wp2
   go_ret2
   exact ⟨_, y0_14, by (with_reducible repeat (first | apply Kd.R_alloc | apply Kd.R_drewN | apply Kd.R_drew)); exact HO_4.out, bI HB.out⟩

/-! ### spec_Steps: function 131 -/
mutual
def spec_Steps.j0 : Nat → List (S150) → List (S150) → List ByteArray → Bool → Option ((List (S150)) × Bool)
 | 0, _, _, _, _ => none
 | k + 1, x4, x5, x6, x31 => if x31 = true then (some (x4, false)) else (spec_Steps.l0 k x4 x5 x6 0 1)
def spec_Steps.l0 : Nat → List (S150) → List (S150) → List ByteArray → Int → Int → Option ((List (S150)) × Bool)
 | 0, _, _, _, _, _ => none
 | k + 1, x4, x5, x6, x7, x8 => if x8 < (x6.length : Int) then (if 0 ≤ x8 then ((spec_l2Cut.f k (rdOf ByteArray.empty x6 x8) 124).bind fun bt298 => ((spec_Number.f k bt298.1).bind fun bt301 => ((spec_TxsOf.f k bt298.2.1).bind fun bt303 => (if bt298.2.2 = true then (if bt301.2 = true then (if bt303.2 = true then (if bt301.1 ≤ x7 then (some (x4, false)) else (if bt301.1 > 60 then (some (x4, false)) else (if (bt303.1.length : Int) > 2 then (some (x4, false)) else (if x5.length < 4398046511104 then (spec_Steps.l0 k x4 (x5 ++ [(⟨bt301.1, bt303.1⟩ : S150)]) x6 bt301.1 (wrap64 (x8 + 1))) else (none))))) else (some (x4, false))) else (some (x4, false))) else (some (x4, false)))))) else (none)) else (some (x5, true))
end
def spec_Steps.f (k : Nat) (a0 : ByteArray) : Option ((List (S150)) × Bool) := (some (([] : List (S150)) : List (S150))).bind fun y287 => ((some (([] : List (S150)) : List (S150))).bind fun y290 => (if a0.toList = ([] : List UInt8) then (some (y290, true)) else ((spec_Split.f k a0 47).bind fun t293 => (if 0 < (t293.length : Int) then (if (rdOf ByteArray.empty t293 0).toList = ([] : List UInt8) then (spec_Steps.j0 k y287 y290 t293 (decide ((t293.length : Int) > 31))) else (spec_Steps.j0 k y287 y290 t293 true)) else (none)))))
theorem spec_Steps.mono_l : ∀ k, (∀ y0 y1 y2 y3, LeO (spec_Steps.j0 k y0 y1 y2 y3) (spec_Steps.j0 (k + 1) y0 y1 y2 y3)) ∧ (∀ y0 y1 y2 y3 y4, LeO (spec_Steps.l0 k y0 y1 y2 y3 y4) (spec_Steps.l0 (k + 1) y0 y1 y2 y3 y4))
 | 0 => ⟨fun _ _ _ _ r h => by simp [spec_Steps.j0] at h, fun _ _ _ _ _ r h => by simp [spec_Steps.l0] at h⟩
 | k + 1 => by
  obtain ⟨ih0, ih1⟩ := spec_Steps.mono_l k
  refine ⟨?_, ?_⟩
  ·
   intro y0 y1 y2 y3
   unfold spec_Steps.j0
   repeat' first | (with_reducible exact ih0 _ _ _ _) | (with_reducible exact ih1 _ _ _ _ _) | (with_reducible exact spec_Number.mono _ _) | (with_reducible exact spec_Split.mono _ _ _) | (with_reducible exact spec_TxsOf.mono _ _) | (with_reducible exact spec_l2Cut.mono _ _ _) | (with_reducible exact LeO.refl _) | (with_reducible exact LeO.none _) | (with_reducible refine LeO.ite ?_ ?_) | (with_reducible refine LeO.bind ?_ (fun _ => ?_))
  intro y0 y1 y2 y3 y4
  unfold spec_Steps.l0
  repeat' first | (with_reducible exact ih0 _ _ _ _) | (with_reducible exact ih1 _ _ _ _ _) | (with_reducible exact spec_Number.mono _ _) | (with_reducible exact spec_Split.mono _ _ _) | (with_reducible exact spec_TxsOf.mono _ _) | (with_reducible exact spec_l2Cut.mono _ _ _) | (with_reducible exact LeO.refl _) | (with_reducible exact LeO.none _) | (with_reducible refine LeO.ite ?_ ?_) | (with_reducible refine LeO.bind ?_ (fun _ => ?_))
theorem spec_Steps.mono : ∀ a0 k, LeO (spec_Steps.f k a0) (spec_Steps.f (k + 1) a0) := by
 intro a0 k
 obtain ⟨ih0, ih1⟩ := spec_Steps.mono_l k
 unfold spec_Steps.f
 repeat' first | (with_reducible exact ih0 _ _ _ _) | (with_reducible exact ih1 _ _ _ _ _) | (with_reducible exact spec_Number.mono _ _) | (with_reducible exact spec_Split.mono _ _ _) | (with_reducible exact spec_TxsOf.mono _ _) | (with_reducible exact spec_l2Cut.mono _ _ _) | (with_reducible exact LeO.refl _) | (with_reducible exact LeO.none _) | (with_reducible refine LeO.ite ?_ ?_) | (with_reducible refine LeO.bind ?_ (fun _ => ?_))
set_option maxHeartbeats 8000000 in
set_option maxRecDepth 100000 in
theorem spec_Steps.calls (k : Nat) (a0 : ByteArray) (r1 : List (S150)) (r2 : Bool) (w : World) (h : spec_Steps.f k a0 = some (r1, r2)) :
  Calls Tryz.prog 131 #[.string a0] w fun e w' => ∃ v0_ : Value, e = .returned (.tuple #[v0_, .bool r2]) ∧ Kd.S k150 150 w' w.heap.size (fun _ => True) v0_ r1 ∧ Below w.heap.size w w' := by
 have hu150 := Tryz.underlying150; have HB := Aside0.mk (Below.refl w.heap.size w)
 have H : ((some (([] : List (S150)) : List (S150))).bind fun y287 => ((some (([] : List (S150)) : List (S150))).bind fun y290 => (if a0.toList = ([] : List UInt8) then (some (y290, true)) else ((spec_Split.f k a0 47).bind fun t293 => (if 0 < (t293.length : Int) then (if (rdOf ByteArray.empty t293 0).toList = ([] : List UInt8) then (spec_Steps.j0 k y287 y290 t293 (decide ((t293.length : Int) > 31))) else (spec_Steps.j0 k y287 y290 t293 true)) else (none)))))) = some (r1, r2) := h
 clear h; obtain ⟨y287, hy287⟩ : ∃ y_ : List (S150), y_ = (([] : List (S150))) := ⟨_, rfl⟩
 replace H : ((some (([] : List (S150)) : List (S150))).bind fun y290 => (if a0.toList = ([] : List UInt8) then (some (y290, true)) else ((spec_Split.f k a0 47).bind fun t293 => (if 0 < (t293.length : Int) then (if (rdOf ByteArray.empty t293 0).toList = ([] : List UInt8) then (spec_Steps.j0 k y287 y290 t293 (decide ((t293.length : Int) > 31))) else (spec_Steps.j0 k y287 y290 t293 true)) else (none))))) = some (r1, r2) := by first | (rw [hy287]; with_reducible exact H) | (have H2_ := (Option.bind_some _ _).symm.trans H; rw [hy287]; with_reducible exact H2_) | (have H2_ := (Option.bind_some _ _).symm.trans H; with_reducible exact H2_) | with_reducible exact H | (rw [hy287]; exact H) | exact H
 have Ny287 := Aside0.mk hy287; clear hy287; obtain ⟨y290, hy290⟩ : ∃ y_ : List (S150), y_ = (([] : List (S150))) := ⟨_, rfl⟩
 replace H : (if a0.toList = ([] : List UInt8) then (some (y290, true)) else ((spec_Split.f k a0 47).bind fun t293 => (if 0 < (t293.length : Int) then (if (rdOf ByteArray.empty t293 0).toList = ([] : List UInt8) then (spec_Steps.j0 k y287 y290 t293 (decide ((t293.length : Int) > 31))) else (spec_Steps.j0 k y287 y290 t293 true)) else (none)))) = some (r1, r2) := by first | (rw [hy290]; with_reducible exact H) | (have H2_ := (Option.bind_some _ _).symm.trans H; rw [hy290]; with_reducible exact H2_) | (have H2_ := (Option.bind_some _ _).symm.trans H; with_reducible exact H2_) | with_reducible exact H | (rw [hy290]; exact H) | exact H
 have Ny290 := Aside0.mk hy290; clear hy290
 by_cases c2 : a0.toList = ([] : List UInt8)
 ·
  rw [if_pos c2] at H
  have c2b0 : (a0.toList == ([] : List UInt8)) = true := beq_iff_eq.mpr c2; have c2b1 : (a0.toList != ([] : List UInt8)) = false := bne_eq_false_iff_eq.mpr c2; clear c2
  simp only [Option.some.injEq, Prod.mk.injEq] at H
  obtain ⟨rfl, rfl⟩ := H
  go_enter Tryz.func131, Tryz.ntmps131
  go_wp2_with (first | ((with_reducible refine gate_dst (N := 16) rfl ?_); (try (refine gate_guard (by rfl) ?_; dsimp only)); refine Kd.S_lit k150 _ 150 ?hg (N := 16) ?hd (xs := ([] : List (S150))) (inner := []) (ok := fun _ => True) (okp := fun _ => True) ?hr ?hp (fun _ hk => hk) trivial (Below.refl _ _) (Nat.le_refl _) (by simp) ?_; (case hd => rfl); (case hg => rfl); (case hr => first | (go_simp; done) | (go_simp; rfl)); (case hp => exact (Reps.none _ _)); intro v288 w3 ho4 hb hg_ hnew_; clear hg_ hnew_; (first | rw [← Ny287.out] at ho4 | (simp only [Int.reduceToNat] at ho4; rw [← Ny287.out] at ho4)); have HO289 := Aside0.mk (Kd.S_lower ho4 (below_size (bI HB.out))); replace HB := bs HB hb; clear hb ho4) | ((with_reducible refine gate_dst (N := 17) rfl ?_); (try (refine gate_guard (by rfl) ?_; dsimp only)); refine Kd.S_lit k150 _ 150 ?hg (N := 17) ?hd (xs := ([] : List (S150))) (inner := []) (ok := fun _ => True) (okp := fun _ => True) ?hr ?hp (fun _ hk => hk) trivial (Below.refl _ _) (Nat.le_refl _) (by simp) ?_; (case hd => rfl); (case hg => rfl); (case hr => first | (go_simp; done) | (go_simp; rfl)); (case hp => exact (Reps.none _ _)); intro v291 w5 ho6 hb hg_ hnew_; clear hg_ hnew_; (first | rw [← Ny290.out] at ho6 | (simp only [Int.reduceToNat] at ho6; rw [← Ny290.out] at ho6)); have HO292 := Aside0.mk (Kd.S_lower (Kd.S_new' ho6 (Kd.S_lt (sI HO289.out))) (below_size (bI HB.out))); replace HO289 := Aside0.mk (Kd.S_elder' (sI HO289.out) (Kd.S_base ho6) hb); replace HB := bs HB hb; clear hb ho6))
  go_ret2
  exact ⟨_, y0_14, by (with_reducible repeat (first | apply Kd.S_alloc | apply Kd.S_drewN | apply Kd.S_drew)); exact Kd.S_mono HO292.out (fun _ hk => trivial), bI HB.out⟩
 rw [if_neg c2] at H
 have c2b0 : (a0.toList == ([] : List UInt8)) = false := beq_eq_false_iff_ne.mpr c2; have c2b1 : (a0.toList != ([] : List UInt8)) = true := bne_iff_ne.mpr c2; obtain ⟨t293, A70, H⟩ := Option.bind_eq_some_iff.mp H
 try dsimp only at H
 have A7 := Aside0.mk A70; clear A70; have HC8 := Aside0.mk H; clear H
 go_enter Tryz.func131, Tryz.ntmps131
 go_upto_region 6 with (first | ((with_reducible refine gate_dst (N := 16) rfl ?_); (try (refine gate_guard (by rfl) ?_; dsimp only)); refine Kd.S_lit k150 _ 150 ?hg (N := 16) ?hd (xs := ([] : List (S150))) (inner := []) (ok := fun _ => True) (okp := fun _ => True) ?hr ?hp (fun _ hk => hk) trivial (Below.refl _ _) (Nat.le_refl _) (by simp) ?_; (case hd => rfl); (case hg => rfl); (case hr => first | (go_simp; done) | (go_simp; rfl)); (case hp => exact (Reps.none _ _)); intro v288 w9 ho10 hb hg_ hnew_; clear hg_ hnew_; (first | rw [← Ny287.out] at ho10 | (simp only [Int.reduceToNat] at ho10; rw [← Ny287.out] at ho10)); have HO289 := Aside0.mk (Kd.S_lower ho10 (below_size (bI HB.out))); replace HB := bs HB hb; clear hb ho10) | ((with_reducible refine gate_dst (N := 17) rfl ?_); (try (refine gate_guard (by rfl) ?_; dsimp only)); refine Kd.S_lit k150 _ 150 ?hg (N := 17) ?hd (xs := ([] : List (S150))) (inner := []) (ok := fun _ => True) (okp := fun _ => True) ?hr ?hp (fun _ hk => hk) trivial (Below.refl _ _) (Nat.le_refl _) (by simp) ?_; (case hd => rfl); (case hg => rfl); (case hr => first | (go_simp; done) | (go_simp; rfl)); (case hp => exact (Reps.none _ _)); intro v291 w11 ho12 hb hg_ hnew_; clear hg_ hnew_; (first | rw [← Ny290.out] at ho12 | (simp only [Int.reduceToNat] at ho12; rw [← Ny290.out] at ho12)); have HO292 := Aside0.mk (Kd.S_lower (Kd.S_new' ho12 (Kd.S_lt (sI HO289.out))) (below_size (bI HB.out))); replace HO289 := Aside0.mk (Kd.S_elder' (sI HO289.out) (Kd.S_base ho12) hb); replace HB := bs HB hb; clear hb ho12) | ((with_reducible refine gate_callee (f := 197) rfl ?_); refine gB (some 22) Tryz.func197 #[.string a0, .int .u8 47] ?_; (with_reducible refine (spec_Split.calls k a0 47 t293 _ A7.out).mono ?_); rintro e w13 ⟨v294, rfl, ho0, hb⟩; refine ⟨_, rfl, ?_⟩; replace HO289 := sb HO289 hb; replace HO292 := sb HO292 hb; have HO295 := Aside0.mk (Kd.R_lower ho0 (below_size (bI HB.out))); replace HB := bs HB hb; (try clear hb); (try clear ho0)))
 (try simp only [Act.put, List.setIfInBounds_toArray, List.set_cons_zero, List.set_cons_succ])
 go_cut [31] (fun v31 wc => ∃ (kq : Nat) (x31_7 : Bool), v31 = .bool x31_7 ∧ Aside0 (spec_Steps.j0 kq y287 y290 t293 x31_7 = some (r1, r2)) ∧ Aside0 (kq ≤ k) ∧ Aside0 (Kd.S k150 150 wc w.heap.size (fun k_ => some k_ ≠ (v291 : Value).ownBlock) v288 y287) ∧ Aside0 (Kd.S k150 150 wc w.heap.size (fun k_ => some k_ ≠ (v288 : Value).ownBlock) v291 y290) ∧ Aside0 (Kd.R Kd.string 9 wc w.heap.size (fun _ => True) v294 t293) ∧ Aside0 (Below w.heap.size w wc))
 case first =>
  have H := HC8.out; clear HC8
  by_cases c14 : 0 < (t293.length : Int)
  rotate_left
  ·
   rw [if_neg c14] at H
   exact absurd H (by simp)
  rw [if_pos c14] at H
  have c14b0 : decide (0 < (t293.length : Int)) = true := decide_eq_true c14
  have c14b1 : decide (0 < t293.length) = true := decide_eq_true (by omega)
  clear c14
  (first | rw [c14b0] | (simp only [i64_w, i32_w]; rw [c14b0]) | skip)
  by_cases c15 : (rdOf ByteArray.empty t293 0).toList = ([] : List UInt8)
  ·
   rw [if_pos c15] at H
   have c15b0 : ((rdOf ByteArray.empty t293 0).toList == ([] : List UInt8)) = true := beq_iff_eq.mpr c15; have c15b1 : ((rdOf ByteArray.empty t293 0).toList != ([] : List UInt8)) = false := bne_eq_false_iff_eq.mpr c15; clear c15; have H' := Aside0.mk H; clear H; obtain ⟨Ao16, co16, eo16⟩ := Kd.R_slice HO295.out; subst eo16
   have p296 : 0 ≤ (0 : Int) := (by omega)
   have q296 : 0 < (t293.length : Int) := of_decide_eq_true y0_17; obtain ⟨ad296, e296, hx296_0⟩ := Kd.at_string (Kd.R_reads' HO295.out).2.2 0 p296 q296; cases e296
   have qi296 : (0 < t293.length) = True := eq_true (by omega)
   (try rw [show ((0 : Int)).toNat = 0 from rfl] at hx296_0)
   (try rw [Addr.add_zero'] at hx296_0)
   replace p296 := eq_true p296; replace q296 := eq_true q296
   go_wp2
   go_meet
   case rel => exact ⟨_, (decide ((t293.length : Int) > 31)), y0_18, H', ⟨y0_19⟩, ⟨by (with_reducible repeat (first | apply Kd.S_alloc | apply Kd.S_drewN | apply Kd.S_drew)); exact Kd.S_mono HO289.out (fun _ hk => hk.2)⟩, ⟨by (with_reducible repeat (first | apply Kd.S_alloc | apply Kd.S_drewN | apply Kd.S_drew)); exact Kd.S_mono HO292.out (fun _ hk => hk.2)⟩, ⟨by (with_reducible repeat (first | apply Kd.R_alloc | apply Kd.R_drewN | apply Kd.R_drew)); exact HO295.out⟩, ⟨bI HB.out⟩⟩
  rw [if_neg c15] at H
  have c15b0 : ((rdOf ByteArray.empty t293 0).toList == ([] : List UInt8)) = false := beq_eq_false_iff_ne.mpr c15; have c15b1 : ((rdOf ByteArray.empty t293 0).toList != ([] : List UInt8)) = true := bne_iff_ne.mpr c15; have H' := Aside0.mk H; clear H; obtain ⟨Ao17, co17, eo17⟩ := Kd.R_slice HO295.out; subst eo17
  have p296 : 0 ≤ (0 : Int) := (by omega)
  have q296 : 0 < (t293.length : Int) := of_decide_eq_true y0_17; obtain ⟨ad296, e296, hx296_0⟩ := Kd.at_string (Kd.R_reads' HO295.out).2.2 0 p296 q296; cases e296
  have qi296 : (0 < t293.length) = True := eq_true (by omega)
  (try rw [show ((0 : Int)).toNat = 0 from rfl] at hx296_0)
  (try rw [Addr.add_zero'] at hx296_0)
  replace p296 := eq_true p296; replace q296 := eq_true q296
  go_wp2
  go_meet
  case rel => exact ⟨_, (true), y0_18, H', ⟨y0_19⟩, ⟨by (with_reducible repeat (first | apply Kd.S_alloc | apply Kd.S_drewN | apply Kd.S_drew)); exact Kd.S_mono HO289.out (fun _ hk => hk.2)⟩, ⟨by (with_reducible repeat (first | apply Kd.S_alloc | apply Kd.S_drewN | apply Kd.S_drew)); exact Kd.S_mono HO292.out (fun _ hk => hk.2)⟩, ⟨by (with_reducible repeat (first | apply Kd.R_alloc | apply Kd.R_drewN | apply Kd.R_drew)); exact HO295.out⟩, ⟨bI HB.out⟩⟩
 case rest =>
  clear HC8
  try clear c1
  try clear c2
  try clear c2b0
  try clear c2b1
  try clear p2
  try clear q2
  try clear hx2
  try clear qi2
  try clear c13
  try clear c14
  try clear c14b0
  try clear c14b1
  try clear c15
  try clear c15b0
  try clear c15b1
  try clear hx296_0
  try clear p296
  try clear q296
  obtain ⟨kq, x31_7, rfl, HA, HJ7, HO_4, HO_5, HO_6, HB⟩ := hcut; cases kq with
  | zero => exact absurd HA.out (by simp [spec_Steps.j0])
  | succ kj7 =>
   have H := HA.out; clear HA
   simp only [spec_Steps.j0] at H
   by_cases c18 : x31_7 = true
   ·
    subst c18
    rw [if_pos rfl] at H
    simp only [Option.some.injEq, Prod.mk.injEq] at H
    obtain ⟨rfl, rfl⟩ := H
    go_wp2
    go_ret2
    exact ⟨_, y0_14, y0_11, bI HB.out⟩
   replace c18 := Bool.eq_false_iff.mpr c18; subst c18
   rw [if_neg (show ¬ (false = true) by decide)] at H
   have H' := Aside0.mk H; clear H
   go_wp2
   go_loopg [5, 7, 8] kj7 (fun kq v5 v7 v8 w' => ∃ (x5_2 : List (S150)) (x7_2 : Int) (x8_2 : Int), v7 = .int .i64 x7_2 ∧ v8 = .int .i64 x8_2 ∧ Aside0 (spec_Steps.l0 kq y287 x5_2 t293 x7_2 x8_2 = some (r1, r2)) ∧ Aside0 (kq ≤ kj7) ∧ Aside0 (Kd.S k150 150 w' w.heap.size (fun k_ => some k_ ≠ (v5 : Value).ownBlock) v288 y287) ∧ Aside0 (Kd.S k150 150 w' w.heap.size (fun k_ => some k_ ≠ (v288 : Value).ownBlock) v5 x5_2) ∧ Aside0 (Kd.R Kd.string 9 w' w.heap.size (fun _ => True) v294 t293) ∧ Aside0 (Below w.heap.size w w'))
   case atStart => exact ⟨(y290), (0), (1), y0_18, y0_18, H', ⟨Nat.le_refl _⟩, ⟨by (with_reducible repeat (first | apply Kd.S_alloc | apply Kd.S_drewN | apply Kd.S_drew)); exact HO_4.out⟩, ⟨by (with_reducible repeat (first | apply Kd.S_alloc | apply Kd.S_drewN | apply Kd.S_drew)); exact HO_5.out⟩, ⟨by (with_reducible repeat (first | apply Kd.R_alloc | apply Kd.R_drewN | apply Kd.R_drew)); exact HO_6.out⟩, ⟨bI HB.out⟩⟩
   case round =>
    clear H'
    try clear c1
    try clear c2
    try clear c2b0
    try clear c2b1
    try clear p2
    try clear q2
    try clear hx2
    try clear qi2
    try clear c13
    try clear c14
    try clear c14b0
    try clear c14b1
    try clear c15
    try clear c15b0
    try clear c15b1
    try clear c18
    try clear hx296_0
    try clear p2
    try clear p296
    try clear q2
    try clear q296
    obtain ⟨x5_2, x7_2, x8_2, rfl, rfl, HA, HK2, HO_4, HO_5, HO_6, HB⟩ := hrel; cases gk with
    | zero => exact absurd HA.out (by simp [spec_Steps.l0])
    | succ k2 =>
     have H := HA.out; clear HA
     simp only [spec_Steps.l0] at H
     by_cases c19 : x8_2 < (t293.length : Int)
     ·
      rw [if_pos c19] at H
      have c19b0 : decide (x8_2 < (t293.length : Int)) = true := decide_eq_true c19; clear c19
      by_cases c20 : 0 ≤ x8_2
      rotate_left
      ·
       rw [if_neg c20] at H
       exact absurd H (by simp)
      rw [if_pos c20] at H
      have c20b0 : decide (0 ≤ x8_2) = true := decide_eq_true c20; clear c20; obtain ⟨⟨t298, t299, t300⟩, A210, H⟩ := Option.bind_eq_some_iff.mp H
      try dsimp only at H
      have A21 := Aside0.mk A210; clear A210; obtain ⟨⟨t301, t302⟩, A220, H⟩ := Option.bind_eq_some_iff.mp H
      try dsimp only at H
      have A22 := Aside0.mk A220; clear A220; obtain ⟨⟨t303, t304⟩, A230, H⟩ := Option.bind_eq_some_iff.mp H
      try dsimp only at H
      have A23 := Aside0.mk A230; clear A230
      by_cases c24 : t300 = true
      ·
       subst c24
       rw [if_pos rfl] at H
       by_cases c25 : t302 = true
       ·
        subst c25
        rw [if_pos rfl] at H
        by_cases c26 : t304 = true
        ·
         subst c26
         rw [if_pos rfl] at H
         by_cases c27 : t301 ≤ x7_2
         ·
          rw [if_pos c27] at H
          have c27b0 : decide (t301 ≤ x7_2) = true := decide_eq_true c27; clear c27
          simp only [Option.some.injEq, Prod.mk.injEq] at H
          obtain ⟨rfl, rfl⟩ := H; obtain ⟨Ao28, co28, eo28⟩ := Kd.R_slice HO_6.out; subst eo28; have p297 : 0 ≤ (x8_2 : Int) := of_decide_eq_true y0_17; have q297 : x8_2 < (t293.length : Int) := of_decide_eq_true y0_17; obtain ⟨ad297, e297, hx297_0⟩ := Kd.at_string (Kd.R_reads' HO_6.out).2.2 x8_2 p297 q297; cases e297; replace p297 := eq_true p297; replace q297 := eq_true q297
          go_wp2_with (first | ((with_reducible refine gate_callee (f := 198) rfl ?_); refine gB (some 44) Tryz.func198 #[.string (rdOf ByteArray.empty t293 x8_2), .int .u8 124] ?_; (with_reducible refine (spec_l2Cut.calls k2 (rdOf ByteArray.empty t293 x8_2) 124 t298 t299 true _ A21.out).mono ?_); rintro e w' ⟨rfl, ⟨nd, rfl⟩⟩; refine ⟨_, rfl, ?_⟩) | ((with_reducible refine gate_callee (f := 199) rfl ?_); refine gB (some 50) Tryz.func199 #[.string t298] ?_; (with_reducible refine (spec_Number.calls k2 t298 t301 true _ A22.out).mono ?_); rintro e w29 ⟨rfl, hb⟩; refine ⟨_, rfl, ?_⟩; replace HO_4 := sb HO_4 hb; replace HO_5 := sb HO_5 hb; replace HO_6 := rb HO_6 hb; replace HB := bs HB hb; (try clear hb); (try clear hb2); (try clear hk); (try clear hi)) | ((with_reducible refine gate_callee (f := 200) rfl ?_); refine gB (some 55) Tryz.func200 #[.string t299] ?_; (with_reducible refine (spec_TxsOf.calls k2 t299 t303 true _ A23.out).mono ?_); rintro e w30 ⟨v305, rfl, ho0, hb⟩; refine ⟨_, rfl, ?_⟩; replace HO_4 := Aside0.mk (Kd.S_elder' (sI HO_4.out) (Kd.R_base ho0) hb); replace HO_5 := Aside0.mk (Kd.S_elder' (sI HO_5.out) (Kd.R_base ho0) hb); replace HO_6 := rb HO_6 hb; have HO306 := Aside0.mk (Kd.R_lower ho0 (below_size (bI HB.out))); replace HB := bs HB hb; (try clear hb)))
          go_ret2
          exact ⟨_, y0_14, y0_11, bI HB.out⟩
         rw [if_neg c27] at H
         have c27b0 : decide (t301 ≤ x7_2) = false := decide_eq_false c27; clear c27
         by_cases c31 : t301 > 60
         ·
          rw [if_pos c31] at H
          have c31b0 : decide (60 < t301) = true := decide_eq_true c31; clear c31
          simp only [Option.some.injEq, Prod.mk.injEq] at H
          obtain ⟨rfl, rfl⟩ := H; obtain ⟨Ao32, co32, eo32⟩ := Kd.R_slice HO_6.out; subst eo32; have p297 : 0 ≤ (x8_2 : Int) := of_decide_eq_true y0_17; have q297 : x8_2 < (t293.length : Int) := of_decide_eq_true y0_17; obtain ⟨ad297, e297, hx297_0⟩ := Kd.at_string (Kd.R_reads' HO_6.out).2.2 x8_2 p297 q297; cases e297; replace p297 := eq_true p297; replace q297 := eq_true q297
          go_wp2_with (first | ((with_reducible refine gate_callee (f := 198) rfl ?_); refine gB (some 44) Tryz.func198 #[.string (rdOf ByteArray.empty t293 x8_2), .int .u8 124] ?_; (with_reducible refine (spec_l2Cut.calls k2 (rdOf ByteArray.empty t293 x8_2) 124 t298 t299 true _ A21.out).mono ?_); rintro e w' ⟨rfl, ⟨nd, rfl⟩⟩; refine ⟨_, rfl, ?_⟩) | ((with_reducible refine gate_callee (f := 199) rfl ?_); refine gB (some 50) Tryz.func199 #[.string t298] ?_; (with_reducible refine (spec_Number.calls k2 t298 t301 true _ A22.out).mono ?_); rintro e w33 ⟨rfl, hb⟩; refine ⟨_, rfl, ?_⟩; replace HO_4 := sb HO_4 hb; replace HO_5 := sb HO_5 hb; replace HO_6 := rb HO_6 hb; replace HB := bs HB hb; (try clear hb); (try clear hb2); (try clear hk); (try clear hi)) | ((with_reducible refine gate_callee (f := 200) rfl ?_); refine gB (some 55) Tryz.func200 #[.string t299] ?_; (with_reducible refine (spec_TxsOf.calls k2 t299 t303 true _ A23.out).mono ?_); rintro e w34 ⟨v305, rfl, ho0, hb⟩; refine ⟨_, rfl, ?_⟩; replace HO_4 := Aside0.mk (Kd.S_elder' (sI HO_4.out) (Kd.R_base ho0) hb); replace HO_5 := Aside0.mk (Kd.S_elder' (sI HO_5.out) (Kd.R_base ho0) hb); replace HO_6 := rb HO_6 hb; have HO306 := Aside0.mk (Kd.R_lower ho0 (below_size (bI HB.out))); replace HB := bs HB hb; (try clear hb)))
          go_ret2
          exact ⟨_, y0_14, y0_11, bI HB.out⟩
         rw [if_neg c31] at H
         have c31b0 : decide (60 < t301) = false := decide_eq_false c31; clear c31
         by_cases c35 : (t303.length : Int) > 2
         ·
          rw [if_pos c35] at H
          have c35b0 : decide (2 < (t303.length : Int)) = true := decide_eq_true c35
          have c35b1 : decide (2 < t303.length) = true := decide_eq_true (by omega)
          clear c35
          simp only [Option.some.injEq, Prod.mk.injEq] at H
          obtain ⟨rfl, rfl⟩ := H; obtain ⟨Ao36, co36, eo36⟩ := Kd.R_slice HO_6.out; subst eo36; have p297 : 0 ≤ (x8_2 : Int) := of_decide_eq_true y0_17; have q297 : x8_2 < (t293.length : Int) := of_decide_eq_true y0_17; obtain ⟨ad297, e297, hx297_0⟩ := Kd.at_string (Kd.R_reads' HO_6.out).2.2 x8_2 p297 q297; cases e297; replace p297 := eq_true p297; replace q297 := eq_true q297
          go_wp2_with (first | ((with_reducible refine gate_callee (f := 198) rfl ?_); refine gB (some 44) Tryz.func198 #[.string (rdOf ByteArray.empty t293 x8_2), .int .u8 124] ?_; (with_reducible refine (spec_l2Cut.calls k2 (rdOf ByteArray.empty t293 x8_2) 124 t298 t299 true _ A21.out).mono ?_); rintro e w' ⟨rfl, ⟨nd, rfl⟩⟩; refine ⟨_, rfl, ?_⟩) | ((with_reducible refine gate_callee (f := 199) rfl ?_); refine gB (some 50) Tryz.func199 #[.string t298] ?_; (with_reducible refine (spec_Number.calls k2 t298 t301 true _ A22.out).mono ?_); rintro e w37 ⟨rfl, hb⟩; refine ⟨_, rfl, ?_⟩; replace HO_4 := sb HO_4 hb; replace HO_5 := sb HO_5 hb; replace HO_6 := rb HO_6 hb; replace HB := bs HB hb; (try clear hb); (try clear hb2); (try clear hk); (try clear hi)) | ((with_reducible refine gate_callee (f := 200) rfl ?_); refine gB (some 55) Tryz.func200 #[.string t299] ?_; (with_reducible refine (spec_TxsOf.calls k2 t299 t303 true _ A23.out).mono ?_); rintro e w38 ⟨v305, rfl, ho0, hb⟩; refine ⟨_, rfl, ?_⟩; replace HO_4 := Aside0.mk (Kd.S_elder' (sI HO_4.out) (Kd.R_base ho0) hb); replace HO_5 := Aside0.mk (Kd.S_elder' (sI HO_5.out) (Kd.R_base ho0) hb); replace HO_6 := rb HO_6 hb; have HO306 := Aside0.mk (Kd.R_lower ho0 (below_size (bI HB.out))); replace HB := bs HB hb; (try clear hb); obtain ⟨Ao39, co39, eo39⟩ := Kd.R_slice HO306.out; subst eo39))
          go_ret2
          exact ⟨_, y0_14, y0_11, bI HB.out⟩
         rw [if_neg c35] at H
         have c35b0 : decide (2 < (t303.length : Int)) = false := decide_eq_false c35
         have c35b1 : decide (2 < t303.length) = false := decide_eq_false (by omega)
         clear c35
         by_cases c40 : x5_2.length < 4398046511104
         rotate_left
         ·
          rw [if_neg c40] at H
          exact absurd H (by simp)
         rw [if_pos c40] at H
         have LMc40 := Aside0.mk c40; clear c40; obtain ⟨y307, hy307⟩ : ∃ y_ : List (S150), y_ = (x5_2 ++ [(⟨t301, t303⟩ : S150)]) := ⟨_, rfl⟩
         replace H : (spec_Steps.l0 k2 y287 y307 t293 t301 (wrap64 (x8_2 + 1))) = some (r1, r2) := by first | (rw [hy307]; with_reducible exact H) | (have H2_ := (Option.bind_some _ _).symm.trans H; rw [hy307]; with_reducible exact H2_) | (have H2_ := (Option.bind_some _ _).symm.trans H; with_reducible exact H2_) | with_reducible exact H | (rw [hy307]; exact H) | exact H
         have Ny307 := Aside0.mk hy307; clear hy307; have H' := Aside0.mk H; clear H; obtain ⟨Ao41, co41, eo41⟩ := Kd.R_slice HO_6.out; subst eo41; have p297 : 0 ≤ (x8_2 : Int) := of_decide_eq_true y0_17; have q297 : x8_2 < (t293.length : Int) := of_decide_eq_true y0_17; obtain ⟨ad297, e297, hx297_0⟩ := Kd.at_string (Kd.R_reads' HO_6.out).2.2 x8_2 p297 q297; cases e297; replace p297 := eq_true p297; replace q297 := eq_true q297
         go_wp2_with (first | ((with_reducible refine gate_callee (f := 198) rfl ?_); refine gB (some 44) Tryz.func198 #[.string (rdOf ByteArray.empty t293 x8_2), .int .u8 124] ?_; (with_reducible refine (spec_l2Cut.calls k2 (rdOf ByteArray.empty t293 x8_2) 124 t298 t299 true _ A21.out).mono ?_); rintro e w' ⟨rfl, ⟨nd, rfl⟩⟩; refine ⟨_, rfl, ?_⟩) | ((with_reducible refine gate_callee (f := 199) rfl ?_); refine gB (some 50) Tryz.func199 #[.string t298] ?_; (with_reducible refine (spec_Number.calls k2 t298 t301 true _ A22.out).mono ?_); rintro e w42 ⟨rfl, hb⟩; refine ⟨_, rfl, ?_⟩; replace HO_4 := sb HO_4 hb; replace HO_5 := sb HO_5 hb; replace HO_6 := rb HO_6 hb; replace HB := bs HB hb; (try clear hb); (try clear hb2); (try clear hk); (try clear hi)) | ((with_reducible refine gate_callee (f := 200) rfl ?_); refine gB (some 55) Tryz.func200 #[.string t299] ?_; (with_reducible refine (spec_TxsOf.calls k2 t299 t303 true _ A23.out).mono ?_); rintro e w43 ⟨v305, rfl, ho0, hb⟩; refine ⟨_, rfl, ?_⟩; replace HO_4 := Aside0.mk (Kd.S_elder' (sI HO_4.out) (Kd.R_base ho0) hb); replace HO_5 := Aside0.mk (Kd.S_elder' (sI HO_5.out) (Kd.R_base ho0) hb); replace HO_6 := rb HO_6 hb; have HO306 := Aside0.mk (Kd.R_lower ho0 (below_size (bI HB.out))); replace HB := bs HB hb; (try clear hb); obtain ⟨Ao44, co44, eo44⟩ := Kd.R_slice HO306.out; subst eo44) | ((with_reducible refine gate_builtin (b := .append) (xs := #[.tmp 84, .tmp 88]) rfl ?_); (try (refine gate_guard (by rfl) ?_; dsimp only)); at_builtin; refine Kd.S_append k150 (w0 := w) w.heap.size rfl (.tmp 84) (.tmp 88) 146 150 (.agg #[(.int .i64 0), (.slice none 0 0)]) 32 rfl Tryz.underlying146 info150 rfl (by decide) (by omega) u5 x5_2 (⟨t301, t303⟩ : S150) [.int .i64 t301, .slice Ao44 t303.length co44] (fun k_ => some k_ ≠ (v288 : Value).ownBlock) (fun k_ => some k_ = (.slice Ao44 t303.length co44 : Value).ownBlock) rfl rfl ?aP (fun k_ hk_ => ((Kd.R_mono (ok' := fun k_ => ((fun k_ => some k_ ≠ (v288 : Value).ownBlock)) k_ ∧ some k_ ≠ (u5 : Value).ownBlock) (Kd.R_apart' (Kd.R_apart' (HO306.out) (Kd.S_typed HO_4.out) (by decide)) (Kd.S_typed HO_5.out) (by decide)) (fun k_ hk => ⟨hk.1.2, hk.2⟩))).1 k_ hk_.symm) ?aF ?aO ?aB ?aS ?aL ?_; (case aP => exact k150_mkM _ _ _ (⟨t301, t303⟩ : S150) (Kd.R_mono (Kd.R_tight rfl (Kd.R_mono (ok' := fun k_ => ((fun k_ => some k_ ≠ (v288 : Value).ownBlock)) k_ ∧ some k_ ≠ (u5 : Value).ownBlock) (Kd.R_apart' (Kd.R_apart' (HO306.out) (Kd.S_typed HO_4.out) (by decide)) (Kd.S_typed HO_5.out) (by decide)) (fun k_ hk => ⟨hk.1.2, hk.2⟩))) (fun _ h_ => h_))); (case aB => exact (bI HB.out)); (case aF => exact (fun k_ hk => Kd.fresh' (Kd.S_lt (sI HO_4.out)) k_ hk)); (case aO => exact (sI (Kd.S_mono HO_5.out (fun k_ hk => ⟨hk.1, fun e_ => hk.2 e_⟩)))); (case aS => exact (below_size (bI HB.out))); (case aL => have := LMc40.out; omega); intro v308 w45 ho hb hg hat; rw [← Ny307.out] at ho; have n0_ := Aside0.mk (Kd.S_after (ok := (fun k_ => some k_ ≠ (.slice Ao44 t303.length co44 : Value).ownBlock)) (sI (Kd.S_mono HO_4.out (fun _ hk => ⟨hk.2, hk.1⟩))) hg hat); have n1_ := Aside0.mk (Kd.R_over' (rI HO_6.out) (Kd.S_typed (sI HO_5.out)) (by decide) hg); have n2_ := Aside0.mk (hb); have n3_ := Aside0.mk (ho); clear HO_4; clear HO_6; clear HB; clear HO_5; clear HO306; have HO_4 := n0_; have HO_6 := n1_; have HB := n2_; have HO309 := n3_; clear n0_ n1_ n2_ n3_; clear ho hb hg hat))
         go_roundg k2
         case measure => have := HJ7.out; have := HK2.out; omega
         case rel => exact ⟨(y307), (t301), (wrap64 (x8_2 + 1)), y0_18, y0_18, H', ⟨by have := HJ7.out; have := HK2.out; omega⟩, ⟨by (with_reducible repeat (first | apply Kd.S_alloc | apply Kd.S_drewN | apply Kd.S_drew)); exact Kd.S_mono HO_4.out (fun _ hk => hk.2)⟩, ⟨by (with_reducible repeat (first | apply Kd.S_alloc | apply Kd.S_drewN | apply Kd.S_drew)); exact HO309.out⟩, ⟨by (with_reducible repeat (first | apply Kd.R_alloc | apply Kd.R_drewN | apply Kd.R_drew)); exact HO_6.out⟩, ⟨bI HB.out⟩⟩
        replace c26 := Bool.eq_false_iff.mpr c26; subst c26
        rw [if_neg (show ¬ (false = true) by decide)] at H
        simp only [Option.some.injEq, Prod.mk.injEq] at H
        obtain ⟨rfl, rfl⟩ := H; obtain ⟨Ao46, co46, eo46⟩ := Kd.R_slice HO_6.out; subst eo46; have p297 : 0 ≤ (x8_2 : Int) := of_decide_eq_true y0_17; have q297 : x8_2 < (t293.length : Int) := of_decide_eq_true y0_17; obtain ⟨ad297, e297, hx297_0⟩ := Kd.at_string (Kd.R_reads' HO_6.out).2.2 x8_2 p297 q297; cases e297; replace p297 := eq_true p297; replace q297 := eq_true q297
        go_wp2_with (first | ((with_reducible refine gate_callee (f := 198) rfl ?_); refine gB (some 44) Tryz.func198 #[.string (rdOf ByteArray.empty t293 x8_2), .int .u8 124] ?_; (with_reducible refine (spec_l2Cut.calls k2 (rdOf ByteArray.empty t293 x8_2) 124 t298 t299 true _ A21.out).mono ?_); rintro e w' ⟨rfl, ⟨nd, rfl⟩⟩; refine ⟨_, rfl, ?_⟩) | ((with_reducible refine gate_callee (f := 199) rfl ?_); refine gB (some 50) Tryz.func199 #[.string t298] ?_; (with_reducible refine (spec_Number.calls k2 t298 t301 true _ A22.out).mono ?_); rintro e w47 ⟨rfl, hb⟩; refine ⟨_, rfl, ?_⟩; replace HO_4 := sb HO_4 hb; replace HO_5 := sb HO_5 hb; replace HO_6 := rb HO_6 hb; replace HB := bs HB hb; (try clear hb); (try clear hb2); (try clear hk); (try clear hi)) | ((with_reducible refine gate_callee (f := 200) rfl ?_); refine gB (some 55) Tryz.func200 #[.string t299] ?_; (with_reducible refine (spec_TxsOf.calls k2 t299 t303 false _ A23.out).mono ?_); rintro e w48 ⟨v305, rfl, ho0, hb⟩; refine ⟨_, rfl, ?_⟩; replace HO_4 := Aside0.mk (Kd.S_elder' (sI HO_4.out) (Kd.R_base ho0) hb); replace HO_5 := Aside0.mk (Kd.S_elder' (sI HO_5.out) (Kd.R_base ho0) hb); replace HO_6 := rb HO_6 hb; have HO306 := Aside0.mk (Kd.R_lower ho0 (below_size (bI HB.out))); replace HB := bs HB hb; (try clear hb)))
        go_ret2
        exact ⟨_, y0_14, y0_11, bI HB.out⟩
       replace c25 := Bool.eq_false_iff.mpr c25; subst c25
       rw [if_neg (show ¬ (false = true) by decide)] at H
       simp only [Option.some.injEq, Prod.mk.injEq] at H
       obtain ⟨rfl, rfl⟩ := H; obtain ⟨Ao49, co49, eo49⟩ := Kd.R_slice HO_6.out; subst eo49; have p297 : 0 ≤ (x8_2 : Int) := of_decide_eq_true y0_17; have q297 : x8_2 < (t293.length : Int) := of_decide_eq_true y0_17; obtain ⟨ad297, e297, hx297_0⟩ := Kd.at_string (Kd.R_reads' HO_6.out).2.2 x8_2 p297 q297; cases e297; replace p297 := eq_true p297; replace q297 := eq_true q297
       go_wp2_with (first | ((with_reducible refine gate_callee (f := 198) rfl ?_); refine gB (some 44) Tryz.func198 #[.string (rdOf ByteArray.empty t293 x8_2), .int .u8 124] ?_; (with_reducible refine (spec_l2Cut.calls k2 (rdOf ByteArray.empty t293 x8_2) 124 t298 t299 true _ A21.out).mono ?_); rintro e w' ⟨rfl, ⟨nd, rfl⟩⟩; refine ⟨_, rfl, ?_⟩) | ((with_reducible refine gate_callee (f := 199) rfl ?_); refine gB (some 50) Tryz.func199 #[.string t298] ?_; (with_reducible refine (spec_Number.calls k2 t298 t301 false _ A22.out).mono ?_); rintro e w50 ⟨rfl, hb⟩; refine ⟨_, rfl, ?_⟩; replace HO_4 := sb HO_4 hb; replace HO_5 := sb HO_5 hb; replace HO_6 := rb HO_6 hb; replace HB := bs HB hb; (try clear hb); (try clear hb2); (try clear hk); (try clear hi)) | ((with_reducible refine gate_callee (f := 200) rfl ?_); refine gB (some 55) Tryz.func200 #[.string t299] ?_; (with_reducible refine (spec_TxsOf.calls k2 t299 t303 t304 _ A23.out).mono ?_); rintro e w51 ⟨v305, rfl, ho0, hb⟩; refine ⟨_, rfl, ?_⟩; replace HO_4 := Aside0.mk (Kd.S_elder' (sI HO_4.out) (Kd.R_base ho0) hb); replace HO_5 := Aside0.mk (Kd.S_elder' (sI HO_5.out) (Kd.R_base ho0) hb); replace HO_6 := rb HO_6 hb; have HO306 := Aside0.mk (Kd.R_lower ho0 (below_size (bI HB.out))); replace HB := bs HB hb; (try clear hb)))
       go_ret2
       exact ⟨_, y0_14, y0_11, bI HB.out⟩
      replace c24 := Bool.eq_false_iff.mpr c24; subst c24
      rw [if_neg (show ¬ (false = true) by decide)] at H
      simp only [Option.some.injEq, Prod.mk.injEq] at H
      obtain ⟨rfl, rfl⟩ := H; obtain ⟨Ao52, co52, eo52⟩ := Kd.R_slice HO_6.out; subst eo52; have p297 : 0 ≤ (x8_2 : Int) := of_decide_eq_true y0_17; have q297 : x8_2 < (t293.length : Int) := of_decide_eq_true y0_17; obtain ⟨ad297, e297, hx297_0⟩ := Kd.at_string (Kd.R_reads' HO_6.out).2.2 x8_2 p297 q297; cases e297; replace p297 := eq_true p297; replace q297 := eq_true q297
      go_wp2_with (first | ((with_reducible refine gate_callee (f := 198) rfl ?_); refine gB (some 44) Tryz.func198 #[.string (rdOf ByteArray.empty t293 x8_2), .int .u8 124] ?_; (with_reducible refine (spec_l2Cut.calls k2 (rdOf ByteArray.empty t293 x8_2) 124 t298 t299 false _ A21.out).mono ?_); rintro e w' ⟨rfl, ⟨nd, rfl⟩⟩; refine ⟨_, rfl, ?_⟩) | ((with_reducible refine gate_callee (f := 199) rfl ?_); refine gB (some 50) Tryz.func199 #[.string t298] ?_; (with_reducible refine (spec_Number.calls k2 t298 t301 t302 _ A22.out).mono ?_); rintro e w53 ⟨rfl, hb⟩; refine ⟨_, rfl, ?_⟩; replace HO_4 := sb HO_4 hb; replace HO_5 := sb HO_5 hb; replace HO_6 := rb HO_6 hb; replace HB := bs HB hb; (try clear hb); (try clear hb2); (try clear hk); (try clear hi)) | ((with_reducible refine gate_callee (f := 200) rfl ?_); refine gB (some 55) Tryz.func200 #[.string t299] ?_; (with_reducible refine (spec_TxsOf.calls k2 t299 t303 t304 _ A23.out).mono ?_); rintro e w54 ⟨v305, rfl, ho0, hb⟩; refine ⟨_, rfl, ?_⟩; replace HO_4 := Aside0.mk (Kd.S_elder' (sI HO_4.out) (Kd.R_base ho0) hb); replace HO_5 := Aside0.mk (Kd.S_elder' (sI HO_5.out) (Kd.R_base ho0) hb); replace HO_6 := rb HO_6 hb; have HO306 := Aside0.mk (Kd.R_lower ho0 (below_size (bI HB.out))); replace HB := bs HB hb; (try clear hb)))
      go_ret2
      exact ⟨_, y0_14, y0_11, bI HB.out⟩
     rw [if_neg c19] at H
     have c19b0 : decide (x8_2 < (t293.length : Int)) = false := decide_eq_false c19; clear c19
     simp only [Option.some.injEq, Prod.mk.injEq] at H
     obtain ⟨rfl, rfl⟩ := H; obtain ⟨Ao55, co55, eo55⟩ := Kd.R_slice HO_6.out; subst eo55
     go_wp2
     go_ret2
     exact ⟨_, y0_14, by (with_reducible repeat (first | apply Kd.S_alloc | apply Kd.S_drewN | apply Kd.S_drew)); exact Kd.S_mono HO_5.out (fun _ hk => trivial), bI HB.out⟩

/-! ### spec_NameOk: function 141 -/
def spec_NameOk.f (k : Nat) (a0 : ByteArray) : Option (Bool) := (spec_Steps.f k a0).bind fun bt310 => (some bt310.2)
theorem spec_NameOk.mono : ∀ a0 k, LeO (spec_NameOk.f k a0) (spec_NameOk.f (k + 1) a0) := by
 intro a0 k
 unfold spec_NameOk.f
 repeat' first | (with_reducible exact spec_Steps.mono _ _) | (with_reducible exact LeO.refl _) | (with_reducible exact LeO.none _) | (with_reducible refine LeO.ite ?_ ?_) | (with_reducible refine LeO.bind ?_ (fun _ => ?_))
set_option maxHeartbeats 8000000 in
set_option maxRecDepth 100000 in
theorem spec_NameOk.calls (k : Nat) (a0 : ByteArray) (r : Bool) (w : World) (h : spec_NameOk.f k a0 = some r) :
  Calls Tryz.prog 141 #[.string a0] w fun e w' => e = .returned (.bool r) ∧ Below w.heap.size w w' := by
 have HB := Aside0.mk (Below.refl w.heap.size w)
 have H : ((spec_Steps.f k a0).bind fun bt310 => (some bt310.2)) = some r := h
 clear h; obtain ⟨⟨t310, t311⟩, A20, H⟩ := Option.bind_eq_some_iff.mp H
 try dsimp only at H
 have A2 := Aside0.mk A20; clear A20; obtain rfl := Option.some.inj H
 go_enter Tryz.func141, Tryz.ntmps141
 go_wp2_with (first | ((with_reducible refine gate_callee (f := 131) rfl ?_); refine gS1 (some 7) Tryz.func131 (spec_Steps.calls (w := _) (h := A2.out)) ?_; intro Ao312 co312 w3 _ HO313))
 go_ret
 exact ⟨y0_18, UpW.out⟩

/-! ### spec_TxsText: function 217 -/
def spec_TxsText.l0 : Nat → List (S204) → ByteArray → Int → Option (ByteArray)
 | 0, _, _, _ => none
 | k + 1, x0, x3, x4 => if x4 < (x0.length : Int) then (if 0 ≤ x4 then ((spec_TxOk.f ((rd_T204 x0 x4).f0) ((rd_T204 x0 x4).f1) ((rd_T204 x0 x4).f2) ((rd_T204 x0 x4).f3)).bind fun t315 => (if t315 = true then (if x4 > 0 then (if x3.size + 1 ≤ 9223372036854775807 then ((spec_TxText.f k ((rd_T204 x0 x4).f0) ((rd_T204 x0 x4).f1) ((rd_T204 x0 x4).f2) ((rd_T204 x0 x4).f3)).bind fun t317 => (if (x3 ++ (⟨#[44]⟩ : ByteArray)).size + t317.size ≤ 9223372036854775807 then (spec_TxsText.l0 k x0 ((x3 ++ (⟨#[44]⟩ : ByteArray)) ++ t317) (wrap64 (x4 + 1))) else (none))) else (none)) else ((spec_TxText.f k ((rd_T204 x0 x4).f0) ((rd_T204 x0 x4).f1) ((rd_T204 x0 x4).f2) ((rd_T204 x0 x4).f3)).bind fun t319 => (if x3.size + t319.size ≤ 9223372036854775807 then (spec_TxsText.l0 k x0 (x3 ++ t319) (wrap64 (x4 + 1))) else (none)))) else (some (⟨#[]⟩ : ByteArray)))) else (none)) else (some x3)
def spec_TxsText.f (k : Nat) (l0 : List (S204)) : Option (ByteArray) := spec_TxsText.l0 k l0 (⟨#[]⟩ : ByteArray) 0
theorem spec_TxsText.mono_l : ∀ k, (∀ y0 y1 y2, LeO (spec_TxsText.l0 k y0 y1 y2) (spec_TxsText.l0 (k + 1) y0 y1 y2))
 | 0 => fun _ _ _ r h => by simp [spec_TxsText.l0] at h
 | k + 1 => by
  have ih0 := spec_TxsText.mono_l k
  intro y0 y1 y2
  unfold spec_TxsText.l0
  repeat' first | (with_reducible exact ih0 _ _ _) | (with_reducible exact spec_TxText.mono _ _ _ _ _) | (with_reducible exact LeO.refl _) | (with_reducible exact LeO.none _) | (with_reducible refine LeO.ite ?_ ?_) | (with_reducible refine LeO.bind ?_ (fun _ => ?_))
theorem spec_TxsText.mono : ∀ a0 k, LeO (spec_TxsText.f k a0) (spec_TxsText.f (k + 1) a0) := by
 intro a0 k
 have ih0 := spec_TxsText.mono_l k
 unfold spec_TxsText.f
 repeat' first | (with_reducible exact ih0 _ _ _) | (with_reducible exact spec_TxText.mono _ _ _ _ _) | (with_reducible exact LeO.refl _) | (with_reducible exact LeO.none _) | (with_reducible refine LeO.ite ?_ ?_) | (with_reducible refine LeO.bind ?_ (fun _ => ?_))
set_option maxHeartbeats 8000000 in
set_option maxRecDepth 100000 in
theorem spec_TxsText.calls (k : Nat) (A0 : Option Addr) (c0 : Nat) (l0 : List (S204)) (r : ByteArray) (w : World) (hr0 : Kd.C k204 w A0 l0.length l0) (hc0 : l0.length ≤ c0) (h : spec_TxsText.f k l0 = some r) :
  Calls Tryz.prog 217 #[.slice A0 l0.length c0] w fun e w' => e = .returned (.string r) ∧ Below w.heap.size w w' := by
 have hu204 := Tryz.underlying204; have HR0 := Aside0.mk hr0; have HC0 := Aside0.mk hc0; clear hr0 hc0; have HB := Aside0.mk (Below.refl w.heap.size w); have H : (spec_TxsText.l0 k l0 (⟨#[]⟩ : ByteArray) 0) = some r := h; clear h; have H' := Aside0.mk H; clear H
 go_enter Tryz.func217, Tryz.ntmps217
 go_wp2
 go_loopg [3, 4] k (fun kq v3 v4 w' => ∃ (x3_1 : ByteArray) (x4_1 : Int), v3 = .string x3_1 ∧ v4 = .int .i64 x4_1 ∧ Aside0 (spec_TxsText.l0 kq l0 x3_1 x4_1 = some r) ∧ Aside0 (kq ≤ k) ∧ Aside0 (Below w.heap.size w w'))
 case atStart => exact ⟨((⟨#[]⟩ : ByteArray)), (0), y0_18, y0_18, H', ⟨Nat.le_refl _⟩, ⟨bI HB.out⟩⟩
 case round =>
  clear H'; obtain ⟨x3_1, x4_1, rfl, rfl, HA, HK1, HB⟩ := hrel; cases gk with
  | zero => exact absurd HA.out (by simp [spec_TxsText.l0])
  | succ k1 =>
   have H := HA.out; clear HA
   simp only [spec_TxsText.l0] at H
   by_cases c2 : x4_1 < (l0.length : Int)
   ·
    rw [if_pos c2] at H
    have c2b0 : decide (x4_1 < (l0.length : Int)) = true := decide_eq_true c2; clear c2
    by_cases c3 : 0 ≤ x4_1
    rotate_left
    ·
     rw [if_neg c3] at H
     exact absurd H (by simp)
    rw [if_pos c3] at H
    have c3b0 : decide (0 ≤ x4_1) = true := decide_eq_true c3; clear c3; obtain ⟨t315, A40, H⟩ := Option.bind_eq_some_iff.mp H
    try dsimp only at H
    have A4 := Aside0.mk A40; clear A40
    by_cases c5 : t315 = true
    ·
     subst c5
     rw [if_pos rfl] at H
     by_cases c6 : x4_1 > 0
     ·
      rw [if_pos c6] at H
      have c6b0 : decide (0 < x4_1) = true := decide_eq_true c6; clear c6
      by_cases c7 : x3_1.size + 1 ≤ 9223372036854775807
      rotate_left
      ·
       rw [if_neg c7] at H
       exact absurd H (by simp)
      rw [if_pos c7] at H
      have c7b0 := eq_true c7; have c7b1 : decide (x3_1.size + 1 ≤ 9223372036854775807) = true := decide_eq_true c7
      try have c7b2 : (9223372036854775807 < x3_1.size + 1) = False := eq_false (Nat.not_lt.2 c7)
      obtain ⟨t317, A80, H⟩ := Option.bind_eq_some_iff.mp H
      try dsimp only at H
      have A8 := Aside0.mk A80; clear A80
      by_cases c9 : (x3_1 ++ (⟨#[44]⟩ : ByteArray)).size + t317.size ≤ 9223372036854775807
      rotate_left
      ·
       rw [if_neg c9] at H
       exact absurd H (by simp)
      rw [if_pos c9] at H
      have c9b0 := eq_true c9; have c9b1 : decide ((x3_1 ++ (⟨#[44]⟩ : ByteArray)).size + t317.size ≤ 9223372036854775807) = true := decide_eq_true c9
      try have c9b2 : (9223372036854775807 < (x3_1 ++ (⟨#[44]⟩ : ByteArray)).size + t317.size) = False := eq_false (Nat.not_lt.2 c9)
      (try have c9b3 : (9223372036854775807 < x3_1.size + 1 + t317.size) = False := eq_false (by have h_ := c9; simp only [ByteArray.size_append, ByteArray.size_extract, show (⟨#[44]⟩ : ByteArray).size = 1 from rfl] at h_; omega))
      have H' := Aside0.mk H; clear H; have p314 : 0 ≤ (x4_1 : Int) := of_decide_eq_true y0_17; have q314 : x4_1 < (l0.length : Int) := of_decide_eq_true y0_17; obtain ⟨ad314, e314, hx314_0, hx314_1, hx314_2, hx314_3⟩ := at_T204 HR0.out x4_1 p314 q314; cases e314; replace hx314_0 := bx HB hx314_0; replace hx314_1 := bx HB hx314_1; replace hx314_2 := bx HB hx314_2; replace hx314_3 := bx HB hx314_3; replace p314 := eq_true p314; replace q314 := eq_true q314
      go_wp2_with (first | ((with_reducible refine gate_callee (f := 216) rfl ?_); refine gB (some 15) Tryz.func216 #[.agg #[.int .i64 ((rd_T204 l0 x4_1).f0), .int .i64 ((rd_T204 l0 x4_1).f1), .int .i64 ((rd_T204 l0 x4_1).f2), .int .i64 ((rd_T204 l0 x4_1).f3)]] ?_; (with_reducible refine (spec_TxOk.calls ((rd_T204 l0 x4_1).f0) ((rd_T204 l0 x4_1).f1) ((rd_T204 l0 x4_1).f2) ((rd_T204 l0 x4_1).f3) true _ A4.out).mono ?_); rintro e w10 ⟨rfl, hb⟩; refine ⟨_, rfl, ?_⟩; replace HB := bs HB hb; (try clear hb); (try clear hb2); (try clear hk); (try clear hi); have p316 : 0 ≤ (x4_1 : Int) := of_decide_eq_true y0_17; have q316 : x4_1 < (l0.length : Int) := of_decide_eq_true y0_17; obtain ⟨ad316, e316, hx316_0, hx316_1, hx316_2, hx316_3⟩ := at_T204 HR0.out x4_1 p316 q316; obtain rfl : ad314 = ad316 := (by injection e316); replace hx316_0 := bx HB hx316_0; replace hx316_1 := bx HB hx316_1; replace hx316_2 := bx HB hx316_2; replace hx316_3 := bx HB hx316_3; replace p316 := eq_true p316; replace q316 := eq_true q316) | ((with_reducible refine gate_callee (f := 238) rfl ?_); refine gB (some 26) Tryz.func238 #[.agg #[.int .i64 ((rd_T204 l0 x4_1).f0), .int .i64 ((rd_T204 l0 x4_1).f1), .int .i64 ((rd_T204 l0 x4_1).f2), .int .i64 ((rd_T204 l0 x4_1).f3)]] ?_; (with_reducible refine (spec_TxText.calls k1 ((rd_T204 l0 x4_1).f0) ((rd_T204 l0 x4_1).f1) ((rd_T204 l0 x4_1).f2) ((rd_T204 l0 x4_1).f3) t317 _ A8.out).mono ?_); rintro e w11 ⟨rfl, hb⟩; refine ⟨_, rfl, ?_⟩; replace HB := bs HB hb; (try clear hb); (try clear hb2); (try clear hk); (try clear hi)))
      go_roundg k1
      case measure => have := HK1.out; omega
      case rel => exact ⟨((x3_1 ++ (⟨#[44]⟩ : ByteArray)) ++ t317), (wrap64 (x4_1 + 1)), y0_18, y0_18, H', ⟨y0_21⟩, ⟨bI HB.out⟩⟩
     rw [if_neg c6] at H
     have c6b0 : decide (0 < x4_1) = false := decide_eq_false c6; clear c6; obtain ⟨t319, A120, H⟩ := Option.bind_eq_some_iff.mp H
     try dsimp only at H
     have A12 := Aside0.mk A120; clear A120
     by_cases c13 : x3_1.size + t319.size ≤ 9223372036854775807
     rotate_left
     ·
      rw [if_neg c13] at H
      exact absurd H (by simp)
     rw [if_pos c13] at H
     have c13b0 := eq_true c13; have c13b1 : decide (x3_1.size + t319.size ≤ 9223372036854775807) = true := decide_eq_true c13
     try have c13b2 : (9223372036854775807 < x3_1.size + t319.size) = False := eq_false (Nat.not_lt.2 c13)
     have H' := Aside0.mk H; clear H; have p314 : 0 ≤ (x4_1 : Int) := of_decide_eq_true y0_17; have q314 : x4_1 < (l0.length : Int) := of_decide_eq_true y0_17; obtain ⟨ad314, e314, hx314_0, hx314_1, hx314_2, hx314_3⟩ := at_T204 HR0.out x4_1 p314 q314; cases e314; replace hx314_0 := bx HB hx314_0; replace hx314_1 := bx HB hx314_1; replace hx314_2 := bx HB hx314_2; replace hx314_3 := bx HB hx314_3; replace p314 := eq_true p314; replace q314 := eq_true q314
     go_wp2_with (first | ((with_reducible refine gate_callee (f := 216) rfl ?_); refine gB (some 15) Tryz.func216 #[.agg #[.int .i64 ((rd_T204 l0 x4_1).f0), .int .i64 ((rd_T204 l0 x4_1).f1), .int .i64 ((rd_T204 l0 x4_1).f2), .int .i64 ((rd_T204 l0 x4_1).f3)]] ?_; (with_reducible refine (spec_TxOk.calls ((rd_T204 l0 x4_1).f0) ((rd_T204 l0 x4_1).f1) ((rd_T204 l0 x4_1).f2) ((rd_T204 l0 x4_1).f3) true _ A4.out).mono ?_); rintro e w14 ⟨rfl, hb⟩; refine ⟨_, rfl, ?_⟩; replace HB := bs HB hb; (try clear hb); (try clear hb2); (try clear hk); (try clear hi); have p318 : 0 ≤ (x4_1 : Int) := of_decide_eq_true y0_17; have q318 : x4_1 < (l0.length : Int) := of_decide_eq_true y0_17; obtain ⟨ad318, e318, hx318_0, hx318_1, hx318_2, hx318_3⟩ := at_T204 HR0.out x4_1 p318 q318; obtain rfl : ad314 = ad318 := (by injection e318); replace hx318_0 := bx HB hx318_0; replace hx318_1 := bx HB hx318_1; replace hx318_2 := bx HB hx318_2; replace hx318_3 := bx HB hx318_3; replace p318 := eq_true p318; replace q318 := eq_true q318) | ((with_reducible refine gate_callee (f := 238) rfl ?_); refine gB (some 26) Tryz.func238 #[.agg #[.int .i64 ((rd_T204 l0 x4_1).f0), .int .i64 ((rd_T204 l0 x4_1).f1), .int .i64 ((rd_T204 l0 x4_1).f2), .int .i64 ((rd_T204 l0 x4_1).f3)]] ?_; (with_reducible refine (spec_TxText.calls k1 ((rd_T204 l0 x4_1).f0) ((rd_T204 l0 x4_1).f1) ((rd_T204 l0 x4_1).f2) ((rd_T204 l0 x4_1).f3) t319 _ A12.out).mono ?_); rintro e w15 ⟨rfl, hb⟩; refine ⟨_, rfl, ?_⟩; replace HB := bs HB hb; (try clear hb); (try clear hb2); (try clear hk); (try clear hi)))
     go_roundg k1
     case measure => have := HK1.out; omega
     case rel => exact ⟨(x3_1 ++ t319), (wrap64 (x4_1 + 1)), y0_18, y0_18, H', ⟨y0_21⟩, ⟨bI HB.out⟩⟩
    replace c5 := Bool.eq_false_iff.mpr c5; subst c5
    rw [if_neg (show ¬ (false = true) by decide)] at H
    obtain rfl := Option.some.inj H; have p314 : 0 ≤ (x4_1 : Int) := of_decide_eq_true y0_17; have q314 : x4_1 < (l0.length : Int) := of_decide_eq_true y0_17; obtain ⟨ad314, e314, hx314_0, hx314_1, hx314_2, hx314_3⟩ := at_T204 HR0.out x4_1 p314 q314; cases e314; replace hx314_0 := bx HB hx314_0; replace hx314_1 := bx HB hx314_1; replace hx314_2 := bx HB hx314_2; replace hx314_3 := bx HB hx314_3; replace p314 := eq_true p314; replace q314 := eq_true q314
    go_wp2_with (first | ((with_reducible refine gate_callee (f := 216) rfl ?_); refine gB (some 15) Tryz.func216 #[.agg #[.int .i64 ((rd_T204 l0 x4_1).f0), .int .i64 ((rd_T204 l0 x4_1).f1), .int .i64 ((rd_T204 l0 x4_1).f2), .int .i64 ((rd_T204 l0 x4_1).f3)]] ?_; (with_reducible refine (spec_TxOk.calls ((rd_T204 l0 x4_1).f0) ((rd_T204 l0 x4_1).f1) ((rd_T204 l0 x4_1).f2) ((rd_T204 l0 x4_1).f3) false _ A4.out).mono ?_); rintro e w16 ⟨rfl, hb⟩; refine ⟨_, rfl, ?_⟩; replace HB := bs HB hb; (try clear hb); (try clear hb2); (try clear hk); (try clear hi)))
    go_ret
    exact ⟨y0_14, bI HB.out⟩
   rw [if_neg c2] at H
   have c2b0 : decide (x4_1 < (l0.length : Int)) = false := decide_eq_false c2; clear c2; obtain rfl := Option.some.inj H
   go_wp2
   go_ret
   exact ⟨y0_14, bI HB.out⟩

end Go.Proofs.YtnpbopadajbopaaGreatDoor.PFnBlocks
