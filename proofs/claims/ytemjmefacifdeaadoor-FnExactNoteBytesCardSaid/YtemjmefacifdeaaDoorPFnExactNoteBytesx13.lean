-- By a program of this session, out of the translation (the print of the kit, with turns of its own). Lean checks it.
import Derived.Test.YtemjmefacifdeaaDoorPFnExactNoteBytesx0
import Derived.Test.YtemjmefacifdeaaDoorPFnExactNoteBytesx12
namespace Go.Proofs.YtemjmefacifdeaaDoor.PFnExactNoteBytes
open Go.RowKit Go.Proofs.YtemjmefacifdeaaDoorW.PrintWords Go.Proofs.YtemjmefacifdeaaDoorW.PrintLast Go.Proofs.YtemjmefacifdeaaDoorW.PrintMore
attribute [local go_sem] max2_int min2_int max_two min_two max_three min_three max_four min_four   -- for this text's walks alone
set_option linter.unusedVariables false
set_option linter.unusedSimpArgs false

/-! ### impl_SafeBytes: function 18 -/
def impl_SafeBytes.f (k : Nat) (a0_0 : Int) (a0_1 : Int) (a1_0 : Int) (a1_1 : Int) (a1_2 : Int) (a1_3 : ByteArray) (l1_4 : List Int) (a1_5 : ByteArray) : Option (List Int) := (impl_SafeOk.f k a0_0 a0_1 a1_0 a1_1 a1_2 a1_3 l1_4 a1_5).bind fun t473 => (if t473 = true then ((impl_putNums.f k (([a1_0, a1_1] : List Int))).bind fun t477 => ((impl_QcBytes.f k a0_0 a0_1 a1_2 a1_3 l1_4).bind fun t480 => (if t477.length + t480.length < 140737488355328 then ((some (t477 ++ t480 : List Int)).bind fun y483 => ((impl_PutText.f k a1_5).bind fun t486 => (if y483.length + t486.length < 140737488355328 then (some (y483 ++ t486)) else (none)))) else (none)))) else (some ([] : List Int)))
theorem impl_SafeBytes.mono : ∀ a0 a1 a2 a3 a4 a5 a6 a7 k, LeO (impl_SafeBytes.f k a0 a1 a2 a3 a4 a5 a6 a7) (impl_SafeBytes.f (k + 1) a0 a1 a2 a3 a4 a5 a6 a7) := by
 intro a0 a1 a2 a3 a4 a5 a6 a7 k
 unfold impl_SafeBytes.f
 repeat' first | (with_reducible exact impl_PutText.mono _ _) | (with_reducible exact impl_QcBytes.mono _ _ _ _ _ _) | (with_reducible exact impl_SafeOk.mono _ _ _ _ _ _ _ _ _) | (with_reducible exact impl_putNums.mono _ _) | (with_reducible exact LeO.refl _) | (with_reducible exact LeO.none _) | (with_reducible refine LeO.ite ?_ ?_) | (with_reducible refine LeO.bind ?_ (fun _ => ?_))
def impl_SafeBytes.T3 : Bool × List (List Nat × List Nat) := (true, [([], []), ([0], [0]), ([], []), ([2], [2]), ([1, 3], [1, 3]), ([4], [4]), ([], []), ([], []), ([7], [7]), ([6, 8, 5], [6, 8]), ([5, 9, 9], [5, 9]), ([10, 10, 0, 1, 2, 3, 4, 5, 6, 7, 8, 9, 10], [10])])
def impl_SafeBytes.B3 : List Nat := [0, 1, 0, 4, 15, 31, 0, 0, 128, 511, 1023, 2047]
theorem impl_SafeBytes.tab3 : rtab .any (opsOf Tryd.f18 3) = impl_SafeBytes.T3 := by kernel_rfl
theorem impl_SafeBytes.bits3 : waitsOk impl_SafeBytes.T3.2 impl_SafeBytes.B3 = true := by kernel_rfl
set_option maxHeartbeats 8000000 in
set_option maxRecDepth 100000 in
theorem impl_SafeBytes.calls (k : Nat) (a0_0 : Int) (a0_1 : Int) (a1_0 : Int) (a1_1 : Int) (a1_2 : Int) (a1_3 : ByteArray) (A1_4 : Option Addr) (c1_4 : Nat) (l1_4 : List Int) (a1_5 : ByteArray) (r : List Int) (w : World) (hr1_4 : Kd.C (Kd.int .i64) w A1_4 l1_4.length l1_4) (hc1_4 : l1_4.length ≤ c1_4) (h : impl_SafeBytes.f k a0_0 a0_1 a1_0 a1_1 a1_2 a1_3 l1_4 a1_5 = some r) (hG : Glob w := by exact gG HG HB) :
  Calls Tryd.prog 18 #[.agg #[.int .i64 a0_0, .int .i64 a0_1], .agg #[.int .i64 a1_0, .int .i64 a1_1, .int .i64 a1_2, .string a1_3, .slice A1_4 l1_4.length c1_4, .string a1_5]] w fun e w' => ∃ v0_ : Value, e = .returned (v0_) ∧ Kd.R (Kd.int .u8) 5 w' w.heap.size (fun _ => True) v0_ r ∧ Below w.heap.size w w' := by
 have HG := Aside0.mk hG; clear hG; have hu32 := Tryd.underlying32; have hu36 := Tryd.underlying36; have hu34 := Tryd.underlying34; have HR1_4 := Aside0.mk hr1_4; have HC1_4 := Aside0.mk hc1_4; clear hr1_4 hc1_4; have HB := Aside0.mk (Below.refl w.heap.size w)
 have H : ((impl_SafeOk.f k a0_0 a0_1 a1_0 a1_1 a1_2 a1_3 l1_4 a1_5).bind fun t473 => (if t473 = true then ((impl_putNums.f k (([a1_0, a1_1] : List Int))).bind fun t477 => ((impl_QcBytes.f k a0_0 a0_1 a1_2 a1_3 l1_4).bind fun t480 => (if t477.length + t480.length < 140737488355328 then ((some (t477 ++ t480 : List Int)).bind fun y483 => ((impl_PutText.f k a1_5).bind fun t486 => (if y483.length + t486.length < 140737488355328 then (some (y483 ++ t486)) else (none)))) else (none)))) else (some ([] : List Int)))) = some r := h
 clear h; obtain ⟨t473, A30, H⟩ := Option.bind_eq_some_iff.mp H
 try dsimp only at H
 have A3 := Aside0.mk A30; clear A30
 by_cases c4 : t473 = true
 ·
  subst c4
  rw [if_pos rfl] at H
  obtain ⟨y474, hy474⟩ : ∃ y_ : List Int, y_ = (([a1_0, a1_1] : List Int)) := ⟨_, rfl⟩
  replace H : ((impl_putNums.f k y474).bind fun t477 => ((impl_QcBytes.f k a0_0 a0_1 a1_2 a1_3 l1_4).bind fun t480 => (if t477.length + t480.length < 140737488355328 then ((some (t477 ++ t480 : List Int)).bind fun y483 => ((impl_PutText.f k a1_5).bind fun t486 => (if y483.length + t486.length < 140737488355328 then (some (y483 ++ t486)) else (none)))) else (none)))) = some r := by first | (rw [hy474]; with_reducible exact H) | (have H2_ := (Option.bind_some _ _).symm.trans H; rw [hy474]; with_reducible exact H2_) | (have H2_ := (Option.bind_some _ _).symm.trans H; with_reducible exact H2_) | with_reducible exact H | (rw [hy474]; exact H) | exact H
  have Ny474 := Aside0.mk hy474; clear hy474; obtain ⟨t477, A50, H⟩ := Option.bind_eq_some_iff.mp H
  try dsimp only at H
  have A5 := Aside0.mk A50; clear A50; obtain ⟨t480, A60, H⟩ := Option.bind_eq_some_iff.mp H
  try dsimp only at H
  have A6 := Aside0.mk A60; clear A60
  by_cases c7 : t477.length + t480.length < 140737488355328
  rotate_left
  ·
   rw [if_neg c7] at H
   exact absurd H (by simp)
  rw [if_pos c7] at H
  have LMc7 := Aside0.mk c7; clear c7; obtain ⟨y483, hy483⟩ : ∃ y_ : List Int, y_ = (t477 ++ t480) := ⟨_, rfl⟩
  replace H : ((impl_PutText.f k a1_5).bind fun t486 => (if y483.length + t486.length < 140737488355328 then (some (y483 ++ t486)) else (none))) = some r := by first | (rw [hy483]; with_reducible exact H) | (have H2_ := (Option.bind_some _ _).symm.trans H; rw [hy483]; with_reducible exact H2_) | (have H2_ := (Option.bind_some _ _).symm.trans H; with_reducible exact H2_) | with_reducible exact H | (rw [hy483]; exact H) | exact H
  have Ny483 := Aside0.mk hy483; clear hy483; obtain ⟨t486, A80, H⟩ := Option.bind_eq_some_iff.mp H
  try dsimp only at H
  have A8 := Aside0.mk A80; clear A80
  by_cases c9 : y483.length + t486.length < 140737488355328
  rotate_left
  ·
   rw [if_neg c9] at H
   exact absurd H (by simp)
  rw [if_pos c9] at H
  have LMc9 := Aside0.mk c9; clear c9; obtain ⟨y489, hy489⟩ : ∃ y_ : List Int, y_ = (y483 ++ t486) := ⟨_, rfl⟩
  replace H : (some y489) = some r := by first | (rw [hy489]; with_reducible exact H) | (have H2_ := (Option.bind_some _ _).symm.trans H; rw [hy489]; with_reducible exact H2_) | (have H2_ := (Option.bind_some _ _).symm.trans H; with_reducible exact H2_) | with_reducible exact H | (rw [hy489]; exact H) | exact H
  have Ny489 := Aside0.mk hy489; clear hy489; obtain rfl := Option.some.inj H
  go_enter Tryd.func18, Tryd.ntmps18
  try go_wp2_with (first | ((with_reducible refine gd 2 ?_); refine bA 2 #[.int .i64 a0_0, .int .i64 a0_1] 32 ?_; intro gb471 hg w10 hbox hb; have BK471 := Aside0.mk (hbox); have GW471 := bg hg HB; have GJ471 := gi GW471; have GE471 := GW471; replace HB := bs HB hb; clear hb hbox hg) | ((with_reducible refine gd 3 ?_); refine bA 3 #[.int .i64 a1_0, .int .i64 a1_1, .int .i64 a1_2, .string a1_3, .slice A1_4 l1_4.length c1_4, .string a1_5] 36 ?_; intro gb472 hg w11 hbox hb; have BK472 := Aside0.mk (hbox); have GW472 := bg hg HB; have GJ472 := gi GW472; have GE472 := GW472; replace HB := bs HB hb; have NB471_472 := b1 BK471 hg; have NI471_472 := ni NB471_472; have NB472_471 := b2 BK471 hg; have NI472_471 := ni NB472_471; replace BK471 := bk BK471 hb; clear hb hbox hg; have hnb12 := NB471_472.out; have hnc12 := NB472_471.out; obtain ⟨hcz13_0, hcz13_1, hfz13_0, hfz13_1⟩ := cs2 BK471; have hcz14_0 := bc0 BK472.out; have hcz14_1 := bc1 BK472.out; have hcz14_2 := bc2 BK472.out; have hcz14_3 := bc3 BK472.out; have hcz14_4 := bc4 BK472.out; have hcz14_5 := bc5 BK472.out; have hfz14_0 := blk_frozen BK472.out 0; have hfz14_1 := blk_frozen BK472.out 1; have hfz14_2 := blk_frozen BK472.out 2; have hfz14_3 := blk_frozen BK472.out 3; have hfz14_4 := blk_frozen BK472.out 4; have hfz14_5 := blk_frozen BK472.out 5) | ((with_reducible refine gate_callee (f := 28) rfl ?_); refine gB (some 8) Tryd.func28 #[.agg #[.int .i64 a0_0, .int .i64 a0_1], .agg #[.int .i64 a1_0, .int .i64 a1_1, .int .i64 a1_2, .string a1_3, .slice A1_4 l1_4.length c1_4, .string a1_5]] ?_; (with_reducible refine (impl_SafeOk.calls k a0_0 a0_1 a1_0 a1_1 a1_2 a1_3 _ _ l1_4 a1_5 true _ ?side1 ?side2 A3.out).mono ?_); (case side1 => exact ch HR1_4 HB); (case side2 => exact HC1_4.out); rintro e w15 ⟨rfl, hb⟩; refine ⟨_, rfl, ?_⟩; replace BK471 := bk BK471 hb; replace BK472 := bk BK472 hb; replace HB := bs HB hb; (try clear hb); (try clear hb2); (try clear hk); (try clear hi)))
  replace BK471 := Aside0.mk (blk_drew BK471.out); replace BK472 := Aside0.mk (blk_drew BK472.out); replace HB := Aside0.mk (below_drew1 HB.out)
  refine start_ (n := 12) (S := fun w' => w'.cell? ⟨gb472, 0, none⟩ = some (.int .i64 a1_0) ∧ w'.cell? ⟨gb472, 1, none⟩ = some (.int .i64 a1_1) ∧ w'.cell? ⟨gb472, 2, none⟩ = some (.int .i64 a1_2) ∧ w'.cell? ⟨gb472, 3, none⟩ = some (.string a1_3) ∧ w'.cell? ⟨gb472, 4, none⟩ = some (.slice A1_4 l1_4.length c1_4) ∧ w'.cell? ⟨gb472, 5, none⟩ = some (.string a1_5) ∧ w'.cell? ⟨gb471, 0, none⟩ = some (.int .i64 a0_0) ∧ w'.cell? ⟨gb471, 1, none⟩ = some (.int .i64 a0_1)) (ds := []) #[false, false, false, false, false, false, false, false, false, false, false, false] (by kernel_rfl) rfl rfl ⟨bc0 BK472.out, bc1 BK472.out, bc2 BK472.out, bc3 BK472.out, bc4 BK472.out, bc5 BK472.out, bc0 BK471.out, bc1 BK471.out⟩ (fun hHeld => ?_); refine with_tabW impl_SafeBytes.tab3 impl_SafeBytes.bits3 (fun HT_ HW_ => ?_)
  generalize w15.drew = w16 at BK471 BK472 HB hHeld ⊢
  refine pA 0 (some 10) (bz 12 1) HT_ ?_
  refine pA 2 (some 12) (bz 12 5) HT_ ?_
  refine pA 7 (some 17) (bz 12 133) HT_ ?_
  refine tA 1 (some 11) (bz 12 135) HT_ HW_ hHeld ?_
  refine tA 3 (some 13) (bz 12 143) HT_ HW_ hHeld ?_
  refine tA 6 (some 16) (bz 12 207) HT_ HW_ hHeld ?_
  refine tA 8 (some 18) (bz 12 463) HT_ HW_ hHeld ?_
  refine oA 4 (some 14) (bz 12 479) HT_ (fun K hK => ?_)
  refine Kd.R_lit_step (Kd.int .i64) _ 3 ?hg (N := 14) ?hd (xs := ([a1_0, a1_1] : List Int)) (inner := [.int .i64 a1_0, .int .i64 a1_1]) (ok := fun _ => True) (okp := fun _ => True) ?hr ?hp (fun _ hk => hk) trivial (Below.refl _ _) (Nat.le_refl _) (by simp) ?_; (case hd => rfl); (case hg => rfl); (case hr => first | (go_simp; done) | (go_simp; rfl)); (case hp => exact (Reps.one (show Kd.M (Kd.int .i64) _ _ _ a1_0 [.int .i64 a1_0] from rfl) (Reps.one (show Kd.M (Kd.int .i64) _ _ _ a1_1 [.int .i64 a1_1] from rfl) (Reps.none _ _))))
  intro v475 w17 ho18 hb hg_ hnew_
  clear hg_ hnew_
  (first | rw [← Ny474.out] at ho18 | (simp only [Int.reduceToNat] at ho18; rw [← Ny474.out] at ho18))
  have HO476 := Aside0.mk (Kd.R_lower ho18 (below_size (bI HB.out))); replace BK471 := bk BK471 hb; replace BK472 := bk BK472 hb; replace HB := bs HB hb; clear hb ho18; obtain ⟨Ao19, co19, eo19⟩ := Kd.R_slice HO476.out
  (first | subst eo19 | (injection eo19 with f1_ f2_ f3_; have f4_ := f1_.symm; have f5_ := f3_.symm; clear f1_ f2_ f3_; subst f4_; subst f5_))
  refine hK.out _ _ ⟨bc0 BK472.out, bc1 BK472.out, bc2 BK472.out, bc3 BK472.out, bc4 BK472.out, bc5 BK472.out, bc0 BK471.out, bc1 BK471.out⟩ (fun hHeld => ?_)
  clear hK K
  refine nA (some 14) ?_
  refine oA 5 (some 15) (bz 12 511) HT_ (fun K hK => ?_)
  refine gA Tryd.func29 #[.slice Ao19 y474.length co19] ?_
  with_reducible refine (impl_putNums.calls k _ _ y474 t477 _ ?side1 ?side2 A5.out).mono ?_
  (case side1 => repeat (first | exact (Kd.R_reads' HO476.out).2.2 | (with_reducible refine Kd.C_alloc ?_ _) | (with_reducible refine Kd.C_drewN ?_ _) | (with_reducible refine Kd.C_drew ?_)))
  (case side2 => exact (Kd.R_reads' HO476.out).2.1)
  rintro e w20 ⟨v478, rfl, ho0, hb⟩
  refine ⟨_, rfl, ?_⟩
  replace HO476 := rb HO476 hb; have HO479 := Aside0.mk (Kd.R_lower ho0 (below_size (bI HB.out))); replace BK471 := bk BK471 hb; replace BK472 := bk BK472 hb; replace HB := bs HB hb
  (try clear hb)
  (try clear hb2)
  (try clear hk)
  (try clear hi)
  (try clear ho0)
  refine hK.out _ _ ⟨bc0 BK472.out, bc1 BK472.out, bc2 BK472.out, bc3 BK472.out, bc4 BK472.out, bc5 BK472.out, bc0 BK471.out, bc1 BK471.out⟩ (fun hHeld => ?_)
  clear hK K
  refine nA (some 15) ?_
  refine oA 9 (some 19) (bz 12 1023) HT_ (fun K hK => ?_)
  refine gA Tryd.func30 #[.agg #[.int .i64 a0_0, .int .i64 a0_1], .agg #[.int .i64 a1_2, .string a1_3, .slice A1_4 l1_4.length c1_4]] ?_
  with_reducible refine (impl_QcBytes.calls k a0_0 a0_1 a1_2 a1_3 _ _ l1_4 t480 _ ?side1 ?side2 A6.out).mono ?_
  (case side1 => exact ch HR1_4 HB)
  (case side2 => exact HC1_4.out)
  rintro e w21 ⟨v481, rfl, ho0, hb⟩
  refine ⟨_, rfl, ?_⟩
  replace HO476 := rb HO476 hb; have HO482 := Aside0.mk (Kd.R_lower (Kd.R_new' ho0 (Kd.R_lt (rI HO479.out))) (below_size (bI HB.out))); replace HO479 := Aside0.mk (Kd.R_elder' (rI HO479.out) (Kd.R_base ho0) hb); replace BK471 := bk BK471 hb; replace BK472 := bk BK472 hb; replace HB := bs HB hb
  (try clear hb)
  (try clear hb2)
  (try clear hk)
  (try clear hi)
  (try clear ho0)
  obtain ⟨Ao23, co23, eo23⟩ := Kd.R_slice HO482.out
  (first | subst eo23 | (injection eo23 with f1_ f2_ f3_; have f4_ := f1_.symm; have f5_ := f3_.symm; clear f1_ f2_ f3_; subst f4_; subst f5_))
  refine hK.out _ _ ⟨bc0 BK472.out, bc1 BK472.out, bc2 BK472.out, bc3 BK472.out, bc4 BK472.out, bc5 BK472.out, bc0 BK471.out, bc1 BK471.out⟩ (fun hHeld => ?_)
  clear hK K
  refine nA (some 19) ?_
  refine oA 10 (some 20) (bz 12 2047) HT_ (fun K hK => ?_)
  refine Kd.R_append_rows_step (Kd.int .u8) (w0 := w) w.heap.size (by rfl) (.tmp 15) (.tmp 19) 30 5 (.int .u8 0) 1 rfl Tryd.underlying30 info5 rfl (by decide) (by omega) v478 t477 t480 _ _ _ (fun k_ => some k_ ≠ (.slice Ao23 t480.length co23 : Value).ownBlock) (fun _ => False) rfl rfl ?aO ?aR (fun _ _ h => h) (fun _ h => h.elim) ?aF ?aB ?aS ?aL ?_
  (case aR => repeat (first | exact (Kd.R_reads' HO482.out).2.2 | (with_reducible refine Kd.C_alloc ?_ _) | (with_reducible refine Kd.C_drewN ?_ _) | (with_reducible refine Kd.C_drew ?_)))
  (case aB => exact (bI HB.out))
  (case aF => exact (fun k_ hk => Kd.fresh' (Kd.R_lt (rI HO482.out)) k_ hk))
  (case aO => exact (rI (Kd.R_mono HO479.out (fun _ hk => hk.2))))
  (case aS => exact (below_size (bI HB.out)))
  (case aL => have := LMc7.out; omega)
  intro v484 w22 ho hb hg hat
  rw [← Ny483.out] at ho
  have n0_ := bn BK471 hg (Kd.R_ne HO479.out BK471.out (by decide))
  have n1_ := bn BK472 hg (Kd.R_ne HO479.out BK472.out (by decide))
  have n2_ := Aside0.mk (Kd.R_over' (rI HO476.out) (Kd.R_typed (rI HO479.out)) (by decide) hg)
  have n3_ := Aside0.mk (Kd.R_after (ok := (fun _ => True)) (rI HO482.out) hg hat)
  have n4_ := Aside0.mk (hb); have n5_ := Aside0.mk (ho); clear BK471; clear BK472; clear HO476; clear HO482; clear HB; clear HO479; have BK471 := n0_; have BK472 := n1_; have HO476 := n2_; have HO482 := n3_; have HB := n4_; have HO485 := n5_; clear n0_ n1_ n2_ n3_ n4_ n5_; clear ho hb hg hat
  refine hK.out _ _ ⟨bc0 BK472.out, bc1 BK472.out, bc2 BK472.out, bc3 BK472.out, bc4 BK472.out, bc5 BK472.out, bc0 BK471.out, bc1 BK471.out⟩ (fun hHeld => ?_)
  clear hK K
  refine nA (some 20) ?_
  refine pA 11 (some 5) (bz 12 4095) HT_ ?_
  refine done_ (done_of HT_.out (by kernel_rfl)) ?_
  have hcz24_0 := bc0 BK472.out; have hcz24_1 := bc1 BK472.out; have hcz24_2 := bc2 BK472.out; have hcz24_3 := bc3 BK472.out; have hcz24_4 := bc4 BK472.out; have hcz24_5 := bc5 BK472.out; have hfz24_0 := blk_frozen BK472.out 0; have hfz24_1 := blk_frozen BK472.out 1; have hfz24_2 := blk_frozen BK472.out 2; have hfz24_3 := blk_frozen BK472.out 3; have hfz24_4 := blk_frozen BK472.out 4; have hfz24_5 := blk_frozen BK472.out 5
  try go_wp2_with (first | ((with_reducible refine gate_callee (f := 31) rfl ?_); refine gB (some 24) Tryd.func31 #[.string a1_5] ?_; (with_reducible refine (impl_PutText.calls k a1_5 t486 _ A8.out).mono ?_); rintro e w25 ⟨v487, rfl, ho0, hb⟩; refine ⟨_, rfl, ?_⟩; replace HO476 := rb HO476 hb; have HO488 := Aside0.mk (Kd.R_lower (Kd.R_new' (Kd.R_new' ho0 (Kd.R_lt (rI HO482.out))) (Kd.R_lt (rI HO485.out))) (below_size (bI HB.out))); replace HO482 := Aside0.mk (Kd.R_elder' (rI HO482.out) (Kd.R_base ho0) hb); replace HO485 := Aside0.mk (Kd.R_elder' (rI HO485.out) (Kd.R_base ho0) hb); replace BK471 := bk BK471 hb; replace BK472 := bk BK472 hb; replace HB := bs HB hb; (try clear hb); (try clear ho0); obtain ⟨Ao27, co27, eo27⟩ := Kd.R_slice HO488.out; subst eo27) | ((with_reducible refine gate_builtin (b := .append) (xs := #[.tmp 21, .tmp 24]) rfl ?_); at_builtin; refine Kd.R_append_rows (Kd.int .u8) (w0 := w) w.heap.size rfl (.tmp 21) (.tmp 24) 30 5 (.int .u8 0) 1 rfl Tryd.underlying30 info5 rfl (by decide) (by omega) v484 y483 t486 _ _ _ (fun k_ => some k_ ≠ (.slice Ao23 t480.length co23 : Value).ownBlock ∧ some k_ ≠ (.slice Ao27 t486.length co27 : Value).ownBlock) (fun _ => False) rfl rfl ?aO ?aR (fun _ _ h => h) (fun _ h => h.elim) ?aF ?aB ?aS ?aL ?_; (case aR => repeat (first | exact (Kd.R_reads' HO488.out).2.2 | (with_reducible refine Kd.C_alloc ?_ _) | (with_reducible refine Kd.C_drewN ?_ _) | (with_reducible refine Kd.C_drew ?_))); (case aB => exact (bI HB.out)); (case aF => exact (fun k_ hk => ⟨Kd.fresh' (Kd.R_lt (rI HO482.out)) k_ hk, Kd.fresh' (Kd.R_lt (rI HO488.out)) k_ hk⟩)); (case aO => exact (rI HO485.out)); (case aS => exact (below_size (bI HB.out))); (case aL => have := LMc9.out; omega); intro v490 w26 ho hb hg hat; rw [← Ny489.out] at ho; have n0_ := bn BK471 hg (Kd.R_ne HO485.out BK471.out (by decide)); have n1_ := bn BK472 hg (Kd.R_ne HO485.out BK472.out (by decide)); have n2_ := Aside0.mk (Kd.R_over' (rI HO476.out) (Kd.R_typed (rI HO485.out)) (by decide) hg); have n3_ := Aside0.mk (Kd.R_after (ok := (fun k_ => some k_ ≠ (.slice Ao27 t486.length co27 : Value).ownBlock)) (rI (Kd.R_mono HO482.out (fun _ hk => ⟨hk.2, hk.1.2⟩))) hg hat); have n4_ := Aside0.mk (Kd.R_after (ok := (fun k_ => some k_ ≠ (.slice Ao23 t480.length co23 : Value).ownBlock)) (rI (Kd.R_mono HO488.out (fun _ hk => ⟨hk.1.2, hk.2⟩))) hg hat); have n5_ := Aside0.mk (hb); have n6_ := Aside0.mk (ho); clear BK471; clear BK472; clear HO476; clear HO482; clear HO488; clear HB; clear HO485; have BK471 := n0_; have BK472 := n1_; have HO476 := n2_; have HO482 := n3_; have HO488 := n4_; have HB := n5_; have HO491 := n6_; clear n0_ n1_ n2_ n3_ n4_ n5_ n6_; clear ho hb hg hat))
  go_ret
  exact ⟨_, y0_7, by (with_reducible repeat (first | apply Kd.R_alloc | apply Kd.R_drewN | apply Kd.R_drew)); exact Kd.R_mono HO491.out (fun _ hk => trivial), bI HB.out⟩
 replace c4 := Bool.eq_false_iff.mpr c4; subst c4
 rw [if_neg (show ¬ (false = true) by decide)] at H
 obtain rfl := Option.some.inj H
 go_enter Tryd.func18, Tryd.ntmps18
 go_wp2_with (first | ((with_reducible refine gd 2 ?_); refine bA 2 #[.int .i64 a0_0, .int .i64 a0_1] 32 ?_; intro gb471 hg w28 hbox hb; have BK471 := Aside0.mk (hbox); have GW471 := bg hg HB; have GJ471 := gi GW471; have GE471 := GW471; replace HB := bs HB hb; clear hb hbox hg) | ((with_reducible refine gd 3 ?_); refine bA 3 #[.int .i64 a1_0, .int .i64 a1_1, .int .i64 a1_2, .string a1_3, .slice A1_4 l1_4.length c1_4, .string a1_5] 36 ?_; intro gb472 hg w29 hbox hb; have BK472 := Aside0.mk (hbox); have GW472 := bg hg HB; have GJ472 := gi GW472; have GE472 := GW472; replace HB := bs HB hb; have NB471_472 := b1 BK471 hg; have NI471_472 := ni NB471_472; have NB472_471 := b2 BK471 hg; have NI472_471 := ni NB472_471; replace BK471 := bk BK471 hb; clear hb hbox hg; have hnb30 := NB471_472.out; have hnc30 := NB472_471.out; obtain ⟨hcz31_0, hcz31_1, hfz31_0, hfz31_1⟩ := cs2 BK471; have hcz32_0 := bc0 BK472.out; have hcz32_1 := bc1 BK472.out; have hcz32_2 := bc2 BK472.out; have hcz32_3 := bc3 BK472.out; have hcz32_4 := bc4 BK472.out; have hcz32_5 := bc5 BK472.out; have hfz32_0 := blk_frozen BK472.out 0; have hfz32_1 := blk_frozen BK472.out 1; have hfz32_2 := blk_frozen BK472.out 2; have hfz32_3 := blk_frozen BK472.out 3; have hfz32_4 := blk_frozen BK472.out 4; have hfz32_5 := blk_frozen BK472.out 5) | ((with_reducible refine gate_callee (f := 28) rfl ?_); refine gB (some 8) Tryd.func28 #[.agg #[.int .i64 a0_0, .int .i64 a0_1], .agg #[.int .i64 a1_0, .int .i64 a1_1, .int .i64 a1_2, .string a1_3, .slice A1_4 l1_4.length c1_4, .string a1_5]] ?_; (with_reducible refine (impl_SafeOk.calls k a0_0 a0_1 a1_0 a1_1 a1_2 a1_3 _ _ l1_4 a1_5 false _ ?side1 ?side2 A3.out).mono ?_); (case side1 => exact ch HR1_4 HB); (case side2 => exact HC1_4.out); rintro e w33 ⟨rfl, hb⟩; refine ⟨_, rfl, ?_⟩; replace BK471 := bk BK471 hb; replace BK472 := bk BK472 hb; replace HB := bs HB hb; (try clear hb); (try clear hb2); (try clear hk); (try clear hi)))
 go_ret
 exact ⟨_, y0_7, y0_0, bI HB.out⟩

/-! ### impl_NoteBytes: function 8 -/
def impl_NoteBytes.f (k : Nat) (a0_0 : Int) (a0_1 : Int) (a1_0 : Int) (a1_1 : Int) (a1_2 : Int) (a1_3 : ByteArray) (l1_4 : List Int) (a1_5 : ByteArray) : Option (List Int) := (impl_SafeBytes.f k a0_0 a0_1 a1_0 a1_1 a1_2 a1_3 l1_4 a1_5).bind fun t494 => (if (t494.length : Int) = 0 then (some ([] : List Int)) else ((impl_PutNum.f k (t494.length : Int)).bind fun t497 => (if t497.length + t494.length < 140737488355328 then ((some (t497 ++ t494 : List Int)).bind fun y500 => (if y500.length < 140737488355328 then (some (y500 ++ [10])) else (none))) else (none))))
theorem impl_NoteBytes.mono : ∀ a0 a1 a2 a3 a4 a5 a6 a7 k, LeO (impl_NoteBytes.f k a0 a1 a2 a3 a4 a5 a6 a7) (impl_NoteBytes.f (k + 1) a0 a1 a2 a3 a4 a5 a6 a7) := by
 intro a0 a1 a2 a3 a4 a5 a6 a7 k
 unfold impl_NoteBytes.f
 repeat' first | (with_reducible exact impl_PutNum.mono _ _) | (with_reducible exact impl_SafeBytes.mono _ _ _ _ _ _ _ _ _) | (with_reducible exact LeO.refl _) | (with_reducible exact LeO.none _) | (with_reducible refine LeO.ite ?_ ?_) | (with_reducible refine LeO.bind ?_ (fun _ => ?_))
set_option maxHeartbeats 8000000 in
set_option maxRecDepth 100000 in
theorem impl_NoteBytes.calls (k : Nat) (a0_0 : Int) (a0_1 : Int) (a1_0 : Int) (a1_1 : Int) (a1_2 : Int) (a1_3 : ByteArray) (A1_4 : Option Addr) (c1_4 : Nat) (l1_4 : List Int) (a1_5 : ByteArray) (r : List Int) (w : World) (hr1_4 : Kd.C (Kd.int .i64) w A1_4 l1_4.length l1_4) (hc1_4 : l1_4.length ≤ c1_4) (h : impl_NoteBytes.f k a0_0 a0_1 a1_0 a1_1 a1_2 a1_3 l1_4 a1_5 = some r) (hG : Glob w := by exact gG HG HB) :
  Calls Tryd.prog 8 #[.agg #[.int .i64 a0_0, .int .i64 a0_1], .agg #[.int .i64 a1_0, .int .i64 a1_1, .int .i64 a1_2, .string a1_3, .slice A1_4 l1_4.length c1_4, .string a1_5]] w fun e w' => ∃ v0_ : Value, e = .returned (v0_) ∧ Kd.R (Kd.int .u8) 5 w' w.heap.size (fun _ => True) v0_ r ∧ Below w.heap.size w w' := by
 have HG := Aside0.mk hG; clear hG; have hu32 := Tryd.underlying32; have hu36 := Tryd.underlying36; have HR1_4 := Aside0.mk hr1_4; have HC1_4 := Aside0.mk hc1_4; clear hr1_4 hc1_4; have HB := Aside0.mk (Below.refl w.heap.size w)
 have H : ((impl_SafeBytes.f k a0_0 a0_1 a1_0 a1_1 a1_2 a1_3 l1_4 a1_5).bind fun t494 => (if (t494.length : Int) = 0 then (some ([] : List Int)) else ((impl_PutNum.f k (t494.length : Int)).bind fun t497 => (if t497.length + t494.length < 140737488355328 then ((some (t497 ++ t494 : List Int)).bind fun y500 => (if y500.length < 140737488355328 then (some (y500 ++ [10])) else (none))) else (none))))) = some r := h
 clear h; obtain ⟨t494, A30, H⟩ := Option.bind_eq_some_iff.mp H
 try dsimp only at H
 have A3 := Aside0.mk A30; clear A30
 by_cases c4 : (t494.length : Int) = 0
 ·
  rw [if_pos c4] at H
  have c4b0 : ((t494.length : Int) == 0) = true := beq_iff_eq.mpr c4; have c4b1 : ((t494.length : Int) != 0) = false := bne_eq_false_iff_eq.mpr c4; clear c4; obtain rfl := Option.some.inj H
  go_enter Tryd.func8, Tryd.ntmps8
  go_wp2_with (first | ((with_reducible refine gd 2 ?_); refine bA 2 #[.int .i64 a0_0, .int .i64 a0_1] 32 ?_; intro gb492 hg w5 hbox hb; have BK492 := Aside0.mk (hbox); have GW492 := bg hg HB; have GJ492 := gi GW492; have GE492 := GW492; replace HB := bs HB hb; clear hb hbox hg) | ((with_reducible refine gd 3 ?_); refine bA 3 #[.int .i64 a1_0, .int .i64 a1_1, .int .i64 a1_2, .string a1_3, .slice A1_4 l1_4.length c1_4, .string a1_5] 36 ?_; intro gb493 hg w6 hbox hb; have BK493 := Aside0.mk (hbox); have GW493 := bg hg HB; have GJ493 := gi GW493; have GE493 := GW493; replace HB := bs HB hb; have NB492_493 := b1 BK492 hg; have NI492_493 := ni NB492_493; have NB493_492 := b2 BK492 hg; have NI493_492 := ni NB493_492; replace BK492 := bk BK492 hb; clear hb hbox hg; have hnb7 := NB492_493.out; have hnc7 := NB493_492.out; obtain ⟨hcz8_0, hcz8_1, hfz8_0, hfz8_1⟩ := cs2 BK492; have hcz9_0 := bc0 BK493.out; have hcz9_1 := bc1 BK493.out; have hcz9_2 := bc2 BK493.out; have hcz9_3 := bc3 BK493.out; have hcz9_4 := bc4 BK493.out; have hcz9_5 := bc5 BK493.out; have hfz9_0 := blk_frozen BK493.out 0; have hfz9_1 := blk_frozen BK493.out 1; have hfz9_2 := blk_frozen BK493.out 2; have hfz9_3 := blk_frozen BK493.out 3; have hfz9_4 := blk_frozen BK493.out 4; have hfz9_5 := blk_frozen BK493.out 5) | ((with_reducible refine gate_callee (f := 18) rfl ?_); refine gB (some 8) Tryd.func18 #[.agg #[.int .i64 a0_0, .int .i64 a0_1], .agg #[.int .i64 a1_0, .int .i64 a1_1, .int .i64 a1_2, .string a1_3, .slice A1_4 l1_4.length c1_4, .string a1_5]] ?_; (with_reducible refine (impl_SafeBytes.calls k a0_0 a0_1 a1_0 a1_1 a1_2 a1_3 _ _ l1_4 a1_5 t494 _ ?side1 ?side2 A3.out).mono ?_); (case side1 => exact ch HR1_4 HB); (case side2 => exact HC1_4.out); rintro e w10 ⟨v495, rfl, ho0, hb⟩; refine ⟨_, rfl, ?_⟩; have HO496 := Aside0.mk (Kd.R_lower ho0 (below_size (bI HB.out))); replace BK492 := bk BK492 hb; replace BK493 := bk BK493 hb; replace HB := bs HB hb; (try clear hb); (try clear ho0); obtain ⟨Ao11, co11, eo11⟩ := Kd.R_slice HO496.out; subst eo11))
  go_ret
  exact ⟨_, y0_7, y0_0, bI HB.out⟩
 rw [if_neg c4] at H
 have c4b0 : ((t494.length : Int) == 0) = false := beq_eq_false_iff_ne.mpr c4; have c4b1 : ((t494.length : Int) != 0) = true := bne_iff_ne.mpr c4
 have c4b2 : ¬ (t494 = []) := fun h_ => c4 (by rw [h_]; rfl)
 obtain ⟨t497, A120, H⟩ := Option.bind_eq_some_iff.mp H
 try dsimp only at H
 have A12 := Aside0.mk A120; clear A120
 by_cases c13 : t497.length + t494.length < 140737488355328
 ·
  rw [if_pos c13] at H
  have LMc13 := Aside0.mk c13; clear c13; obtain ⟨y500, hy500⟩ : ∃ y_ : List Int, y_ = (t497 ++ t494) := ⟨_, rfl⟩
  replace H : (if y500.length < 140737488355328 then (some (y500 ++ [10])) else (none)) = some r := by first | (rw [hy500]; with_reducible exact H) | (have H2_ := (Option.bind_some _ _).symm.trans H; rw [hy500]; with_reducible exact H2_) | (have H2_ := (Option.bind_some _ _).symm.trans H; with_reducible exact H2_) | with_reducible exact H | (rw [hy500]; exact H) | exact H
  have Ny500 := Aside0.mk hy500; clear hy500
  by_cases c14 : y500.length < 140737488355328
  rotate_left
  ·
   rw [if_neg c14] at H
   exact absurd H (by simp)
  rw [if_pos c14] at H
  have LMc14 := Aside0.mk c14; clear c14; obtain ⟨y503, hy503⟩ : ∃ y_ : List Int, y_ = (y500 ++ [10]) := ⟨_, rfl⟩
  replace H : (some y503) = some r := by first | (rw [hy503]; with_reducible exact H) | (have H2_ := (Option.bind_some _ _).symm.trans H; rw [hy503]; with_reducible exact H2_) | (have H2_ := (Option.bind_some _ _).symm.trans H; with_reducible exact H2_) | with_reducible exact H | (rw [hy503]; exact H) | exact H
  have Ny503 := Aside0.mk hy503; clear hy503; obtain rfl := Option.some.inj H
  go_enter Tryd.func8, Tryd.ntmps8
  go_wp2_with (first | ((with_reducible refine gd 2 ?_); refine bA 2 #[.int .i64 a0_0, .int .i64 a0_1] 32 ?_; intro gb492 hg w15 hbox hb; have BK492 := Aside0.mk (hbox); have GW492 := bg hg HB; have GJ492 := gi GW492; have GE492 := GW492; replace HB := bs HB hb; clear hb hbox hg) | ((with_reducible refine gd 3 ?_); refine bA 3 #[.int .i64 a1_0, .int .i64 a1_1, .int .i64 a1_2, .string a1_3, .slice A1_4 l1_4.length c1_4, .string a1_5] 36 ?_; intro gb493 hg w16 hbox hb; have BK493 := Aside0.mk (hbox); have GW493 := bg hg HB; have GJ493 := gi GW493; have GE493 := GW493; replace HB := bs HB hb; have NB492_493 := b1 BK492 hg; have NI492_493 := ni NB492_493; have NB493_492 := b2 BK492 hg; have NI493_492 := ni NB493_492; replace BK492 := bk BK492 hb; clear hb hbox hg; have hnb17 := NB492_493.out; have hnc17 := NB493_492.out; obtain ⟨hcz18_0, hcz18_1, hfz18_0, hfz18_1⟩ := cs2 BK492; have hcz19_0 := bc0 BK493.out; have hcz19_1 := bc1 BK493.out; have hcz19_2 := bc2 BK493.out; have hcz19_3 := bc3 BK493.out; have hcz19_4 := bc4 BK493.out; have hcz19_5 := bc5 BK493.out; have hfz19_0 := blk_frozen BK493.out 0; have hfz19_1 := blk_frozen BK493.out 1; have hfz19_2 := blk_frozen BK493.out 2; have hfz19_3 := blk_frozen BK493.out 3; have hfz19_4 := blk_frozen BK493.out 4; have hfz19_5 := blk_frozen BK493.out 5) | ((with_reducible refine gate_callee (f := 18) rfl ?_); refine gB (some 8) Tryd.func18 #[.agg #[.int .i64 a0_0, .int .i64 a0_1], .agg #[.int .i64 a1_0, .int .i64 a1_1, .int .i64 a1_2, .string a1_3, .slice A1_4 l1_4.length c1_4, .string a1_5]] ?_; (with_reducible refine (impl_SafeBytes.calls k a0_0 a0_1 a1_0 a1_1 a1_2 a1_3 _ _ l1_4 a1_5 t494 _ ?side1 ?side2 A3.out).mono ?_); (case side1 => exact ch HR1_4 HB); (case side2 => exact HC1_4.out); rintro e w20 ⟨v495, rfl, ho0, hb⟩; refine ⟨_, rfl, ?_⟩; have HO496 := Aside0.mk (Kd.R_lower ho0 (below_size (bI HB.out))); replace BK492 := bk BK492 hb; replace BK493 := bk BK493 hb; replace HB := bs HB hb; (try clear hb); (try clear ho0); obtain ⟨Ao21, co21, eo21⟩ := Kd.R_slice HO496.out; subst eo21) | ((with_reducible refine gate_callee (f := 19) rfl ?_); refine gB (some 14) Tryd.func19 #[.int .i64 (t494.length : Int)] ?_; (with_reducible refine (impl_PutNum.calls k (t494.length : Int) t497 _ A12.out).mono ?_); rintro e w22 ⟨v498, rfl, ho0, hb⟩; refine ⟨_, rfl, ?_⟩; have HO499 := Aside0.mk (Kd.R_lower (Kd.R_new' ho0 (Kd.R_lt (rI HO496.out))) (below_size (bI HB.out))); replace HO496 := Aside0.mk (Kd.R_elder' (rI HO496.out) (Kd.R_base ho0) hb); replace BK492 := bk BK492 hb; replace BK493 := bk BK493 hb; replace HB := bs HB hb; (try clear hb); (try clear ho0)) | ((with_reducible refine gate_builtin (b := .append) (xs := #[.tmp 14, .tmp 15]) rfl ?_); at_builtin; refine Kd.R_append_rows (Kd.int .u8) (w0 := w) w.heap.size rfl (.tmp 14) (.tmp 15) 30 5 (.int .u8 0) 1 rfl Tryd.underlying30 info5 rfl (by decide) (by omega) v498 t497 t494 _ _ _ (fun k_ => some k_ ≠ (.slice Ao21 t494.length co21 : Value).ownBlock) (fun _ => False) rfl rfl ?aO ?aR (fun _ _ h => h) (fun _ h => h.elim) ?aF ?aB ?aS ?aL ?_; (case aR => repeat (first | exact (Kd.R_reads' HO496.out).2.2 | (with_reducible refine Kd.C_alloc ?_ _) | (with_reducible refine Kd.C_drewN ?_ _) | (with_reducible refine Kd.C_drew ?_))); (case aB => exact (bI HB.out)); (case aF => exact (fun k_ hk => Kd.fresh' (Kd.R_lt (rI HO496.out)) k_ hk)); (case aO => exact (rI (Kd.R_mono HO499.out (fun _ hk => hk.2)))); (case aS => exact (below_size (bI HB.out))); (case aL => have := LMc13.out; omega); intro v501 w23 ho hb hg hat; rw [← Ny500.out] at ho; have n0_ := bn BK492 hg (Kd.R_ne HO499.out BK492.out (by decide)); have n1_ := bn BK493 hg (Kd.R_ne HO499.out BK493.out (by decide)); have n2_ := Aside0.mk (Kd.R_after (ok := (fun _ => True)) (rI HO496.out) hg hat); have n3_ := Aside0.mk (hb); have n4_ := Aside0.mk (ho); clear BK492; clear BK493; clear HO496; clear HB; clear HO499; have BK492 := n0_; have BK493 := n1_; have HO496 := n2_; have HB := n3_; have HO502 := n4_; clear n0_ n1_ n2_ n3_ n4_; clear ho hb hg hat) | ((with_reducible refine gate_builtin (b := .append) (xs := #[.tmp 16, .tmp 17]) rfl ?_); at_builtin; refine Kd.R_append (Kd.int .u8) (w0 := w) w.heap.size rfl (.tmp 16) (.tmp 17) 30 5 (.int .u8 0) 1 rfl Tryd.underlying30 info5 rfl (by decide) (by omega) v501 y500 10 [.int .u8 10] (fun k_ => some k_ ≠ (.slice Ao21 t494.length co21 : Value).ownBlock) (fun _ => False) rfl rfl ?aP (fun _ hk => hk.elim) ?aF ?aO ?aB ?aS ?aL ?_; (case aP => exact rfl); (case aB => exact (bI HB.out)); (case aF => exact (fun k_ hk => Kd.fresh' (Kd.R_lt (rI HO496.out)) k_ hk)); (case aO => exact (rI HO502.out)); (case aS => exact (below_size (bI HB.out))); (case aL => have := LMc14.out; omega); intro v504 w24 ho hb hg hat; rw [← Ny503.out] at ho; have n0_ := bn BK492 hg (Kd.R_ne HO502.out BK492.out (by decide)); have n1_ := bn BK493 hg (Kd.R_ne HO502.out BK493.out (by decide)); have n2_ := Aside0.mk (Kd.R_after (ok := (fun _ => True)) (rI HO496.out) hg hat); have n3_ := Aside0.mk (hb); have n4_ := Aside0.mk (ho); clear BK492; clear BK493; clear HO496; clear HB; clear HO502; have BK492 := n0_; have BK493 := n1_; have HO496 := n2_; have HB := n3_; have HO505 := n4_; clear n0_ n1_ n2_ n3_ n4_; clear ho hb hg hat))
  go_ret
  exact ⟨_, y0_7, by (with_reducible repeat (first | apply Kd.R_alloc | apply Kd.R_drewN | apply Kd.R_drew)); exact Kd.R_mono HO505.out (fun _ hk => trivial), bI HB.out⟩
 rw [if_neg c13] at H
 exact absurd H (by simp)

/-! ### laws_eqByteS: function 9 -/
def laws_eqByteS.l0 : Nat → List Int → List Int → Int → Option (Bool)
 | 0, _, _, _ => none
 | k + 1, x0, x1, x5 => if x5 < (x0.length : Int) then (if 0 ≤ x5 then (if x5 < (x1.length : Int) then (if (rd x0 x5) = (rd x1 x5) then (laws_eqByteS.l0 k x0 x1 (wrap64 (x5 + 1))) else (some false)) else (none)) else (none)) else (some true)
def laws_eqByteS.f (k : Nat) (l0 : List Int) (l1 : List Int) : Option (Bool) := if (l0.length : Int) = (l1.length : Int) then (laws_eqByteS.l0 k l0 l1 0) else (some false)
theorem laws_eqByteS.mono_l : ∀ k, (∀ y0 y1 y2, LeO (laws_eqByteS.l0 k y0 y1 y2) (laws_eqByteS.l0 (k + 1) y0 y1 y2))
 | 0 => fun _ _ _ r h => by simp [laws_eqByteS.l0] at h
 | k + 1 => by
  have ih0 := laws_eqByteS.mono_l k
  intro y0 y1 y2
  unfold laws_eqByteS.l0
  repeat' first | (with_reducible exact ih0 _ _ _) | (with_reducible exact LeO.refl _) | (with_reducible exact LeO.none _) | (with_reducible refine LeO.ite ?_ ?_) | (with_reducible refine LeO.bind ?_ (fun _ => ?_))
theorem laws_eqByteS.mono : ∀ a0 a1 k, LeO (laws_eqByteS.f k a0 a1) (laws_eqByteS.f (k + 1) a0 a1) := by
 intro a0 a1 k
 have ih0 := laws_eqByteS.mono_l k
 unfold laws_eqByteS.f
 repeat' first | (with_reducible exact ih0 _ _ _) | (with_reducible exact LeO.refl _) | (with_reducible exact LeO.none _) | (with_reducible refine LeO.ite ?_ ?_) | (with_reducible refine LeO.bind ?_ (fun _ => ?_))
set_option maxHeartbeats 8000000 in
set_option maxRecDepth 100000 in
theorem laws_eqByteS.calls (k : Nat) (A0 : Option Addr) (c0 : Nat) (l0 : List Int) (A1 : Option Addr) (c1 : Nat) (l1 : List Int) (r : Bool) (w : World) (hr0 : Kd.C (Kd.int .u8) w A0 l0.length l0) (hc0 : l0.length ≤ c0) (hr1 : Kd.C (Kd.int .u8) w A1 l1.length l1) (hc1 : l1.length ≤ c1) (h : laws_eqByteS.f k l0 l1 = some r) :
  Calls Tryd.prog 9 #[.slice A0 l0.length c0, .slice A1 l1.length c1] w fun e w' => e = .returned (.bool r) ∧ Drawn0 w w' := by
 have HR0 := Aside0.mk hr0; have HC0 := Aside0.mk hc0; clear hr0 hc0; have HR1 := Aside0.mk hr1; have HC1 := Aside0.mk hc1; clear hr1 hc1; have H : (if (l0.length : Int) = (l1.length : Int) then (laws_eqByteS.l0 k l0 l1 0) else (some false)) = some r := h; clear h
 by_cases c3 : (l0.length : Int) = (l1.length : Int)
 ·
  rw [if_pos c3] at H
  have c3b0 : ((l0.length : Int) == (l1.length : Int)) = true := beq_iff_eq.mpr c3; have c3b1 : ((l0.length : Int) != (l1.length : Int)) = false := bne_eq_false_iff_eq.mpr c3
  have c3b2 : (l0.length == l1.length) = true := by first | simpa using c3 | (simp at c3 ⊢; omega)
  clear c3; have H' := Aside0.mk H; clear H
  go_enter Tryd.func9, Tryd.ntmps9
  go_wp2
  repeat (go_quiet (fail); try go_wp2)
  go_loopg [5] k (fun kq v5 w' => ∃ (x5_1 : Int), v5 = .int .i64 x5_1 ∧ Aside0 (laws_eqByteS.l0 kq l0 l1 x5_1 = some r) ∧ Aside0 (kq ≤ k) ∧ Drawn0 w w')
  case atStart => exact ⟨(0), y0_10, H', ⟨Nat.le_refl _⟩, y0_8⟩
  case round =>
   clear H'
   try clear c1
   try clear p2
   try clear c3
   try clear c3b0
   try clear c3b1
   try clear c3b2
   obtain ⟨x5_1, rfl, HA, HK1, ⟨m1, rfl⟩⟩ := hrel; cases gk with
   | zero => exact absurd HA.out (by simp [laws_eqByteS.l0])
   | succ k1 =>
    have H := HA.out; clear HA
    simp only [laws_eqByteS.l0] at H
    by_cases c4 : x5_1 < (l0.length : Int)
    ·
     rw [if_pos c4] at H
     have c4b0 : decide (x5_1 < (l0.length : Int)) = true := decide_eq_true c4; clear c4
     by_cases c5 : 0 ≤ x5_1
     rotate_left
     ·
      rw [if_neg c5] at H
      exact absurd H (by simp)
     rw [if_pos c5] at H
     have c5b0 : decide (0 ≤ x5_1) = true := decide_eq_true c5; clear c5
     by_cases c6 : x5_1 < (l1.length : Int)
     rotate_left
     ·
      rw [if_neg c6] at H
      exact absurd H (by simp)
     rw [if_pos c6] at H
     have c6b0 : decide (x5_1 < (l1.length : Int)) = true := decide_eq_true c6; clear c6
     by_cases c7 : (rd l0 x5_1) = (rd l1 x5_1)
     ·
      rw [if_pos c7] at H
      have c7b0 : ((rd l0 x5_1) == (rd l1 x5_1)) = true := beq_iff_eq.mpr c7; have c7b1 : ((rd l0 x5_1) != (rd l1 x5_1)) = false := bne_eq_false_iff_eq.mpr c7; clear c7; have H' := Aside0.mk H; clear H; have p506 : 0 ≤ (x5_1 : Int) := of_decide_eq_true y0_9; have q506 : x5_1 < (l0.length : Int) := of_decide_eq_true y0_9; obtain ⟨ad506, e506, hx506_0⟩ := Kd.at_int HR0.out x5_1 p506 q506; cases e506; replace p506 := eq_true p506; replace q506 := eq_true q506; have p507 : 0 ≤ (x5_1 : Int) := of_decide_eq_true y0_9; have q507 : x5_1 < (l1.length : Int) := of_decide_eq_true y0_9; obtain ⟨ad507, e507, hx507_0⟩ := Kd.at_int HR1.out x5_1 p507 q507; cases e507; replace p507 := eq_true p507; replace q507 := eq_true q507
      go_wp2
      repeat (go_quiet (fail); try go_wp2)
      go_roundg k1
      case measure => have := HK1.out; omega
      case rel => exact ⟨(wrap64 (x5_1 + 1)), y0_10, H', ⟨y0_14⟩, y0_8⟩
     rw [if_neg c7] at H
     have c7b0 : ((rd l0 x5_1) == (rd l1 x5_1)) = false := beq_eq_false_iff_ne.mpr c7; have c7b1 : ((rd l0 x5_1) != (rd l1 x5_1)) = true := bne_iff_ne.mpr c7; obtain rfl := Option.some.inj H; have p506 : 0 ≤ (x5_1 : Int) := of_decide_eq_true y0_9; have q506 : x5_1 < (l0.length : Int) := of_decide_eq_true y0_9; obtain ⟨ad506, e506, hx506_0⟩ := Kd.at_int HR0.out x5_1 p506 q506; cases e506; replace p506 := eq_true p506; replace q506 := eq_true q506; have p507 : 0 ≤ (x5_1 : Int) := of_decide_eq_true y0_9; have q507 : x5_1 < (l1.length : Int) := of_decide_eq_true y0_9; obtain ⟨ad507, e507, hx507_0⟩ := Kd.at_int HR1.out x5_1 p507 q507; cases e507; replace p507 := eq_true p507; replace q507 := eq_true q507
     go_wp2
     repeat (go_quiet (fail); try go_wp2)
     go_ret
     exact ⟨y0_10, y0_8⟩
    rw [if_neg c4] at H
    have c4b0 : decide (x5_1 < (l0.length : Int)) = false := decide_eq_false c4; clear c4; obtain rfl := Option.some.inj H
    go_wp2
    repeat (go_quiet (fail); try go_wp2)
    go_ret
    exact ⟨y0_10, y0_8⟩
 rw [if_neg c3] at H
 have c3b0 : ((l0.length : Int) == (l1.length : Int)) = false := beq_eq_false_iff_ne.mpr c3; have c3b1 : ((l0.length : Int) != (l1.length : Int)) = true := bne_iff_ne.mpr c3
 have c3b2 : (l0.length == l1.length) = false := by first | simpa using c3 | (simp at c3 ⊢; omega)
 obtain rfl := Option.some.inj H
 go_enter Tryd.func9, Tryd.ntmps9
 go_wp2
 repeat (go_quiet (fail); try go_wp2)
 go_ret
 exact ⟨y0_10, y0_8⟩

/-! ### laws_eqIntS: function 33 -/
def laws_eqIntS.l0 : Nat → List Int → List Int → Int → Option (Bool)
 | 0, _, _, _ => none
 | k + 1, x0, x1, x5 => if x5 < (x0.length : Int) then (if 0 ≤ x5 then (if x5 < (x1.length : Int) then (if (rd x0 x5) = (rd x1 x5) then (laws_eqIntS.l0 k x0 x1 (wrap64 (x5 + 1))) else (some false)) else (none)) else (none)) else (some true)
def laws_eqIntS.f (k : Nat) (l0 : List Int) (l1 : List Int) : Option (Bool) := if (l0.length : Int) = (l1.length : Int) then (laws_eqIntS.l0 k l0 l1 0) else (some false)
theorem laws_eqIntS.mono_l : ∀ k, (∀ y0 y1 y2, LeO (laws_eqIntS.l0 k y0 y1 y2) (laws_eqIntS.l0 (k + 1) y0 y1 y2))
 | 0 => fun _ _ _ r h => by simp [laws_eqIntS.l0] at h
 | k + 1 => by
  have ih0 := laws_eqIntS.mono_l k
  intro y0 y1 y2
  unfold laws_eqIntS.l0
  repeat' first | (with_reducible exact ih0 _ _ _) | (with_reducible exact LeO.refl _) | (with_reducible exact LeO.none _) | (with_reducible refine LeO.ite ?_ ?_) | (with_reducible refine LeO.bind ?_ (fun _ => ?_))
theorem laws_eqIntS.mono : ∀ a0 a1 k, LeO (laws_eqIntS.f k a0 a1) (laws_eqIntS.f (k + 1) a0 a1) := by
 intro a0 a1 k
 have ih0 := laws_eqIntS.mono_l k
 unfold laws_eqIntS.f
 repeat' first | (with_reducible exact ih0 _ _ _) | (with_reducible exact LeO.refl _) | (with_reducible exact LeO.none _) | (with_reducible refine LeO.ite ?_ ?_) | (with_reducible refine LeO.bind ?_ (fun _ => ?_))
set_option maxHeartbeats 8000000 in
set_option maxRecDepth 100000 in
theorem laws_eqIntS.calls (k : Nat) (A0 : Option Addr) (c0 : Nat) (l0 : List Int) (A1 : Option Addr) (c1 : Nat) (l1 : List Int) (r : Bool) (w : World) (hr0 : Kd.C (Kd.int .i64) w A0 l0.length l0) (hc0 : l0.length ≤ c0) (hr1 : Kd.C (Kd.int .i64) w A1 l1.length l1) (hc1 : l1.length ≤ c1) (h : laws_eqIntS.f k l0 l1 = some r) :
  Calls Tryd.prog 33 #[.slice A0 l0.length c0, .slice A1 l1.length c1] w fun e w' => e = .returned (.bool r) ∧ Drawn0 w w' := by
 have HR0 := Aside0.mk hr0; have HC0 := Aside0.mk hc0; clear hr0 hc0; have HR1 := Aside0.mk hr1; have HC1 := Aside0.mk hc1; clear hr1 hc1; have H : (if (l0.length : Int) = (l1.length : Int) then (laws_eqIntS.l0 k l0 l1 0) else (some false)) = some r := h; clear h
 by_cases c3 : (l0.length : Int) = (l1.length : Int)
 ·
  rw [if_pos c3] at H
  have c3b0 : ((l0.length : Int) == (l1.length : Int)) = true := beq_iff_eq.mpr c3; have c3b1 : ((l0.length : Int) != (l1.length : Int)) = false := bne_eq_false_iff_eq.mpr c3
  have c3b2 : (l0.length == l1.length) = true := by first | simpa using c3 | (simp at c3 ⊢; omega)
  clear c3; have H' := Aside0.mk H; clear H
  go_enter Tryd.func33, Tryd.ntmps33
  go_wp2
  repeat (go_quiet (fail); try go_wp2)
  go_loopg [5] k (fun kq v5 w' => ∃ (x5_1 : Int), v5 = .int .i64 x5_1 ∧ Aside0 (laws_eqIntS.l0 kq l0 l1 x5_1 = some r) ∧ Aside0 (kq ≤ k) ∧ Drawn0 w w')
  case atStart => exact ⟨(0), y0_10, H', ⟨Nat.le_refl _⟩, y0_8⟩
  case round =>
   clear H'
   try clear c1
   try clear p2
   try clear c3
   try clear c3b0
   try clear c3b1
   try clear c3b2
   obtain ⟨x5_1, rfl, HA, HK1, ⟨m1, rfl⟩⟩ := hrel; cases gk with
   | zero => exact absurd HA.out (by simp [laws_eqIntS.l0])
   | succ k1 =>
    have H := HA.out; clear HA
    simp only [laws_eqIntS.l0] at H
    by_cases c4 : x5_1 < (l0.length : Int)
    ·
     rw [if_pos c4] at H
     have c4b0 : decide (x5_1 < (l0.length : Int)) = true := decide_eq_true c4; clear c4
     by_cases c5 : 0 ≤ x5_1
     rotate_left
     ·
      rw [if_neg c5] at H
      exact absurd H (by simp)
     rw [if_pos c5] at H
     have c5b0 : decide (0 ≤ x5_1) = true := decide_eq_true c5; clear c5
     by_cases c6 : x5_1 < (l1.length : Int)
     rotate_left
     ·
      rw [if_neg c6] at H
      exact absurd H (by simp)
     rw [if_pos c6] at H
     have c6b0 : decide (x5_1 < (l1.length : Int)) = true := decide_eq_true c6; clear c6
     by_cases c7 : (rd l0 x5_1) = (rd l1 x5_1)
     ·
      rw [if_pos c7] at H
      have c7b0 : ((rd l0 x5_1) == (rd l1 x5_1)) = true := beq_iff_eq.mpr c7; have c7b1 : ((rd l0 x5_1) != (rd l1 x5_1)) = false := bne_eq_false_iff_eq.mpr c7; clear c7; have H' := Aside0.mk H; clear H; have p508 : 0 ≤ (x5_1 : Int) := of_decide_eq_true y0_9; have q508 : x5_1 < (l0.length : Int) := of_decide_eq_true y0_9; obtain ⟨ad508, e508, hx508_0⟩ := Kd.at_int HR0.out x5_1 p508 q508; cases e508; replace p508 := eq_true p508; replace q508 := eq_true q508; have p509 : 0 ≤ (x5_1 : Int) := of_decide_eq_true y0_9; have q509 : x5_1 < (l1.length : Int) := of_decide_eq_true y0_9; obtain ⟨ad509, e509, hx509_0⟩ := Kd.at_int HR1.out x5_1 p509 q509; cases e509; replace p509 := eq_true p509; replace q509 := eq_true q509
      go_wp2
      repeat (go_quiet (fail); try go_wp2)
      go_roundg k1
      case measure => have := HK1.out; omega
      case rel => exact ⟨(wrap64 (x5_1 + 1)), y0_10, H', ⟨y0_14⟩, y0_8⟩
     rw [if_neg c7] at H
     have c7b0 : ((rd l0 x5_1) == (rd l1 x5_1)) = false := beq_eq_false_iff_ne.mpr c7; have c7b1 : ((rd l0 x5_1) != (rd l1 x5_1)) = true := bne_iff_ne.mpr c7; obtain rfl := Option.some.inj H; have p508 : 0 ≤ (x5_1 : Int) := of_decide_eq_true y0_9; have q508 : x5_1 < (l0.length : Int) := of_decide_eq_true y0_9; obtain ⟨ad508, e508, hx508_0⟩ := Kd.at_int HR0.out x5_1 p508 q508; cases e508; replace p508 := eq_true p508; replace q508 := eq_true q508; have p509 : 0 ≤ (x5_1 : Int) := of_decide_eq_true y0_9; have q509 : x5_1 < (l1.length : Int) := of_decide_eq_true y0_9; obtain ⟨ad509, e509, hx509_0⟩ := Kd.at_int HR1.out x5_1 p509 q509; cases e509; replace p509 := eq_true p509; replace q509 := eq_true q509
     go_wp2
     repeat (go_quiet (fail); try go_wp2)
     go_ret
     exact ⟨y0_10, y0_8⟩
    rw [if_neg c4] at H
    have c4b0 : decide (x5_1 < (l0.length : Int)) = false := decide_eq_false c4; clear c4; obtain rfl := Option.some.inj H
    go_wp2
    repeat (go_quiet (fail); try go_wp2)
    go_ret
    exact ⟨y0_10, y0_8⟩
 rw [if_neg c3] at H
 have c3b0 : ((l0.length : Int) == (l1.length : Int)) = false := beq_eq_false_iff_ne.mpr c3; have c3b1 : ((l0.length : Int) != (l1.length : Int)) = true := bne_iff_ne.mpr c3
 have c3b2 : (l0.length == l1.length) = false := by first | simpa using c3 | (simp at c3 ⊢; omega)
 obtain rfl := Option.some.inj H
 go_enter Tryd.func33, Tryd.ntmps33
 go_wp2
 repeat (go_quiet (fail); try go_wp2)
 go_ret
 exact ⟨y0_10, y0_8⟩

/-! ### laws_eqQc: function 20 -/
def laws_eqQc.f (k : Nat) (a0_0 : Int) (a0_1 : ByteArray) (l0_2 : List Int) (a1_0 : Int) (a1_1 : ByteArray) (l1_2 : List Int) : Option (Bool) := if a0_0 = a1_0 then (if a0_1.toList = a1_1.toList then ((laws_eqIntS.f k l0_2 l1_2).bind fun t512 => (if t512 = true then (some true) else (some false))) else (some false)) else (some false)
theorem laws_eqQc.mono : ∀ a0 a1 a2 a3 a4 a5 k, LeO (laws_eqQc.f k a0 a1 a2 a3 a4 a5) (laws_eqQc.f (k + 1) a0 a1 a2 a3 a4 a5) := by
 intro a0 a1 a2 a3 a4 a5 k
 unfold laws_eqQc.f
 repeat' first | (with_reducible exact laws_eqIntS.mono _ _ _) | (with_reducible exact LeO.refl _) | (with_reducible exact LeO.none _) | (with_reducible refine LeO.ite ?_ ?_) | (with_reducible refine LeO.bind ?_ (fun _ => ?_))
set_option maxHeartbeats 8000000 in
set_option maxRecDepth 100000 in
theorem laws_eqQc.calls (k : Nat) (a0_0 : Int) (a0_1 : ByteArray) (A0_2 : Option Addr) (c0_2 : Nat) (l0_2 : List Int) (a1_0 : Int) (a1_1 : ByteArray) (A1_2 : Option Addr) (c1_2 : Nat) (l1_2 : List Int) (r : Bool) (w : World) (hr0_2 : Kd.C (Kd.int .i64) w A0_2 l0_2.length l0_2) (hc0_2 : l0_2.length ≤ c0_2) (hr1_2 : Kd.C (Kd.int .i64) w A1_2 l1_2.length l1_2) (hc1_2 : l1_2.length ≤ c1_2) (h : laws_eqQc.f k a0_0 a0_1 l0_2 a1_0 a1_1 l1_2 = some r) :
  Calls Tryd.prog 20 #[.agg #[.int .i64 a0_0, .string a0_1, .slice A0_2 l0_2.length c0_2], .agg #[.int .i64 a1_0, .string a1_1, .slice A1_2 l1_2.length c1_2]] w fun e w' => e = .returned (.bool r) ∧ Below w.heap.size w w' := by
 have hu34 := Tryd.underlying34; have HR0_2 := Aside0.mk hr0_2; have HC0_2 := Aside0.mk hc0_2; clear hr0_2 hc0_2; have HR1_2 := Aside0.mk hr1_2; have HC1_2 := Aside0.mk hc1_2; clear hr1_2 hc1_2; have HB := Aside0.mk (Below.refl w.heap.size w)
 have H : (if a0_0 = a1_0 then (if a0_1.toList = a1_1.toList then ((laws_eqIntS.f k l0_2 l1_2).bind fun t512 => (if t512 = true then (some true) else (some false))) else (some false)) else (some false)) = some r := h
 clear h
 by_cases c3 : a0_0 = a1_0
 ·
  rw [if_pos c3] at H
  have c3b0 : (a0_0 == a1_0) = true := beq_iff_eq.mpr c3; have c3b1 : (a0_0 != a1_0) = false := bne_eq_false_iff_eq.mpr c3; clear c3
  by_cases c4 : a0_1.toList = a1_1.toList
  ·
   rw [if_pos c4] at H
   have c4b0 : (a0_1.toList == a1_1.toList) = true := beq_iff_eq.mpr c4; have c4b1 : (a0_1.toList != a1_1.toList) = false := bne_eq_false_iff_eq.mpr c4; clear c4; obtain ⟨t512, A50, H⟩ := Option.bind_eq_some_iff.mp H
   try dsimp only at H
   have A5 := Aside0.mk A50; clear A50
   by_cases c6 : t512 = true
   ·
    subst c6
    rw [if_pos rfl] at H
    obtain rfl := Option.some.inj H
    go_enter Tryd.func20, Tryd.ntmps20
    go_wp2_with (first | ((with_reducible refine gd 2 ?_); refine bA 2 #[.int .i64 a0_0, .string a0_1, .slice A0_2 l0_2.length c0_2] 34 ?_; intro gb510 hg w7 hbox hb; have BK510 := Aside0.mk (hbox); have GW510 := bg hg HB; have GJ510 := gi GW510; have GE510 := GW510; replace HB := bs HB hb; clear hb hbox hg) | ((with_reducible refine gd 3 ?_); refine bA 3 #[.int .i64 a1_0, .string a1_1, .slice A1_2 l1_2.length c1_2] 34 ?_; intro gb511 hg w8 hbox hb; have BK511 := Aside0.mk (hbox); have GW511 := bg hg HB; have GJ511 := gi GW511; have GE511 := GW511; replace HB := bs HB hb; have NB510_511 := b1 BK510 hg; have NI510_511 := ni NB510_511; have NB511_510 := b2 BK510 hg; have NI511_510 := ni NB511_510; replace BK510 := bk BK510 hb; clear hb hbox hg; have hnb9 := NB510_511.out; have hnc9 := NB511_510.out; obtain ⟨hcz10_0, hcz10_1, hcz10_2, hfz10_0, hfz10_1, hfz10_2⟩ := cs3 BK510; obtain ⟨hcz11_0, hcz11_1, hcz11_2, hfz11_0, hfz11_1, hfz11_2⟩ := cs3 BK511) | ((with_reducible refine gate_callee (f := 33) rfl ?_); refine gB (some 19) Tryd.func33 #[.slice A0_2 l0_2.length c0_2, .slice A1_2 l1_2.length c1_2] ?_; (with_reducible refine (laws_eqIntS.calls k _ _ l0_2 _ _ l1_2 true _ ?side1 ?side2 ?side3 ?side4 A5.out).mono ?_); (case side1 => exact ch HR0_2 HB); (case side2 => exact HC0_2.out); (case side3 => exact ch HR1_2 HB); (case side4 => exact HC1_2.out); rintro e w' ⟨rfl, ⟨nd, rfl⟩⟩; refine ⟨_, rfl, ?_⟩))
    go_ret
    exact ⟨y0_7, bI HB.out⟩
   replace c6 := Bool.eq_false_iff.mpr c6; subst c6
   rw [if_neg (show ¬ (false = true) by decide)] at H
   obtain rfl := Option.some.inj H
   go_enter Tryd.func20, Tryd.ntmps20
   go_wp2_with (first | ((with_reducible refine gd 2 ?_); refine bA 2 #[.int .i64 a0_0, .string a0_1, .slice A0_2 l0_2.length c0_2] 34 ?_; intro gb510 hg w12 hbox hb; have BK510 := Aside0.mk (hbox); have GW510 := bg hg HB; have GJ510 := gi GW510; have GE510 := GW510; replace HB := bs HB hb; clear hb hbox hg) | ((with_reducible refine gd 3 ?_); refine bA 3 #[.int .i64 a1_0, .string a1_1, .slice A1_2 l1_2.length c1_2] 34 ?_; intro gb511 hg w13 hbox hb; have BK511 := Aside0.mk (hbox); have GW511 := bg hg HB; have GJ511 := gi GW511; have GE511 := GW511; replace HB := bs HB hb; have NB510_511 := b1 BK510 hg; have NI510_511 := ni NB510_511; have NB511_510 := b2 BK510 hg; have NI511_510 := ni NB511_510; replace BK510 := bk BK510 hb; clear hb hbox hg; have hnb14 := NB510_511.out; have hnc14 := NB511_510.out; obtain ⟨hcz15_0, hcz15_1, hcz15_2, hfz15_0, hfz15_1, hfz15_2⟩ := cs3 BK510; obtain ⟨hcz16_0, hcz16_1, hcz16_2, hfz16_0, hfz16_1, hfz16_2⟩ := cs3 BK511) | ((with_reducible refine gate_callee (f := 33) rfl ?_); refine gB (some 19) Tryd.func33 #[.slice A0_2 l0_2.length c0_2, .slice A1_2 l1_2.length c1_2] ?_; (with_reducible refine (laws_eqIntS.calls k _ _ l0_2 _ _ l1_2 false _ ?side1 ?side2 ?side3 ?side4 A5.out).mono ?_); (case side1 => exact ch HR0_2 HB); (case side2 => exact HC0_2.out); (case side3 => exact ch HR1_2 HB); (case side4 => exact HC1_2.out); rintro e w' ⟨rfl, ⟨nd, rfl⟩⟩; refine ⟨_, rfl, ?_⟩))
   go_ret
   exact ⟨y0_7, bI HB.out⟩
  rw [if_neg c4] at H
  have c4b0 : (a0_1.toList == a1_1.toList) = false := beq_eq_false_iff_ne.mpr c4; have c4b1 : (a0_1.toList != a1_1.toList) = true := bne_iff_ne.mpr c4; obtain rfl := Option.some.inj H
  go_enter Tryd.func20, Tryd.ntmps20
  go_wp2_with (first | ((with_reducible refine gd 2 ?_); refine bA 2 #[.int .i64 a0_0, .string a0_1, .slice A0_2 l0_2.length c0_2] 34 ?_; intro gb510 hg w17 hbox hb; have BK510 := Aside0.mk (hbox); have GW510 := bg hg HB; have GJ510 := gi GW510; have GE510 := GW510; replace HB := bs HB hb; clear hb hbox hg) | ((with_reducible refine gd 3 ?_); refine bA 3 #[.int .i64 a1_0, .string a1_1, .slice A1_2 l1_2.length c1_2] 34 ?_; intro gb511 hg w18 hbox hb; have BK511 := Aside0.mk (hbox); have GW511 := bg hg HB; have GJ511 := gi GW511; have GE511 := GW511; replace HB := bs HB hb; have NB510_511 := b1 BK510 hg; have NI510_511 := ni NB510_511; have NB511_510 := b2 BK510 hg; have NI511_510 := ni NB511_510; replace BK510 := bk BK510 hb; clear hb hbox hg; have hnb19 := NB510_511.out; have hnc19 := NB511_510.out; obtain ⟨hcz20_0, hcz20_1, hcz20_2, hfz20_0, hfz20_1, hfz20_2⟩ := cs3 BK510; obtain ⟨hcz21_0, hcz21_1, hcz21_2, hfz21_0, hfz21_1, hfz21_2⟩ := cs3 BK511))
  go_ret
  exact ⟨y0_7, bI HB.out⟩
 rw [if_neg c3] at H
 have c3b0 : (a0_0 == a1_0) = false := beq_eq_false_iff_ne.mpr c3; have c3b1 : (a0_0 != a1_0) = true := bne_iff_ne.mpr c3; obtain rfl := Option.some.inj H
 go_enter Tryd.func20, Tryd.ntmps20
 go_wp2_with (first | ((with_reducible refine gd 2 ?_); refine bA 2 #[.int .i64 a0_0, .string a0_1, .slice A0_2 l0_2.length c0_2] 34 ?_; intro gb510 hg w22 hbox hb; have BK510 := Aside0.mk (hbox); have GW510 := bg hg HB; have GJ510 := gi GW510; have GE510 := GW510; replace HB := bs HB hb; clear hb hbox hg) | ((with_reducible refine gd 3 ?_); refine bA 3 #[.int .i64 a1_0, .string a1_1, .slice A1_2 l1_2.length c1_2] 34 ?_; intro gb511 hg w23 hbox hb; have BK511 := Aside0.mk (hbox); have GW511 := bg hg HB; have GJ511 := gi GW511; have GE511 := GW511; replace HB := bs HB hb; have NB510_511 := b1 BK510 hg; have NI510_511 := ni NB510_511; have NB511_510 := b2 BK510 hg; have NI511_510 := ni NB511_510; replace BK510 := bk BK510 hb; clear hb hbox hg; have hnb24 := NB510_511.out; have hnc24 := NB511_510.out; obtain ⟨hcz25_0, hcz25_1, hcz25_2, hfz25_0, hfz25_1, hfz25_2⟩ := cs3 BK510; obtain ⟨hcz26_0, hcz26_1, hcz26_2, hfz26_0, hfz26_1, hfz26_2⟩ := cs3 BK511))
 go_ret
 exact ⟨y0_7, bI HB.out⟩

/-! ### laws_eqSafe: function 10 -/
def laws_eqSafe.f (k : Nat) (a0_0 : Int) (a0_1 : Int) (a0_2 : Int) (a0_3 : ByteArray) (l0_4 : List Int) (a0_5 : ByteArray) (a1_0 : Int) (a1_1 : Int) (a1_2 : Int) (a1_3 : ByteArray) (l1_4 : List Int) (a1_5 : ByteArray) : Option (Bool) := if a0_0 = a1_0 then (if a0_1 = a1_1 then ((laws_eqQc.f k a0_2 a0_3 l0_4 a1_2 a1_3 l1_4).bind fun t515 => (if t515 = true then (if a0_5.toList = a1_5.toList then (some true) else (some false)) else (some false))) else (some false)) else (some false)
theorem laws_eqSafe.mono : ∀ a0 a1 a2 a3 a4 a5 a6 a7 a8 a9 a10 a11 k, LeO (laws_eqSafe.f k a0 a1 a2 a3 a4 a5 a6 a7 a8 a9 a10 a11) (laws_eqSafe.f (k + 1) a0 a1 a2 a3 a4 a5 a6 a7 a8 a9 a10 a11) := by
 intro a0 a1 a2 a3 a4 a5 a6 a7 a8 a9 a10 a11 k
 unfold laws_eqSafe.f
 repeat' first | (with_reducible exact laws_eqQc.mono _ _ _ _ _ _ _) | (with_reducible exact LeO.refl _) | (with_reducible exact LeO.none _) | (with_reducible refine LeO.ite ?_ ?_) | (with_reducible refine LeO.bind ?_ (fun _ => ?_))
set_option maxHeartbeats 8000000 in
set_option maxRecDepth 100000 in
theorem laws_eqSafe.calls (k : Nat) (a0_0 : Int) (a0_1 : Int) (a0_2 : Int) (a0_3 : ByteArray) (A0_4 : Option Addr) (c0_4 : Nat) (l0_4 : List Int) (a0_5 : ByteArray) (a1_0 : Int) (a1_1 : Int) (a1_2 : Int) (a1_3 : ByteArray) (A1_4 : Option Addr) (c1_4 : Nat) (l1_4 : List Int) (a1_5 : ByteArray) (r : Bool) (w : World) (hr0_4 : Kd.C (Kd.int .i64) w A0_4 l0_4.length l0_4) (hc0_4 : l0_4.length ≤ c0_4) (hr1_4 : Kd.C (Kd.int .i64) w A1_4 l1_4.length l1_4) (hc1_4 : l1_4.length ≤ c1_4) (h : laws_eqSafe.f k a0_0 a0_1 a0_2 a0_3 l0_4 a0_5 a1_0 a1_1 a1_2 a1_3 l1_4 a1_5 = some r) :
  Calls Tryd.prog 10 #[.agg #[.int .i64 a0_0, .int .i64 a0_1, .int .i64 a0_2, .string a0_3, .slice A0_4 l0_4.length c0_4, .string a0_5], .agg #[.int .i64 a1_0, .int .i64 a1_1, .int .i64 a1_2, .string a1_3, .slice A1_4 l1_4.length c1_4, .string a1_5]] w fun e w' => e = .returned (.bool r) ∧ Below w.heap.size w w' := by
 have hu36 := Tryd.underlying36; have hu34 := Tryd.underlying34; have HR0_4 := Aside0.mk hr0_4; have HC0_4 := Aside0.mk hc0_4; clear hr0_4 hc0_4; have HR1_4 := Aside0.mk hr1_4; have HC1_4 := Aside0.mk hc1_4; clear hr1_4 hc1_4; have HB := Aside0.mk (Below.refl w.heap.size w)
 have H : (if a0_0 = a1_0 then (if a0_1 = a1_1 then ((laws_eqQc.f k a0_2 a0_3 l0_4 a1_2 a1_3 l1_4).bind fun t515 => (if t515 = true then (if a0_5.toList = a1_5.toList then (some true) else (some false)) else (some false))) else (some false)) else (some false)) = some r := h
 clear h
 by_cases c3 : a0_0 = a1_0
 ·
  rw [if_pos c3] at H
  have c3b0 : (a0_0 == a1_0) = true := beq_iff_eq.mpr c3; have c3b1 : (a0_0 != a1_0) = false := bne_eq_false_iff_eq.mpr c3; clear c3
  by_cases c4 : a0_1 = a1_1
  ·
   rw [if_pos c4] at H
   have c4b0 : (a0_1 == a1_1) = true := beq_iff_eq.mpr c4; have c4b1 : (a0_1 != a1_1) = false := bne_eq_false_iff_eq.mpr c4; clear c4; obtain ⟨t515, A50, H⟩ := Option.bind_eq_some_iff.mp H
   try dsimp only at H
   have A5 := Aside0.mk A50; clear A50
   by_cases c6 : t515 = true
   ·
    subst c6
    rw [if_pos rfl] at H
    by_cases c7 : a0_5.toList = a1_5.toList
    ·
     rw [if_pos c7] at H
     have c7b0 : (a0_5.toList == a1_5.toList) = true := beq_iff_eq.mpr c7; have c7b1 : (a0_5.toList != a1_5.toList) = false := bne_eq_false_iff_eq.mpr c7; clear c7; obtain rfl := Option.some.inj H
     go_enter Tryd.func10, Tryd.ntmps10
     go_wp2_with (first | ((with_reducible refine gd 2 ?_); refine bA 2 #[.int .i64 a0_0, .int .i64 a0_1, .int .i64 a0_2, .string a0_3, .slice A0_4 l0_4.length c0_4, .string a0_5] 36 ?_; intro gb513 hg w8 hbox hb; have BK513 := Aside0.mk (hbox); have GW513 := bg hg HB; have GJ513 := gi GW513; have GE513 := GW513; replace HB := bs HB hb; clear hb hbox hg) | ((with_reducible refine gd 3 ?_); refine bA 3 #[.int .i64 a1_0, .int .i64 a1_1, .int .i64 a1_2, .string a1_3, .slice A1_4 l1_4.length c1_4, .string a1_5] 36 ?_; intro gb514 hg w9 hbox hb; have BK514 := Aside0.mk (hbox); have GW514 := bg hg HB; have GJ514 := gi GW514; have GE514 := GW514; replace HB := bs HB hb; have NB513_514 := b1 BK513 hg; have NI513_514 := ni NB513_514; have NB514_513 := b2 BK513 hg; have NI514_513 := ni NB514_513; replace BK513 := bk BK513 hb; clear hb hbox hg; have hnb10 := NB513_514.out; have hnc10 := NB514_513.out; have hcz11_0 := bc0 BK513.out; have hcz11_1 := bc1 BK513.out; have hcz11_2 := bc2 BK513.out; have hcz11_3 := bc3 BK513.out; have hcz11_4 := bc4 BK513.out; have hcz11_5 := bc5 BK513.out; have hfz11_0 := blk_frozen BK513.out 0; have hfz11_1 := blk_frozen BK513.out 1; have hfz11_2 := blk_frozen BK513.out 2; have hfz11_3 := blk_frozen BK513.out 3; have hfz11_4 := blk_frozen BK513.out 4; have hfz11_5 := blk_frozen BK513.out 5; have hcz12_0 := bc0 BK514.out; have hcz12_1 := bc1 BK514.out; have hcz12_2 := bc2 BK514.out; have hcz12_3 := bc3 BK514.out; have hcz12_4 := bc4 BK514.out; have hcz12_5 := bc5 BK514.out; have hfz12_0 := blk_frozen BK514.out 0; have hfz12_1 := blk_frozen BK514.out 1; have hfz12_2 := blk_frozen BK514.out 2; have hfz12_3 := blk_frozen BK514.out 3; have hfz12_4 := blk_frozen BK514.out 4; have hfz12_5 := blk_frozen BK514.out 5) | ((with_reducible refine gate_callee (f := 20) rfl ?_); refine gB (some 19) Tryd.func20 #[.agg #[.int .i64 a0_2, .string a0_3, .slice A0_4 l0_4.length c0_4], .agg #[.int .i64 a1_2, .string a1_3, .slice A1_4 l1_4.length c1_4]] ?_; (with_reducible refine (laws_eqQc.calls k a0_2 a0_3 _ _ l0_4 a1_2 a1_3 _ _ l1_4 true _ ?side1 ?side2 ?side3 ?side4 A5.out).mono ?_); (case side1 => exact ch HR0_4 HB); (case side2 => exact HC0_4.out); (case side3 => exact ch HR1_4 HB); (case side4 => exact HC1_4.out); rintro e w13 ⟨rfl, hb⟩; refine ⟨_, rfl, ?_⟩; replace BK513 := bk BK513 hb; replace BK514 := bk BK514 hb; replace HB := bs HB hb; (try clear hb); (try clear hb2); (try clear hk); (try clear hi); have hcz14_0 := bc0 BK513.out; have hcz14_1 := bc1 BK513.out; have hcz14_2 := bc2 BK513.out; have hcz14_3 := bc3 BK513.out; have hcz14_4 := bc4 BK513.out; have hcz14_5 := bc5 BK513.out; have hfz14_0 := blk_frozen BK513.out 0; have hfz14_1 := blk_frozen BK513.out 1; have hfz14_2 := blk_frozen BK513.out 2; have hfz14_3 := blk_frozen BK513.out 3; have hfz14_4 := blk_frozen BK513.out 4; have hfz14_5 := blk_frozen BK513.out 5; have hcz15_0 := bc0 BK514.out; have hcz15_1 := bc1 BK514.out; have hcz15_2 := bc2 BK514.out; have hcz15_3 := bc3 BK514.out; have hcz15_4 := bc4 BK514.out; have hcz15_5 := bc5 BK514.out; have hfz15_0 := blk_frozen BK514.out 0; have hfz15_1 := blk_frozen BK514.out 1; have hfz15_2 := blk_frozen BK514.out 2; have hfz15_3 := blk_frozen BK514.out 3; have hfz15_4 := blk_frozen BK514.out 4; have hfz15_5 := blk_frozen BK514.out 5))
     go_ret
     exact ⟨y0_7, bI HB.out⟩
    rw [if_neg c7] at H
    have c7b0 : (a0_5.toList == a1_5.toList) = false := beq_eq_false_iff_ne.mpr c7; have c7b1 : (a0_5.toList != a1_5.toList) = true := bne_iff_ne.mpr c7; obtain rfl := Option.some.inj H
    go_enter Tryd.func10, Tryd.ntmps10
    go_wp2_with (first | ((with_reducible refine gd 2 ?_); refine bA 2 #[.int .i64 a0_0, .int .i64 a0_1, .int .i64 a0_2, .string a0_3, .slice A0_4 l0_4.length c0_4, .string a0_5] 36 ?_; intro gb513 hg w16 hbox hb; have BK513 := Aside0.mk (hbox); have GW513 := bg hg HB; have GJ513 := gi GW513; have GE513 := GW513; replace HB := bs HB hb; clear hb hbox hg) | ((with_reducible refine gd 3 ?_); refine bA 3 #[.int .i64 a1_0, .int .i64 a1_1, .int .i64 a1_2, .string a1_3, .slice A1_4 l1_4.length c1_4, .string a1_5] 36 ?_; intro gb514 hg w17 hbox hb; have BK514 := Aside0.mk (hbox); have GW514 := bg hg HB; have GJ514 := gi GW514; have GE514 := GW514; replace HB := bs HB hb; have NB513_514 := b1 BK513 hg; have NI513_514 := ni NB513_514; have NB514_513 := b2 BK513 hg; have NI514_513 := ni NB514_513; replace BK513 := bk BK513 hb; clear hb hbox hg; have hnb18 := NB513_514.out; have hnc18 := NB514_513.out; have hcz19_0 := bc0 BK513.out; have hcz19_1 := bc1 BK513.out; have hcz19_2 := bc2 BK513.out; have hcz19_3 := bc3 BK513.out; have hcz19_4 := bc4 BK513.out; have hcz19_5 := bc5 BK513.out; have hfz19_0 := blk_frozen BK513.out 0; have hfz19_1 := blk_frozen BK513.out 1; have hfz19_2 := blk_frozen BK513.out 2; have hfz19_3 := blk_frozen BK513.out 3; have hfz19_4 := blk_frozen BK513.out 4; have hfz19_5 := blk_frozen BK513.out 5; have hcz20_0 := bc0 BK514.out; have hcz20_1 := bc1 BK514.out; have hcz20_2 := bc2 BK514.out; have hcz20_3 := bc3 BK514.out; have hcz20_4 := bc4 BK514.out; have hcz20_5 := bc5 BK514.out; have hfz20_0 := blk_frozen BK514.out 0; have hfz20_1 := blk_frozen BK514.out 1; have hfz20_2 := blk_frozen BK514.out 2; have hfz20_3 := blk_frozen BK514.out 3; have hfz20_4 := blk_frozen BK514.out 4; have hfz20_5 := blk_frozen BK514.out 5) | ((with_reducible refine gate_callee (f := 20) rfl ?_); refine gB (some 19) Tryd.func20 #[.agg #[.int .i64 a0_2, .string a0_3, .slice A0_4 l0_4.length c0_4], .agg #[.int .i64 a1_2, .string a1_3, .slice A1_4 l1_4.length c1_4]] ?_; (with_reducible refine (laws_eqQc.calls k a0_2 a0_3 _ _ l0_4 a1_2 a1_3 _ _ l1_4 true _ ?side1 ?side2 ?side3 ?side4 A5.out).mono ?_); (case side1 => exact ch HR0_4 HB); (case side2 => exact HC0_4.out); (case side3 => exact ch HR1_4 HB); (case side4 => exact HC1_4.out); rintro e w21 ⟨rfl, hb⟩; refine ⟨_, rfl, ?_⟩; replace BK513 := bk BK513 hb; replace BK514 := bk BK514 hb; replace HB := bs HB hb; (try clear hb); (try clear hb2); (try clear hk); (try clear hi); have hcz22_0 := bc0 BK513.out; have hcz22_1 := bc1 BK513.out; have hcz22_2 := bc2 BK513.out; have hcz22_3 := bc3 BK513.out; have hcz22_4 := bc4 BK513.out; have hcz22_5 := bc5 BK513.out; have hfz22_0 := blk_frozen BK513.out 0; have hfz22_1 := blk_frozen BK513.out 1; have hfz22_2 := blk_frozen BK513.out 2; have hfz22_3 := blk_frozen BK513.out 3; have hfz22_4 := blk_frozen BK513.out 4; have hfz22_5 := blk_frozen BK513.out 5; have hcz23_0 := bc0 BK514.out; have hcz23_1 := bc1 BK514.out; have hcz23_2 := bc2 BK514.out; have hcz23_3 := bc3 BK514.out; have hcz23_4 := bc4 BK514.out; have hcz23_5 := bc5 BK514.out; have hfz23_0 := blk_frozen BK514.out 0; have hfz23_1 := blk_frozen BK514.out 1; have hfz23_2 := blk_frozen BK514.out 2; have hfz23_3 := blk_frozen BK514.out 3; have hfz23_4 := blk_frozen BK514.out 4; have hfz23_5 := blk_frozen BK514.out 5))
    go_ret
    exact ⟨y0_7, bI HB.out⟩
   replace c6 := Bool.eq_false_iff.mpr c6; subst c6
   rw [if_neg (show ¬ (false = true) by decide)] at H
   obtain rfl := Option.some.inj H
   go_enter Tryd.func10, Tryd.ntmps10
   go_wp2_with (first | ((with_reducible refine gd 2 ?_); refine bA 2 #[.int .i64 a0_0, .int .i64 a0_1, .int .i64 a0_2, .string a0_3, .slice A0_4 l0_4.length c0_4, .string a0_5] 36 ?_; intro gb513 hg w24 hbox hb; have BK513 := Aside0.mk (hbox); have GW513 := bg hg HB; have GJ513 := gi GW513; have GE513 := GW513; replace HB := bs HB hb; clear hb hbox hg) | ((with_reducible refine gd 3 ?_); refine bA 3 #[.int .i64 a1_0, .int .i64 a1_1, .int .i64 a1_2, .string a1_3, .slice A1_4 l1_4.length c1_4, .string a1_5] 36 ?_; intro gb514 hg w25 hbox hb; have BK514 := Aside0.mk (hbox); have GW514 := bg hg HB; have GJ514 := gi GW514; have GE514 := GW514; replace HB := bs HB hb; have NB513_514 := b1 BK513 hg; have NI513_514 := ni NB513_514; have NB514_513 := b2 BK513 hg; have NI514_513 := ni NB514_513; replace BK513 := bk BK513 hb; clear hb hbox hg; have hnb26 := NB513_514.out; have hnc26 := NB514_513.out; have hcz27_0 := bc0 BK513.out; have hcz27_1 := bc1 BK513.out; have hcz27_2 := bc2 BK513.out; have hcz27_3 := bc3 BK513.out; have hcz27_4 := bc4 BK513.out; have hcz27_5 := bc5 BK513.out; have hfz27_0 := blk_frozen BK513.out 0; have hfz27_1 := blk_frozen BK513.out 1; have hfz27_2 := blk_frozen BK513.out 2; have hfz27_3 := blk_frozen BK513.out 3; have hfz27_4 := blk_frozen BK513.out 4; have hfz27_5 := blk_frozen BK513.out 5; have hcz28_0 := bc0 BK514.out; have hcz28_1 := bc1 BK514.out; have hcz28_2 := bc2 BK514.out; have hcz28_3 := bc3 BK514.out; have hcz28_4 := bc4 BK514.out; have hcz28_5 := bc5 BK514.out; have hfz28_0 := blk_frozen BK514.out 0; have hfz28_1 := blk_frozen BK514.out 1; have hfz28_2 := blk_frozen BK514.out 2; have hfz28_3 := blk_frozen BK514.out 3; have hfz28_4 := blk_frozen BK514.out 4; have hfz28_5 := blk_frozen BK514.out 5) | ((with_reducible refine gate_callee (f := 20) rfl ?_); refine gB (some 19) Tryd.func20 #[.agg #[.int .i64 a0_2, .string a0_3, .slice A0_4 l0_4.length c0_4], .agg #[.int .i64 a1_2, .string a1_3, .slice A1_4 l1_4.length c1_4]] ?_; (with_reducible refine (laws_eqQc.calls k a0_2 a0_3 _ _ l0_4 a1_2 a1_3 _ _ l1_4 false _ ?side1 ?side2 ?side3 ?side4 A5.out).mono ?_); (case side1 => exact ch HR0_4 HB); (case side2 => exact HC0_4.out); (case side3 => exact ch HR1_4 HB); (case side4 => exact HC1_4.out); rintro e w29 ⟨rfl, hb⟩; refine ⟨_, rfl, ?_⟩; replace BK513 := bk BK513 hb; replace BK514 := bk BK514 hb; replace HB := bs HB hb; (try clear hb); (try clear hb2); (try clear hk); (try clear hi)))
   go_ret
   exact ⟨y0_7, bI HB.out⟩
  rw [if_neg c4] at H
  have c4b0 : (a0_1 == a1_1) = false := beq_eq_false_iff_ne.mpr c4; have c4b1 : (a0_1 != a1_1) = true := bne_iff_ne.mpr c4; obtain rfl := Option.some.inj H
  go_enter Tryd.func10, Tryd.ntmps10
  go_wp2_with (first | ((with_reducible refine gd 2 ?_); refine bA 2 #[.int .i64 a0_0, .int .i64 a0_1, .int .i64 a0_2, .string a0_3, .slice A0_4 l0_4.length c0_4, .string a0_5] 36 ?_; intro gb513 hg w30 hbox hb; have BK513 := Aside0.mk (hbox); have GW513 := bg hg HB; have GJ513 := gi GW513; have GE513 := GW513; replace HB := bs HB hb; clear hb hbox hg) | ((with_reducible refine gd 3 ?_); refine bA 3 #[.int .i64 a1_0, .int .i64 a1_1, .int .i64 a1_2, .string a1_3, .slice A1_4 l1_4.length c1_4, .string a1_5] 36 ?_; intro gb514 hg w31 hbox hb; have BK514 := Aside0.mk (hbox); have GW514 := bg hg HB; have GJ514 := gi GW514; have GE514 := GW514; replace HB := bs HB hb; have NB513_514 := b1 BK513 hg; have NI513_514 := ni NB513_514; have NB514_513 := b2 BK513 hg; have NI514_513 := ni NB514_513; replace BK513 := bk BK513 hb; clear hb hbox hg; have hnb32 := NB513_514.out; have hnc32 := NB514_513.out; have hcz33_0 := bc0 BK513.out; have hcz33_1 := bc1 BK513.out; have hcz33_2 := bc2 BK513.out; have hcz33_3 := bc3 BK513.out; have hcz33_4 := bc4 BK513.out; have hcz33_5 := bc5 BK513.out; have hfz33_0 := blk_frozen BK513.out 0; have hfz33_1 := blk_frozen BK513.out 1; have hfz33_2 := blk_frozen BK513.out 2; have hfz33_3 := blk_frozen BK513.out 3; have hfz33_4 := blk_frozen BK513.out 4; have hfz33_5 := blk_frozen BK513.out 5; have hcz34_0 := bc0 BK514.out; have hcz34_1 := bc1 BK514.out; have hcz34_2 := bc2 BK514.out; have hcz34_3 := bc3 BK514.out; have hcz34_4 := bc4 BK514.out; have hcz34_5 := bc5 BK514.out; have hfz34_0 := blk_frozen BK514.out 0; have hfz34_1 := blk_frozen BK514.out 1; have hfz34_2 := blk_frozen BK514.out 2; have hfz34_3 := blk_frozen BK514.out 3; have hfz34_4 := blk_frozen BK514.out 4; have hfz34_5 := blk_frozen BK514.out 5))
  go_ret
  exact ⟨y0_7, bI HB.out⟩
 rw [if_neg c3] at H
 have c3b0 : (a0_0 == a1_0) = false := beq_eq_false_iff_ne.mpr c3; have c3b1 : (a0_0 != a1_0) = true := bne_iff_ne.mpr c3; obtain rfl := Option.some.inj H
 go_enter Tryd.func10, Tryd.ntmps10
 go_wp2_with (first | ((with_reducible refine gd 2 ?_); refine bA 2 #[.int .i64 a0_0, .int .i64 a0_1, .int .i64 a0_2, .string a0_3, .slice A0_4 l0_4.length c0_4, .string a0_5] 36 ?_; intro gb513 hg w35 hbox hb; have BK513 := Aside0.mk (hbox); have GW513 := bg hg HB; have GJ513 := gi GW513; have GE513 := GW513; replace HB := bs HB hb; clear hb hbox hg) | ((with_reducible refine gd 3 ?_); refine bA 3 #[.int .i64 a1_0, .int .i64 a1_1, .int .i64 a1_2, .string a1_3, .slice A1_4 l1_4.length c1_4, .string a1_5] 36 ?_; intro gb514 hg w36 hbox hb; have BK514 := Aside0.mk (hbox); have GW514 := bg hg HB; have GJ514 := gi GW514; have GE514 := GW514; replace HB := bs HB hb; have NB513_514 := b1 BK513 hg; have NI513_514 := ni NB513_514; have NB514_513 := b2 BK513 hg; have NI514_513 := ni NB514_513; replace BK513 := bk BK513 hb; clear hb hbox hg; have hnb37 := NB513_514.out; have hnc37 := NB514_513.out; have hcz38_0 := bc0 BK513.out; have hcz38_1 := bc1 BK513.out; have hcz38_2 := bc2 BK513.out; have hcz38_3 := bc3 BK513.out; have hcz38_4 := bc4 BK513.out; have hcz38_5 := bc5 BK513.out; have hfz38_0 := blk_frozen BK513.out 0; have hfz38_1 := blk_frozen BK513.out 1; have hfz38_2 := blk_frozen BK513.out 2; have hfz38_3 := blk_frozen BK513.out 3; have hfz38_4 := blk_frozen BK513.out 4; have hfz38_5 := blk_frozen BK513.out 5; have hcz39_0 := bc0 BK514.out; have hcz39_1 := bc1 BK514.out; have hcz39_2 := bc2 BK514.out; have hcz39_3 := bc3 BK514.out; have hcz39_4 := bc4 BK514.out; have hcz39_5 := bc5 BK514.out; have hfz39_0 := blk_frozen BK514.out 0; have hfz39_1 := blk_frozen BK514.out 1; have hfz39_2 := blk_frozen BK514.out 2; have hfz39_3 := blk_frozen BK514.out 3; have hfz39_4 := blk_frozen BK514.out 4; have hfz39_5 := blk_frozen BK514.out 5))
 go_ret
 exact ⟨y0_7, bI HB.out⟩

end Go.Proofs.YtemjmefacifdeaaDoor.PFnExactNoteBytes
