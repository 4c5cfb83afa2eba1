-- By a program of this session, out of the translation (the print of the kit, with turns of its own). Lean checks it.
import Derived.Test.YtcmldmlmhpfjhaaDoorPFnExactSafeBytesx0
import Derived.Test.YtcmldmlmhpfjhaaDoorPFnExactSafeBytesx12
namespace Go.Proofs.YtcmldmlmhpfjhaaDoor.PFnExactSafeBytes
open Go.RowKit Go.Proofs.YtcmldmlmhpfjhaaDoorW.PrintWords Go.Proofs.YtcmldmlmhpfjhaaDoorW.PrintLast Go.Proofs.YtcmldmlmhpfjhaaDoorW.PrintMore
attribute [local go_sem] max2_int min2_int max_two min_two max_three min_three max_four min_four   -- for this text's walks alone
set_option linter.unusedVariables false
set_option linter.unusedSimpArgs false

/-! ### impl_SafeBytes: function 60 -/
def impl_SafeBytes.f (k : Nat) (a0_0 : Int) (a0_1 : Int) (a1_0 : Int) (a1_1 : Int) (a1_2 : Int) (a1_3 : ByteArray) (l1_4 : List Int) (a1_5 : ByteArray) : Option (List Int) := (impl_SafeOk.f k a0_0 a0_1 a1_0 a1_1 a1_2 a1_3 l1_4 a1_5).bind fun t468 => (if t468 = true then ((impl_putNums.f k (([a1_0, a1_1] : List Int))).bind fun t472 => ((impl_QcBytes.f k a0_0 a0_1 a1_2 a1_3 l1_4).bind fun t475 => (if t472.length + t475.length < 140737488355328 then ((some (t472 ++ t475 : List Int)).bind fun y478 => ((impl_PutText.f k a1_5).bind fun t481 => (if y478.length + t481.length < 140737488355328 then (some (y478 ++ t481)) else (none)))) else (none)))) else (some ([] : List Int)))
theorem impl_SafeBytes.mono : ∀ a0 a1 a2 a3 a4 a5 a6 a7 k, LeO (impl_SafeBytes.f k a0 a1 a2 a3 a4 a5 a6 a7) (impl_SafeBytes.f (k + 1) a0 a1 a2 a3 a4 a5 a6 a7) := by
  intro a0 a1 a2 a3 a4 a5 a6 a7 k
  unfold impl_SafeBytes.f
  repeat' first
      | (with_reducible exact impl_PutText.mono _ _)
      | (with_reducible exact impl_QcBytes.mono _ _ _ _ _ _)
      | (with_reducible exact impl_SafeOk.mono _ _ _ _ _ _ _ _ _)
      | (with_reducible exact impl_putNums.mono _ _)
      | (with_reducible exact LeO.refl _)
      | (with_reducible exact LeO.none _)
      | (with_reducible refine LeO.ite ?_ ?_)
      | (with_reducible refine LeO.bind ?_ (fun _ => ?_))
      | exact impl_PutText.mono _ _
      | exact impl_QcBytes.mono _ _ _ _ _ _
      | exact impl_SafeOk.mono _ _ _ _ _ _ _ _ _
      | exact impl_putNums.mono _ _
      | exact LeO.none _
      | refine LeO.ite ?_ ?_
      | refine LeO.bind ?_ (fun _ => ?_)
def impl_SafeBytes.T3 : Bool × List (List Nat × List Nat) := (true, [([], []), ([0], [0]), ([], []), ([2], [2]), ([1, 3], [1, 3]), ([4], [4]), ([], []), ([], []), ([7], [7]), ([6, 8, 5], [6, 8]), ([5, 9, 9], [5, 9]), ([10, 10, 0, 1, 2, 3, 4, 5, 6, 7, 8, 9, 10], [10])])
def impl_SafeBytes.B3 : List Nat := [0, 1, 0, 4, 15, 31, 0, 0, 128, 511, 1023, 2047]
theorem impl_SafeBytes.tab3 : rtab .any (opsOf Tryd.f60 3) = impl_SafeBytes.T3 := by kernel_rfl
theorem impl_SafeBytes.bits3 : waitsOk impl_SafeBytes.T3.2 impl_SafeBytes.B3 = true := by kernel_rfl
set_option maxHeartbeats 8000000 in
set_option maxRecDepth 100000 in
theorem impl_SafeBytes.calls (k : Nat) (a0_0 : Int) (a0_1 : Int) (a1_0 : Int) (a1_1 : Int) (a1_2 : Int) (a1_3 : ByteArray) (A1_4 : Option Addr) (c1_4 : Nat) (l1_4 : List Int) (a1_5 : ByteArray) (r : List Int) (w : World) (hr1_4 : Kd.C (Kd.int .i64) w A1_4 l1_4.length l1_4) (hc1_4 : l1_4.length ≤ c1_4) (h : impl_SafeBytes.f k a0_0 a0_1 a1_0 a1_1 a1_2 a1_3 l1_4 a1_5 = some r) (hG : Glob w := by exact gG HG HB) :
    Calls Tryd.prog 60 #[.agg #[.int .i64 a0_0, .int .i64 a0_1], .agg #[.int .i64 a1_0, .int .i64 a1_1, .int .i64 a1_2, .string a1_3, .slice A1_4 l1_4.length c1_4, .string a1_5]] w fun e w' => ∃ v0_ : Value, e = .returned (v0_) ∧ Kd.R (Kd.int .u8) 5 w' w.heap.size (fun _ => True) v0_ r ∧ Below w.heap.size w w' := by
  have HG := Aside0.mk hG
  clear hG
  have hu32 := Tryd.underlying32
  have hu57 := Tryd.underlying57
  have hu41 := Tryd.underlying41
  have HR1_4 := Aside0.mk hr1_4
  have HC1_4 := Aside0.mk hc1_4
  clear hr1_4 hc1_4
  have HB := Aside0.mk (Below.refl w.heap.size w)
  have H : ((impl_SafeOk.f k a0_0 a0_1 a1_0 a1_1 a1_2 a1_3 l1_4 a1_5).bind fun t468 => (if t468 = true then ((impl_putNums.f k (([a1_0, a1_1] : List Int))).bind fun t472 => ((impl_QcBytes.f k a0_0 a0_1 a1_2 a1_3 l1_4).bind fun t475 => (if t472.length + t475.length < 140737488355328 then ((some (t472 ++ t475 : List Int)).bind fun y478 => ((impl_PutText.f k a1_5).bind fun t481 => (if y478.length + t481.length < 140737488355328 then (some (y478 ++ t481)) else (none)))) else (none)))) else (some ([] : List Int)))) = some r := h
  clear h
  obtain ⟨t468, A30, H⟩ := Option.bind_eq_some_iff.mp H
  try dsimp only at H
  have A3 := Aside0.mk A30
  clear A30
  by_cases c4 : t468 = true
  · subst c4
    rw [if_pos rfl] at H
    obtain ⟨y469, hy469⟩ : ∃ y_ : List Int, y_ = (([a1_0, a1_1] : List Int)) := ⟨_, rfl⟩
    replace H : ((impl_putNums.f k y469).bind fun t472 => ((impl_QcBytes.f k a0_0 a0_1 a1_2 a1_3 l1_4).bind fun t475 => (if t472.length + t475.length < 140737488355328 then ((some (t472 ++ t475 : List Int)).bind fun y478 => ((impl_PutText.f k a1_5).bind fun t481 => (if y478.length + t481.length < 140737488355328 then (some (y478 ++ t481)) else (none)))) else (none)))) = some r := by first | (rw [hy469]; with_reducible exact H) | (have H2_ := (Option.bind_some _ _).symm.trans H; rw [hy469]; with_reducible exact H2_) | (have H2_ := (Option.bind_some _ _).symm.trans H; with_reducible exact H2_) | with_reducible exact H | (rw [hy469]; exact H) | exact H
    have Ny469 := Aside0.mk hy469
    clear hy469
    obtain ⟨t472, A50, H⟩ := Option.bind_eq_some_iff.mp H
    try dsimp only at H
    have A5 := Aside0.mk A50
    clear A50
    obtain ⟨t475, A60, H⟩ := Option.bind_eq_some_iff.mp H
    try dsimp only at H
    have A6 := Aside0.mk A60
    clear A60
    by_cases c7 : t472.length + t475.length < 140737488355328
    rotate_left
    · rw [if_neg c7] at H
      exact absurd H (by simp)
    rw [if_pos c7] at H
    have LMc7 := Aside0.mk c7
    clear c7
    obtain ⟨y478, hy478⟩ : ∃ y_ : List Int, y_ = (t472 ++ t475) := ⟨_, rfl⟩
    replace H : ((impl_PutText.f k a1_5).bind fun t481 => (if y478.length + t481.length < 140737488355328 then (some (y478 ++ t481)) else (none))) = some r := by first | (rw [hy478]; with_reducible exact H) | (have H2_ := (Option.bind_some _ _).symm.trans H; rw [hy478]; with_reducible exact H2_) | (have H2_ := (Option.bind_some _ _).symm.trans H; with_reducible exact H2_) | with_reducible exact H | (rw [hy478]; exact H) | exact H
    have Ny478 := Aside0.mk hy478
    clear hy478
    obtain ⟨t481, A80, H⟩ := Option.bind_eq_some_iff.mp H
    try dsimp only at H
    have A8 := Aside0.mk A80
    clear A80
    by_cases c9 : y478.length + t481.length < 140737488355328
    rotate_left
    · rw [if_neg c9] at H
      exact absurd H (by simp)
    rw [if_pos c9] at H
    have LMc9 := Aside0.mk c9
    clear c9
    obtain ⟨y484, hy484⟩ : ∃ y_ : List Int, y_ = (y478 ++ t481) := ⟨_, rfl⟩
    replace H : (some y484) = some r := by first | (rw [hy484]; with_reducible exact H) | (have H2_ := (Option.bind_some _ _).symm.trans H; rw [hy484]; with_reducible exact H2_) | (have H2_ := (Option.bind_some _ _).symm.trans H; with_reducible exact H2_) | with_reducible exact H | (rw [hy484]; exact H) | exact H
    have Ny484 := Aside0.mk hy484
    clear hy484
    obtain rfl := Option.some.inj H
    go_enter Tryd.func60, Tryd.ntmps60
    try go_wp2_with (first | ((with_reducible refine gd 2 ?_); refine bA 2 #[.int .i64 a0_0, .int .i64 a0_1] 32 ?_; intro gb466 hg w10 hbox hb; have BK466 := Aside0.mk (hbox); have GW466 := bg hg HB; have GJ466 := gi GW466; have GE466 := GW466; replace HB := bs HB hb; clear hb hbox hg) | ((with_reducible refine gd 3 ?_); refine bA 3 #[.int .i64 a1_0, .int .i64 a1_1, .int .i64 a1_2, .string a1_3, .slice A1_4 l1_4.length c1_4, .string a1_5] 57 ?_; intro gb467 hg w11 hbox hb; have BK467 := Aside0.mk (hbox); have GW467 := bg hg HB; have GJ467 := gi GW467; have GE467 := GW467; replace HB := bs HB hb; have NB466_467 := b1 BK466 hg; have NI466_467 := ni NB466_467; have NB467_466 := b2 BK466 hg; have NI467_466 := ni NB467_466; replace BK466 := bk BK466 hb; clear hb hbox hg; have hnb12 := NB466_467.out; have hnc12 := NB467_466.out; obtain ⟨hcz13_0, hcz13_1, hfz13_0, hfz13_1⟩ := cs2 BK466; have hcz14_0 := bc0 BK467.out; have hcz14_1 := bc1 BK467.out; have hcz14_2 := bc2 BK467.out; have hcz14_3 := bc3 BK467.out; have hcz14_4 := bc4 BK467.out; have hcz14_5 := bc5 BK467.out; have hfz14_0 := blk_frozen BK467.out 0; have hfz14_1 := blk_frozen BK467.out 1; have hfz14_2 := blk_frozen BK467.out 2; have hfz14_3 := blk_frozen BK467.out 3; have hfz14_4 := blk_frozen BK467.out 4; have hfz14_5 := blk_frozen BK467.out 5) | ((with_reducible refine gate_callee (f := 36) rfl ?_); refine gB (some 8) Tryd.func36 #[.agg #[.int .i64 a0_0, .int .i64 a0_1], .agg #[.int .i64 a1_0, .int .i64 a1_1, .int .i64 a1_2, .string a1_3, .slice A1_4 l1_4.length c1_4, .string a1_5]] ?_; (with_reducible refine (impl_SafeOk.calls k a0_0 a0_1 a1_0 a1_1 a1_2 a1_3 _ _ l1_4 a1_5 true _ ?side1 ?side2 A3.out).mono ?_); (case side1 => exact ch HR1_4 HB); (case side2 => exact HC1_4.out); rintro e w15 ⟨rfl, hb⟩; refine ⟨_, rfl, ?_⟩; replace BK466 := bk BK466 hb; replace BK467 := bk BK467 hb; replace HB := bs HB hb; (try clear hb); (try clear hb2); (try clear hk); (try clear hi)))
    replace BK466 := Aside0.mk (blk_drew BK466.out)
    replace BK467 := Aside0.mk (blk_drew BK467.out)
    replace HB := Aside0.mk (below_drew1 HB.out)
    refine start_ (n := 12) (S := fun w' => w'.cell? ⟨gb467, 0, none⟩ = some (.int .i64 a1_0) ∧ w'.cell? ⟨gb467, 1, none⟩ = some (.int .i64 a1_1) ∧ w'.cell? ⟨gb467, 2, none⟩ = some (.int .i64 a1_2) ∧ w'.cell? ⟨gb467, 3, none⟩ = some (.string a1_3) ∧ w'.cell? ⟨gb467, 4, none⟩ = some (.slice A1_4 l1_4.length c1_4) ∧ w'.cell? ⟨gb467, 5, none⟩ = some (.string a1_5) ∧ w'.cell? ⟨gb466, 0, none⟩ = some (.int .i64 a0_0) ∧ w'.cell? ⟨gb466, 1, none⟩ = some (.int .i64 a0_1)) (ds := []) #[false, false, false, false, false, false, false, false, false, false, false, false] (by kernel_rfl) rfl rfl ⟨bc0 BK467.out, bc1 BK467.out, bc2 BK467.out, bc3 BK467.out, bc4 BK467.out, bc5 BK467.out, bc0 BK466.out, bc1 BK466.out⟩ (fun hHeld => ?_); refine with_tabW impl_SafeBytes.tab3 impl_SafeBytes.bits3 (fun HT_ HW_ => ?_)
    generalize w15.drew = w16 at BK466 BK467 HB hHeld ⊢
    refine pA 0 (some 10) (bz 12 1) HT_ ?_
    refine pA 2 (some 12) (bz 12 5) HT_ ?_
    refine pA 7 (some 17) (bz 12 133) HT_ ?_
    refine tA 1 (some 11) (bz 12 135) HT_ HW_ hHeld ?_
    refine tA 3 (some 13) (bz 12 143) HT_ HW_ hHeld ?_
    refine tA 6 (some 16) (bz 12 207) HT_ HW_ hHeld ?_
    refine tA 8 (some 18) (bz 12 463) HT_ HW_ hHeld ?_
    refine oA 4 (some 14) (bz 12 479) HT_ (fun K hK => ?_)
    refine Kd.R_lit_step (Kd.int .i64) _ 3 ?hg (N := 14) ?hd (xs := ([a1_0, a1_1] : List Int)) (inner := [.int .i64 a1_0, .int .i64 a1_1]) (ok := fun _ => True) (okp := fun _ => True) ?hr ?hp (fun _ hk => hk) trivial (Below.refl _ _) (Nat.le_refl _) (by simp) ?_; (case hd => rfl); (case hg => rfl); (case hr => first | (go_simp; done) | (go_simp; rfl)); (case hp => exact (Reps.one (show Kd.M (Kd.int .i64) _ _ _ a1_0 [.int .i64 a1_0] from rfl) (Reps.one (show Kd.M (Kd.int .i64) _ _ _ a1_1 [.int .i64 a1_1] from rfl) (Reps.none _ _))))
    intro v470 w17 ho18 hb hg_ hnew_
    clear hg_ hnew_
    (first | rw [← Ny469.out] at ho18 | (simp only [Int.reduceToNat] at ho18; rw [← Ny469.out] at ho18))
    have HO471 := Aside0.mk (Kd.R_lower ho18 (below_size (bI HB.out)))
    replace BK466 := bk BK466 hb
    replace BK467 := bk BK467 hb
    replace HB := bs HB hb
    clear hb ho18
    obtain ⟨Ao19, co19, eo19⟩ := Kd.R_slice HO471.out
    (first | subst eo19 | (injection eo19 with f1_ f2_ f3_; have f4_ := f1_.symm; have f5_ := f3_.symm; clear f1_ f2_ f3_; subst f4_; subst f5_))
    refine hK.out _ _ ⟨bc0 BK467.out, bc1 BK467.out, bc2 BK467.out, bc3 BK467.out, bc4 BK467.out, bc5 BK467.out, bc0 BK466.out, bc1 BK466.out⟩ (fun hHeld => ?_)
    clear hK K
    refine nA (some 14) ?_
    refine oA 5 (some 15) (bz 12 511) HT_ (fun K hK => ?_)
    refine gA Tryd.func93 #[.slice Ao19 y469.length co19] ?_
    with_reducible refine (impl_putNums.calls k _ _ y469 t472 _ ?side1 ?side2 A5.out).mono ?_
    (case side1 => repeat (first | exact (Kd.R_reads' HO471.out).2.2 | (with_reducible refine Kd.C_alloc ?_ _) | (with_reducible refine Kd.C_drewN ?_ _) | (with_reducible refine Kd.C_drew ?_)))
    (case side2 => exact (Kd.R_reads' HO471.out).2.1)
    rintro e w20 ⟨v473, rfl, ho0, hb⟩
    refine ⟨_, rfl, ?_⟩
    replace HO471 := rb HO471 hb
    have HO474 := Aside0.mk (Kd.R_lower ho0 (below_size (bI HB.out)))
    replace BK466 := bk BK466 hb
    replace BK467 := bk BK467 hb
    replace HB := bs HB hb
    (try clear hb)
    (try clear hb2)
    (try clear hk)
    (try clear hi)
    (try clear ho0)
    refine hK.out _ _ ⟨bc0 BK467.out, bc1 BK467.out, bc2 BK467.out, bc3 BK467.out, bc4 BK467.out, bc5 BK467.out, bc0 BK466.out, bc1 BK466.out⟩ (fun hHeld => ?_)
    clear hK K
    refine nA (some 15) ?_
    refine oA 9 (some 19) (bz 12 1023) HT_ (fun K hK => ?_)
    refine gA Tryd.func49 #[.agg #[.int .i64 a0_0, .int .i64 a0_1], .agg #[.int .i64 a1_2, .string a1_3, .slice A1_4 l1_4.length c1_4]] ?_
    with_reducible refine (impl_QcBytes.calls k a0_0 a0_1 a1_2 a1_3 _ _ l1_4 t475 _ ?side1 ?side2 A6.out).mono ?_
    (case side1 => exact ch HR1_4 HB)
    (case side2 => exact HC1_4.out)
    rintro e w21 ⟨v476, rfl, ho0, hb⟩
    refine ⟨_, rfl, ?_⟩
    replace HO471 := rb HO471 hb
    have HO477 := Aside0.mk (Kd.R_lower (Kd.R_new' ho0 (Kd.R_lt (rI HO474.out))) (below_size (bI HB.out)))
    replace HO474 := Aside0.mk (Kd.R_elder' (rI HO474.out) (Kd.R_base ho0) hb)
    replace BK466 := bk BK466 hb
    replace BK467 := bk BK467 hb
    replace HB := bs HB hb
    (try clear hb)
    (try clear hb2)
    (try clear hk)
    (try clear hi)
    (try clear ho0)
    obtain ⟨Ao23, co23, eo23⟩ := Kd.R_slice HO477.out
    (first | subst eo23 | (injection eo23 with f1_ f2_ f3_; have f4_ := f1_.symm; have f5_ := f3_.symm; clear f1_ f2_ f3_; subst f4_; subst f5_))
    refine hK.out _ _ ⟨bc0 BK467.out, bc1 BK467.out, bc2 BK467.out, bc3 BK467.out, bc4 BK467.out, bc5 BK467.out, bc0 BK466.out, bc1 BK466.out⟩ (fun hHeld => ?_)
    clear hK K
    refine nA (some 19) ?_
    refine oA 10 (some 20) (bz 12 2047) HT_ (fun K hK => ?_)
    refine Kd.R_append_rows_step (Kd.int .u8) (w0 := w) w.heap.size (by rfl) (.tmp 15) (.tmp 19) 74 5 (.int .u8 0) 1 rfl Tryd.underlying74 info5 rfl (by decide) (by omega) v473 t472 t475 _ _ _ (fun k_ => some k_ ≠ (.slice Ao23 t475.length co23 : Value).ownBlock) (fun _ => False) rfl rfl ?aO ?aR (fun _ _ h => h) (fun _ h => h.elim) ?aF ?aB ?aS ?aL ?_
    (case aR => repeat (first | exact (Kd.R_reads' HO477.out).2.2 | (with_reducible refine Kd.C_alloc ?_ _) | (with_reducible refine Kd.C_drewN ?_ _) | (with_reducible refine Kd.C_drew ?_)))
    (case aB => exact (bI HB.out))
    (case aF => exact (fun k_ hk => Kd.fresh' (Kd.R_lt (rI HO477.out)) k_ hk))
    (case aO => exact (rI (Kd.R_mono HO474.out (fun _ hk => hk.2))))
    (case aS => exact (below_size (bI HB.out)))
    (case aL => have := LMc7.out; omega)
    intro v479 w22 ho hb hg hat
    rw [← Ny478.out] at ho
    have n0_ := bn BK466 hg (Kd.R_ne HO474.out BK466.out (by decide))
    have n1_ := bn BK467 hg (Kd.R_ne HO474.out BK467.out (by decide))
    have n2_ := Aside0.mk (Kd.R_over' (rI HO471.out) (Kd.R_typed (rI HO474.out)) (by decide) hg)
    have n3_ := Aside0.mk (Kd.R_after (ok := (fun _ => True)) (rI HO477.out) hg hat)
    have n4_ := Aside0.mk (hb)
    have n5_ := Aside0.mk (ho)
    clear BK466
    clear BK467
    clear HO471
    clear HO477
    clear HB
    clear HO474
    have BK466 := n0_
    have BK467 := n1_
    have HO471 := n2_
    have HO477 := n3_
    have HB := n4_
    have HO480 := n5_
    clear n0_ n1_ n2_ n3_ n4_ n5_
    clear ho hb hg hat
    refine hK.out _ _ ⟨bc0 BK467.out, bc1 BK467.out, bc2 BK467.out, bc3 BK467.out, bc4 BK467.out, bc5 BK467.out, bc0 BK466.out, bc1 BK466.out⟩ (fun hHeld => ?_)
    clear hK K
    refine nA (some 20) ?_
    refine pA 11 (some 5) (bz 12 4095) HT_ ?_
    refine done_ (done_of HT_.out (by kernel_rfl)) ?_
    have hcz24_0 := bc0 BK467.out
    have hcz24_1 := bc1 BK467.out
    have hcz24_2 := bc2 BK467.out
    have hcz24_3 := bc3 BK467.out
    have hcz24_4 := bc4 BK467.out
    have hcz24_5 := bc5 BK467.out
    have hfz24_0 := blk_frozen BK467.out 0
    have hfz24_1 := blk_frozen BK467.out 1
    have hfz24_2 := blk_frozen BK467.out 2
    have hfz24_3 := blk_frozen BK467.out 3
    have hfz24_4 := blk_frozen BK467.out 4
    have hfz24_5 := blk_frozen BK467.out 5
    try go_wp2_with (first | ((with_reducible refine gate_callee (f := 92) rfl ?_); refine gB (some 24) Tryd.func92 #[.string a1_5] ?_; (with_reducible refine (impl_PutText.calls k a1_5 t481 _ A8.out).mono ?_); rintro e w25 ⟨v482, rfl, ho0, hb⟩; refine ⟨_, rfl, ?_⟩; replace HO471 := rb HO471 hb; have HO483 := Aside0.mk (Kd.R_lower (Kd.R_new' (Kd.R_new' ho0 (Kd.R_lt (rI HO477.out))) (Kd.R_lt (rI HO480.out))) (below_size (bI HB.out))); replace HO477 := Aside0.mk (Kd.R_elder' (rI HO477.out) (Kd.R_base ho0) hb); replace HO480 := Aside0.mk (Kd.R_elder' (rI HO480.out) (Kd.R_base ho0) hb); replace BK466 := bk BK466 hb; replace BK467 := bk BK467 hb; replace HB := bs HB hb; (try clear hb); (try clear ho0); obtain ⟨Ao27, co27, eo27⟩ := Kd.R_slice HO483.out; subst eo27) | ((with_reducible refine gate_builtin (b := .append) (xs := #[.tmp 21, .tmp 24]) rfl ?_); at_builtin; refine Kd.R_append_rows (Kd.int .u8) (w0 := w) w.heap.size rfl (.tmp 21) (.tmp 24) 74 5 (.int .u8 0) 1 rfl Tryd.underlying74 info5 rfl (by decide) (by omega) v479 y478 t481 _ _ _ (fun k_ => some k_ ≠ (.slice Ao23 t475.length co23 : Value).ownBlock ∧ some k_ ≠ (.slice Ao27 t481.length co27 : Value).ownBlock) (fun _ => False) rfl rfl ?aO ?aR (fun _ _ h => h) (fun _ h => h.elim) ?aF ?aB ?aS ?aL ?_; (case aR => repeat (first | exact (Kd.R_reads' HO483.out).2.2 | (with_reducible refine Kd.C_alloc ?_ _) | (with_reducible refine Kd.C_drewN ?_ _) | (with_reducible refine Kd.C_drew ?_))); (case aB => exact (bI HB.out)); (case aF => exact (fun k_ hk => ⟨Kd.fresh' (Kd.R_lt (rI HO477.out)) k_ hk, Kd.fresh' (Kd.R_lt (rI HO483.out)) k_ hk⟩)); (case aO => exact (rI HO480.out)); (case aS => exact (below_size (bI HB.out))); (case aL => have := LMc9.out; omega); intro v485 w26 ho hb hg hat; rw [← Ny484.out] at ho; have n0_ := bn BK466 hg (Kd.R_ne HO480.out BK466.out (by decide)); have n1_ := bn BK467 hg (Kd.R_ne HO480.out BK467.out (by decide)); have n2_ := Aside0.mk (Kd.R_over' (rI HO471.out) (Kd.R_typed (rI HO480.out)) (by decide) hg); have n3_ := Aside0.mk (Kd.R_after (ok := (fun k_ => some k_ ≠ (.slice Ao27 t481.length co27 : Value).ownBlock)) (rI (Kd.R_mono HO477.out (fun _ hk => ⟨hk.2, hk.1.2⟩))) hg hat); have n4_ := Aside0.mk (Kd.R_after (ok := (fun k_ => some k_ ≠ (.slice Ao23 t475.length co23 : Value).ownBlock)) (rI (Kd.R_mono HO483.out (fun _ hk => ⟨hk.1.2, hk.2⟩))) hg hat); have n5_ := Aside0.mk (hb); have n6_ := Aside0.mk (ho); clear BK466; clear BK467; clear HO471; clear HO477; clear HO483; clear HB; clear HO480; have BK466 := n0_; have BK467 := n1_; have HO471 := n2_; have HO477 := n3_; have HO483 := n4_; have HB := n5_; have HO486 := n6_; clear n0_ n1_ n2_ n3_ n4_ n5_ n6_; clear ho hb hg hat))
    go_ret
    exact ⟨_, y0_7, by (with_reducible repeat (first | apply Kd.R_alloc | apply Kd.R_drewN | apply Kd.R_drew)); exact Kd.R_mono HO486.out (fun _ hk => trivial), bI HB.out⟩
  · replace c4 := Bool.eq_false_iff.mpr c4
    subst c4
    rw [if_neg (show ¬ (false = true) by decide)] at H
    obtain rfl := Option.some.inj H
    go_enter Tryd.func60, Tryd.ntmps60
    go_wp2_with (first | ((with_reducible refine gd 2 ?_); refine bA 2 #[.int .i64 a0_0, .int .i64 a0_1] 32 ?_; intro gb466 hg w28 hbox hb; have BK466 := Aside0.mk (hbox); have GW466 := bg hg HB; have GJ466 := gi GW466; have GE466 := GW466; replace HB := bs HB hb; clear hb hbox hg) | ((with_reducible refine gd 3 ?_); refine bA 3 #[.int .i64 a1_0, .int .i64 a1_1, .int .i64 a1_2, .string a1_3, .slice A1_4 l1_4.length c1_4, .string a1_5] 57 ?_; intro gb467 hg w29 hbox hb; have BK467 := Aside0.mk (hbox); have GW467 := bg hg HB; have GJ467 := gi GW467; have GE467 := GW467; replace HB := bs HB hb; have NB466_467 := b1 BK466 hg; have NI466_467 := ni NB466_467; have NB467_466 := b2 BK466 hg; have NI467_466 := ni NB467_466; replace BK466 := bk BK466 hb; clear hb hbox hg; have hnb30 := NB466_467.out; have hnc30 := NB467_466.out; obtain ⟨hcz31_0, hcz31_1, hfz31_0, hfz31_1⟩ := cs2 BK466; have hcz32_0 := bc0 BK467.out; have hcz32_1 := bc1 BK467.out; have hcz32_2 := bc2 BK467.out; have hcz32_3 := bc3 BK467.out; have hcz32_4 := bc4 BK467.out; have hcz32_5 := bc5 BK467.out; have hfz32_0 := blk_frozen BK467.out 0; have hfz32_1 := blk_frozen BK467.out 1; have hfz32_2 := blk_frozen BK467.out 2; have hfz32_3 := blk_frozen BK467.out 3; have hfz32_4 := blk_frozen BK467.out 4; have hfz32_5 := blk_frozen BK467.out 5) | ((with_reducible refine gate_callee (f := 36) rfl ?_); refine gB (some 8) Tryd.func36 #[.agg #[.int .i64 a0_0, .int .i64 a0_1], .agg #[.int .i64 a1_0, .int .i64 a1_1, .int .i64 a1_2, .string a1_3, .slice A1_4 l1_4.length c1_4, .string a1_5]] ?_; (with_reducible refine (impl_SafeOk.calls k a0_0 a0_1 a1_0 a1_1 a1_2 a1_3 _ _ l1_4 a1_5 false _ ?side1 ?side2 A3.out).mono ?_); (case side1 => exact ch HR1_4 HB); (case side2 => exact HC1_4.out); rintro e w33 ⟨rfl, hb⟩; refine ⟨_, rfl, ?_⟩; replace BK466 := bk BK466 hb; replace BK467 := bk BK467 hb; replace HB := bs HB hb; (try clear hb); (try clear hb2); (try clear hk); (try clear hi)))
    go_ret
    exact ⟨_, y0_7, y0_0, bI HB.out⟩

/-! ### laws_markIntS: function 87 -/
def laws_markIntS.l0 : Nat → List Int → Int → Int → Option (Int × List Int)
  | 0, _, _, _ => none
  | k + 1, x0, x1, x5 => if x5 < (x0.length : Int) then (if 0 ≤ x5 then (laws_markIntS.l0 k (x0.set (x5 : Int).toNat x1) (wrap64 (x1 + 1)) (wrap64 (x5 + 1))) else (none)) else (some (x1, x0))
def laws_markIntS.f (k : Nat) (l0 : List Int) (a1 : Int) : Option (Int × List Int) := laws_markIntS.l0 k l0 a1 0
theorem laws_markIntS.mono_l : ∀ k, (∀ y0 y1 y2, LeO (laws_markIntS.l0 k y0 y1 y2) (laws_markIntS.l0 (k + 1) y0 y1 y2))
  | 0 => fun _ _ _ r h => by simp [laws_markIntS.l0] at h
  | k + 1 => by
    have ih0 := laws_markIntS.mono_l k
    · intro y0 y1 y2
      unfold laws_markIntS.l0
      repeat' first
      | (with_reducible exact ih0 _ _ _)
      | (with_reducible exact LeO.refl _)
      | (with_reducible exact LeO.none _)
      | (with_reducible refine LeO.ite ?_ ?_)
      | (with_reducible refine LeO.bind ?_ (fun _ => ?_))
      | exact ih0 _ _ _
      | exact LeO.none _
      | refine LeO.ite ?_ ?_
      | refine LeO.bind ?_ (fun _ => ?_)
theorem laws_markIntS.mono : ∀ a0 a1 k, LeO (laws_markIntS.f k a0 a1) (laws_markIntS.f (k + 1) a0 a1) := by
  intro a0 a1 k
  have ih0 := laws_markIntS.mono_l k
  unfold laws_markIntS.f
  repeat' first
      | (with_reducible exact ih0 _ _ _)
      | (with_reducible exact LeO.refl _)
      | (with_reducible exact LeO.none _)
      | (with_reducible refine LeO.ite ?_ ?_)
      | (with_reducible refine LeO.bind ?_ (fun _ => ?_))
      | exact ih0 _ _ _
      | exact LeO.none _
      | refine LeO.ite ?_ ?_
      | refine LeO.bind ?_ (fun _ => ?_)
set_option maxHeartbeats 8000000 in
set_option maxRecDepth 100000 in
theorem laws_markIntS.calls (k : Nat) (P0_ : Nat → Prop) (u9000_ : Value) (l0 : List Int) (a1 : Int) (r1 : Int) (r2 : List Int) (w0 w : World) (hB : Below w0.heap.size w0 w) (ho0 : Kd.R (Kd.int .i64) 3 w w0.heap.size P0_ u9000_ l0) (h : laws_markIntS.f k l0 a1 = some (r1, r2)) :
    Calls Tryd.prog 87 #[u9000_, .int .i64 a1] w fun e w' => e = .returned (.int .i64 r1) ∧ Kd.R (Kd.int .i64) 3 w' w0.heap.size (fun k_ => (P0_ k_ ∨ w.heap.size ≤ k_)) u9000_ r2 ∧ Below w0.heap.size w0 w' ∧ Kept w w' (fun k_ => P0_ k_) := by
  have HO0 := Aside0.mk (show Kd.R (Kd.int .i64) 3 w w0.heap.size (fun k_ => (P0_ k_ ∨ w.heap.size ≤ k_)) u9000_ l0 from Kd.R_mono ho0 (fun k_ hk => (.inl hk)))
  have HK := Aside0.mk (Kept.refl w (fun k_ => P0_ k_))
  have HW0 := Aside0.mk hB.size
  have HB := Aside0.mk hB
  clear hB
  have H : (laws_markIntS.l0 k l0 a1 0) = some (r1, r2) := h
  clear h
  have H' := Aside0.mk H
  clear H
  go_enter Tryd.func87, Tryd.ntmps87
  go_wp2
  go_loopg [1, 5] k (fun kq v1 v5 w' => ∃ (x0_1 : List Int) (x1_1 : Int) (x5_1 : Int), v1 = .int .i64 x1_1 ∧ v5 = .int .i64 x5_1 ∧ Aside0 (laws_markIntS.l0 kq x0_1 x1_1 x5_1 = some (r1, r2)) ∧ Aside0 (kq ≤ k) ∧ Aside0 (Kd.R (Kd.int .i64) 3 w' w0.heap.size (fun k_ => (P0_ k_ ∨ w.heap.size ≤ k_)) u9000_ x0_1) ∧ Aside0 (Kept w w' (fun k_ => P0_ k_)) ∧ Aside0 (Below w0.heap.size w0 w'))
  case atStart => exact ⟨(l0), (a1), (0), y0_10, y0_10, H', ⟨Nat.le_refl _⟩, ⟨by (with_reducible repeat (first | apply Kd.R_alloc | apply Kd.R_drewN | apply Kd.R_drew)); exact HO0.out⟩, ⟨y0_3⟩, ⟨bI HB.out⟩⟩
  case round =>
    clear H'
    try clear p2
    obtain ⟨x0_1, x1_1, x5_1, rfl, rfl, HA, HK1, HO_0, HK, HB⟩ := hrel
    cases gk with
    | zero => exact absurd HA.out (by simp [laws_markIntS.l0])
    | succ k1 =>
      have H := HA.out
      clear HA
      simp only [laws_markIntS.l0] at H
      by_cases c3 : x5_1 < (x0_1.length : Int)
      · rw [if_pos c3] at H
        have c3b0 : decide (x5_1 < (x0_1.length : Int)) = true := decide_eq_true c3
        clear c3
        by_cases c4 : 0 ≤ x5_1
        rotate_left
        · rw [if_neg c4] at H
          exact absurd H (by simp)
        rw [if_pos c4] at H
        have c4b0 : decide (0 ≤ x5_1) = true := decide_eq_true c4
        clear c4
        obtain ⟨y487, hy487⟩ : ∃ y_ : List Int, y_ = (x0_1.set (x5_1 : Int).toNat x1_1) := ⟨_, rfl⟩
        replace H : (laws_markIntS.l0 k1 y487 (wrap64 (x1_1 + 1)) (wrap64 (x5_1 + 1))) = some (r1, r2) := by first | (rw [hy487]; with_reducible exact H) | (have H2_ := (Option.bind_some _ _).symm.trans H; rw [hy487]; with_reducible exact H2_) | (have H2_ := (Option.bind_some _ _).symm.trans H; with_reducible exact H2_) | with_reducible exact H | (rw [hy487]; exact H) | exact H
        have Ny487 := Aside0.mk hy487
        clear hy487
        have H' := Aside0.mk H
        clear H
        obtain ⟨Ao6, co6, eo6⟩ := Kd.R_slice HO_0.out
        subst eo6
        have p5 : 0 ≤ (x5_1 : Int) := of_decide_eq_true y0_9
        have q5 : (x5_1 : Int) < ((x0_1.length : Int) : Int) := of_decide_eq_true y0_9
        obtain ⟨go5, co5, eo5, gb5, gl5, cl5, HG5⟩ := Kd.R_form HO_0.out (by omega)
        (first | cases eo5 | (injection eo5 with ea_ en_ ec_; (first | subst ea_ | (injection ea_ with ea_; subst ea_)); subst ec_; clear en_))
        have GB5 := Aside0.mk gb5
        have GG5 := Aside0.mk HG5
        clear gb5 gl5 HG5
        have HMgo5 := Aside0.mk (show (P0_ go5 ∨ w.heap.size ≤ go5) from (HO_0.out.1 _ rfl))
        obtain ⟨hx5_0, hf5_0⟩ := Kd.R_celln 0 HO_0.out (x5_1 : Int) p5 q5
        replace p5 := eq_true p5
        replace q5 := eq_true q5
        have HP7 := Kd.R_putg HO_0.out (x5_1 : Int) x1_1
        go_wp2_with (first | ((with_reducible refine gate_store (t := 3) (p := 15) rfl ?_); refine store_event (t := 3) (p := 15) (v := ?vo_w8) (w1 := (wr.setCell ⟨go5, (x5_1 : Int).toNat, none⟩ (.int .i64 x1_1))) ?hg ?ho ?hn ?hr ?_; (case ho => rfl); (case hg => rfl); (case hn => rfl); (case hr => first | (go_simp; done) | (go_simp; rfl)); intro w8 hw; have hg : wr.grownBy w8 (some go5) := (by rw [hw]; exact HP7.2); have hp_ : Kd.R (Kd.int .i64) 3 w8 w0.heap.size (fun k_ => (P0_ k_ ∨ w.heap.size ≤ k_)) (.slice (some ⟨go5, 0, none⟩) x0_1.length co6) y487 := (by rw [hw, Ny487.out]; exact HP7.1); clear HP7; replace HB := Aside0.mk ((by rw [hw]; exact below_set (HB.out) GB5.out : Below w0.heap.size w0 w8)); replace HK := Aside0.mk (Kept.of_grown (S := (fun k_ => P0_ k_)) hg y0_3 (fun k_ e_ => (HO_0.out.1 k_ e_))); replace HO_0 := Aside0.mk (hp_); clear hg hw hp_))
        go_roundg k1
        case measure => have := HK1.out; omega
        case rel => exact ⟨(y487), (wrap64 (x1_1 + 1)), (wrap64 (x5_1 + 1)), y0_10, y0_10, H', ⟨y0_14⟩, ⟨y0_5⟩, ⟨y0_3⟩, ⟨bI HB.out⟩⟩
      · rw [if_neg c3] at H
        have c3b0 : decide (x5_1 < (x0_1.length : Int)) = false := decide_eq_false c3
        clear c3
        simp only [Option.some.injEq, Prod.mk.injEq] at H
        obtain ⟨rfl, rfl⟩ := H
        obtain ⟨Ao9, co9, eo9⟩ := Kd.R_slice HO_0.out
        subst eo9
        go_wp2
        go_ret
        exact ⟨y0_7, y0_5, bI HB.out, y0_3⟩

/-! ### laws_markQc: function 41 -/
def laws_markQc.f (k : Nat) (a0_0 : Int) (a0_1 : ByteArray) (l0_2 : List Int) (a1 : Int) : Option (Int × List Int) := (laws_markIntS.f k l0_2 a1).bind fun bt489 => (some (bt489.1, bt489.2))
theorem laws_markQc.mono : ∀ a0 a1 a2 a3 k, LeO (laws_markQc.f k a0 a1 a2 a3) (laws_markQc.f (k + 1) a0 a1 a2 a3) := by
  intro a0 a1 a2 a3 k
  unfold laws_markQc.f
  repeat' first
      | (with_reducible exact laws_markIntS.mono _ _ _)
      | (with_reducible exact LeO.refl _)
      | (with_reducible exact LeO.none _)
      | (with_reducible refine LeO.ite ?_ ?_)
      | (with_reducible refine LeO.bind ?_ (fun _ => ?_))
      | exact laws_markIntS.mono _ _ _
      | exact LeO.none _
      | refine LeO.ite ?_ ?_
      | refine LeO.bind ?_ (fun _ => ?_)
set_option maxHeartbeats 8000000 in
set_option maxRecDepth 100000 in
theorem laws_markQc.calls (k : Nat) (a0_0 : Int) (a0_1 : ByteArray) (P0_2_ : Nat → Prop) (u9000_ : Value) (l0_2 : List Int) (a1 : Int) (r1 : Int) (r2 : List Int) (w0 w : World) (hB : Below w0.heap.size w0 w) (ho0_2 : Kd.R (Kd.int .i64) 3 w w0.heap.size P0_2_ u9000_ l0_2) (h : laws_markQc.f k a0_0 a0_1 l0_2 a1 = some (r1, r2)) :
    Calls Tryd.prog 41 #[.agg #[.int .i64 a0_0, .string a0_1, u9000_], .int .i64 a1] w fun e w' => e = .returned (.int .i64 r1) ∧ Kd.R (Kd.int .i64) 3 w' w0.heap.size (fun k_ => (P0_2_ k_ ∨ w.heap.size ≤ k_)) u9000_ r2 ∧ Below w0.heap.size w0 w' ∧ Kept w w' (fun k_ => P0_2_ k_) := by
  have hu41 := Tryd.underlying41
  have HO0_2 := Aside0.mk (show Kd.R (Kd.int .i64) 3 w w0.heap.size (fun k_ => (P0_2_ k_ ∨ w.heap.size ≤ k_)) u9000_ l0_2 from Kd.R_mono ho0_2 (fun k_ hk => (.inl hk)))
  have HK := Aside0.mk (Kept.refl w (fun k_ => P0_2_ k_))
  have HW0 := Aside0.mk hB.size
  have HB := Aside0.mk hB
  clear hB
  have H : ((laws_markIntS.f k l0_2 a1).bind fun bt489 => (some (bt489.1, bt489.2))) = some (r1, r2) := h
  clear h
  obtain ⟨⟨t489, t490⟩, A30, H⟩ := Option.bind_eq_some_iff.mp H
  try dsimp only at H
  have A3 := Aside0.mk A30
  clear A30
  simp only [Option.some.injEq, Prod.mk.injEq] at H
  obtain ⟨rfl, rfl⟩ := H
  obtain ⟨Ao4, co4, eo4⟩ := Kd.R_slice HO0_2.out
  subst eo4
  go_enter Tryd.func41, Tryd.ntmps41
  go_wp2_with (first | ((with_reducible refine gd 2 ?_); refine bA 2 #[.int .i64 a0_0, .string a0_1, .slice Ao4 l0_2.length co4] 41 ?_; intro gb488 hg w5 hbox hb; replace HO0_2 := rb HO0_2 hb; have BK488 := Aside0.mk (hbox); have GW488 := Aside0.mk ((by rw [hg]; exact (by first | exact HK.out.1 | exact (show Kept w _ (fun k_ => P0_2_ k_) from y0_3).1) : w.heap.size ≤ gb488)); have GJ488 := gi GW488; replace HK := Aside0.mk (Kept.below (S := (fun k_ => P0_2_ k_)) y0_3 hb); have GE488 := bg hg HB; have GI488 := gi GE488; replace HB := bs HB hb; clear hb hbox hg; obtain ⟨hcz6_0, hcz6_1, hcz6_2, hfz6_0, hfz6_1, hfz6_2⟩ := cs3 BK488) | ((with_reducible refine gate_callee (f := 87) rfl ?_); refine gB (some 8) Tryd.func87 #[.slice Ao4 l0_2.length co4, .int .i64 a1] ?_; (with_reducible refine (laws_markIntS.calls k (fun k_ => some k_ = (.slice Ao4 l0_2.length co4 : Value).ownBlock) (.slice Ao4 l0_2.length co4) l0_2 a1 t489 t490 w0 _ ?side1 ?side2 A3.out).mono ?_); (case side1 => exact bI HB.out); (case side2 => exact Kd.R_tight rfl HO0_2.out); rintro e w7 ⟨rfl, hy0, hb, hkp⟩; refine ⟨_, rfl, ?_⟩; replace BK488 := Aside0.mk (blk_kept (kI BK488.out) hkp (fun hs_ => (fun e_ => (Kd.R_ne HO0_2.out BK488.out (by decide)) e_) hs_)); replace HK := Aside0.mk (Kept.then_ (S := (fun k_ => P0_2_ k_)) (by repeat (first | (with_reducible first | exact HK.out | apply Kept.alloc | apply Kept.drewN | apply Kept.drew | refine Kept.setCell ?_ (.inr GW488.out) _) | exact HK.out)) hkp (fun k_ hs_ => (fun e_ => (HO0_2.out.1 k_ e_.symm)) hs_)); replace HO0_2 := Aside0.mk (Kd.R_reok rfl hy0 (fun k_ e_ => HO0_2.out.1 k_ e_)); replace HB := Aside0.mk (hb); (try clear hb); (try clear hkp); (try clear hy0)))
  go_ret
  exact ⟨y0_7, by (with_reducible repeat (first | apply Kd.R_alloc | apply Kd.R_drewN | apply Kd.R_drew)); exact HO0_2.out, bI HB.out, by repeat (first | (with_reducible first | exact HK.out | apply Kept.alloc | apply Kept.drewN | apply Kept.drew | refine Kept.setCell ?_ (.inr GW488.out) _) | exact HK.out)⟩

/-! ### laws_markSafe: function 61 -/
def laws_markSafe.f (k : Nat) (a0_0 : Int) (a0_1 : Int) (a0_2 : Int) (a0_3 : ByteArray) (l0_4 : List Int) (a0_5 : ByteArray) (a1 : Int) : Option (Int × List Int) := (laws_markQc.f k a0_2 a0_3 l0_4 a1).bind fun bt492 => (some (bt492.1, bt492.2))
theorem laws_markSafe.mono : ∀ a0 a1 a2 a3 a4 a5 a6 k, LeO (laws_markSafe.f k a0 a1 a2 a3 a4 a5 a6) (laws_markSafe.f (k + 1) a0 a1 a2 a3 a4 a5 a6) := by
  intro a0 a1 a2 a3 a4 a5 a6 k
  unfold laws_markSafe.f
  repeat' first
      | (with_reducible exact laws_markQc.mono _ _ _ _ _)
      | (with_reducible exact LeO.refl _)
      | (with_reducible exact LeO.none _)
      | (with_reducible refine LeO.ite ?_ ?_)
      | (with_reducible refine LeO.bind ?_ (fun _ => ?_))
      | exact laws_markQc.mono _ _ _ _ _
      | exact LeO.none _
      | refine LeO.ite ?_ ?_
      | refine LeO.bind ?_ (fun _ => ?_)
set_option maxHeartbeats 8000000 in
set_option maxRecDepth 100000 in
theorem laws_markSafe.calls (k : Nat) (a0_0 : Int) (a0_1 : Int) (a0_2 : Int) (a0_3 : ByteArray) (P0_4_ : Nat → Prop) (u9000_ : Value) (l0_4 : List Int) (a0_5 : ByteArray) (a1 : Int) (r1 : Int) (r2 : List Int) (w0 w : World) (hB : Below w0.heap.size w0 w) (ho0_4 : Kd.R (Kd.int .i64) 3 w w0.heap.size P0_4_ u9000_ l0_4) (h : laws_markSafe.f k a0_0 a0_1 a0_2 a0_3 l0_4 a0_5 a1 = some (r1, r2)) :
    Calls Tryd.prog 61 #[.agg #[.int .i64 a0_0, .int .i64 a0_1, .int .i64 a0_2, .string a0_3, u9000_, .string a0_5], .int .i64 a1] w fun e w' => e = .returned (.int .i64 r1) ∧ Kd.R (Kd.int .i64) 3 w' w0.heap.size (fun k_ => (P0_4_ k_ ∨ w.heap.size ≤ k_)) u9000_ r2 ∧ Below w0.heap.size w0 w' ∧ Kept w w' (fun k_ => P0_4_ k_) := by
  have hu57 := Tryd.underlying57
  have hu41 := Tryd.underlying41
  have HO0_4 := Aside0.mk (show Kd.R (Kd.int .i64) 3 w w0.heap.size (fun k_ => (P0_4_ k_ ∨ w.heap.size ≤ k_)) u9000_ l0_4 from Kd.R_mono ho0_4 (fun k_ hk => (.inl hk)))
  have HK := Aside0.mk (Kept.refl w (fun k_ => P0_4_ k_))
  have HW0 := Aside0.mk hB.size
  have HB := Aside0.mk hB
  clear hB
  have H : ((laws_markQc.f k a0_2 a0_3 l0_4 a1).bind fun bt492 => (some (bt492.1, bt492.2))) = some (r1, r2) := h
  clear h
  obtain ⟨⟨t492, t493⟩, A30, H⟩ := Option.bind_eq_some_iff.mp H
  try dsimp only at H
  have A3 := Aside0.mk A30
  clear A30
  simp only [Option.some.injEq, Prod.mk.injEq] at H
  obtain ⟨rfl, rfl⟩ := H
  obtain ⟨Ao4, co4, eo4⟩ := Kd.R_slice HO0_4.out
  subst eo4
  go_enter Tryd.func61, Tryd.ntmps61
  go_wp2_with (first | ((with_reducible refine gd 2 ?_); refine bA 2 #[.int .i64 a0_0, .int .i64 a0_1, .int .i64 a0_2, .string a0_3, .slice Ao4 l0_4.length co4, .string a0_5] 57 ?_; intro gb491 hg w5 hbox hb; replace HO0_4 := rb HO0_4 hb; have BK491 := Aside0.mk (hbox); have GW491 := Aside0.mk ((by rw [hg]; exact (by first | exact HK.out.1 | exact (show Kept w _ (fun k_ => P0_4_ k_) from y0_3).1) : w.heap.size ≤ gb491)); have GJ491 := gi GW491; replace HK := Aside0.mk (Kept.below (S := (fun k_ => P0_4_ k_)) y0_3 hb); have GE491 := bg hg HB; have GI491 := gi GE491; replace HB := bs HB hb; clear hb hbox hg; have hcz6_0 := bc0 BK491.out; have hcz6_1 := bc1 BK491.out; have hcz6_2 := bc2 BK491.out; have hcz6_3 := bc3 BK491.out; have hcz6_4 := bc4 BK491.out; have hcz6_5 := bc5 BK491.out; have hfz6_0 := blk_frozen BK491.out 0; have hfz6_1 := blk_frozen BK491.out 1; have hfz6_2 := blk_frozen BK491.out 2; have hfz6_3 := blk_frozen BK491.out 3; have hfz6_4 := blk_frozen BK491.out 4; have hfz6_5 := blk_frozen BK491.out 5) | ((with_reducible refine gate_callee (f := 41) rfl ?_); refine gB (some 8) Tryd.func41 #[.agg #[.int .i64 a0_2, .string a0_3, .slice Ao4 l0_4.length co4], .int .i64 a1] ?_; (with_reducible refine (laws_markQc.calls k a0_2 a0_3 (fun k_ => some k_ = (.slice Ao4 l0_4.length co4 : Value).ownBlock) (.slice Ao4 l0_4.length co4) l0_4 a1 t492 t493 w0 _ ?side1 ?side2 A3.out).mono ?_); (case side1 => exact bI HB.out); (case side2 => exact Kd.R_tight rfl HO0_4.out); rintro e w7 ⟨rfl, hy0, hb, hkp⟩; refine ⟨_, rfl, ?_⟩; replace BK491 := Aside0.mk (blk_kept (kI BK491.out) hkp (fun hs_ => (fun e_ => (Kd.R_ne HO0_4.out BK491.out (by decide)) e_) hs_)); replace HK := Aside0.mk (Kept.then_ (S := (fun k_ => P0_4_ k_)) (by repeat (first | (with_reducible first | exact HK.out | apply Kept.alloc | apply Kept.drewN | apply Kept.drew | refine Kept.setCell ?_ (.inr GW491.out) _) | exact HK.out)) hkp (fun k_ hs_ => (fun e_ => (HO0_4.out.1 k_ e_.symm)) hs_)); replace HO0_4 := Aside0.mk (Kd.R_reok rfl hy0 (fun k_ e_ => HO0_4.out.1 k_ e_)); replace HB := Aside0.mk (hb); (try clear hb); (try clear hkp); (try clear hy0)))
  go_ret
  exact ⟨y0_7, by (with_reducible repeat (first | apply Kd.R_alloc | apply Kd.R_drewN | apply Kd.R_drew)); exact HO0_4.out, bI HB.out, by repeat (first | (with_reducible first | exact HK.out | apply Kept.alloc | apply Kept.drewN | apply Kept.drew | refine Kept.setCell ?_ (.inr GW491.out) _) | exact HK.out)⟩

end Go.Proofs.YtcmldmlmhpfjhaaDoor.PFnExactSafeBytes
