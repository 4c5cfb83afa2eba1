-- By a program of this session, out of the translation (the print of the kit, with turns of its own). Lean checks it.
import Derived.Test.YtcmldmlmhpfjhaaDoorPFnExactMayVotex0
import Derived.Test.YtcmldmlmhpfjhaaDoorPFnExactMayVotex1
import Derived.Test.YtcmldmlmhpfjhaaDoorPFnExactMayVotex8
import Derived.Test.YtcmldmlmhpfjhaaDoorPFnExactMayVotex16
namespace Go.Proofs.YtcmldmlmhpfjhaaDoor.PFnExactMayVote
open Go.RowKit Go.Proofs.YtcmldmlmhpfjhaaDoorW.PrintWords Go.Proofs.YtcmldmlmhpfjhaaDoorW.PrintLast Go.Proofs.YtcmldmlmhpfjhaaDoorW.PrintMore
attribute [local go_sem] max2_int min2_int max_two min_two max_three min_three max_four min_four   -- for this text's walks alone
set_option linter.unusedVariables false
set_option linter.unusedSimpArgs false

/-! ### laws_FnExactMayVote: function 11 -/
def laws_FnExactMayVote.f (k : Nat) (a0_0 : Int) (a0_1 : Int) (a1_0 : Int) (a1_1 : Int) (a1_2 : Int) (a1_3 : ByteArray) (l1_4 : List Int) (a1_5 : ByteArray) (a2_0 : ByteArray) (a2_1 : Int) (a2_2 : ByteArray) (l2_3 : List Int) : Option (Bool) := (laws_szSafe.f a1_0 a1_1 a1_2 a1_3 l1_4 a1_5 1048576).bind fun t397 => (if t397 < 0 then (some true) else ((laws_szBlock.f a2_0 a2_1 a2_2 l2_3 t397).bind fun t398 => (if t398 < 0 then (some true) else ((laws_toConf.f a0_0 a0_1).bind fun bt399 => ((laws_toSafe.f k a1_0 a1_1 a1_2 a1_3 l1_4 a1_5).bind fun bt401 => ((laws_toBlock.f k a2_0 a2_1 a2_2 l2_3).bind fun bt409 => ((spec_MayVote.f k bt399.1 bt399.2 bt401.1 bt401.2.1 bt401.2.2.1 bt401.2.2.2.1 bt401.2.2.2.2.1 bt401.2.2.2.2.2 bt409.1 bt409.2.1 bt409.2.2.1 bt409.2.2.2).bind fun t415 => ((laws_toSafe.f k a1_0 a1_1 a1_2 a1_3 l1_4 a1_5).bind fun bt416 => ((laws_toBlock.f k a2_0 a2_1 a2_2 l2_3).bind fun bt425 => ((laws_toConf.f a0_0 a0_1).bind fun bt432 => ((impl_MayVote.f k bt432.1 bt432.2 bt416.1 bt416.2.1 bt416.2.2.1 bt416.2.2.2.1 bt416.2.2.2.2.1 bt416.2.2.2.2.2 bt425.1 bt425.2.1 bt425.2.2.1 bt425.2.2.2).bind fun t434 => (if (t434 != t415) = true then (some false) else ((laws_toSafe.f k a1_0 a1_1 a1_2 a1_3 l1_4 a1_5).bind fun bt435 => ((laws_eqSafe.f k bt416.1 bt416.2.1 bt416.2.2.1 bt416.2.2.2.1 bt416.2.2.2.2.1 bt416.2.2.2.2.2 bt435.1 bt435.2.1 bt435.2.2.1 bt435.2.2.2.1 bt435.2.2.2.2.1 bt435.2.2.2.2.2).bind fun t443 => (if t443 = true then ((laws_toBlock.f k a2_0 a2_1 a2_2 l2_3).bind fun bt444 => ((laws_eqBlock.f k bt425.1 bt425.2.1 bt425.2.2.1 bt425.2.2.2 bt444.1 bt444.2.1 bt444.2.2.1 bt444.2.2.2).bind fun t450 => (if t450 = true then (some true) else (some false)))) else (some false))))))))))))))))
theorem laws_FnExactMayVote.mono : ∀ a0 a1 a2 a3 a4 a5 a6 a7 a8 a9 a10 a11 k, LeO (laws_FnExactMayVote.f k a0 a1 a2 a3 a4 a5 a6 a7 a8 a9 a10 a11) (laws_FnExactMayVote.f (k + 1) a0 a1 a2 a3 a4 a5 a6 a7 a8 a9 a10 a11) := by
  intro a0 a1 a2 a3 a4 a5 a6 a7 a8 a9 a10 a11 k
  unfold laws_FnExactMayVote.f
  repeat' first
      | (with_reducible exact impl_MayVote.mono _ _ _ _ _ _ _ _ _ _ _ _ _)
      | (with_reducible exact laws_eqBlock.mono _ _ _ _ _ _ _ _ _)
      | (with_reducible exact laws_eqSafe.mono _ _ _ _ _ _ _ _ _ _ _ _ _)
      | (with_reducible exact laws_toBlock.mono _ _ _ _ _)
      | (with_reducible exact laws_toSafe.mono _ _ _ _ _ _ _)
      | (with_reducible exact spec_MayVote.mono _ _ _ _ _ _ _ _ _ _ _ _ _)
      | (with_reducible exact LeO.refl _)
      | (with_reducible exact LeO.none _)
      | (with_reducible refine LeO.ite ?_ ?_)
      | (with_reducible refine LeO.bind ?_ (fun _ => ?_))
      | exact impl_MayVote.mono _ _ _ _ _ _ _ _ _ _ _ _ _
      | exact laws_eqBlock.mono _ _ _ _ _ _ _ _ _
      | exact laws_eqSafe.mono _ _ _ _ _ _ _ _ _ _ _ _ _
      | exact laws_toBlock.mono _ _ _ _ _
      | exact laws_toSafe.mono _ _ _ _ _ _ _
      | exact spec_MayVote.mono _ _ _ _ _ _ _ _ _ _ _ _ _
      | exact LeO.none _
      | refine LeO.ite ?_ ?_
      | refine LeO.bind ?_ (fun _ => ?_)
def laws_FnExactMayVote.T8 : Bool × List (List Nat × List Nat) := (true, [([], []), ([0], [0]), ([], []), ([2, 1], [2]), ([], []), ([4, 3], [4]), ([1, 3, 5, 5], [1, 3, 5]), ([6, 6, 0, 1, 2, 3, 4, 5, 6], [6])])
def laws_FnExactMayVote.B8 : List Nat := [0, 1, 0, 7, 0, 31, 63, 127]
theorem laws_FnExactMayVote.tab8 : rtab .any (opsOf Tryd.f11 8) = laws_FnExactMayVote.T8 := by kernel_rfl
theorem laws_FnExactMayVote.bits8 : waitsOk laws_FnExactMayVote.T8.2 laws_FnExactMayVote.B8 = true := by kernel_rfl
set_option maxHeartbeats 8000000 in
set_option maxRecDepth 100000 in
theorem laws_FnExactMayVote.calls (k : Nat) (a0_0 : Int) (a0_1 : Int) (a1_0 : Int) (a1_1 : Int) (a1_2 : Int) (a1_3 : ByteArray) (A1_4 : Option Addr) (c1_4 : Nat) (l1_4 : List Int) (a1_5 : ByteArray) (a2_0 : ByteArray) (a2_1 : Int) (a2_2 : ByteArray) (A2_3 : Option Addr) (c2_3 : Nat) (l2_3 : List Int) (r : Bool) (hrt : Aside0 (r = true)) (w : World) (hr1_4 : Kd.C (Kd.int .i64) w A1_4 l1_4.length l1_4) (hc1_4 : l1_4.length ≤ c1_4) (hr2_3 : Kd.C (Kd.int .i64) w A2_3 l2_3.length l2_3) (hc2_3 : l2_3.length ≤ c2_3) (h : laws_FnExactMayVote.f k a0_0 a0_1 a1_0 a1_1 a1_2 a1_3 l1_4 a1_5 a2_0 a2_1 a2_2 l2_3 = some r) (hG : Glob w := by exact gG HG HB) :
    Calls Tryd.prog 11 #[.agg #[.int .i64 a0_0, .int .i64 a0_1], .agg #[.int .i64 a1_0, .int .i64 a1_1, .int .i64 a1_2, .string a1_3, .slice A1_4 l1_4.length c1_4, .string a1_5], .agg #[.string a2_0, .int .i64 a2_1, .string a2_2, .slice A2_3 l2_3.length c2_3]] w fun e w' => e = .returned (.bool r) ∧ Below w.heap.size w w' := by
  have HG := Aside0.mk hG
  clear hG
  have hu26 := Tryd.underlying26
  have hu53 := Tryd.underlying53
  have hu66 := Tryd.underlying66
  have hu57 := Tryd.underlying57
  have hu70 := Tryd.underlying70
  have HR1_4 := Aside0.mk hr1_4
  have HC1_4 := Aside0.mk hc1_4
  clear hr1_4 hc1_4
  have HR2_3 := Aside0.mk hr2_3
  have HC2_3 := Aside0.mk hc2_3
  clear hr2_3 hc2_3
  have HB := Aside0.mk (Below.refl w.heap.size w)
  have H : ((laws_szSafe.f a1_0 a1_1 a1_2 a1_3 l1_4 a1_5 1048576).bind fun t397 => (if t397 < 0 then (some true) else ((laws_szBlock.f a2_0 a2_1 a2_2 l2_3 t397).bind fun t398 => (if t398 < 0 then (some true) else ((laws_toConf.f a0_0 a0_1).bind fun bt399 => ((laws_toSafe.f k a1_0 a1_1 a1_2 a1_3 l1_4 a1_5).bind fun bt401 => ((laws_toBlock.f k a2_0 a2_1 a2_2 l2_3).bind fun bt409 => ((spec_MayVote.f k bt399.1 bt399.2 bt401.1 bt401.2.1 bt401.2.2.1 bt401.2.2.2.1 bt401.2.2.2.2.1 bt401.2.2.2.2.2 bt409.1 bt409.2.1 bt409.2.2.1 bt409.2.2.2).bind fun t415 => ((laws_toSafe.f k a1_0 a1_1 a1_2 a1_3 l1_4 a1_5).bind fun bt416 => ((laws_toBlock.f k a2_0 a2_1 a2_2 l2_3).bind fun bt425 => ((laws_toConf.f a0_0 a0_1).bind fun bt432 => ((impl_MayVote.f k bt432.1 bt432.2 bt416.1 bt416.2.1 bt416.2.2.1 bt416.2.2.2.1 bt416.2.2.2.2.1 bt416.2.2.2.2.2 bt425.1 bt425.2.1 bt425.2.2.1 bt425.2.2.2).bind fun t434 => (if (t434 != t415) = true then (some false) else ((laws_toSafe.f k a1_0 a1_1 a1_2 a1_3 l1_4 a1_5).bind fun bt435 => ((laws_eqSafe.f k bt416.1 bt416.2.1 bt416.2.2.1 bt416.2.2.2.1 bt416.2.2.2.2.1 bt416.2.2.2.2.2 bt435.1 bt435.2.1 bt435.2.2.1 bt435.2.2.2.1 bt435.2.2.2.2.1 bt435.2.2.2.2.2).bind fun t443 => (if t443 = true then ((laws_toBlock.f k a2_0 a2_1 a2_2 l2_3).bind fun bt444 => ((laws_eqBlock.f k bt425.1 bt425.2.1 bt425.2.2.1 bt425.2.2.2 bt444.1 bt444.2.1 bt444.2.2.1 bt444.2.2.2).bind fun t450 => (if t450 = true then (some true) else (some false)))) else (some false))))))))))))))))) = some r := h
  clear h
  obtain ⟨t397, A40, H⟩ := Option.bind_eq_some_iff.mp H
  try dsimp only at H
  have A4 := Aside0.mk A40
  clear A40
  by_cases c5 : t397 < 0
  · rw [if_pos c5] at H
    have c5b0 : decide (t397 < 0) = true := decide_eq_true c5
    clear c5
    obtain rfl := Option.some.inj H
    go_enter Tryd.func11, Tryd.ntmps11
    go_wp2_with (first | ((with_reducible refine gd 3 ?_); refine bA 3 #[.int .i64 a0_0, .int .i64 a0_1] 26 ?_; intro gb394 hg w6 hbox hb; have BK394 := Aside0.mk (hbox); have GW394 := bg hg HB; have GJ394 := gi GW394; have GE394 := GW394; replace HB := bs HB hb; clear hb hbox hg) | ((with_reducible refine gd 4 ?_); refine bA 4 #[.int .i64 a1_0, .int .i64 a1_1, .int .i64 a1_2, .string a1_3, .slice A1_4 l1_4.length c1_4, .string a1_5] 53 ?_; intro gb395 hg w7 hbox hb; have BK395 := Aside0.mk (hbox); have GW395 := bg hg HB; have GJ395 := gi GW395; have GE395 := GW395; replace HB := bs HB hb; have NB394_395 := b1 BK394 hg; have NI394_395 := ni NB394_395; have NB395_394 := b2 BK394 hg; have NI395_394 := ni NB395_394; replace BK394 := bk BK394 hb; clear hb hbox hg) | ((with_reducible refine gd 5 ?_); refine bA 5 #[.string a2_0, .int .i64 a2_1, .string a2_2, .slice A2_3 l2_3.length c2_3] 66 ?_; intro gb396 hg w8 hbox hb; have BK396 := Aside0.mk (hbox); have GW396 := bg hg HB; have GJ396 := gi GW396; have GE396 := GW396; replace HB := bs HB hb; have NB394_396 := b1 BK394 hg; have NI394_396 := ni NB394_396; have NB396_394 := b2 BK394 hg; have NI396_394 := ni NB396_394; replace BK394 := bk BK394 hb; have NB395_396 := b1 BK395 hg; have NI395_396 := ni NB395_396; have NB396_395 := b2 BK395 hg; have NI396_395 := ni NB396_395; replace BK395 := bk BK395 hb; clear hb hbox hg; have hnb9 := NB395_394.out; have hnc9 := NB394_395.out; have hnb10 := NB395_396.out; have hnc10 := NB396_395.out; have hcz11_0 := bc0 BK395.out; have hcz11_1 := bc1 BK395.out; have hcz11_2 := bc2 BK395.out; have hcz11_3 := bc3 BK395.out; have hcz11_4 := bc4 BK395.out; have hcz11_5 := bc5 BK395.out; have hfz11_0 := blk_frozen BK395.out 0; have hfz11_1 := blk_frozen BK395.out 1; have hfz11_2 := blk_frozen BK395.out 2; have hfz11_3 := blk_frozen BK395.out 3; have hfz11_4 := blk_frozen BK395.out 4; have hfz11_5 := blk_frozen BK395.out 5) | ((with_reducible refine gate_callee (f := 33) rfl ?_); refine gB (some 14) Tryd.func33 #[.agg #[.int .i64 a1_0, .int .i64 a1_1, .int .i64 a1_2, .string a1_3, .slice A1_4 l1_4.length c1_4, .string a1_5], .int .i64 1048576] ?_; (with_reducible refine (laws_szSafe.calls a1_0 a1_1 a1_2 a1_3 _ _ l1_4 a1_5 1048576 t397 _ ?side1 ?side2 A4.out).mono ?_); (case side1 => exact ch HR1_4 HB); (case side2 => exact HC1_4.out); rintro e w12 ⟨rfl, hb⟩; refine ⟨_, rfl, ?_⟩; replace BK394 := bk BK394 hb; replace BK395 := bk BK395 hb; replace BK396 := bk BK396 hb; replace HB := bs HB hb; (try clear hb); (try clear hb2); (try clear hk); (try clear hi)))
    go_ret
    exact ⟨y0_4, bI HB.out⟩
  · rw [if_neg c5] at H
    have c5b0 : decide (t397 < 0) = false := decide_eq_false c5
    clear c5
    obtain ⟨t398, A130, H⟩ := Option.bind_eq_some_iff.mp H
    try dsimp only at H
    have A13 := Aside0.mk A130
    clear A130
    by_cases c14 : t398 < 0
    · rw [if_pos c14] at H
      have c14b0 : decide (t398 < 0) = true := decide_eq_true c14
      clear c14
      obtain rfl := Option.some.inj H
      go_enter Tryd.func11, Tryd.ntmps11
      go_wp2_with (first | ((with_reducible refine gd 3 ?_); refine bA 3 #[.int .i64 a0_0, .int .i64 a0_1] 26 ?_; intro gb394 hg w15 hbox hb; have BK394 := Aside0.mk (hbox); have GW394 := bg hg HB; have GJ394 := gi GW394; have GE394 := GW394; replace HB := bs HB hb; clear hb hbox hg) | ((with_reducible refine gd 4 ?_); refine bA 4 #[.int .i64 a1_0, .int .i64 a1_1, .int .i64 a1_2, .string a1_3, .slice A1_4 l1_4.length c1_4, .string a1_5] 53 ?_; intro gb395 hg w16 hbox hb; have BK395 := Aside0.mk (hbox); have GW395 := bg hg HB; have GJ395 := gi GW395; have GE395 := GW395; replace HB := bs HB hb; have NB394_395 := b1 BK394 hg; have NI394_395 := ni NB394_395; have NB395_394 := b2 BK394 hg; have NI395_394 := ni NB395_394; replace BK394 := bk BK394 hb; clear hb hbox hg) | ((with_reducible refine gd 5 ?_); refine bA 5 #[.string a2_0, .int .i64 a2_1, .string a2_2, .slice A2_3 l2_3.length c2_3] 66 ?_; intro gb396 hg w17 hbox hb; have BK396 := Aside0.mk (hbox); have GW396 := bg hg HB; have GJ396 := gi GW396; have GE396 := GW396; replace HB := bs HB hb; have NB394_396 := b1 BK394 hg; have NI394_396 := ni NB394_396; have NB396_394 := b2 BK394 hg; have NI396_394 := ni NB396_394; replace BK394 := bk BK394 hb; have NB395_396 := b1 BK395 hg; have NI395_396 := ni NB395_396; have NB396_395 := b2 BK395 hg; have NI396_395 := ni NB396_395; replace BK395 := bk BK395 hb; clear hb hbox hg; have hnb18 := NB395_394.out; have hnc18 := NB394_395.out; have hnb19 := NB395_396.out; have hnc19 := NB396_395.out; have hcz20_0 := bc0 BK395.out; have hcz20_1 := bc1 BK395.out; have hcz20_2 := bc2 BK395.out; have hcz20_3 := bc3 BK395.out; have hcz20_4 := bc4 BK395.out; have hcz20_5 := bc5 BK395.out; have hfz20_0 := blk_frozen BK395.out 0; have hfz20_1 := blk_frozen BK395.out 1; have hfz20_2 := blk_frozen BK395.out 2; have hfz20_3 := blk_frozen BK395.out 3; have hfz20_4 := blk_frozen BK395.out 4; have hfz20_5 := blk_frozen BK395.out 5) | ((with_reducible refine gate_callee (f := 33) rfl ?_); refine gB (some 14) Tryd.func33 #[.agg #[.int .i64 a1_0, .int .i64 a1_1, .int .i64 a1_2, .string a1_3, .slice A1_4 l1_4.length c1_4, .string a1_5], .int .i64 1048576] ?_; (with_reducible refine (laws_szSafe.calls a1_0 a1_1 a1_2 a1_3 _ _ l1_4 a1_5 1048576 t397 _ ?side1 ?side2 A4.out).mono ?_); (case side1 => exact ch HR1_4 HB); (case side2 => exact HC1_4.out); rintro e w21 ⟨rfl, hb⟩; refine ⟨_, rfl, ?_⟩; replace BK394 := bk BK394 hb; replace BK395 := bk BK395 hb; replace BK396 := bk BK396 hb; replace HB := bs HB hb; (try clear hb); (try clear hb2); (try clear hk); (try clear hi); have hnb22 := NB396_394.out; have hnc22 := NB394_396.out; obtain ⟨hcz23_0, hcz23_1, hcz23_2, hcz23_3, hfz23_0, hfz23_1, hfz23_2, hfz23_3⟩ := cs4 BK396) | ((with_reducible refine gate_callee (f := 43) rfl ?_); refine gB (some 19) Tryd.func43 #[.agg #[.string a2_0, .int .i64 a2_1, .string a2_2, .slice A2_3 l2_3.length c2_3], .int .i64 t397] ?_; (with_reducible refine (laws_szBlock.calls a2_0 a2_1 a2_2 _ _ l2_3 t397 t398 _ ?side1 ?side2 A13.out).mono ?_); (case side1 => exact ch HR2_3 HB); (case side2 => exact HC2_3.out); rintro e w24 ⟨rfl, hb⟩; refine ⟨_, rfl, ?_⟩; replace BK394 := bk BK394 hb; replace BK395 := bk BK395 hb; replace BK396 := bk BK396 hb; replace HB := bs HB hb; (try clear hb); (try clear hb2); (try clear hk); (try clear hi)))
      go_ret
      exact ⟨y0_4, bI HB.out⟩
    · rw [if_neg c14] at H
      have c14b0 : decide (t398 < 0) = false := decide_eq_false c14
      clear c14
      obtain ⟨⟨t399, t400⟩, A250, H⟩ := Option.bind_eq_some_iff.mp H
      try dsimp only at H
      have A25 := Aside0.mk A250
      clear A250
      obtain ⟨⟨t401, t402, t403, t404, t405, t408⟩, A260, H⟩ := Option.bind_eq_some_iff.mp H
      try dsimp only at H
      have A26 := Aside0.mk A260
      clear A260
      obtain ⟨⟨t409, t410, t411, t412⟩, A270, H⟩ := Option.bind_eq_some_iff.mp H
      try dsimp only at H
      have A27 := Aside0.mk A270
      clear A270
      obtain ⟨t415, A280, H⟩ := Option.bind_eq_some_iff.mp H
      try dsimp only at H
      have A28 := Aside0.mk A280
      clear A280
      obtain ⟨⟨t416, t417, t418, t419, t420, t423⟩, A290, H⟩ := Option.bind_eq_some_iff.mp H
      try dsimp only at H
      have A29 := Aside0.mk A290
      clear A290
      obtain ⟨⟨t425, t426, t427, t428⟩, A300, H⟩ := Option.bind_eq_some_iff.mp H
      try dsimp only at H
      have A30 := Aside0.mk A300
      clear A300
      obtain ⟨⟨t432, t433⟩, A310, H⟩ := Option.bind_eq_some_iff.mp H
      try dsimp only at H
      have A31 := Aside0.mk A310
      clear A310
      obtain ⟨t434, A320, H⟩ := Option.bind_eq_some_iff.mp H
      try dsimp only at H
      have A32 := Aside0.mk A320
      clear A320
      by_cases c33 : (t434 != t415) = true
      · rw [if_pos c33] at H
        have c33b0 : (t434 != t415) = true := c33
        (try (have c33b1 : decide (t434 = t415) = false := by simpa using c33))
        (try (have c33b2 : (t434 == t415) = false := by simpa using c33))
        (try (have c33b3 : ¬ (t434 = t415) := by simpa using c33))
        clear c33
        exact absurd (hrt.out.symm.trans (Option.some.inj H).symm) (by decide)
      rw [if_neg c33] at H
      have c33b0 : (t434 != t415) = false := by simpa using c33
      (try (have c33b1 : decide (t434 = t415) = true := by simpa using c33))
      (try (have c33b2 : (t434 == t415) = true := by simpa using c33))
      clear c33
      obtain ⟨⟨t435, t436, t437, t438, t439, t442⟩, A340, H⟩ := Option.bind_eq_some_iff.mp H
      try dsimp only at H
      have A34 := Aside0.mk A340
      clear A340
      obtain ⟨t443, A350, H⟩ := Option.bind_eq_some_iff.mp H
      try dsimp only at H
      have A35 := Aside0.mk A350
      clear A350
      by_cases c36 : t443 = true
      · subst c36
        rw [if_pos rfl] at H
        obtain ⟨⟨t444, t445, t446, t447⟩, A370, H⟩ := Option.bind_eq_some_iff.mp H
        try dsimp only at H
        have A37 := Aside0.mk A370
        clear A370
        obtain ⟨t450, A380, H⟩ := Option.bind_eq_some_iff.mp H
        try dsimp only at H
        have A38 := Aside0.mk A380
        clear A380
        by_cases c39 : t450 = true
        rotate_left
        · replace c39 := Bool.eq_false_iff.mpr c39
          subst c39
          rw [if_neg (show ¬ (false = true) by decide)] at H
          exact absurd (hrt.out.symm.trans (Option.some.inj H).symm) (by decide)
        subst c39
        rw [if_pos rfl] at H
        obtain rfl := Option.some.inj H
        go_enter Tryd.func11, Tryd.ntmps11
        try go_wp2_with (first | ((with_reducible refine gd 3 ?_); refine bA 3 #[.int .i64 a0_0, .int .i64 a0_1] 26 ?_; intro gb394 hg w40 hbox hb; have BK394 := Aside0.mk (hbox); have GW394 := bg hg HB; have GJ394 := gi GW394; have GE394 := GW394; replace HB := bs HB hb; clear hb hbox hg) | ((with_reducible refine gd 4 ?_); refine bA 4 #[.int .i64 a1_0, .int .i64 a1_1, .int .i64 a1_2, .string a1_3, .slice A1_4 l1_4.length c1_4, .string a1_5] 53 ?_; intro gb395 hg w41 hbox hb; have BK395 := Aside0.mk (hbox); have GW395 := bg hg HB; have GJ395 := gi GW395; have GE395 := GW395; replace HB := bs HB hb; have NB394_395 := b1 BK394 hg; have NI394_395 := ni NB394_395; have NB395_394 := b2 BK394 hg; have NI395_394 := ni NB395_394; replace BK394 := bk BK394 hb; clear hb hbox hg) | ((with_reducible refine gd 5 ?_); refine bA 5 #[.string a2_0, .int .i64 a2_1, .string a2_2, .slice A2_3 l2_3.length c2_3] 66 ?_; intro gb396 hg w42 hbox hb; have BK396 := Aside0.mk (hbox); have GW396 := bg hg HB; have GJ396 := gi GW396; have GE396 := GW396; replace HB := bs HB hb; have NB394_396 := b1 BK394 hg; have NI394_396 := ni NB394_396; have NB396_394 := b2 BK394 hg; have NI396_394 := ni NB396_394; replace BK394 := bk BK394 hb; have NB395_396 := b1 BK395 hg; have NI395_396 := ni NB395_396; have NB396_395 := b2 BK395 hg; have NI396_395 := ni NB396_395; replace BK395 := bk BK395 hb; clear hb hbox hg; have hnb43 := NB395_394.out; have hnc43 := NB394_395.out; have hnb44 := NB395_396.out; have hnc44 := NB396_395.out; have hcz45_0 := bc0 BK395.out; have hcz45_1 := bc1 BK395.out; have hcz45_2 := bc2 BK395.out; have hcz45_3 := bc3 BK395.out; have hcz45_4 := bc4 BK395.out; have hcz45_5 := bc5 BK395.out; have hfz45_0 := blk_frozen BK395.out 0; have hfz45_1 := blk_frozen BK395.out 1; have hfz45_2 := blk_frozen BK395.out 2; have hfz45_3 := blk_frozen BK395.out 3; have hfz45_4 := blk_frozen BK395.out 4; have hfz45_5 := blk_frozen BK395.out 5) | ((with_reducible refine gate_callee (f := 33) rfl ?_); refine gB (some 14) Tryd.func33 #[.agg #[.int .i64 a1_0, .int .i64 a1_1, .int .i64 a1_2, .string a1_3, .slice A1_4 l1_4.length c1_4, .string a1_5], .int .i64 1048576] ?_; (with_reducible refine (laws_szSafe.calls a1_0 a1_1 a1_2 a1_3 _ _ l1_4 a1_5 1048576 t397 _ ?side1 ?side2 A4.out).mono ?_); (case side1 => exact ch HR1_4 HB); (case side2 => exact HC1_4.out); rintro e w46 ⟨rfl, hb⟩; refine ⟨_, rfl, ?_⟩; replace BK394 := bk BK394 hb; replace BK395 := bk BK395 hb; replace BK396 := bk BK396 hb; replace HB := bs HB hb; (try clear hb); (try clear hb2); (try clear hk); (try clear hi); have hnb47 := NB396_394.out; have hnc47 := NB394_396.out; obtain ⟨hcz48_0, hcz48_1, hcz48_2, hcz48_3, hfz48_0, hfz48_1, hfz48_2, hfz48_3⟩ := cs4 BK396) | ((with_reducible refine gate_callee (f := 43) rfl ?_); refine gB (some 19) Tryd.func43 #[.agg #[.string a2_0, .int .i64 a2_1, .string a2_2, .slice A2_3 l2_3.length c2_3], .int .i64 t397] ?_; (with_reducible refine (laws_szBlock.calls a2_0 a2_1 a2_2 _ _ l2_3 t397 t398 _ ?side1 ?side2 A13.out).mono ?_); (case side1 => exact ch HR2_3 HB); (case side2 => exact HC2_3.out); rintro e w49 ⟨rfl, hb⟩; refine ⟨_, rfl, ?_⟩; replace BK394 := bk BK394 hb; replace BK395 := bk BK395 hb; replace BK396 := bk BK396 hb; replace HB := bs HB hb; (try clear hb); (try clear hb2); (try clear hk); (try clear hi)))
        replace BK394 := Aside0.mk (blk_drew BK394.out)
        replace BK395 := Aside0.mk (blk_drew BK395.out)
        replace BK396 := Aside0.mk (blk_drew BK396.out)
        replace HB := Aside0.mk (below_drew1 HB.out)
        refine start_ (n := 8) (S := fun w' => w'.cell? ⟨gb394, 0, none⟩ = some (.int .i64 a0_0) ∧ w'.cell? ⟨gb394, 1, none⟩ = some (.int .i64 a0_1) ∧ w'.cell? ⟨gb395, 0, none⟩ = some (.int .i64 a1_0) ∧ w'.cell? ⟨gb395, 1, none⟩ = some (.int .i64 a1_1) ∧ w'.cell? ⟨gb395, 2, none⟩ = some (.int .i64 a1_2) ∧ w'.cell? ⟨gb395, 3, none⟩ = some (.string a1_3) ∧ w'.cell? ⟨gb395, 4, none⟩ = some (.slice A1_4 l1_4.length c1_4) ∧ w'.cell? ⟨gb395, 5, none⟩ = some (.string a1_5) ∧ w'.cell? ⟨gb396, 0, none⟩ = some (.string a2_0) ∧ w'.cell? ⟨gb396, 1, none⟩ = some (.int .i64 a2_1) ∧ w'.cell? ⟨gb396, 2, none⟩ = some (.string a2_2) ∧ w'.cell? ⟨gb396, 3, none⟩ = some (.slice A2_3 l2_3.length c2_3)) (ds := []) #[false, false, false, false, false, false, false, false] (by kernel_rfl) rfl rfl ⟨bc0 BK394.out, bc1 BK394.out, bc0 BK395.out, bc1 BK395.out, bc2 BK395.out, bc3 BK395.out, bc4 BK395.out, bc5 BK395.out, bc0 BK396.out, bc1 BK396.out, bc2 BK396.out, bc3 BK396.out⟩ (fun hHeld => ?_); refine with_tabW laws_FnExactMayVote.tab8 laws_FnExactMayVote.bits8 (fun HT_ HW_ => ?_)
        generalize w49.drew = w50 at BK394 BK395 BK396 HB hHeld ⊢
        refine tA 0 (some 22) (bz 8 1) HT_ HW_ hHeld ?_
        refine tA 2 (some 24) (bz 8 5) HT_ HW_ hHeld ?_
        refine tA 4 (some 26) (bz 8 21) HT_ HW_ hHeld ?_
        refine oA 1 (some 23) (bz 8 23) HT_ (fun K hK => ?_)
        refine gA Tryd.func19 #[.agg #[.int .i64 a0_0, .int .i64 a0_1]] ?_
        with_reducible refine (laws_toConf.calls a0_0 a0_1 t399 t400 _ A25.out).mono ?_
        rintro e w51 ⟨rfl, hb⟩
        refine ⟨_, rfl, ?_⟩
        replace BK394 := bk BK394 hb
        replace BK395 := bk BK395 hb
        replace BK396 := bk BK396 hb
        replace HB := bs HB hb
        (try clear hb)
        (try clear hb2)
        (try clear hk)
        (try clear hi)
        refine hK.out _ _ ⟨bc0 BK394.out, bc1 BK394.out, bc0 BK395.out, bc1 BK395.out, bc2 BK395.out, bc3 BK395.out, bc4 BK395.out, bc5 BK395.out, bc0 BK396.out, bc1 BK396.out, bc2 BK396.out, bc3 BK396.out⟩ (fun hHeld => ?_)
        clear hK K
        refine nA (some 23) ?_
        refine oA 3 (some 25) (bz 8 31) HT_ (fun K hK => ?_)
        refine gA Tryd.func35 #[.agg #[.int .i64 a1_0, .int .i64 a1_1, .int .i64 a1_2, .string a1_3, .slice A1_4 l1_4.length c1_4, .string a1_5]] ?_
        with_reducible refine (laws_toSafe.calls k a1_0 a1_1 a1_2 a1_3 _ _ l1_4 a1_5 t401 t402 t403 t404 t405 t408 _ ?side1 ?side2 A26.out).mono ?_
        (case side1 => exact ch HR1_4 HB)
        (case side2 => exact HC1_4.out)
        rintro e w52 ⟨v406, rfl, ho0, hb⟩
        refine ⟨_, rfl, ?_⟩
        have HO407 := Aside0.mk (Kd.R_lower ho0 (below_size (bI HB.out)))
        replace BK394 := bk BK394 hb
        replace BK395 := bk BK395 hb
        replace BK396 := bk BK396 hb
        replace HB := bs HB hb
        (try clear hb)
        (try clear hb2)
        (try clear hk)
        (try clear hi)
        (try clear ho0)
        refine hK.out _ _ ⟨bc0 BK394.out, bc1 BK394.out, bc0 BK395.out, bc1 BK395.out, bc2 BK395.out, bc3 BK395.out, bc4 BK395.out, bc5 BK395.out, bc0 BK396.out, bc1 BK396.out, bc2 BK396.out, bc3 BK396.out⟩ (fun hHeld => ?_)
        clear hK K
        refine nA (some 25) ?_
        refine oA 5 (some 27) (bz 8 63) HT_ (fun K hK => ?_)
        refine gA Tryd.func45 #[.agg #[.string a2_0, .int .i64 a2_1, .string a2_2, .slice A2_3 l2_3.length c2_3]] ?_
        with_reducible refine (laws_toBlock.calls k a2_0 a2_1 a2_2 _ _ l2_3 t409 t410 t411 t412 _ ?side1 ?side2 A27.out).mono ?_
        (case side1 => exact ch HR2_3 HB)
        (case side2 => exact HC2_3.out)
        rintro e w53 ⟨v413, rfl, ho0, hb⟩
        refine ⟨_, rfl, ?_⟩
        have HO414 := Aside0.mk (Kd.R_lower (Kd.R_new' ho0 (Kd.R_lt (rI HO407.out))) (below_size (bI HB.out)))
        replace HO407 := Aside0.mk (Kd.R_elder' (rI HO407.out) (Kd.R_base ho0) hb)
        replace BK394 := bk BK394 hb
        replace BK395 := bk BK395 hb
        replace BK396 := bk BK396 hb
        replace HB := bs HB hb
        (try clear hb)
        (try clear hb2)
        (try clear hk)
        (try clear hi)
        (try clear ho0)
        obtain ⟨Ao54, co54, eo54⟩ := Kd.R_slice HO407.out
        (first | subst eo54 | (injection eo54 with f1_ f2_ f3_; have f4_ := f1_.symm; have f5_ := f3_.symm; clear f1_ f2_ f3_; subst f4_; subst f5_))
        obtain ⟨Ao55, co55, eo55⟩ := Kd.R_slice HO414.out
        (first | subst eo55 | (injection eo55 with f1_ f2_ f3_; have f4_ := f1_.symm; have f5_ := f3_.symm; clear f1_ f2_ f3_; subst f4_; subst f5_))
        refine hK.out _ _ ⟨bc0 BK394.out, bc1 BK394.out, bc0 BK395.out, bc1 BK395.out, bc2 BK395.out, bc3 BK395.out, bc4 BK395.out, bc5 BK395.out, bc0 BK396.out, bc1 BK396.out, bc2 BK396.out, bc3 BK396.out⟩ (fun hHeld => ?_)
        clear hK K
        refine nA (some 27) ?_
        refine oA 6 (some 28) (bz 8 127) HT_ (fun K hK => ?_)
        refine gA Tryd.func53 #[.agg #[.int .i64 t399, .int .i64 t400], .agg #[.int .i64 t401, .int .i64 t402, .int .i64 t403, .string t404, .slice Ao54 t405.length co54, .string t408], .agg #[.string t409, .int .i64 t410, .string t411, .slice Ao55 t412.length co55]] ?_
        with_reducible refine (spec_MayVote.calls k t399 t400 t401 t402 t403 t404 _ _ t405 t408 t409 t410 t411 _ _ t412 t415 _ ?side1 ?side2 ?side3 ?side4 A28.out).mono ?_
        (case side1 => repeat (first | exact (Kd.R_reads' HO407.out).2.2 | (with_reducible refine Kd.C_alloc ?_ _) | (with_reducible refine Kd.C_drewN ?_ _) | (with_reducible refine Kd.C_drew ?_)))
        (case side2 => exact (Kd.R_reads' HO407.out).2.1)
        (case side3 => repeat (first | exact (Kd.R_reads' HO414.out).2.2 | (with_reducible refine Kd.C_alloc ?_ _) | (with_reducible refine Kd.C_drewN ?_ _) | (with_reducible refine Kd.C_drew ?_)))
        (case side4 => exact (Kd.R_reads' HO414.out).2.1)
        rintro e w56 ⟨rfl, hb⟩
        refine ⟨_, rfl, ?_⟩
        replace HO407 := rb HO407 hb
        replace HO414 := rb HO414 hb
        replace BK394 := bk BK394 hb
        replace BK395 := bk BK395 hb
        replace BK396 := bk BK396 hb
        replace HB := bs HB hb
        (try clear hb)
        (try clear hb2)
        (try clear hk)
        (try clear hi)
        refine hK.out _ _ ⟨bc0 BK394.out, bc1 BK394.out, bc0 BK395.out, bc1 BK395.out, bc2 BK395.out, bc3 BK395.out, bc4 BK395.out, bc5 BK395.out, bc0 BK396.out, bc1 BK396.out, bc2 BK396.out, bc3 BK396.out⟩ (fun hHeld => ?_)
        clear hK K
        refine nA (some 28) ?_
        refine pA 7 (some 8) (bz 8 255) HT_ ?_
        refine done_ (done_of HT_.out (by kernel_rfl)) ?_
        have hcz57_0 := bc0 BK395.out
        have hcz57_1 := bc1 BK395.out
        have hcz57_2 := bc2 BK395.out
        have hcz57_3 := bc3 BK395.out
        have hcz57_4 := bc4 BK395.out
        have hcz57_5 := bc5 BK395.out
        have hfz57_0 := blk_frozen BK395.out 0
        have hfz57_1 := blk_frozen BK395.out 1
        have hfz57_2 := blk_frozen BK395.out 2
        have hfz57_3 := blk_frozen BK395.out 3
        have hfz57_4 := blk_frozen BK395.out 4
        have hfz57_5 := blk_frozen BK395.out 5
        clear HO407
        clear HO414
        try go_wp2_with (first | ((with_reducible refine gate_callee (f := 35) rfl ?_); refine gB (some 30) Tryd.func35 #[.agg #[.int .i64 a1_0, .int .i64 a1_1, .int .i64 a1_2, .string a1_3, .slice A1_4 l1_4.length c1_4, .string a1_5]] ?_; (with_reducible refine (laws_toSafe.calls k a1_0 a1_1 a1_2 a1_3 _ _ l1_4 a1_5 t416 t417 t418 t419 t420 t423 _ ?side1 ?side2 A29.out).mono ?_); (case side1 => exact ch HR1_4 HB); (case side2 => exact HC1_4.out); rintro e w58 ⟨v421, rfl, ho0, hb⟩; refine ⟨_, rfl, ?_⟩; have HO422 := Aside0.mk (Kd.R_lower ho0 (below_size (bI HB.out))); replace BK394 := bk BK394 hb; replace BK395 := bk BK395 hb; replace BK396 := bk BK396 hb; replace HB := bs HB hb; (try clear hb); (try clear ho0)) | ((with_reducible refine gd 9 ?_); refine bA 9 #[.int .i64 0, .int .i64 0, .int .i64 0, .string (⟨#[]⟩ : ByteArray), .slice none 0 0, .string (⟨#[]⟩ : ByteArray)] 57 ?_; intro gb424 hg w59 hbox hb; replace HO422 := rb HO422 hb; have BK424 := Aside0.mk (hbox); have GW424 := bg hg HB; have GJ424 := gi GW424; have GE424 := GW424; replace HB := bs HB hb; have NB394_424 := b1 BK394 hg; have NI394_424 := ni NB394_424; have NB424_394 := b2 BK394 hg; have NI424_394 := ni NB424_394; replace BK394 := bk BK394 hb; have NB395_424 := b1 BK395 hg; have NI395_424 := ni NB395_424; have NB424_395 := b2 BK395 hg; have NI424_395 := ni NB424_395; replace BK395 := bk BK395 hb; have NB396_424 := b1 BK396 hg; have NI396_424 := ni NB396_424; have NB424_396 := b2 BK396 hg; have NI424_396 := ni NB424_396; replace BK396 := bk BK396 hb; clear hb hbox hg; have hnb60 := NB424_394.out; have hnc60 := NB394_424.out; have hnb61 := NB424_395.out; have hnc61 := NB395_424.out; have hnb62 := NB424_396.out; have hnc62 := NB396_424.out; have hcz63_0 := bc0 BK424.out; have hcz63_1 := bc1 BK424.out; have hcz63_2 := bc2 BK424.out; have hcz63_3 := bc3 BK424.out; have hcz63_4 := bc4 BK424.out; have hcz63_5 := bc5 BK424.out; have hfz63_0 := blk_frozen BK424.out 0; have hfz63_1 := blk_frozen BK424.out 1; have hfz63_2 := blk_frozen BK424.out 2; have hfz63_3 := blk_frozen BK424.out 3; have hfz63_4 := blk_frozen BK424.out 4; have hfz63_5 := blk_frozen BK424.out 5; obtain ⟨Ao64, co64, eo64⟩ := Kd.R_slice HO422.out; subst eo64; obtain ⟨hcz65_0, hcz65_1, hcz65_2, hcz65_3, hfz65_0, hfz65_1, hfz65_2, hfz65_3⟩ := cs4 BK396) | ((with_reducible refine gate_callee (f := 45) rfl ?_); refine gB (some 32) Tryd.func45 #[.agg #[.string a2_0, .int .i64 a2_1, .string a2_2, .slice A2_3 l2_3.length c2_3]] ?_; (with_reducible refine (laws_toBlock.calls k a2_0 a2_1 a2_2 _ _ l2_3 t425 t426 t427 t428 _ ?side1 ?side2 A30.out).mono ?_); (case side1 => exact Kd.C_below HR2_3.out (bI HB.out)); (case side2 => exact HC2_3.out); rintro e w66 ⟨v429, rfl, ho0, hb⟩; refine ⟨_, rfl, ?_⟩; have HO430 := Aside0.mk (Kd.R_lower (Kd.R_new' ho0 (Kd.R_lt (rI (Kd.R_mono (Kd.R_far (p := ⟨gb424, 5, none⟩) (Kd.R_far (p := ⟨gb424, 4, none⟩) (Kd.R_far (p := ⟨gb424, 3, none⟩) (Kd.R_far (p := ⟨gb424, 2, none⟩) (Kd.R_far (p := ⟨gb424, 1, none⟩) (Kd.R_far (p := ⟨gb424, 0, none⟩) (Kd.R_types HO422.out BK424.out (by decide)) (fun _ hk => hk.2) (.int .i64 t416)) (fun _ hk => hk.2) (.int .i64 t417)) (fun _ hk => hk.2) (.int .i64 t418)) (fun _ hk => hk.2) (.string t419)) (fun _ hk => hk.2) (.slice Ao64 t420.length co64)) (fun _ hk => hk.2) (.string t423)) (fun _ h_ => h_.1))))) (below_size (bI HB.out))); replace HO422 := Aside0.mk (Kd.R_elder' (rI (Kd.R_mono (Kd.R_far (p := ⟨gb424, 5, none⟩) (Kd.R_far (p := ⟨gb424, 4, none⟩) (Kd.R_far (p := ⟨gb424, 3, none⟩) (Kd.R_far (p := ⟨gb424, 2, none⟩) (Kd.R_far (p := ⟨gb424, 1, none⟩) (Kd.R_far (p := ⟨gb424, 0, none⟩) (Kd.R_types HO422.out BK424.out (by decide)) (fun _ hk => hk.2) (.int .i64 t416)) (fun _ hk => hk.2) (.int .i64 t417)) (fun _ hk => hk.2) (.int .i64 t418)) (fun _ hk => hk.2) (.string t419)) (fun _ hk => hk.2) (.slice Ao64 t420.length co64)) (fun _ hk => hk.2) (.string t423)) (fun _ h_ => h_.1))) (Kd.R_base ho0) hb); replace BK394 := Aside0.mk (blk_below (g := gb394) (o := .cells #[.int .i64 a0_0, .int .i64 a0_1] 26 (0, 0)) (gI BK394.out) hb); replace BK395 := Aside0.mk (blk_below (g := gb395) (o := .cells #[.int .i64 a1_0, .int .i64 a1_1, .int .i64 a1_2, .string a1_3, .slice A1_4 l1_4.length c1_4, .string a1_5] 53 (0, 0)) (gI BK395.out) hb); replace BK396 := Aside0.mk (blk_below (g := gb396) (o := .cells #[.string a2_0, .int .i64 a2_1, .string a2_2, .slice A2_3 l2_3.length c2_3] 66 (0, 0)) (gI BK396.out) hb); replace BK424 := bp BK424 hb #[.int .i64 t416, .int .i64 t417, .int .i64 t418, .string t419, .slice Ao64 t420.length co64, .string t423]; replace HB := bs HB hb; (try clear hb); (try clear ho0)) | ((with_reducible refine gd 10 ?_); refine bA 10 #[.string (⟨#[]⟩ : ByteArray), .int .i64 0, .string (⟨#[]⟩ : ByteArray), .slice none 0 0] 70 ?_; intro gb431 hg w67 hbox hb; replace HO422 := rb HO422 hb; replace HO430 := rb HO430 hb; have BK431 := Aside0.mk (hbox); have GW431 := bg hg HB; have GJ431 := gi GW431; have GE431 := GW431; replace HB := bs HB hb; have NB394_431 := b1 BK394 hg; have NI394_431 := ni NB394_431; have NB431_394 := b2 BK394 hg; have NI431_394 := ni NB431_394; replace BK394 := bk BK394 hb; have NB395_431 := b1 BK395 hg; have NI395_431 := ni NB395_431; have NB431_395 := b2 BK395 hg; have NI431_395 := ni NB431_395; replace BK395 := bk BK395 hb; have NB396_431 := b1 BK396 hg; have NI396_431 := ni NB396_431; have NB431_396 := b2 BK396 hg; have NI431_396 := ni NB431_396; replace BK396 := bk BK396 hb; have NB424_431 := b1 BK424 hg; have NI424_431 := ni NB424_431; have NB431_424 := b2 BK424 hg; have NI431_424 := ni NB431_424; replace BK424 := bk BK424 hb; clear hb hbox hg; have hnb68 := NB431_394.out; have hnc68 := NB394_431.out; have hnb69 := NB431_395.out; have hnc69 := NB395_431.out; have hnb70 := NB431_396.out; have hnc70 := NB396_431.out; have hnb71 := NB431_424.out; have hnc71 := NB424_431.out; obtain ⟨hcz72_0, hcz72_1, hcz72_2, hcz72_3, hfz72_0, hfz72_1, hfz72_2, hfz72_3⟩ := cs4 BK431; obtain ⟨Ao73, co73, eo73⟩ := Kd.R_slice HO430.out; subst eo73))
        have n0_ : Aside0 (Kd.R (Kd.int .i64) 3 ((((w67.setCell ⟨gb431, 0, none⟩ (.string t425)).setCell ⟨gb431, 1, none⟩ (.int .i64 t426)).setCell ⟨gb431, 2, none⟩ (.string t427)).setCell ⟨gb431, 3, none⟩ (.slice Ao73 t428.length co73)) w.heap.size (fun k_ => some k_ ≠ (.slice Ao73 t428.length co73 : Value).ownBlock) (.slice Ao64 t420.length co64) t420) := ⟨by (with_reducible repeat (first | apply Kd.R_alloc | apply Kd.R_drewN | apply Kd.R_drew)); exact Kd.R_mono (Kd.R_far (p := ⟨gb431, 3, none⟩) (Kd.R_far (p := ⟨gb431, 2, none⟩) (Kd.R_far (p := ⟨gb431, 1, none⟩) (Kd.R_far (p := ⟨gb431, 0, none⟩) (Kd.R_types HO422.out BK431.out (by decide)) (fun _ hk => hk.2) (.string t425)) (fun _ hk => hk.2) (.int .i64 t426)) (fun _ hk => hk.2) (.string t427)) (fun _ hk => hk.2) (.slice Ao73 t428.length co73)) (fun _ hk => hk.1.2)⟩
        have n1_ : Aside0 (Kd.R (Kd.int .i64) 3 ((((w67.setCell ⟨gb431, 0, none⟩ (.string t425)).setCell ⟨gb431, 1, none⟩ (.int .i64 t426)).setCell ⟨gb431, 2, none⟩ (.string t427)).setCell ⟨gb431, 3, none⟩ (.slice Ao73 t428.length co73)) w.heap.size (fun k_ => some k_ ≠ (.slice Ao64 t420.length co64 : Value).ownBlock) (.slice Ao73 t428.length co73) t428) := ⟨by (with_reducible repeat (first | apply Kd.R_alloc | apply Kd.R_drewN | apply Kd.R_drew)); exact Kd.R_mono (Kd.R_far (p := ⟨gb431, 3, none⟩) (Kd.R_far (p := ⟨gb431, 2, none⟩) (Kd.R_far (p := ⟨gb431, 1, none⟩) (Kd.R_far (p := ⟨gb431, 0, none⟩) (Kd.R_types HO430.out BK431.out (by decide)) (fun _ hk => hk.2) (.string t425)) (fun _ hk => hk.2) (.int .i64 t426)) (fun _ hk => hk.2) (.string t427)) (fun _ hk => hk.2) (.slice Ao73 t428.length co73)) (fun _ hk => hk.1.2)⟩
        have n2_ : Aside0 (((((w67.setCell ⟨gb431, 0, none⟩ (.string t425)).setCell ⟨gb431, 1, none⟩ (.int .i64 t426)).setCell ⟨gb431, 2, none⟩ (.string t427)).setCell ⟨gb431, 3, none⟩ (.slice Ao73 t428.length co73)).heap[gb394]? = some (.cells #[.int .i64 a0_0, .int .i64 a0_1] 26 (0, 0))) := ⟨gI BK394.out⟩
        have n3_ : Aside0 (((((w67.setCell ⟨gb431, 0, none⟩ (.string t425)).setCell ⟨gb431, 1, none⟩ (.int .i64 t426)).setCell ⟨gb431, 2, none⟩ (.string t427)).setCell ⟨gb431, 3, none⟩ (.slice Ao73 t428.length co73)).heap[gb395]? = some (.cells #[.int .i64 a1_0, .int .i64 a1_1, .int .i64 a1_2, .string a1_3, .slice A1_4 l1_4.length c1_4, .string a1_5] 53 (0, 0))) := ⟨gI BK395.out⟩
        have n4_ : Aside0 (((((w67.setCell ⟨gb431, 0, none⟩ (.string t425)).setCell ⟨gb431, 1, none⟩ (.int .i64 t426)).setCell ⟨gb431, 2, none⟩ (.string t427)).setCell ⟨gb431, 3, none⟩ (.slice Ao73 t428.length co73)).heap[gb396]? = some (.cells #[.string a2_0, .int .i64 a2_1, .string a2_2, .slice A2_3 l2_3.length c2_3] 66 (0, 0))) := ⟨gI BK396.out⟩
        have n5_ : Aside0 (((((w67.setCell ⟨gb431, 0, none⟩ (.string t425)).setCell ⟨gb431, 1, none⟩ (.int .i64 t426)).setCell ⟨gb431, 2, none⟩ (.string t427)).setCell ⟨gb431, 3, none⟩ (.slice Ao73 t428.length co73)).heap[gb424]? = some (.cells #[.int .i64 t416, .int .i64 t417, .int .i64 t418, .string t419, .slice Ao64 t420.length co64, .string t423] 57 (0, 0))) := ⟨gI BK424.out⟩
        have n6_ : Aside0 (((((w67.setCell ⟨gb431, 0, none⟩ (.string t425)).setCell ⟨gb431, 1, none⟩ (.int .i64 t426)).setCell ⟨gb431, 2, none⟩ (.string t427)).setCell ⟨gb431, 3, none⟩ (.slice Ao73 t428.length co73)).heap[gb431]? = some (.cells #[.string t425, .int .i64 t426, .string t427, .slice Ao73 t428.length co73] 70 (0, 0))) := ⟨pI BK431⟩
        have n7_ : Aside0 (Below w.heap.size w ((((w67.setCell ⟨gb431, 0, none⟩ (.string t425)).setCell ⟨gb431, 1, none⟩ (.int .i64 t426)).setCell ⟨gb431, 2, none⟩ (.string t427)).setCell ⟨gb431, 3, none⟩ (.slice Ao73 t428.length co73))) := ⟨bI HB.out⟩
        (try clear HO422)
        (try clear HO430)
        (try clear BK394)
        (try clear BK395)
        (try clear BK396)
        (try clear BK424)
        (try clear BK431)
        (try clear HB)
        generalize ((((w67.setCell ⟨gb431, 0, none⟩ (.string t425)).setCell ⟨gb431, 1, none⟩ (.int .i64 t426)).setCell ⟨gb431, 2, none⟩ (.string t427)).setCell ⟨gb431, 3, none⟩ (.slice Ao73 t428.length co73)) = w74 at n0_ n1_ n2_ n3_ n4_ n5_ n6_ n7_ ⊢
        have HO422 := n0_
        have HO430 := n1_
        have BK394 := n2_
        have BK395 := n3_
        have BK396 := n4_
        have BK424 := n5_
        have BK431 := n6_
        have HB := n7_
        clear n0_ n1_ n2_ n3_ n4_ n5_ n6_ n7_
        replace HO422 := Aside0.mk (Kd.R_drew HO422.out)
        replace HO430 := Aside0.mk (Kd.R_drew HO430.out)
        replace BK394 := Aside0.mk (blk_drew BK394.out)
        replace BK395 := Aside0.mk (blk_drew BK395.out)
        replace BK396 := Aside0.mk (blk_drew BK396.out)
        replace BK424 := Aside0.mk (blk_drew BK424.out)
        replace BK431 := Aside0.mk (blk_drew BK431.out)
        replace HB := Aside0.mk (below_drew1 HB.out)
        refine start_ (n := 6) (S := fun w' => w'.cell? ⟨gb394, 0, none⟩ = some (.int .i64 a0_0) ∧ w'.cell? ⟨gb394, 1, none⟩ = some (.int .i64 a0_1) ∧ w'.cell? ⟨gb424, 0, none⟩ = some (.int .i64 t416) ∧ w'.cell? ⟨gb424, 1, none⟩ = some (.int .i64 t417) ∧ w'.cell? ⟨gb424, 2, none⟩ = some (.int .i64 t418) ∧ w'.cell? ⟨gb424, 3, none⟩ = some (.string t419) ∧ w'.cell? ⟨gb424, 4, none⟩ = some (.slice Ao64 t420.length co64) ∧ w'.cell? ⟨gb424, 5, none⟩ = some (.string t423) ∧ w'.cell? ⟨gb431, 0, none⟩ = some (.string t425) ∧ w'.cell? ⟨gb431, 1, none⟩ = some (.int .i64 t426) ∧ w'.cell? ⟨gb431, 2, none⟩ = some (.string t427) ∧ w'.cell? ⟨gb431, 3, none⟩ = some (.slice Ao73 t428.length co73)) (ds := []) #[false, false, false, false, false, false] (by kernel_rfl) rfl rfl ⟨bc0 BK394.out, bc1 BK394.out, bc0 BK424.out, bc1 BK424.out, bc2 BK424.out, bc3 BK424.out, bc4 BK424.out, bc5 BK424.out, bc0 BK431.out, bc1 BK431.out, bc2 BK431.out, bc3 BK431.out⟩ (fun hHeld => ?_)
        generalize w74.drew = w75 at HO422 HO430 BK394 BK395 BK396 BK424 BK431 HB hHeld ⊢
        refine take_ (i := 0) (N := some 33) (v := ?_) (a' := ?_) #[true, false, false, false, false, false] rfl rfl (by kernel_rfl) (fun _ _ _ h => h) (Or.inl ⟨by rfl, ?_⟩) hHeld ?_ ?_
        rotate_left
        · rintro w' ⟨s0, s1, s2, s3, s4, s5, s6, s7, s8, s9, s10, s11⟩
          go_simp
          with_reducible rfl
        rotate_left
        · simp only [Act.put, List.setIfInBounds_toArray, List.set_cons_zero, List.set_cons_succ, i64_w, i32_w]
          rfl
        refine take_ (i := 2) (N := some 35) (v := ?_) (a' := ?_) #[true, false, true, false, false, false] rfl rfl (by kernel_rfl) (fun _ _ _ h => h) (Or.inl ⟨by rfl, ?_⟩) hHeld ?_ ?_
        rotate_left
        · rintro w' ⟨s0, s1, s2, s3, s4, s5, s6, s7, s8, s9, s10, s11⟩
          go_simp
          with_reducible rfl
        rotate_left
        · simp only [Act.put, List.setIfInBounds_toArray, List.set_cons_zero, List.set_cons_succ, i64_w, i32_w]
          rfl
        refine take_ (i := 3) (N := some 36) (v := ?_) (a' := ?_) #[true, false, true, true, false, false] rfl rfl (by kernel_rfl) (fun _ _ _ h => h) (Or.inl ⟨by rfl, ?_⟩) hHeld ?_ ?_
        rotate_left
        · rintro w' ⟨s0, s1, s2, s3, s4, s5, s6, s7, s8, s9, s10, s11⟩
          go_simp
          with_reducible rfl
        rotate_left
        · simp only [Act.put, List.setIfInBounds_toArray, List.set_cons_zero, List.set_cons_succ, i64_w, i32_w]
          rfl
        refine one_ (i := 1) (N := some 34) #[true, true, true, true, false, false] rfl rfl (by kernel_rfl) (by decide) (fun K hK => ?_)
        refine gA Tryd.func19 #[.agg #[.int .i64 a0_0, .int .i64 a0_1]] ?_
        with_reducible refine (laws_toConf.calls a0_0 a0_1 t432 t433 _ A31.out).mono ?_
        rintro e w76 ⟨rfl, hb⟩
        refine ⟨_, rfl, ?_⟩
        replace HO422 := rb HO422 hb
        replace HO430 := rb HO430 hb
        replace BK394 := bk BK394 hb
        replace BK395 := bk BK395 hb
        replace BK396 := bk BK396 hb
        replace BK424 := bk BK424 hb
        replace BK431 := bk BK431 hb
        replace HB := bs HB hb
        (try clear hb)
        (try clear hb2)
        (try clear hk)
        (try clear hi)
        refine hK.out _ _ ⟨bc0 BK394.out, bc1 BK394.out, bc0 BK424.out, bc1 BK424.out, bc2 BK424.out, bc3 BK424.out, bc4 BK424.out, bc5 BK424.out, bc0 BK431.out, bc1 BK431.out, bc2 BK431.out, bc3 BK431.out⟩ (fun hHeld => ?_)
        clear hK K
        refine nA (some 34) ?_
        refine one_ (i := 4) (N := some 37) #[true, true, true, true, true, false] rfl rfl (by kernel_rfl) (by decide) (fun K hK => ?_)
        refine gA Tryd.func54 #[.agg #[.int .i64 t432, .int .i64 t433], .agg #[.int .i64 t416, .int .i64 t417, .int .i64 t418, .string t419, .slice Ao64 t420.length co64, .string t423], .agg #[.string t425, .int .i64 t426, .string t427, .slice Ao73 t428.length co73]] ?_
        with_reducible refine (impl_MayVote.calls k t432 t433 t416 t417 t418 t419 _ _ t420 t423 t425 t426 t427 _ _ t428 t434 _ ?side1 ?side2 ?side3 ?side4 A32.out).mono ?_
        (case side1 => repeat (first | exact (Kd.R_reads' HO422.out).2.2 | (with_reducible refine Kd.C_alloc ?_ _) | (with_reducible refine Kd.C_drewN ?_ _) | (with_reducible refine Kd.C_drew ?_)))
        (case side2 => exact (Kd.R_reads' HO422.out).2.1)
        (case side3 => repeat (first | exact (Kd.R_reads' HO430.out).2.2 | (with_reducible refine Kd.C_alloc ?_ _) | (with_reducible refine Kd.C_drewN ?_ _) | (with_reducible refine Kd.C_drew ?_)))
        (case side4 => exact (Kd.R_reads' HO430.out).2.1)
        rintro e w77 ⟨rfl, hb⟩
        refine ⟨_, rfl, ?_⟩
        replace HO422 := rb HO422 hb
        replace HO430 := rb HO430 hb
        replace BK394 := bk BK394 hb
        replace BK395 := bk BK395 hb
        replace BK396 := bk BK396 hb
        replace BK424 := bk BK424 hb
        replace BK431 := bk BK431 hb
        replace HB := bs HB hb
        (try clear hb)
        (try clear hb2)
        (try clear hk)
        (try clear hi)
        refine hK.out _ _ ⟨bc0 BK394.out, bc1 BK394.out, bc0 BK424.out, bc1 BK424.out, bc2 BK424.out, bc3 BK424.out, bc4 BK424.out, bc5 BK424.out, bc0 BK431.out, bc1 BK431.out, bc2 BK431.out, bc3 BK431.out⟩ (fun hHeld => ?_)
        clear hK K
        refine nA (some 37) ?_
        refine pure_ (i := 5) (N := some 11) (v := ?_) (a' := ?_) #[true, true, true, true, true, true] rfl rfl (by kernel_rfl) (fun _ _ _ h => h) (Or.inl ⟨by rfl, ?_⟩) ?_ ?_
        rotate_left
        · intro w'
          go_simp
          with_reducible rfl
        rotate_left
        · simp only [Act.put, List.setIfInBounds_toArray, List.set_cons_zero, List.set_cons_succ, i64_w, i32_w]
          rfl
        refine done_ (by kernel_rfl) ?_
        try go_wp2
        replace HO422 := Aside0.mk (Kd.R_drew HO422.out)
        replace HO430 := Aside0.mk (Kd.R_drew HO430.out)
        replace BK394 := Aside0.mk (blk_drew BK394.out)
        replace BK395 := Aside0.mk (blk_drew BK395.out)
        replace BK396 := Aside0.mk (blk_drew BK396.out)
        replace BK424 := Aside0.mk (blk_drew BK424.out)
        replace BK431 := Aside0.mk (blk_drew BK431.out)
        replace HB := Aside0.mk (below_drew1 HB.out)
        refine start_ (n := 5) (S := fun w' => w'.cell? ⟨gb424, 0, none⟩ = some (.int .i64 t416) ∧ w'.cell? ⟨gb424, 1, none⟩ = some (.int .i64 t417) ∧ w'.cell? ⟨gb424, 2, none⟩ = some (.int .i64 t418) ∧ w'.cell? ⟨gb424, 3, none⟩ = some (.string t419) ∧ w'.cell? ⟨gb424, 4, none⟩ = some (.slice Ao64 t420.length co64) ∧ w'.cell? ⟨gb424, 5, none⟩ = some (.string t423) ∧ w'.cell? ⟨gb395, 0, none⟩ = some (.int .i64 a1_0) ∧ w'.cell? ⟨gb395, 1, none⟩ = some (.int .i64 a1_1) ∧ w'.cell? ⟨gb395, 2, none⟩ = some (.int .i64 a1_2) ∧ w'.cell? ⟨gb395, 3, none⟩ = some (.string a1_3) ∧ w'.cell? ⟨gb395, 4, none⟩ = some (.slice A1_4 l1_4.length c1_4) ∧ w'.cell? ⟨gb395, 5, none⟩ = some (.string a1_5)) (ds := []) #[false, false, false, false, false] (by kernel_rfl) rfl rfl ⟨bc0 BK424.out, bc1 BK424.out, bc2 BK424.out, bc3 BK424.out, bc4 BK424.out, bc5 BK424.out, bc0 BK395.out, bc1 BK395.out, bc2 BK395.out, bc3 BK395.out, bc4 BK395.out, bc5 BK395.out⟩ (fun hHeld => ?_)
        generalize w77.drew = w78 at HO422 HO430 BK394 BK395 BK396 BK424 BK431 HB hHeld ⊢
        refine take_ (i := 0) (N := some 41) (v := ?_) (a' := ?_) #[true, false, false, false, false] rfl rfl (by kernel_rfl) (fun _ _ _ h => h) (Or.inl ⟨by rfl, ?_⟩) hHeld ?_ ?_
        rotate_left
        · rintro w' ⟨s0, s1, s2, s3, s4, s5, s6, s7, s8, s9, s10, s11⟩
          go_simp
          with_reducible rfl
        rotate_left
        · simp only [Act.put, List.setIfInBounds_toArray, List.set_cons_zero, List.set_cons_succ, i64_w, i32_w]
          rfl
        refine take_ (i := 1) (N := some 42) (v := ?_) (a' := ?_) #[true, true, false, false, false] rfl rfl (by kernel_rfl) (fun _ _ _ h => h) (Or.inl ⟨by rfl, ?_⟩) hHeld ?_ ?_
        rotate_left
        · rintro w' ⟨s0, s1, s2, s3, s4, s5, s6, s7, s8, s9, s10, s11⟩
          go_simp
          with_reducible rfl
        rotate_left
        · simp only [Act.put, List.setIfInBounds_toArray, List.set_cons_zero, List.set_cons_succ, i64_w, i32_w]
          rfl
        refine one_ (i := 2) (N := some 43) #[true, true, true, false, false] rfl rfl (by kernel_rfl) (by decide) (fun K hK => ?_)
        refine gA Tryd.func35 #[.agg #[.int .i64 a1_0, .int .i64 a1_1, .int .i64 a1_2, .string a1_3, .slice A1_4 l1_4.length c1_4, .string a1_5]] ?_
        with_reducible refine (laws_toSafe.calls k a1_0 a1_1 a1_2 a1_3 _ _ l1_4 a1_5 t435 t436 t437 t438 t439 t442 _ ?side1 ?side2 A34.out).mono ?_
        (case side1 => exact ch HR1_4 HB)
        (case side2 => exact HC1_4.out)
        rintro e w79 ⟨v440, rfl, ho0, hb⟩
        refine ⟨_, rfl, ?_⟩
        have HO441 := Aside0.mk (Kd.R_lower (Kd.R_new' (Kd.R_new' ho0 (Kd.R_lt (rI HO422.out))) (Kd.R_lt (rI HO430.out))) (below_size (bI HB.out)))
        replace HO422 := Aside0.mk (Kd.R_elder' (rI HO422.out) (Kd.R_base ho0) hb)
        replace HO430 := Aside0.mk (Kd.R_elder' (rI HO430.out) (Kd.R_base ho0) hb)
        replace BK394 := bk BK394 hb
        replace BK395 := bk BK395 hb
        replace BK396 := bk BK396 hb
        replace BK424 := bk BK424 hb
        replace BK431 := bk BK431 hb
        replace HB := bs HB hb
        (try clear hb)
        (try clear hb2)
        (try clear hk)
        (try clear hi)
        (try clear ho0)
        obtain ⟨Ao80, co80, eo80⟩ := Kd.R_slice HO441.out
        (first | subst eo80 | (injection eo80 with f1_ f2_ f3_; have f4_ := f1_.symm; have f5_ := f3_.symm; clear f1_ f2_ f3_; subst f4_; subst f5_))
        refine hK.out _ _ ⟨bc0 BK424.out, bc1 BK424.out, bc2 BK424.out, bc3 BK424.out, bc4 BK424.out, bc5 BK424.out, bc0 BK395.out, bc1 BK395.out, bc2 BK395.out, bc3 BK395.out, bc4 BK395.out, bc5 BK395.out⟩ (fun hHeld => ?_)
        clear hK K
        refine nA (some 43) ?_
        refine one_ (i := 3) (N := some 44) #[true, true, true, true, false] rfl rfl (by kernel_rfl) (by decide) (fun K hK => ?_)
        refine gA Tryd.func37 #[.agg #[.int .i64 t416, .int .i64 t417, .int .i64 t418, .string t419, .slice Ao64 t420.length co64, .string t423], .agg #[.int .i64 t435, .int .i64 t436, .int .i64 t437, .string t438, .slice Ao80 t439.length co80, .string t442]] ?_
        with_reducible refine (laws_eqSafe.calls k t416 t417 t418 t419 _ _ t420 t423 t435 t436 t437 t438 _ _ t439 t442 true _ ?side1 ?side2 ?side3 ?side4 A35.out).mono ?_
        (case side1 => repeat (first | exact (Kd.R_reads' HO422.out).2.2 | (with_reducible refine Kd.C_alloc ?_ _) | (with_reducible refine Kd.C_drewN ?_ _) | (with_reducible refine Kd.C_drew ?_)))
        (case side2 => exact (Kd.R_reads' HO422.out).2.1)
        (case side3 => repeat (first | exact (Kd.R_reads' HO441.out).2.2 | (with_reducible refine Kd.C_alloc ?_ _) | (with_reducible refine Kd.C_drewN ?_ _) | (with_reducible refine Kd.C_drew ?_)))
        (case side4 => exact (Kd.R_reads' HO441.out).2.1)
        rintro e w81 ⟨rfl, hb⟩
        refine ⟨_, rfl, ?_⟩
        replace HO422 := rb HO422 hb
        replace HO430 := rb HO430 hb
        replace HO441 := rb HO441 hb
        replace BK394 := bk BK394 hb
        replace BK395 := bk BK395 hb
        replace BK396 := bk BK396 hb
        replace BK424 := bk BK424 hb
        replace BK431 := bk BK431 hb
        replace HB := bs HB hb
        (try clear hb)
        (try clear hb2)
        (try clear hk)
        (try clear hi)
        refine hK.out _ _ ⟨bc0 BK424.out, bc1 BK424.out, bc2 BK424.out, bc3 BK424.out, bc4 BK424.out, bc5 BK424.out, bc0 BK395.out, bc1 BK395.out, bc2 BK395.out, bc3 BK395.out, bc4 BK395.out, bc5 BK395.out⟩ (fun hHeld => ?_)
        clear hK K
        refine nA (some 44) ?_
        refine pure_ (i := 4) (N := some 45) (v := ?_) (a' := ?_) #[true, true, true, true, true] rfl rfl (by kernel_rfl) (fun _ _ _ h => h) (Or.inl ⟨by rfl, ?_⟩) ?_ ?_
        rotate_left
        · intro w'
          go_simp
          with_reducible rfl
        rotate_left
        · simp only [Act.put, List.setIfInBounds_toArray, List.set_cons_zero, List.set_cons_succ, i64_w, i32_w]
          rfl
        refine done_ (by kernel_rfl) ?_
        clear HO422
        clear HO441
        have n_ := Aside0.mk (Kd.R_mono (ok' := (fun _ => True)) HO430.out (fun k_ hk => trivial))
        clear HO430
        have HO430 := n_
        clear n_
        try go_wp2
        replace HO430 := Aside0.mk (Kd.R_drew HO430.out)
        replace BK394 := Aside0.mk (blk_drew BK394.out)
        replace BK395 := Aside0.mk (blk_drew BK395.out)
        replace BK396 := Aside0.mk (blk_drew BK396.out)
        replace BK424 := Aside0.mk (blk_drew BK424.out)
        replace BK431 := Aside0.mk (blk_drew BK431.out)
        replace HB := Aside0.mk (below_drew1 HB.out)
        refine start_ (n := 5) (S := fun w' => w'.cell? ⟨gb431, 0, none⟩ = some (.string t425) ∧ w'.cell? ⟨gb431, 1, none⟩ = some (.int .i64 t426) ∧ w'.cell? ⟨gb431, 2, none⟩ = some (.string t427) ∧ w'.cell? ⟨gb431, 3, none⟩ = some (.slice Ao73 t428.length co73) ∧ w'.cell? ⟨gb396, 0, none⟩ = some (.string a2_0) ∧ w'.cell? ⟨gb396, 1, none⟩ = some (.int .i64 a2_1) ∧ w'.cell? ⟨gb396, 2, none⟩ = some (.string a2_2) ∧ w'.cell? ⟨gb396, 3, none⟩ = some (.slice A2_3 l2_3.length c2_3)) (ds := []) #[false, false, false, false, false] (by kernel_rfl) rfl rfl ⟨bc0 BK431.out, bc1 BK431.out, bc2 BK431.out, bc3 BK431.out, bc0 BK396.out, bc1 BK396.out, bc2 BK396.out, bc3 BK396.out⟩ (fun hHeld => ?_)
        generalize w81.drew = w82 at HO430 BK394 BK395 BK396 BK424 BK431 HB hHeld ⊢
        refine take_ (i := 0) (N := some 46) (v := ?_) (a' := ?_) #[true, false, false, false, false] rfl rfl (by kernel_rfl) (fun _ _ _ h => h) (Or.inl ⟨by rfl, ?_⟩) hHeld ?_ ?_
        rotate_left
        · rintro w' ⟨s0, s1, s2, s3, s4, s5, s6, s7⟩
          go_simp
          with_reducible rfl
        rotate_left
        · simp only [Act.put, List.setIfInBounds_toArray, List.set_cons_zero, List.set_cons_succ, i64_w, i32_w]
          rfl
        refine take_ (i := 1) (N := some 47) (v := ?_) (a' := ?_) #[true, true, false, false, false] rfl rfl (by kernel_rfl) (fun _ _ _ h => h) (Or.inl ⟨by rfl, ?_⟩) hHeld ?_ ?_
        rotate_left
        · rintro w' ⟨s0, s1, s2, s3, s4, s5, s6, s7⟩
          go_simp
          with_reducible rfl
        rotate_left
        · simp only [Act.put, List.setIfInBounds_toArray, List.set_cons_zero, List.set_cons_succ, i64_w, i32_w]
          rfl
        refine one_ (i := 2) (N := some 48) #[true, true, true, false, false] rfl rfl (by kernel_rfl) (by decide) (fun K hK => ?_)
        refine gA Tryd.func45 #[.agg #[.string a2_0, .int .i64 a2_1, .string a2_2, .slice A2_3 l2_3.length c2_3]] ?_
        with_reducible refine (laws_toBlock.calls k a2_0 a2_1 a2_2 _ _ l2_3 t444 t445 t446 t447 _ ?side1 ?side2 A37.out).mono ?_
        (case side1 => exact ch HR2_3 HB)
        (case side2 => exact HC2_3.out)
        rintro e w83 ⟨v448, rfl, ho0, hb⟩
        refine ⟨_, rfl, ?_⟩
        have HO449 := Aside0.mk (Kd.R_lower (Kd.R_new' ho0 (Kd.R_lt (rI HO430.out))) (below_size (bI HB.out)))
        replace HO430 := Aside0.mk (Kd.R_elder' (rI HO430.out) (Kd.R_base ho0) hb)
        replace BK394 := bk BK394 hb
        replace BK395 := bk BK395 hb
        replace BK396 := bk BK396 hb
        replace BK424 := bk BK424 hb
        replace BK431 := bk BK431 hb
        replace HB := bs HB hb
        (try clear hb)
        (try clear hb2)
        (try clear hk)
        (try clear hi)
        (try clear ho0)
        obtain ⟨Ao84, co84, eo84⟩ := Kd.R_slice HO449.out
        (first | subst eo84 | (injection eo84 with f1_ f2_ f3_; have f4_ := f1_.symm; have f5_ := f3_.symm; clear f1_ f2_ f3_; subst f4_; subst f5_))
        refine hK.out _ _ ⟨bc0 BK431.out, bc1 BK431.out, bc2 BK431.out, bc3 BK431.out, bc0 BK396.out, bc1 BK396.out, bc2 BK396.out, bc3 BK396.out⟩ (fun hHeld => ?_)
        clear hK K
        refine nA (some 48) ?_
        refine one_ (i := 3) (N := some 49) #[true, true, true, true, false] rfl rfl (by kernel_rfl) (by decide) (fun K hK => ?_)
        refine gA Tryd.func47 #[.agg #[.string t425, .int .i64 t426, .string t427, .slice Ao73 t428.length co73], .agg #[.string t444, .int .i64 t445, .string t446, .slice Ao84 t447.length co84]] ?_
        with_reducible refine (laws_eqBlock.calls k t425 t426 t427 _ _ t428 t444 t445 t446 _ _ t447 true _ ?side1 ?side2 ?side3 ?side4 A38.out).mono ?_
        (case side1 => repeat (first | exact (Kd.R_reads' HO430.out).2.2 | (with_reducible refine Kd.C_alloc ?_ _) | (with_reducible refine Kd.C_drewN ?_ _) | (with_reducible refine Kd.C_drew ?_)))
        (case side2 => exact (Kd.R_reads' HO430.out).2.1)
        (case side3 => repeat (first | exact (Kd.R_reads' HO449.out).2.2 | (with_reducible refine Kd.C_alloc ?_ _) | (with_reducible refine Kd.C_drewN ?_ _) | (with_reducible refine Kd.C_drew ?_)))
        (case side4 => exact (Kd.R_reads' HO449.out).2.1)
        rintro e w85 ⟨rfl, hb⟩
        refine ⟨_, rfl, ?_⟩
        replace HO430 := rb HO430 hb
        replace HO449 := rb HO449 hb
        replace BK394 := bk BK394 hb
        replace BK395 := bk BK395 hb
        replace BK396 := bk BK396 hb
        replace BK424 := bk BK424 hb
        replace BK431 := bk BK431 hb
        replace HB := bs HB hb
        (try clear hb)
        (try clear hb2)
        (try clear hk)
        (try clear hi)
        refine hK.out _ _ ⟨bc0 BK431.out, bc1 BK431.out, bc2 BK431.out, bc3 BK431.out, bc0 BK396.out, bc1 BK396.out, bc2 BK396.out, bc3 BK396.out⟩ (fun hHeld => ?_)
        clear hK K
        refine nA (some 49) ?_
        refine pure_ (i := 4) (N := some 50) (v := ?_) (a' := ?_) #[true, true, true, true, true] rfl rfl (by kernel_rfl) (fun _ _ _ h => h) (Or.inl ⟨by rfl, ?_⟩) ?_ ?_
        rotate_left
        · intro w'
          go_simp
          with_reducible rfl
        rotate_left
        · simp only [Act.put, List.setIfInBounds_toArray, List.set_cons_zero, List.set_cons_succ, i64_w, i32_w]
          rfl
        refine done_ (by kernel_rfl) ?_
        try go_wp2
        go_ret
        exact ⟨y0_4, bI HB.out⟩
      · replace c36 := Bool.eq_false_iff.mpr c36
        subst c36
        rw [if_neg (show ¬ (false = true) by decide)] at H
        exact absurd (hrt.out.symm.trans (Option.some.inj H).symm) (by decide)

end Go.Proofs.YtcmldmlmhpfjhaaDoor.PFnExactMayVote
