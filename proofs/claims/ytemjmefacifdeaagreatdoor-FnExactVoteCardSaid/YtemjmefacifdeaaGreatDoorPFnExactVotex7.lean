-- By a program of this session, out of the translation (the print of the kit, with turns of its own). Lean checks it.
import Derived.Test.YtemjmefacifdeaaGreatDoorPFnExactVotex0
import Derived.Test.YtemjmefacifdeaaGreatDoorPFnExactVotex3
import Derived.Test.YtemjmefacifdeaaGreatDoorPFnExactVotex5
import Derived.Test.YtemjmefacifdeaaGreatDoorPFnExactVotex6
namespace Go.Proofs.YtemjmefacifdeaaGreatDoor.PFnExactVote
open Go.RowKit Go.Proofs.YtemjmefacifdeaaGreatDoorW.PrintWords Go.Proofs.YtemjmefacifdeaaGreatDoorW.PrintLast Go.Proofs.YtemjmefacifdeaaGreatDoorW.PrintMore
attribute [local go_sem] max2_int min2_int max_two min_two max_three min_three max_four min_four   -- for this text's walks alone
set_option linter.unusedVariables false
set_option linter.unusedSimpArgs false

/-! ### spec_MayVote: function 43 -/
def spec_MayVote.f (k : Nat) (a0_0 : Int) (a0_1 : Int) (a1_0 : Int) (a1_1 : Int) (a1_2 : Int) (a1_3 : ByteArray) (l1_4 : List Int) (a1_5 : ByteArray) (a2_0 : ByteArray) (a2_1 : Int) (a2_2 : ByteArray) (l2_3 : List Int) : Option (Bool) := (spec_SafeOk.f k a0_0 a0_1 a1_0 a1_1 a1_2 a1_3 l1_4 a1_5).bind fun t238 => (if t238 = true then ((spec_BlockOk.f k a0_0 a0_1 a2_0 a2_1 a2_2 l2_3).bind fun t239 => (if t239 = true then ((spec_ViewOf.f k a2_0).bind fun t240 => (if t240 > a1_0 then (some (decide (a2_1 ≥ a1_1))) else (some false))) else (some false))) else (some false))
theorem spec_MayVote.mono : ∀ a0 a1 a2 a3 a4 a5 a6 a7 a8 a9 a10 a11 k, LeO (spec_MayVote.f k a0 a1 a2 a3 a4 a5 a6 a7 a8 a9 a10 a11) (spec_MayVote.f (k + 1) a0 a1 a2 a3 a4 a5 a6 a7 a8 a9 a10 a11) := by
 intro a0 a1 a2 a3 a4 a5 a6 a7 a8 a9 a10 a11 k
 unfold spec_MayVote.f
 repeat' first | (with_reducible exact spec_BlockOk.mono _ _ _ _ _ _ _) | (with_reducible exact spec_SafeOk.mono _ _ _ _ _ _ _ _ _) | (with_reducible exact spec_ViewOf.mono _ _) | (with_reducible exact LeO.refl _) | (with_reducible exact LeO.none _) | (with_reducible refine LeO.ite ?_ ?_) | (with_reducible refine LeO.bind ?_ (fun _ => ?_))
def spec_MayVote.T1 : Bool × List (List Nat × List Nat) := (true, [([], []), ([], []), ([0, 1], [0, 1]), ([2, 2], [2]), ([3], [3]), ([3], [3]), ([4, 5, 3, 3], [3, 4, 5]), ([3, 6], [3, 6]), ([7, 6], [7]), ([8], [8]), ([9, 8], [8, 9]), ([10, 8, 8], [8, 10]), ([8], [8]), ([12, 8], [8, 12]), ([11, 13, 8], [8, 11, 13]), ([8, 14], [8, 14]), ([15, 11], [15]), ([16], [16]), ([17, 16], [16, 17]), ([18, 16], [16, 18]), ([16], [16]), ([20, 16], [16, 20]), ([19, 21, 16], [16, 19, 21]), ([16, 22], [16, 22]), ([23, 16, 0, 1, 2, 3, 4, 5, 6, 7, 8, 9, 10, 11, 12, 13, 14, 15, 16, 17, 18, 19, 20, 21, 22, 23], [23])])
def spec_MayVote.B1 : List Nat := [0, 0, 3, 7, 15, 15, 63, 127, 255, 511, 1023, 2047, 511, 4607, 16383, 32767, 65535, 131071, 262143, 524287, 131071, 1179647, 4194303, 8388607, 16777215]
theorem spec_MayVote.tab1 : rtab .any (opsOf Tryz.f43 1) = spec_MayVote.T1 := by kernel_rfl
theorem spec_MayVote.bits1 : waitsOk spec_MayVote.T1.2 spec_MayVote.B1 = true := by kernel_rfl
set_option maxHeartbeats 8000000 in
set_option maxRecDepth 100000 in
theorem spec_MayVote.calls (k : Nat) (a0_0 : Int) (a0_1 : Int) (a1_0 : Int) (a1_1 : Int) (a1_2 : Int) (a1_3 : ByteArray) (A1_4 : Option Addr) (c1_4 : Nat) (l1_4 : List Int) (a1_5 : ByteArray) (a2_0 : ByteArray) (a2_1 : Int) (a2_2 : ByteArray) (A2_3 : Option Addr) (c2_3 : Nat) (l2_3 : List Int) (r : Bool) (w : World) (hr1_4 : Kd.C (Kd.int .i64) w A1_4 l1_4.length l1_4) (hc1_4 : l1_4.length ≤ c1_4) (hr2_3 : Kd.C (Kd.int .i64) w A2_3 l2_3.length l2_3) (hc2_3 : l2_3.length ≤ c2_3) (h : spec_MayVote.f k a0_0 a0_1 a1_0 a1_1 a1_2 a1_3 l1_4 a1_5 a2_0 a2_1 a2_2 l2_3 = some r) :
  Calls Tryz.prog 43 #[.agg #[.int .i64 a0_0, .int .i64 a0_1], .agg #[.int .i64 a1_0, .int .i64 a1_1, .int .i64 a1_2, .string a1_3, .slice A1_4 l1_4.length c1_4, .string a1_5], .agg #[.string a2_0, .int .i64 a2_1, .string a2_2, .slice A2_3 l2_3.length c2_3]] w fun e w' => e = .returned (.bool r) ∧ Below w.heap.size w w' := by
 have hu38 := Tryz.underlying38; have hu35 := Tryz.underlying35; have hu42 := Tryz.underlying42; have HR1_4 := Aside0.mk hr1_4; have HC1_4 := Aside0.mk hc1_4; clear hr1_4 hc1_4; have HR2_3 := Aside0.mk hr2_3; have HC2_3 := Aside0.mk hc2_3; clear hr2_3 hc2_3; have HB := Aside0.mk (Below.refl w.heap.size w)
 have H : ((spec_SafeOk.f k a0_0 a0_1 a1_0 a1_1 a1_2 a1_3 l1_4 a1_5).bind fun t238 => (if t238 = true then ((spec_BlockOk.f k a0_0 a0_1 a2_0 a2_1 a2_2 l2_3).bind fun t239 => (if t239 = true then ((spec_ViewOf.f k a2_0).bind fun t240 => (if t240 > a1_0 then (some (decide (a2_1 ≥ a1_1))) else (some false))) else (some false))) else (some false))) = some r := h
 clear h; obtain ⟨t238, A40, H⟩ := Option.bind_eq_some_iff.mp H
 try dsimp only at H
 have A4 := Aside0.mk A40; clear A40
 by_cases c5 : t238 = true
 ·
  subst c5
  rw [if_pos rfl] at H
  obtain ⟨t239, A60, H⟩ := Option.bind_eq_some_iff.mp H
  try dsimp only at H
  have A6 := Aside0.mk A60; clear A60
  by_cases c7 : t239 = true
  ·
   subst c7
   rw [if_pos rfl] at H
   obtain ⟨t240, A80, H⟩ := Option.bind_eq_some_iff.mp H
   try dsimp only at H
   have A8 := Aside0.mk A80; clear A80
   by_cases c9 : t240 > a1_0
   ·
    rw [if_pos c9] at H
    have c9b0 : decide (a1_0 < t240) = true := decide_eq_true c9; clear c9; obtain rfl := Option.some.inj H
    go_enter Tryz.func43, Tryz.ntmps43
    try go_wp2_with (first | ((with_reducible refine gd 3 ?_); refine bA 3 #[.int .i64 a0_0, .int .i64 a0_1] 38 ?_; intro gb235 hg w10 hbox hb; have BK235 := Aside0.mk (hbox); have GW235 := bg hg HB; have GJ235 := gi GW235; have GE235 := GW235; replace HB := bs HB hb; clear hb hbox hg) | ((with_reducible refine gd 4 ?_); refine bA 4 #[.int .i64 a1_0, .int .i64 a1_1, .int .i64 a1_2, .string a1_3, .slice A1_4 l1_4.length c1_4, .string a1_5] 35 ?_; intro gb236 hg w11 hbox hb; have BK236 := Aside0.mk (hbox); have GW236 := bg hg HB; have GJ236 := gi GW236; have GE236 := GW236; replace HB := bs HB hb; have NB235_236 := b1 BK235 hg; have NI235_236 := ni NB235_236; have NB236_235 := b2 BK235 hg; have NI236_235 := ni NB236_235; replace BK235 := bk BK235 hb; clear hb hbox hg) | ((with_reducible refine gd 5 ?_); refine bA 5 #[.string a2_0, .int .i64 a2_1, .string a2_2, .slice A2_3 l2_3.length c2_3] 42 ?_; intro gb237 hg w12 hbox hb; have BK237 := Aside0.mk (hbox); have GW237 := bg hg HB; have GJ237 := gi GW237; have GE237 := GW237; replace HB := bs HB hb; have NB235_237 := b1 BK235 hg; have NI235_237 := ni NB235_237; have NB237_235 := b2 BK235 hg; have NI237_235 := ni NB237_235; replace BK235 := bk BK235 hb; have NB236_237 := b1 BK236 hg; have NI236_237 := ni NB236_237; have NB237_236 := b2 BK236 hg; have NI237_236 := ni NB237_236; replace BK236 := bk BK236 hb; clear hb hbox hg))
    replace BK235 := Aside0.mk (blk_drew BK235.out); replace BK236 := Aside0.mk (blk_drew BK236.out); replace BK237 := Aside0.mk (blk_drew BK237.out); replace HB := Aside0.mk (below_drew1 HB.out)
    refine start_ (n := 25) (S := fun w' => w'.cell? ⟨gb235, 0, none⟩ = some (.int .i64 a0_0) ∧ w'.cell? ⟨gb235, 1, none⟩ = some (.int .i64 a0_1) ∧ w'.cell? ⟨gb236, 0, none⟩ = some (.int .i64 a1_0) ∧ w'.cell? ⟨gb236, 1, none⟩ = some (.int .i64 a1_1) ∧ w'.cell? ⟨gb236, 2, none⟩ = some (.int .i64 a1_2) ∧ w'.cell? ⟨gb236, 3, none⟩ = some (.string a1_3) ∧ w'.cell? ⟨gb236, 4, none⟩ = some (.slice A1_4 l1_4.length c1_4) ∧ w'.cell? ⟨gb236, 5, none⟩ = some (.string a1_5) ∧ w'.cell? ⟨gb237, 0, none⟩ = some (.string a2_0) ∧ w'.cell? ⟨gb237, 1, none⟩ = some (.int .i64 a2_1) ∧ w'.cell? ⟨gb237, 2, none⟩ = some (.string a2_2) ∧ w'.cell? ⟨gb237, 3, none⟩ = some (.slice A2_3 l2_3.length c2_3)) (ds := []) #[false, false, false, false, false, false, false, false, false, false, false, false, false, false, false, false, false, false, false, false, false, false, false, false, false] (by kernel_rfl) rfl rfl ⟨bc0 BK235.out, bc1 BK235.out, bc0 BK236.out, bc1 BK236.out, bc2 BK236.out, bc3 BK236.out, bc4 BK236.out, bc5 BK236.out, bc0 BK237.out, bc1 BK237.out, bc2 BK237.out, bc3 BK237.out⟩ (fun hHeld => ?_); refine with_tabW spec_MayVote.tab1 spec_MayVote.bits1 (fun HT_ HW_ => ?_)
    generalize w12.drew = w13 at BK235 BK236 BK237 HB hHeld ⊢
    refine tA 0 (some 7) (bz 25 1) HT_ HW_ hHeld ?_
    refine tA 1 (some 8) (bz 25 3) HT_ HW_ hHeld ?_
    refine oA 2 (some 9) (bz 25 7) HT_ (fun K hK => ?_)
    refine gA Tryz.func66 #[.agg #[.int .i64 a0_0, .int .i64 a0_1], .agg #[.int .i64 a1_0, .int .i64 a1_1, .int .i64 a1_2, .string a1_3, .slice A1_4 l1_4.length c1_4, .string a1_5]] ?_
    with_reducible refine (spec_SafeOk.calls k a0_0 a0_1 a1_0 a1_1 a1_2 a1_3 _ _ l1_4 a1_5 true _ ?side1 ?side2 A4.out).mono ?_
    (case side1 => exact ch HR1_4 HB)
    (case side2 => exact HC1_4.out)
    rintro e w14 ⟨rfl, hb⟩
    refine ⟨_, rfl, ?_⟩
    replace BK235 := bk BK235 hb; replace BK236 := bk BK236 hb; replace BK237 := bk BK237 hb; replace HB := bs HB hb
    (try clear hb)
    (try clear hb2)
    (try clear hk)
    (try clear hi)
    refine hK.out _ _ ⟨bc0 BK235.out, bc1 BK235.out, bc0 BK236.out, bc1 BK236.out, bc2 BK236.out, bc3 BK236.out, bc4 BK236.out, bc5 BK236.out, bc0 BK237.out, bc1 BK237.out, bc2 BK237.out, bc3 BK237.out⟩ (fun hHeld => ?_)
    clear hK K
    refine nA (some 9) ?_
    refine pA 3 (some 10) (bz 25 15) HT_ ?_
    refine tA 4 (some 11) (bz 25 31) HT_ HW_ hHeld ?_
    refine tA 5 (some 12) (bz 25 63) HT_ HW_ hHeld ?_
    refine oA 6 (some 13) (bz 25 127) HT_ (fun K hK => ?_)
    refine gA Tryz.func80 #[.agg #[.int .i64 a0_0, .int .i64 a0_1], .agg #[.string a2_0, .int .i64 a2_1, .string a2_2, .slice A2_3 l2_3.length c2_3]] ?_
    with_reducible refine (spec_BlockOk.calls k a0_0 a0_1 a2_0 a2_1 a2_2 _ _ l2_3 true _ ?side1 ?side2 A6.out).mono ?_
    (case side1 => exact ch HR2_3 HB)
    (case side2 => exact HC2_3.out)
    rintro e w15 ⟨rfl, hb⟩
    refine ⟨_, rfl, ?_⟩
    replace BK235 := bk BK235 hb; replace BK236 := bk BK236 hb; replace BK237 := bk BK237 hb; replace HB := bs HB hb
    (try clear hb)
    (try clear hb2)
    (try clear hk)
    (try clear hi)
    refine hK.out _ _ ⟨bc0 BK235.out, bc1 BK235.out, bc0 BK236.out, bc1 BK236.out, bc2 BK236.out, bc3 BK236.out, bc4 BK236.out, bc5 BK236.out, bc0 BK237.out, bc1 BK237.out, bc2 BK237.out, bc3 BK237.out⟩ (fun hHeld => ?_)
    clear hK K
    refine nA (some 13) ?_
    refine pA 7 (some 14) (bz 25 255) HT_ ?_
    refine pA 8 (some 15) (bz 25 511) HT_ ?_
    refine pA 9 (some 16) (bz 25 1023) HT_ ?_
    refine pA 12 (some 19) (bz 25 0x13ff) HT_ ?_
    refine tA 10 (some 17) (bz 25 0x17ff) HT_ HW_ hHeld ?_
    refine tA 13 (some 20) (bz 25 0x37ff) HT_ HW_ hHeld ?_
    refine oA 11 (some 18) (bz 25 0x3fff) HT_ (fun K hK => ?_)
    refine gA Tryz.func62 #[.string a2_0] ?_
    with_reducible refine (spec_ViewOf.calls k a2_0 t240 _ A8.out).mono ?_
    rintro e w16 ⟨rfl, hb⟩
    refine ⟨_, rfl, ?_⟩
    replace BK235 := bk BK235 hb; replace BK236 := bk BK236 hb; replace BK237 := bk BK237 hb; replace HB := bs HB hb
    (try clear hb)
    (try clear hb2)
    (try clear hk)
    (try clear hi)
    refine hK.out _ _ ⟨bc0 BK235.out, bc1 BK235.out, bc0 BK236.out, bc1 BK236.out, bc2 BK236.out, bc3 BK236.out, bc4 BK236.out, bc5 BK236.out, bc0 BK237.out, bc1 BK237.out, bc2 BK237.out, bc3 BK237.out⟩ (fun hHeld => ?_)
    clear hK K
    refine nA (some 18) ?_
    refine pA 14 (some 21) (bz 25 0x7fff) HT_ ?_
    refine pA 15 (some 22) (bz 25 0xffff) HT_ ?_
    refine pA 16 (some 23) (bz 25 0x1ffff) HT_ ?_
    refine pA 17 (some 24) (bz 25 0x3ffff) HT_ ?_
    refine pA 18 (some 25) (bz 25 0x7ffff) HT_ ?_
    refine pA 20 (some 27) (bz 25 0x17ffff) HT_ ?_
    refine tA 19 (some 26) (bz 25 0x1fffff) HT_ HW_ hHeld ?_
    refine tA 21 (some 28) (bz 25 0x3fffff) HT_ HW_ hHeld ?_
    refine pA 22 (some 29) (bz 25 0x7fffff) HT_ ?_
    refine pA 23 (some 30) (bz 25 0xffffff) HT_ ?_
    refine pA 24 (some 6) (bz 25 0x1ffffff) HT_ ?_
    refine done_ (done_of HT_.out (by kernel_rfl)) ?_
    try go_wp2
    go_ret
    exact ⟨y0_7, bI HB.out⟩
   rw [if_neg c9] at H
   have c9b0 : decide (a1_0 < t240) = false := decide_eq_false c9; clear c9; obtain rfl := Option.some.inj H
   go_enter Tryz.func43, Tryz.ntmps43
   try go_wp2_with (first | ((with_reducible refine gd 3 ?_); refine bA 3 #[.int .i64 a0_0, .int .i64 a0_1] 38 ?_; intro gb235 hg w17 hbox hb; have BK235 := Aside0.mk (hbox); have GW235 := bg hg HB; have GJ235 := gi GW235; have GE235 := GW235; replace HB := bs HB hb; clear hb hbox hg) | ((with_reducible refine gd 4 ?_); refine bA 4 #[.int .i64 a1_0, .int .i64 a1_1, .int .i64 a1_2, .string a1_3, .slice A1_4 l1_4.length c1_4, .string a1_5] 35 ?_; intro gb236 hg w18 hbox hb; have BK236 := Aside0.mk (hbox); have GW236 := bg hg HB; have GJ236 := gi GW236; have GE236 := GW236; replace HB := bs HB hb; have NB235_236 := b1 BK235 hg; have NI235_236 := ni NB235_236; have NB236_235 := b2 BK235 hg; have NI236_235 := ni NB236_235; replace BK235 := bk BK235 hb; clear hb hbox hg) | ((with_reducible refine gd 5 ?_); refine bA 5 #[.string a2_0, .int .i64 a2_1, .string a2_2, .slice A2_3 l2_3.length c2_3] 42 ?_; intro gb237 hg w19 hbox hb; have BK237 := Aside0.mk (hbox); have GW237 := bg hg HB; have GJ237 := gi GW237; have GE237 := GW237; replace HB := bs HB hb; have NB235_237 := b1 BK235 hg; have NI235_237 := ni NB235_237; have NB237_235 := b2 BK235 hg; have NI237_235 := ni NB237_235; replace BK235 := bk BK235 hb; have NB236_237 := b1 BK236 hg; have NI236_237 := ni NB236_237; have NB237_236 := b2 BK236 hg; have NI237_236 := ni NB237_236; replace BK236 := bk BK236 hb; clear hb hbox hg))
   replace BK235 := Aside0.mk (blk_drew BK235.out); replace BK236 := Aside0.mk (blk_drew BK236.out); replace BK237 := Aside0.mk (blk_drew BK237.out); replace HB := Aside0.mk (below_drew1 HB.out)
   refine start_ (n := 25) (S := fun w' => w'.cell? ⟨gb235, 0, none⟩ = some (.int .i64 a0_0) ∧ w'.cell? ⟨gb235, 1, none⟩ = some (.int .i64 a0_1) ∧ w'.cell? ⟨gb236, 0, none⟩ = some (.int .i64 a1_0) ∧ w'.cell? ⟨gb236, 1, none⟩ = some (.int .i64 a1_1) ∧ w'.cell? ⟨gb236, 2, none⟩ = some (.int .i64 a1_2) ∧ w'.cell? ⟨gb236, 3, none⟩ = some (.string a1_3) ∧ w'.cell? ⟨gb236, 4, none⟩ = some (.slice A1_4 l1_4.length c1_4) ∧ w'.cell? ⟨gb236, 5, none⟩ = some (.string a1_5) ∧ w'.cell? ⟨gb237, 0, none⟩ = some (.string a2_0) ∧ w'.cell? ⟨gb237, 1, none⟩ = some (.int .i64 a2_1) ∧ w'.cell? ⟨gb237, 2, none⟩ = some (.string a2_2) ∧ w'.cell? ⟨gb237, 3, none⟩ = some (.slice A2_3 l2_3.length c2_3)) (ds := []) #[false, false, false, false, false, false, false, false, false, false, false, false, false, false, false, false, false, false, false, false, false, false, false, false, false] (by kernel_rfl) rfl rfl ⟨bc0 BK235.out, bc1 BK235.out, bc0 BK236.out, bc1 BK236.out, bc2 BK236.out, bc3 BK236.out, bc4 BK236.out, bc5 BK236.out, bc0 BK237.out, bc1 BK237.out, bc2 BK237.out, bc3 BK237.out⟩ (fun hHeld => ?_); refine with_tabW spec_MayVote.tab1 spec_MayVote.bits1 (fun HT_ HW_ => ?_)
   generalize w19.drew = w20 at BK235 BK236 BK237 HB hHeld ⊢
   refine tA 0 (some 7) (bz 25 1) HT_ HW_ hHeld ?_
   refine tA 1 (some 8) (bz 25 3) HT_ HW_ hHeld ?_
   refine oA 2 (some 9) (bz 25 7) HT_ (fun K hK => ?_)
   refine gA Tryz.func66 #[.agg #[.int .i64 a0_0, .int .i64 a0_1], .agg #[.int .i64 a1_0, .int .i64 a1_1, .int .i64 a1_2, .string a1_3, .slice A1_4 l1_4.length c1_4, .string a1_5]] ?_
   with_reducible refine (spec_SafeOk.calls k a0_0 a0_1 a1_0 a1_1 a1_2 a1_3 _ _ l1_4 a1_5 true _ ?side1 ?side2 A4.out).mono ?_
   (case side1 => exact ch HR1_4 HB)
   (case side2 => exact HC1_4.out)
   rintro e w21 ⟨rfl, hb⟩
   refine ⟨_, rfl, ?_⟩
   replace BK235 := bk BK235 hb; replace BK236 := bk BK236 hb; replace BK237 := bk BK237 hb; replace HB := bs HB hb
   (try clear hb)
   (try clear hb2)
   (try clear hk)
   (try clear hi)
   refine hK.out _ _ ⟨bc0 BK235.out, bc1 BK235.out, bc0 BK236.out, bc1 BK236.out, bc2 BK236.out, bc3 BK236.out, bc4 BK236.out, bc5 BK236.out, bc0 BK237.out, bc1 BK237.out, bc2 BK237.out, bc3 BK237.out⟩ (fun hHeld => ?_)
   clear hK K
   refine nA (some 9) ?_
   refine pA 3 (some 10) (bz 25 15) HT_ ?_
   refine tA 4 (some 11) (bz 25 31) HT_ HW_ hHeld ?_
   refine tA 5 (some 12) (bz 25 63) HT_ HW_ hHeld ?_
   refine oA 6 (some 13) (bz 25 127) HT_ (fun K hK => ?_)
   refine gA Tryz.func80 #[.agg #[.int .i64 a0_0, .int .i64 a0_1], .agg #[.string a2_0, .int .i64 a2_1, .string a2_2, .slice A2_3 l2_3.length c2_3]] ?_
   with_reducible refine (spec_BlockOk.calls k a0_0 a0_1 a2_0 a2_1 a2_2 _ _ l2_3 true _ ?side1 ?side2 A6.out).mono ?_
   (case side1 => exact ch HR2_3 HB)
   (case side2 => exact HC2_3.out)
   rintro e w22 ⟨rfl, hb⟩
   refine ⟨_, rfl, ?_⟩
   replace BK235 := bk BK235 hb; replace BK236 := bk BK236 hb; replace BK237 := bk BK237 hb; replace HB := bs HB hb
   (try clear hb)
   (try clear hb2)
   (try clear hk)
   (try clear hi)
   refine hK.out _ _ ⟨bc0 BK235.out, bc1 BK235.out, bc0 BK236.out, bc1 BK236.out, bc2 BK236.out, bc3 BK236.out, bc4 BK236.out, bc5 BK236.out, bc0 BK237.out, bc1 BK237.out, bc2 BK237.out, bc3 BK237.out⟩ (fun hHeld => ?_)
   clear hK K
   refine nA (some 13) ?_
   refine pA 7 (some 14) (bz 25 255) HT_ ?_
   refine pA 8 (some 15) (bz 25 511) HT_ ?_
   refine pA 9 (some 16) (bz 25 1023) HT_ ?_
   refine pA 12 (some 19) (bz 25 0x13ff) HT_ ?_
   refine tA 10 (some 17) (bz 25 0x17ff) HT_ HW_ hHeld ?_
   refine tA 13 (some 20) (bz 25 0x37ff) HT_ HW_ hHeld ?_
   refine oA 11 (some 18) (bz 25 0x3fff) HT_ (fun K hK => ?_)
   refine gA Tryz.func62 #[.string a2_0] ?_
   with_reducible refine (spec_ViewOf.calls k a2_0 t240 _ A8.out).mono ?_
   rintro e w23 ⟨rfl, hb⟩
   refine ⟨_, rfl, ?_⟩
   replace BK235 := bk BK235 hb; replace BK236 := bk BK236 hb; replace BK237 := bk BK237 hb; replace HB := bs HB hb
   (try clear hb)
   (try clear hb2)
   (try clear hk)
   (try clear hi)
   refine hK.out _ _ ⟨bc0 BK235.out, bc1 BK235.out, bc0 BK236.out, bc1 BK236.out, bc2 BK236.out, bc3 BK236.out, bc4 BK236.out, bc5 BK236.out, bc0 BK237.out, bc1 BK237.out, bc2 BK237.out, bc3 BK237.out⟩ (fun hHeld => ?_)
   clear hK K
   refine nA (some 18) ?_
   refine pA 14 (some 21) (bz 25 0x7fff) HT_ ?_
   refine pA 15 (some 22) (bz 25 0xffff) HT_ ?_
   refine pA 16 (some 23) (bz 25 0x1ffff) HT_ ?_
   refine pU 17 (some 24) (bz 25 0x3ffff) HT_ ?_
   refine pU 18 (some 25) (bz 25 0x7ffff) HT_ ?_
   refine pU 19 (some 26) (bz 25 0xfffff) HT_ ?_
   refine pU 20 (some 27) (bz 25 0x1fffff) HT_ ?_
   refine pU 21 (some 28) (bz 25 0x3fffff) HT_ ?_
   refine pU 22 (some 29) (bz 25 0x7fffff) HT_ ?_
   refine pA 23 (some 30) (bz 25 0xffffff) HT_ ?_
   refine pA 24 (some 6) (bz 25 0x1ffffff) HT_ ?_
   refine done_ (done_of HT_.out (by kernel_rfl)) ?_
   try go_wp2
   go_ret
   exact ⟨y0_7, bI HB.out⟩
  replace c7 := Bool.eq_false_iff.mpr c7; subst c7
  rw [if_neg (show ¬ (false = true) by decide)] at H
  obtain rfl := Option.some.inj H
  go_enter Tryz.func43, Tryz.ntmps43
  try go_wp2_with (first | ((with_reducible refine gd 3 ?_); refine bA 3 #[.int .i64 a0_0, .int .i64 a0_1] 38 ?_; intro gb235 hg w24 hbox hb; have BK235 := Aside0.mk (hbox); have GW235 := bg hg HB; have GJ235 := gi GW235; have GE235 := GW235; replace HB := bs HB hb; clear hb hbox hg) | ((with_reducible refine gd 4 ?_); refine bA 4 #[.int .i64 a1_0, .int .i64 a1_1, .int .i64 a1_2, .string a1_3, .slice A1_4 l1_4.length c1_4, .string a1_5] 35 ?_; intro gb236 hg w25 hbox hb; have BK236 := Aside0.mk (hbox); have GW236 := bg hg HB; have GJ236 := gi GW236; have GE236 := GW236; replace HB := bs HB hb; have NB235_236 := b1 BK235 hg; have NI235_236 := ni NB235_236; have NB236_235 := b2 BK235 hg; have NI236_235 := ni NB236_235; replace BK235 := bk BK235 hb; clear hb hbox hg) | ((with_reducible refine gd 5 ?_); refine bA 5 #[.string a2_0, .int .i64 a2_1, .string a2_2, .slice A2_3 l2_3.length c2_3] 42 ?_; intro gb237 hg w26 hbox hb; have BK237 := Aside0.mk (hbox); have GW237 := bg hg HB; have GJ237 := gi GW237; have GE237 := GW237; replace HB := bs HB hb; have NB235_237 := b1 BK235 hg; have NI235_237 := ni NB235_237; have NB237_235 := b2 BK235 hg; have NI237_235 := ni NB237_235; replace BK235 := bk BK235 hb; have NB236_237 := b1 BK236 hg; have NI236_237 := ni NB236_237; have NB237_236 := b2 BK236 hg; have NI237_236 := ni NB237_236; replace BK236 := bk BK236 hb; clear hb hbox hg))
  replace BK235 := Aside0.mk (blk_drew BK235.out); replace BK236 := Aside0.mk (blk_drew BK236.out); replace BK237 := Aside0.mk (blk_drew BK237.out); replace HB := Aside0.mk (below_drew1 HB.out)
  refine start_ (n := 25) (S := fun w' => w'.cell? ⟨gb235, 0, none⟩ = some (.int .i64 a0_0) ∧ w'.cell? ⟨gb235, 1, none⟩ = some (.int .i64 a0_1) ∧ w'.cell? ⟨gb236, 0, none⟩ = some (.int .i64 a1_0) ∧ w'.cell? ⟨gb236, 1, none⟩ = some (.int .i64 a1_1) ∧ w'.cell? ⟨gb236, 2, none⟩ = some (.int .i64 a1_2) ∧ w'.cell? ⟨gb236, 3, none⟩ = some (.string a1_3) ∧ w'.cell? ⟨gb236, 4, none⟩ = some (.slice A1_4 l1_4.length c1_4) ∧ w'.cell? ⟨gb236, 5, none⟩ = some (.string a1_5) ∧ w'.cell? ⟨gb237, 0, none⟩ = some (.string a2_0) ∧ w'.cell? ⟨gb237, 1, none⟩ = some (.int .i64 a2_1) ∧ w'.cell? ⟨gb237, 2, none⟩ = some (.string a2_2) ∧ w'.cell? ⟨gb237, 3, none⟩ = some (.slice A2_3 l2_3.length c2_3)) (ds := []) #[false, false, false, false, false, false, false, false, false, false, false, false, false, false, false, false, false, false, false, false, false, false, false, false, false] (by kernel_rfl) rfl rfl ⟨bc0 BK235.out, bc1 BK235.out, bc0 BK236.out, bc1 BK236.out, bc2 BK236.out, bc3 BK236.out, bc4 BK236.out, bc5 BK236.out, bc0 BK237.out, bc1 BK237.out, bc2 BK237.out, bc3 BK237.out⟩ (fun hHeld => ?_); refine with_tabW spec_MayVote.tab1 spec_MayVote.bits1 (fun HT_ HW_ => ?_)
  generalize w26.drew = w27 at BK235 BK236 BK237 HB hHeld ⊢
  refine tA 0 (some 7) (bz 25 1) HT_ HW_ hHeld ?_
  refine tA 1 (some 8) (bz 25 3) HT_ HW_ hHeld ?_
  refine oA 2 (some 9) (bz 25 7) HT_ (fun K hK => ?_)
  refine gA Tryz.func66 #[.agg #[.int .i64 a0_0, .int .i64 a0_1], .agg #[.int .i64 a1_0, .int .i64 a1_1, .int .i64 a1_2, .string a1_3, .slice A1_4 l1_4.length c1_4, .string a1_5]] ?_
  with_reducible refine (spec_SafeOk.calls k a0_0 a0_1 a1_0 a1_1 a1_2 a1_3 _ _ l1_4 a1_5 true _ ?side1 ?side2 A4.out).mono ?_
  (case side1 => exact ch HR1_4 HB)
  (case side2 => exact HC1_4.out)
  rintro e w28 ⟨rfl, hb⟩
  refine ⟨_, rfl, ?_⟩
  replace BK235 := bk BK235 hb; replace BK236 := bk BK236 hb; replace BK237 := bk BK237 hb; replace HB := bs HB hb
  (try clear hb)
  (try clear hb2)
  (try clear hk)
  (try clear hi)
  refine hK.out _ _ ⟨bc0 BK235.out, bc1 BK235.out, bc0 BK236.out, bc1 BK236.out, bc2 BK236.out, bc3 BK236.out, bc4 BK236.out, bc5 BK236.out, bc0 BK237.out, bc1 BK237.out, bc2 BK237.out, bc3 BK237.out⟩ (fun hHeld => ?_)
  clear hK K
  refine nA (some 9) ?_
  refine pA 3 (some 10) (bz 25 15) HT_ ?_
  refine tA 4 (some 11) (bz 25 31) HT_ HW_ hHeld ?_
  refine tA 5 (some 12) (bz 25 63) HT_ HW_ hHeld ?_
  refine oA 6 (some 13) (bz 25 127) HT_ (fun K hK => ?_)
  refine gA Tryz.func80 #[.agg #[.int .i64 a0_0, .int .i64 a0_1], .agg #[.string a2_0, .int .i64 a2_1, .string a2_2, .slice A2_3 l2_3.length c2_3]] ?_
  with_reducible refine (spec_BlockOk.calls k a0_0 a0_1 a2_0 a2_1 a2_2 _ _ l2_3 false _ ?side1 ?side2 A6.out).mono ?_
  (case side1 => exact ch HR2_3 HB)
  (case side2 => exact HC2_3.out)
  rintro e w29 ⟨rfl, hb⟩
  refine ⟨_, rfl, ?_⟩
  replace BK235 := bk BK235 hb; replace BK236 := bk BK236 hb; replace BK237 := bk BK237 hb; replace HB := bs HB hb
  (try clear hb)
  (try clear hb2)
  (try clear hk)
  (try clear hi)
  refine hK.out _ _ ⟨bc0 BK235.out, bc1 BK235.out, bc0 BK236.out, bc1 BK236.out, bc2 BK236.out, bc3 BK236.out, bc4 BK236.out, bc5 BK236.out, bc0 BK237.out, bc1 BK237.out, bc2 BK237.out, bc3 BK237.out⟩ (fun hHeld => ?_)
  clear hK K
  refine nA (some 13) ?_
  refine pA 7 (some 14) (bz 25 255) HT_ ?_
  refine pA 8 (some 15) (bz 25 511) HT_ ?_
  refine pU 9 (some 16) (bz 25 1023) HT_ ?_
  refine pU 10 (some 17) (bz 25 2047) HT_ ?_
  refine pU 11 (some 18) (bz 25 4095) HT_ ?_
  refine pU 12 (some 19) (bz 25 0x1fff) HT_ ?_
  refine pU 13 (some 20) (bz 25 0x3fff) HT_ ?_
  refine pU 14 (some 21) (bz 25 0x7fff) HT_ ?_
  refine pA 15 (some 22) (bz 25 0xffff) HT_ ?_
  refine pA 16 (some 23) (bz 25 0x1ffff) HT_ ?_
  refine pU 17 (some 24) (bz 25 0x3ffff) HT_ ?_
  refine pU 18 (some 25) (bz 25 0x7ffff) HT_ ?_
  refine pU 19 (some 26) (bz 25 0xfffff) HT_ ?_
  refine pU 20 (some 27) (bz 25 0x1fffff) HT_ ?_
  refine pU 21 (some 28) (bz 25 0x3fffff) HT_ ?_
  refine pU 22 (some 29) (bz 25 0x7fffff) HT_ ?_
  refine pA 23 (some 30) (bz 25 0xffffff) HT_ ?_
  refine pA 24 (some 6) (bz 25 0x1ffffff) HT_ ?_
  refine done_ (done_of HT_.out (by kernel_rfl)) ?_
  try go_wp2
  go_ret
  exact ⟨y0_7, bI HB.out⟩
 replace c5 := Bool.eq_false_iff.mpr c5; subst c5
 rw [if_neg (show ¬ (false = true) by decide)] at H
 obtain rfl := Option.some.inj H
 go_enter Tryz.func43, Tryz.ntmps43
 try go_wp2_with (first | ((with_reducible refine gd 3 ?_); refine bA 3 #[.int .i64 a0_0, .int .i64 a0_1] 38 ?_; intro gb235 hg w30 hbox hb; have BK235 := Aside0.mk (hbox); have GW235 := bg hg HB; have GJ235 := gi GW235; have GE235 := GW235; replace HB := bs HB hb; clear hb hbox hg) | ((with_reducible refine gd 4 ?_); refine bA 4 #[.int .i64 a1_0, .int .i64 a1_1, .int .i64 a1_2, .string a1_3, .slice A1_4 l1_4.length c1_4, .string a1_5] 35 ?_; intro gb236 hg w31 hbox hb; have BK236 := Aside0.mk (hbox); have GW236 := bg hg HB; have GJ236 := gi GW236; have GE236 := GW236; replace HB := bs HB hb; have NB235_236 := b1 BK235 hg; have NI235_236 := ni NB235_236; have NB236_235 := b2 BK235 hg; have NI236_235 := ni NB236_235; replace BK235 := bk BK235 hb; clear hb hbox hg) | ((with_reducible refine gd 5 ?_); refine bA 5 #[.string a2_0, .int .i64 a2_1, .string a2_2, .slice A2_3 l2_3.length c2_3] 42 ?_; intro gb237 hg w32 hbox hb; have BK237 := Aside0.mk (hbox); have GW237 := bg hg HB; have GJ237 := gi GW237; have GE237 := GW237; replace HB := bs HB hb; have NB235_237 := b1 BK235 hg; have NI235_237 := ni NB235_237; have NB237_235 := b2 BK235 hg; have NI237_235 := ni NB237_235; replace BK235 := bk BK235 hb; have NB236_237 := b1 BK236 hg; have NI236_237 := ni NB236_237; have NB237_236 := b2 BK236 hg; have NI237_236 := ni NB237_236; replace BK236 := bk BK236 hb; clear hb hbox hg))
 replace BK235 := Aside0.mk (blk_drew BK235.out); replace BK236 := Aside0.mk (blk_drew BK236.out); replace BK237 := Aside0.mk (blk_drew BK237.out); replace HB := Aside0.mk (below_drew1 HB.out)
 refine start_ (n := 25) (S := fun w' => w'.cell? ⟨gb235, 0, none⟩ = some (.int .i64 a0_0) ∧ w'.cell? ⟨gb235, 1, none⟩ = some (.int .i64 a0_1) ∧ w'.cell? ⟨gb236, 0, none⟩ = some (.int .i64 a1_0) ∧ w'.cell? ⟨gb236, 1, none⟩ = some (.int .i64 a1_1) ∧ w'.cell? ⟨gb236, 2, none⟩ = some (.int .i64 a1_2) ∧ w'.cell? ⟨gb236, 3, none⟩ = some (.string a1_3) ∧ w'.cell? ⟨gb236, 4, none⟩ = some (.slice A1_4 l1_4.length c1_4) ∧ w'.cell? ⟨gb236, 5, none⟩ = some (.string a1_5)) (ds := []) #[false, false, false, false, false, false, false, false, false, false, false, false, false, false, false, false, false, false, false, false, false, false, false, false, false] (by kernel_rfl) rfl rfl ⟨bc0 BK235.out, bc1 BK235.out, bc0 BK236.out, bc1 BK236.out, bc2 BK236.out, bc3 BK236.out, bc4 BK236.out, bc5 BK236.out⟩ (fun hHeld => ?_); refine with_tabW spec_MayVote.tab1 spec_MayVote.bits1 (fun HT_ HW_ => ?_)
 generalize w32.drew = w33 at BK235 BK236 BK237 HB hHeld ⊢
 refine tA 0 (some 7) (bz 25 1) HT_ HW_ hHeld ?_
 refine tA 1 (some 8) (bz 25 3) HT_ HW_ hHeld ?_
 refine oA 2 (some 9) (bz 25 7) HT_ (fun K hK => ?_)
 refine gA Tryz.func66 #[.agg #[.int .i64 a0_0, .int .i64 a0_1], .agg #[.int .i64 a1_0, .int .i64 a1_1, .int .i64 a1_2, .string a1_3, .slice A1_4 l1_4.length c1_4, .string a1_5]] ?_
 with_reducible refine (spec_SafeOk.calls k a0_0 a0_1 a1_0 a1_1 a1_2 a1_3 _ _ l1_4 a1_5 false _ ?side1 ?side2 A4.out).mono ?_
 (case side1 => exact ch HR1_4 HB)
 (case side2 => exact HC1_4.out)
 rintro e w34 ⟨rfl, hb⟩
 refine ⟨_, rfl, ?_⟩
 replace BK235 := bk BK235 hb; replace BK236 := bk BK236 hb; replace BK237 := bk BK237 hb; replace HB := bs HB hb
 (try clear hb)
 (try clear hb2)
 (try clear hk)
 (try clear hi)
 refine hK.out _ _ ⟨bc0 BK235.out, bc1 BK235.out, bc0 BK236.out, bc1 BK236.out, bc2 BK236.out, bc3 BK236.out, bc4 BK236.out, bc5 BK236.out⟩ (fun hHeld => ?_)
 clear hK K
 refine nA (some 9) ?_
 refine pA 3 (some 10) (bz 25 15) HT_ ?_
 refine pU 4 (some 11) (bz 25 31) HT_ ?_
 refine pU 5 (some 12) (bz 25 63) HT_ ?_
 refine pU 6 (some 13) (bz 25 127) HT_ ?_
 refine pA 7 (some 14) (bz 25 255) HT_ ?_
 refine pA 8 (some 15) (bz 25 511) HT_ ?_
 refine pU 9 (some 16) (bz 25 1023) HT_ ?_
 refine pU 10 (some 17) (bz 25 2047) HT_ ?_
 refine pU 11 (some 18) (bz 25 4095) HT_ ?_
 refine pU 12 (some 19) (bz 25 0x1fff) HT_ ?_
 refine pU 13 (some 20) (bz 25 0x3fff) HT_ ?_
 refine pU 14 (some 21) (bz 25 0x7fff) HT_ ?_
 refine pA 15 (some 22) (bz 25 0xffff) HT_ ?_
 refine pA 16 (some 23) (bz 25 0x1ffff) HT_ ?_
 refine pU 17 (some 24) (bz 25 0x3ffff) HT_ ?_
 refine pU 18 (some 25) (bz 25 0x7ffff) HT_ ?_
 refine pU 19 (some 26) (bz 25 0xfffff) HT_ ?_
 refine pU 20 (some 27) (bz 25 0x1fffff) HT_ ?_
 refine pU 21 (some 28) (bz 25 0x3fffff) HT_ ?_
 refine pU 22 (some 29) (bz 25 0x7fffff) HT_ ?_
 refine pA 23 (some 30) (bz 25 0xffffff) HT_ ?_
 refine pA 24 (some 6) (bz 25 0x1ffffff) HT_ ?_
 refine done_ (done_of HT_.out (by kernel_rfl)) ?_
 try go_wp2
 go_ret
 exact ⟨y0_7, bI HB.out⟩

end Go.Proofs.YtemjmefacifdeaaGreatDoor.PFnExactVote
