-- By a program of this session, out of the translation (the print of the kit, with turns of its own). Lean checks it.
import Derived.Test.YtemjmefacifdeaaGreatDoorPFnExactBlockNewx0
import Derived.Test.YtemjmefacifdeaaGreatDoorPFnExactBlockNewx4
import Derived.Test.YtemjmefacifdeaaGreatDoorPFnExactBlockNewx6
import Derived.Test.YtemjmefacifdeaaGreatDoorPFnExactBlockNewx7
namespace Go.Proofs.YtemjmefacifdeaaGreatDoor.PFnExactBlockNew
open Go.RowKit Go.Proofs.YtemjmefacifdeaaGreatDoorW.PrintWords Go.Proofs.YtemjmefacifdeaaGreatDoorW.PrintLast Go.Proofs.YtemjmefacifdeaaGreatDoorW.PrintMore
attribute [local go_sem] max2_int min2_int max_two min_two max_three min_three max_four min_four   -- for this text's walks alone
set_option linter.unusedVariables false
set_option linter.unusedSimpArgs false

/-! ### spec_BlockOk: function 80 -/
def spec_BlockOk.f (k : Nat) (a0_0 : Int) (a0_1 : Int) (a1_0 : ByteArray) (a1_1 : Int) (a1_2 : ByteArray) (l1_3 : List Int) : Option (Bool) := (spec_QcOk.f k a0_0 a0_1 a1_1 a1_2 l1_3).bind fun t270 => (if t270 = true then ((spec_NameOk.f k a1_0).bind fun t271 => (if t271 = true then (if a1_0.toList = ([] : List UInt8) then (some false) else ((spec_UpOf.f k a1_0).bind fun t272 => (some (t272.toList == a1_2.toList)))) else (some false))) else (some false))
theorem spec_BlockOk.mono : ∀ a0 a1 a2 a3 a4 a5 k, LeO (spec_BlockOk.f k a0 a1 a2 a3 a4 a5) (spec_BlockOk.f (k + 1) a0 a1 a2 a3 a4 a5) := by
 intro a0 a1 a2 a3 a4 a5 k
 unfold spec_BlockOk.f
 repeat' first | (with_reducible exact spec_NameOk.mono _ _) | (with_reducible exact spec_QcOk.mono _ _ _ _ _ _) | (with_reducible exact spec_UpOf.mono _ _) | (with_reducible exact LeO.refl _) | (with_reducible exact LeO.none _) | (with_reducible refine LeO.ite ?_ ?_) | (with_reducible refine LeO.bind ?_ (fun _ => ?_))
def spec_BlockOk.T1 : Bool × List (List Nat × List Nat) := (true, [([], []), ([], []), ([1], [1]), ([0, 2], [0, 2]), ([3, 3], [3]), ([4], [4]), ([5, 4], [4, 5]), ([6, 4, 4], [4, 6]), ([4, 7], [4, 7]), ([8, 7], [8]), ([9], [9]), ([10, 9], [9, 10]), ([11, 9], [9, 11]), ([9, 12], [9, 12]), ([13, 9], [13]), ([14], [14]), ([15, 14], [14, 15]), ([16, 14, 14], [14, 16]), ([14], [14]), ([18, 14], [14, 18]), ([19, 14], [14, 19]), ([17, 20, 14], [14, 17, 20]), ([14, 21], [14, 21]), ([22, 17, 0, 1, 2, 3, 4, 5, 6, 7, 8, 9, 10, 11, 12, 13, 14, 15, 16, 17, 18, 19, 20, 21, 22], [22])])
def spec_BlockOk.B1 : List Nat := [0, 0, 2, 7, 15, 31, 63, 127, 255, 511, 1023, 2047, 4095, 8191, 16383, 32767, 65535, 131071, 32767, 294911, 819199, 2097151, 4194303, 8388607]
theorem spec_BlockOk.tab1 : rtab .any (opsOf Tryz.f80 1) = spec_BlockOk.T1 := by kernel_rfl
theorem spec_BlockOk.bits1 : waitsOk spec_BlockOk.T1.2 spec_BlockOk.B1 = true := by kernel_rfl
set_option maxHeartbeats 8000000 in
set_option maxRecDepth 100000 in
theorem spec_BlockOk.calls (k : Nat) (a0_0 : Int) (a0_1 : Int) (a1_0 : ByteArray) (a1_1 : Int) (a1_2 : ByteArray) (A1_3 : Option Addr) (c1_3 : Nat) (l1_3 : List Int) (r : Bool) (w : World) (hr1_3 : Kd.C (Kd.int .i64) w A1_3 l1_3.length l1_3) (hc1_3 : l1_3.length ≤ c1_3) (h : spec_BlockOk.f k a0_0 a0_1 a1_0 a1_1 a1_2 l1_3 = some r) :
  Calls Tryz.prog 80 #[.agg #[.int .i64 a0_0, .int .i64 a0_1], .agg #[.string a1_0, .int .i64 a1_1, .string a1_2, .slice A1_3 l1_3.length c1_3]] w fun e w' => e = .returned (.bool r) ∧ Below w.heap.size w w' := by
 have hu38 := Tryz.underlying38; have hu42 := Tryz.underlying42; have hu33 := Tryz.underlying33; have HR1_3 := Aside0.mk hr1_3; have HC1_3 := Aside0.mk hc1_3; clear hr1_3 hc1_3; have HB := Aside0.mk (Below.refl w.heap.size w)
 have H : ((spec_QcOk.f k a0_0 a0_1 a1_1 a1_2 l1_3).bind fun t270 => (if t270 = true then ((spec_NameOk.f k a1_0).bind fun t271 => (if t271 = true then (if a1_0.toList = ([] : List UInt8) then (some false) else ((spec_UpOf.f k a1_0).bind fun t272 => (some (t272.toList == a1_2.toList)))) else (some false))) else (some false))) = some r := h
 clear h; obtain ⟨t270, A30, H⟩ := Option.bind_eq_some_iff.mp H
 try dsimp only at H
 have A3 := Aside0.mk A30; clear A30
 by_cases c4 : t270 = true
 ·
  subst c4
  rw [if_pos rfl] at H
  obtain ⟨t271, A50, H⟩ := Option.bind_eq_some_iff.mp H
  try dsimp only at H
  have A5 := Aside0.mk A50; clear A50
  by_cases c6 : t271 = true
  ·
   subst c6
   rw [if_pos rfl] at H
   by_cases c7 : a1_0.toList = ([] : List UInt8)
   ·
    rw [if_pos c7] at H
    have c7b0 : (a1_0.toList == ([] : List UInt8)) = true := beq_iff_eq.mpr c7; have c7b1 : (a1_0.toList != ([] : List UInt8)) = false := bne_eq_false_iff_eq.mpr c7; clear c7; obtain rfl := Option.some.inj H
    go_enter Tryz.func80, Tryz.ntmps80
    try go_wp2_with (first | ((with_reducible refine gd 2 ?_); refine bA 2 #[.int .i64 a0_0, .int .i64 a0_1] 38 ?_; intro gb268 hg w8 hbox hb; have BK268 := Aside0.mk (hbox); have GW268 := bg hg HB; have GJ268 := gi GW268; have GE268 := GW268; replace HB := bs HB hb; clear hb hbox hg) | ((with_reducible refine gd 3 ?_); refine bA 3 #[.string a1_0, .int .i64 a1_1, .string a1_2, .slice A1_3 l1_3.length c1_3] 42 ?_; intro gb269 hg w9 hbox hb; have BK269 := Aside0.mk (hbox); have GW269 := bg hg HB; have GJ269 := gi GW269; have GE269 := GW269; replace HB := bs HB hb; have NB268_269 := b1 BK268 hg; have NI268_269 := ni NB268_269; have NB269_268 := b2 BK268 hg; have NI269_268 := ni NB269_268; replace BK268 := bk BK268 hb; clear hb hbox hg))
    replace BK268 := Aside0.mk (blk_drew BK268.out); replace BK269 := Aside0.mk (blk_drew BK269.out); replace HB := Aside0.mk (below_drew1 HB.out)
    refine start_ (n := 24) (S := fun w' => w'.cell? ⟨gb268, 0, none⟩ = some (.int .i64 a0_0) ∧ w'.cell? ⟨gb268, 1, none⟩ = some (.int .i64 a0_1) ∧ w'.cell? ⟨gb269, 0, none⟩ = some (.string a1_0) ∧ w'.cell? ⟨gb269, 1, none⟩ = some (.int .i64 a1_1) ∧ w'.cell? ⟨gb269, 2, none⟩ = some (.string a1_2) ∧ w'.cell? ⟨gb269, 3, none⟩ = some (.slice A1_3 l1_3.length c1_3)) (ds := []) #[false, false, false, false, false, false, false, false, false, false, false, false, false, false, false, false, false, false, false, false, false, false, false, false] (by kernel_rfl) rfl rfl ⟨bc0 BK268.out, bc1 BK268.out, bc0 BK269.out, bc1 BK269.out, bc2 BK269.out, bc3 BK269.out⟩ (fun hHeld => ?_); refine with_tabW spec_BlockOk.tab1 spec_BlockOk.bits1 (fun HT_ HW_ => ?_)
    generalize w9.drew = w10 at BK268 BK269 HB hHeld ⊢
    refine pA 1 (some 6) (bz 24 2) HT_ ?_
    refine tA 0 (some 5) (bz 24 3) HT_ HW_ hHeld ?_
    refine tA 2 (some 7) (bz 24 7) HT_ HW_ hHeld ?_
    refine oA 3 (some 8) (bz 24 15) HT_ (fun K hK => ?_)
    refine gA Tryz.func49 #[.agg #[.int .i64 a0_0, .int .i64 a0_1], .agg #[.int .i64 a1_1, .string a1_2, .slice A1_3 l1_3.length c1_3]] ?_
    with_reducible refine (spec_QcOk.calls k a0_0 a0_1 a1_1 a1_2 _ _ l1_3 true _ ?side1 ?side2 A3.out).mono ?_
    (case side1 => exact ch HR1_3 HB)
    (case side2 => exact HC1_3.out)
    rintro e w11 ⟨rfl, hb⟩
    refine ⟨_, rfl, ?_⟩
    replace BK268 := bk BK268 hb; replace BK269 := bk BK269 hb; replace HB := bs HB hb
    (try clear hb)
    (try clear hb2)
    (try clear hk)
    (try clear hi)
    refine hK.out _ _ ⟨bc0 BK268.out, bc1 BK268.out, bc0 BK269.out, bc1 BK269.out, bc2 BK269.out, bc3 BK269.out⟩ (fun hHeld => ?_)
    clear hK K
    refine nA (some 8) ?_
    refine pA 4 (some 9) (bz 24 31) HT_ ?_
    refine pA 5 (some 10) (bz 24 63) HT_ ?_
    refine tA 6 (some 11) (bz 24 127) HT_ HW_ hHeld ?_
    refine oA 7 (some 12) (bz 24 255) HT_ (fun K hK => ?_)
    refine gA Tryz.func97 #[.string a1_0] ?_
    with_reducible refine (spec_NameOk.calls k a1_0 true _ A5.out).mono ?_
    rintro e w12 ⟨rfl, hb⟩
    refine ⟨_, rfl, ?_⟩
    replace BK268 := bk BK268 hb; replace BK269 := bk BK269 hb; replace HB := bs HB hb
    (try clear hb)
    (try clear hb2)
    (try clear hk)
    (try clear hi)
    refine hK.out _ _ ⟨bc0 BK268.out, bc1 BK268.out, bc0 BK269.out, bc1 BK269.out, bc2 BK269.out, bc3 BK269.out⟩ (fun hHeld => ?_)
    clear hK K
    refine nA (some 12) ?_
    refine pA 8 (some 13) (bz 24 511) HT_ ?_
    refine pA 9 (some 14) (bz 24 1023) HT_ ?_
    refine pA 10 (some 15) (bz 24 2047) HT_ ?_
    refine tA 11 (some 16) (bz 24 4095) HT_ HW_ hHeld ?_
    refine pA 12 (some 17) (bz 24 0x1fff) HT_ ?_
    refine pA 13 (some 18) (bz 24 0x3fff) HT_ ?_
    refine pA 14 (some 19) (bz 24 0x7fff) HT_ ?_
    refine pU 15 (some 20) (bz 24 0xffff) HT_ ?_
    refine pU 16 (some 21) (bz 24 0x1ffff) HT_ ?_
    refine pU 17 (some 22) (bz 24 0x3ffff) HT_ ?_
    refine pU 18 (some 23) (bz 24 0x7ffff) HT_ ?_
    refine pU 19 (some 24) (bz 24 0xfffff) HT_ ?_
    refine pU 20 (some 25) (bz 24 0x1fffff) HT_ ?_
    refine pU 21 (some 26) (bz 24 0x3fffff) HT_ ?_
    refine pA 22 (some 27) (bz 24 0x7fffff) HT_ ?_
    refine pA 23 (some 4) (bz 24 0xffffff) HT_ ?_
    refine done_ (done_of HT_.out (by kernel_rfl)) ?_
    try go_wp2
    go_ret
    exact ⟨y0_10, bI HB.out⟩
   rw [if_neg c7] at H
   have c7b0 : (a1_0.toList == ([] : List UInt8)) = false := beq_eq_false_iff_ne.mpr c7; have c7b1 : (a1_0.toList != ([] : List UInt8)) = true := bne_iff_ne.mpr c7; obtain ⟨t272, A130, H⟩ := Option.bind_eq_some_iff.mp H
   try dsimp only at H
   have A13 := Aside0.mk A130; clear A130; obtain rfl := Option.some.inj H
   go_enter Tryz.func80, Tryz.ntmps80
   try go_wp2_with (first | ((with_reducible refine gd 2 ?_); refine bA 2 #[.int .i64 a0_0, .int .i64 a0_1] 38 ?_; intro gb268 hg w14 hbox hb; have BK268 := Aside0.mk (hbox); have GW268 := bg hg HB; have GJ268 := gi GW268; have GE268 := GW268; replace HB := bs HB hb; clear hb hbox hg) | ((with_reducible refine gd 3 ?_); refine bA 3 #[.string a1_0, .int .i64 a1_1, .string a1_2, .slice A1_3 l1_3.length c1_3] 42 ?_; intro gb269 hg w15 hbox hb; have BK269 := Aside0.mk (hbox); have GW269 := bg hg HB; have GJ269 := gi GW269; have GE269 := GW269; replace HB := bs HB hb; have NB268_269 := b1 BK268 hg; have NI268_269 := ni NB268_269; have NB269_268 := b2 BK268 hg; have NI269_268 := ni NB269_268; replace BK268 := bk BK268 hb; clear hb hbox hg))
   replace BK268 := Aside0.mk (blk_drew BK268.out); replace BK269 := Aside0.mk (blk_drew BK269.out); replace HB := Aside0.mk (below_drew1 HB.out)
   refine start_ (n := 24) (S := fun w' => w'.cell? ⟨gb268, 0, none⟩ = some (.int .i64 a0_0) ∧ w'.cell? ⟨gb268, 1, none⟩ = some (.int .i64 a0_1) ∧ w'.cell? ⟨gb269, 0, none⟩ = some (.string a1_0) ∧ w'.cell? ⟨gb269, 1, none⟩ = some (.int .i64 a1_1) ∧ w'.cell? ⟨gb269, 2, none⟩ = some (.string a1_2) ∧ w'.cell? ⟨gb269, 3, none⟩ = some (.slice A1_3 l1_3.length c1_3)) (ds := []) #[false, false, false, false, false, false, false, false, false, false, false, false, false, false, false, false, false, false, false, false, false, false, false, false] (by kernel_rfl) rfl rfl ⟨bc0 BK268.out, bc1 BK268.out, bc0 BK269.out, bc1 BK269.out, bc2 BK269.out, bc3 BK269.out⟩ (fun hHeld => ?_); refine with_tabW spec_BlockOk.tab1 spec_BlockOk.bits1 (fun HT_ HW_ => ?_)
   generalize w15.drew = w16 at BK268 BK269 HB hHeld ⊢
   refine pA 1 (some 6) (bz 24 2) HT_ ?_
   refine tA 0 (some 5) (bz 24 3) HT_ HW_ hHeld ?_
   refine tA 2 (some 7) (bz 24 7) HT_ HW_ hHeld ?_
   refine oA 3 (some 8) (bz 24 15) HT_ (fun K hK => ?_)
   refine gA Tryz.func49 #[.agg #[.int .i64 a0_0, .int .i64 a0_1], .agg #[.int .i64 a1_1, .string a1_2, .slice A1_3 l1_3.length c1_3]] ?_
   with_reducible refine (spec_QcOk.calls k a0_0 a0_1 a1_1 a1_2 _ _ l1_3 true _ ?side1 ?side2 A3.out).mono ?_
   (case side1 => exact ch HR1_3 HB)
   (case side2 => exact HC1_3.out)
   rintro e w17 ⟨rfl, hb⟩
   refine ⟨_, rfl, ?_⟩
   replace BK268 := bk BK268 hb; replace BK269 := bk BK269 hb; replace HB := bs HB hb
   (try clear hb)
   (try clear hb2)
   (try clear hk)
   (try clear hi)
   refine hK.out _ _ ⟨bc0 BK268.out, bc1 BK268.out, bc0 BK269.out, bc1 BK269.out, bc2 BK269.out, bc3 BK269.out⟩ (fun hHeld => ?_)
   clear hK K
   refine nA (some 8) ?_
   refine pA 4 (some 9) (bz 24 31) HT_ ?_
   refine pA 5 (some 10) (bz 24 63) HT_ ?_
   refine tA 6 (some 11) (bz 24 127) HT_ HW_ hHeld ?_
   refine oA 7 (some 12) (bz 24 255) HT_ (fun K hK => ?_)
   refine gA Tryz.func97 #[.string a1_0] ?_
   with_reducible refine (spec_NameOk.calls k a1_0 true _ A5.out).mono ?_
   rintro e w18 ⟨rfl, hb⟩
   refine ⟨_, rfl, ?_⟩
   replace BK268 := bk BK268 hb; replace BK269 := bk BK269 hb; replace HB := bs HB hb
   (try clear hb)
   (try clear hb2)
   (try clear hk)
   (try clear hi)
   refine hK.out _ _ ⟨bc0 BK268.out, bc1 BK268.out, bc0 BK269.out, bc1 BK269.out, bc2 BK269.out, bc3 BK269.out⟩ (fun hHeld => ?_)
   clear hK K
   refine nA (some 12) ?_
   refine pA 8 (some 13) (bz 24 511) HT_ ?_
   refine pA 9 (some 14) (bz 24 1023) HT_ ?_
   refine pA 10 (some 15) (bz 24 2047) HT_ ?_
   refine tA 11 (some 16) (bz 24 4095) HT_ HW_ hHeld ?_
   refine pA 12 (some 17) (bz 24 0x1fff) HT_ ?_
   refine pA 13 (some 18) (bz 24 0x3fff) HT_ ?_
   refine pA 14 (some 19) (bz 24 0x7fff) HT_ ?_
   refine pA 15 (some 20) (bz 24 0xffff) HT_ ?_
   refine pA 18 (some 23) (bz 24 0x4ffff) HT_ ?_
   refine pA 19 (some 24) (bz 24 0xcffff) HT_ ?_
   refine tA 16 (some 21) (bz 24 0xdffff) HT_ HW_ hHeld ?_
   refine tA 20 (some 25) (bz 24 0x1dffff) HT_ HW_ hHeld ?_
   refine oA 17 (some 22) (bz 24 0x1fffff) HT_ (fun K hK => ?_)
   refine gA Tryz.func68 #[.string a1_0] ?_
   with_reducible refine (spec_UpOf.calls k a1_0 t272 _ A13.out).mono ?_
   rintro e w19 ⟨rfl, hb⟩
   refine ⟨_, rfl, ?_⟩
   replace BK268 := bk BK268 hb; replace BK269 := bk BK269 hb; replace HB := bs HB hb
   (try clear hb)
   (try clear hb2)
   (try clear hk)
   (try clear hi)
   refine hK.out _ _ ⟨bc0 BK268.out, bc1 BK268.out, bc0 BK269.out, bc1 BK269.out, bc2 BK269.out, bc3 BK269.out⟩ (fun hHeld => ?_)
   clear hK K
   refine nA (some 22) ?_
   refine pA 21 (some 26) (bz 24 0x3fffff) HT_ ?_
   refine pA 22 (some 27) (bz 24 0x7fffff) HT_ ?_
   refine pA 23 (some 4) (bz 24 0xffffff) HT_ ?_
   refine done_ (done_of HT_.out (by kernel_rfl)) ?_
   try go_wp2
   go_ret
   exact ⟨y0_10, bI HB.out⟩
  replace c6 := Bool.eq_false_iff.mpr c6; subst c6
  rw [if_neg (show ¬ (false = true) by decide)] at H
  obtain rfl := Option.some.inj H
  go_enter Tryz.func80, Tryz.ntmps80
  try go_wp2_with (first | ((with_reducible refine gd 2 ?_); refine bA 2 #[.int .i64 a0_0, .int .i64 a0_1] 38 ?_; intro gb268 hg w20 hbox hb; have BK268 := Aside0.mk (hbox); have GW268 := bg hg HB; have GJ268 := gi GW268; have GE268 := GW268; replace HB := bs HB hb; clear hb hbox hg) | ((with_reducible refine gd 3 ?_); refine bA 3 #[.string a1_0, .int .i64 a1_1, .string a1_2, .slice A1_3 l1_3.length c1_3] 42 ?_; intro gb269 hg w21 hbox hb; have BK269 := Aside0.mk (hbox); have GW269 := bg hg HB; have GJ269 := gi GW269; have GE269 := GW269; replace HB := bs HB hb; have NB268_269 := b1 BK268 hg; have NI268_269 := ni NB268_269; have NB269_268 := b2 BK268 hg; have NI269_268 := ni NB269_268; replace BK268 := bk BK268 hb; clear hb hbox hg))
  replace BK268 := Aside0.mk (blk_drew BK268.out); replace BK269 := Aside0.mk (blk_drew BK269.out); replace HB := Aside0.mk (below_drew1 HB.out)
  refine start_ (n := 24) (S := fun w' => w'.cell? ⟨gb268, 0, none⟩ = some (.int .i64 a0_0) ∧ w'.cell? ⟨gb268, 1, none⟩ = some (.int .i64 a0_1) ∧ w'.cell? ⟨gb269, 0, none⟩ = some (.string a1_0) ∧ w'.cell? ⟨gb269, 1, none⟩ = some (.int .i64 a1_1) ∧ w'.cell? ⟨gb269, 2, none⟩ = some (.string a1_2) ∧ w'.cell? ⟨gb269, 3, none⟩ = some (.slice A1_3 l1_3.length c1_3)) (ds := []) #[false, false, false, false, false, false, false, false, false, false, false, false, false, false, false, false, false, false, false, false, false, false, false, false] (by kernel_rfl) rfl rfl ⟨bc0 BK268.out, bc1 BK268.out, bc0 BK269.out, bc1 BK269.out, bc2 BK269.out, bc3 BK269.out⟩ (fun hHeld => ?_); refine with_tabW spec_BlockOk.tab1 spec_BlockOk.bits1 (fun HT_ HW_ => ?_)
  generalize w21.drew = w22 at BK268 BK269 HB hHeld ⊢
  refine pA 1 (some 6) (bz 24 2) HT_ ?_
  refine tA 0 (some 5) (bz 24 3) HT_ HW_ hHeld ?_
  refine tA 2 (some 7) (bz 24 7) HT_ HW_ hHeld ?_
  refine oA 3 (some 8) (bz 24 15) HT_ (fun K hK => ?_)
  refine gA Tryz.func49 #[.agg #[.int .i64 a0_0, .int .i64 a0_1], .agg #[.int .i64 a1_1, .string a1_2, .slice A1_3 l1_3.length c1_3]] ?_
  with_reducible refine (spec_QcOk.calls k a0_0 a0_1 a1_1 a1_2 _ _ l1_3 true _ ?side1 ?side2 A3.out).mono ?_
  (case side1 => exact ch HR1_3 HB)
  (case side2 => exact HC1_3.out)
  rintro e w23 ⟨rfl, hb⟩
  refine ⟨_, rfl, ?_⟩
  replace BK268 := bk BK268 hb; replace BK269 := bk BK269 hb; replace HB := bs HB hb
  (try clear hb)
  (try clear hb2)
  (try clear hk)
  (try clear hi)
  refine hK.out _ _ ⟨bc0 BK268.out, bc1 BK268.out, bc0 BK269.out, bc1 BK269.out, bc2 BK269.out, bc3 BK269.out⟩ (fun hHeld => ?_)
  clear hK K
  refine nA (some 8) ?_
  refine pA 4 (some 9) (bz 24 31) HT_ ?_
  refine pA 5 (some 10) (bz 24 63) HT_ ?_
  refine tA 6 (some 11) (bz 24 127) HT_ HW_ hHeld ?_
  refine oA 7 (some 12) (bz 24 255) HT_ (fun K hK => ?_)
  refine gA Tryz.func97 #[.string a1_0] ?_
  with_reducible refine (spec_NameOk.calls k a1_0 false _ A5.out).mono ?_
  rintro e w24 ⟨rfl, hb⟩
  refine ⟨_, rfl, ?_⟩
  replace BK268 := bk BK268 hb; replace BK269 := bk BK269 hb; replace HB := bs HB hb
  (try clear hb)
  (try clear hb2)
  (try clear hk)
  (try clear hi)
  refine hK.out _ _ ⟨bc0 BK268.out, bc1 BK268.out, bc0 BK269.out, bc1 BK269.out, bc2 BK269.out, bc3 BK269.out⟩ (fun hHeld => ?_)
  clear hK K
  refine nA (some 12) ?_
  refine pA 8 (some 13) (bz 24 511) HT_ ?_
  refine pA 9 (some 14) (bz 24 1023) HT_ ?_
  refine pU 10 (some 15) (bz 24 2047) HT_ ?_
  refine pU 11 (some 16) (bz 24 4095) HT_ ?_
  refine pU 12 (some 17) (bz 24 0x1fff) HT_ ?_
  refine pA 13 (some 18) (bz 24 0x3fff) HT_ ?_
  refine pA 14 (some 19) (bz 24 0x7fff) HT_ ?_
  refine pU 15 (some 20) (bz 24 0xffff) HT_ ?_
  refine pU 16 (some 21) (bz 24 0x1ffff) HT_ ?_
  refine pU 17 (some 22) (bz 24 0x3ffff) HT_ ?_
  refine pU 18 (some 23) (bz 24 0x7ffff) HT_ ?_
  refine pU 19 (some 24) (bz 24 0xfffff) HT_ ?_
  refine pU 20 (some 25) (bz 24 0x1fffff) HT_ ?_
  refine pU 21 (some 26) (bz 24 0x3fffff) HT_ ?_
  refine pA 22 (some 27) (bz 24 0x7fffff) HT_ ?_
  refine pA 23 (some 4) (bz 24 0xffffff) HT_ ?_
  refine done_ (done_of HT_.out (by kernel_rfl)) ?_
  try go_wp2
  go_ret
  exact ⟨y0_10, bI HB.out⟩
 replace c4 := Bool.eq_false_iff.mpr c4; subst c4
 rw [if_neg (show ¬ (false = true) by decide)] at H
 obtain rfl := Option.some.inj H
 go_enter Tryz.func80, Tryz.ntmps80
 try go_wp2_with (first | ((with_reducible refine gd 2 ?_); refine bA 2 #[.int .i64 a0_0, .int .i64 a0_1] 38 ?_; intro gb268 hg w25 hbox hb; have BK268 := Aside0.mk (hbox); have GW268 := bg hg HB; have GJ268 := gi GW268; have GE268 := GW268; replace HB := bs HB hb; clear hb hbox hg) | ((with_reducible refine gd 3 ?_); refine bA 3 #[.string a1_0, .int .i64 a1_1, .string a1_2, .slice A1_3 l1_3.length c1_3] 42 ?_; intro gb269 hg w26 hbox hb; have BK269 := Aside0.mk (hbox); have GW269 := bg hg HB; have GJ269 := gi GW269; have GE269 := GW269; replace HB := bs HB hb; have NB268_269 := b1 BK268 hg; have NI268_269 := ni NB268_269; have NB269_268 := b2 BK268 hg; have NI269_268 := ni NB269_268; replace BK268 := bk BK268 hb; clear hb hbox hg))
 replace BK268 := Aside0.mk (blk_drew BK268.out); replace BK269 := Aside0.mk (blk_drew BK269.out); replace HB := Aside0.mk (below_drew1 HB.out)
 refine start_ (n := 24) (S := fun w' => w'.cell? ⟨gb268, 0, none⟩ = some (.int .i64 a0_0) ∧ w'.cell? ⟨gb268, 1, none⟩ = some (.int .i64 a0_1) ∧ w'.cell? ⟨gb269, 0, none⟩ = some (.string a1_0) ∧ w'.cell? ⟨gb269, 1, none⟩ = some (.int .i64 a1_1) ∧ w'.cell? ⟨gb269, 2, none⟩ = some (.string a1_2) ∧ w'.cell? ⟨gb269, 3, none⟩ = some (.slice A1_3 l1_3.length c1_3)) (ds := []) #[false, false, false, false, false, false, false, false, false, false, false, false, false, false, false, false, false, false, false, false, false, false, false, false] (by kernel_rfl) rfl rfl ⟨bc0 BK268.out, bc1 BK268.out, bc0 BK269.out, bc1 BK269.out, bc2 BK269.out, bc3 BK269.out⟩ (fun hHeld => ?_); refine with_tabW spec_BlockOk.tab1 spec_BlockOk.bits1 (fun HT_ HW_ => ?_)
 generalize w26.drew = w27 at BK268 BK269 HB hHeld ⊢
 refine pA 1 (some 6) (bz 24 2) HT_ ?_
 refine tA 0 (some 5) (bz 24 3) HT_ HW_ hHeld ?_
 refine tA 2 (some 7) (bz 24 7) HT_ HW_ hHeld ?_
 refine oA 3 (some 8) (bz 24 15) HT_ (fun K hK => ?_)
 refine gA Tryz.func49 #[.agg #[.int .i64 a0_0, .int .i64 a0_1], .agg #[.int .i64 a1_1, .string a1_2, .slice A1_3 l1_3.length c1_3]] ?_
 with_reducible refine (spec_QcOk.calls k a0_0 a0_1 a1_1 a1_2 _ _ l1_3 false _ ?side1 ?side2 A3.out).mono ?_
 (case side1 => exact ch HR1_3 HB)
 (case side2 => exact HC1_3.out)
 rintro e w28 ⟨rfl, hb⟩
 refine ⟨_, rfl, ?_⟩
 replace BK268 := bk BK268 hb; replace BK269 := bk BK269 hb; replace HB := bs HB hb
 (try clear hb)
 (try clear hb2)
 (try clear hk)
 (try clear hi)
 refine hK.out _ _ ⟨bc0 BK268.out, bc1 BK268.out, bc0 BK269.out, bc1 BK269.out, bc2 BK269.out, bc3 BK269.out⟩ (fun hHeld => ?_)
 clear hK K
 refine nA (some 8) ?_
 refine pA 4 (some 9) (bz 24 31) HT_ ?_
 refine pU 5 (some 10) (bz 24 63) HT_ ?_
 refine pU 6 (some 11) (bz 24 127) HT_ ?_
 refine pU 7 (some 12) (bz 24 255) HT_ ?_
 refine pA 8 (some 13) (bz 24 511) HT_ ?_
 refine pA 9 (some 14) (bz 24 1023) HT_ ?_
 refine pU 10 (some 15) (bz 24 2047) HT_ ?_
 refine pU 11 (some 16) (bz 24 4095) HT_ ?_
 refine pU 12 (some 17) (bz 24 0x1fff) HT_ ?_
 refine pA 13 (some 18) (bz 24 0x3fff) HT_ ?_
 refine pA 14 (some 19) (bz 24 0x7fff) HT_ ?_
 refine pU 15 (some 20) (bz 24 0xffff) HT_ ?_
 refine pU 16 (some 21) (bz 24 0x1ffff) HT_ ?_
 refine pU 17 (some 22) (bz 24 0x3ffff) HT_ ?_
 refine pU 18 (some 23) (bz 24 0x7ffff) HT_ ?_
 refine pU 19 (some 24) (bz 24 0xfffff) HT_ ?_
 refine pU 20 (some 25) (bz 24 0x1fffff) HT_ ?_
 refine pU 21 (some 26) (bz 24 0x3fffff) HT_ ?_
 refine pA 22 (some 27) (bz 24 0x7fffff) HT_ ?_
 refine pA 23 (some 4) (bz 24 0xffffff) HT_ ?_
 refine done_ (done_of HT_.out (by kernel_rfl)) ?_
 try go_wp2
 go_ret
 exact ⟨y0_10, bI HB.out⟩

end Go.Proofs.YtemjmefacifdeaaGreatDoor.PFnExactBlockNew
