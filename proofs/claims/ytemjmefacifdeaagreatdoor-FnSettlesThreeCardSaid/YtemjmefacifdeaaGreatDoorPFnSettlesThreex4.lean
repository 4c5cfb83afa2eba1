-- By a program of this session, out of the translation (the print of the kit, with turns of its own). Lean checks it.
import Derived.Test.YtemjmefacifdeaaGreatDoorPFnSettlesThreex0
import Derived.Test.YtemjmefacifdeaaGreatDoorPFnSettlesThreex1
import Derived.Test.YtemjmefacifdeaaGreatDoorPFnSettlesThreex3
namespace Go.Proofs.YtemjmefacifdeaaGreatDoor.PFnSettlesThree
open Go.RowKit Go.Proofs.YtemjmefacifdeaaGreatDoorW.PrintWords Go.Proofs.YtemjmefacifdeaaGreatDoorW.PrintLast Go.Proofs.YtemjmefacifdeaaGreatDoorW.PrintMore
attribute [local go_sem] max2_int min2_int max_two min_two max_three min_three max_four min_four   -- for this text's walks alone
set_option linter.unusedVariables false
set_option linter.unusedSimpArgs false

/-! ### spec_QcOk: function 49 -/
def spec_QcOk.j0 : Nat → Bool → Int → Int → Int → ByteArray → List Int → Option (Bool)
 | 0, _, _, _, _, _, _ => none
 | k + 1, x21, x209000, x209001, x210000, x210001, x210002 => if x21 = true then (some false) else (if x210001.toList = ([] : List UInt8) then (some ((x210002.length : Int) == 0)) else ((spec_SetOk.f k x209000 x210002).bind fun t213 => (if t213 = true then ((spec_Quorum.f x209000 x209001).bind fun t214 => (some (decide ((x210002.length : Int) ≥ t214)))) else (some false))))
def spec_QcOk.f (k : Nat) (a0_0 : Int) (a0_1 : Int) (a1_0 : Int) (a1_1 : ByteArray) (l1_2 : List Int) : Option (Bool) := (spec_ConfOk.f a0_0 a0_1).bind fun t210 => (if t210 = true then ((spec_NameOk.f k a1_1).bind fun t211 => (if t211 = true then ((spec_ViewOf.f k a1_1).bind fun t212 => (spec_QcOk.j0 k (t212 != a1_0) a0_0 a0_1 a1_0 a1_1 l1_2)) else (spec_QcOk.j0 k true a0_0 a0_1 a1_0 a1_1 l1_2))) else (spec_QcOk.j0 k true a0_0 a0_1 a1_0 a1_1 l1_2))
theorem spec_QcOk.mono_l : ∀ k, (∀ y0 y1 y2 y3 y4 y5, LeO (spec_QcOk.j0 k y0 y1 y2 y3 y4 y5) (spec_QcOk.j0 (k + 1) y0 y1 y2 y3 y4 y5))
 | 0 => fun _ _ _ _ _ _ r h => by simp [spec_QcOk.j0] at h
 | k + 1 => by
  have ih0 := spec_QcOk.mono_l k
  intro y0 y1 y2 y3 y4 y5
  unfold spec_QcOk.j0
  repeat' first | (with_reducible exact ih0 _ _ _ _ _ _) | (with_reducible exact spec_NameOk.mono _ _) | (with_reducible exact spec_SetOk.mono _ _ _) | (with_reducible exact spec_ViewOf.mono _ _) | (with_reducible exact LeO.refl _) | (with_reducible exact LeO.none _) | (with_reducible refine LeO.ite ?_ ?_) | (with_reducible refine LeO.bind ?_ (fun _ => ?_))
theorem spec_QcOk.mono : ∀ a0 a1 a2 a3 a4 k, LeO (spec_QcOk.f k a0 a1 a2 a3 a4) (spec_QcOk.f (k + 1) a0 a1 a2 a3 a4) := by
 intro a0 a1 a2 a3 a4 k
 have ih0 := spec_QcOk.mono_l k
 unfold spec_QcOk.f
 repeat' first | (with_reducible exact ih0 _ _ _ _ _ _) | (with_reducible exact spec_NameOk.mono _ _) | (with_reducible exact spec_SetOk.mono _ _ _) | (with_reducible exact spec_ViewOf.mono _ _) | (with_reducible exact LeO.refl _) | (with_reducible exact LeO.none _) | (with_reducible refine LeO.ite ?_ ?_) | (with_reducible refine LeO.bind ?_ (fun _ => ?_))
def spec_QcOk.T1 : Bool × List (List Nat × List Nat) := (true, [([], []), ([0], [0]), ([1], [1]), ([2, 1], [2]), ([3], [3]), ([4, 3], [3, 4]), ([5, 3, 3], [3, 5]), ([6, 3], [3, 6]), ([3, 7], [3, 7]), ([8, 6], [8]), ([9], [9]), ([10, 9], [9, 10]), ([11, 9, 9], [9, 11]), ([9], [9]), ([13, 9], [9, 13]), ([12, 14, 9], [9, 12, 14]), ([9, 15], [9, 15])])
def spec_QcOk.B1 : List Nat := [0, 1, 3, 7, 15, 31, 63, 127, 255, 511, 1023, 2047, 4095, 1023, 9215, 32767, 65535]
theorem spec_QcOk.tab1 : rtab .any (opsOf Tryz.f49 1) = spec_QcOk.T1 := by kernel_rfl
theorem spec_QcOk.bits1 : waitsOk spec_QcOk.T1.2 spec_QcOk.B1 = true := by kernel_rfl
def spec_QcOk.T5 : Bool × List (List Nat × List Nat) := (true, [([], []), ([0], [0]), ([], []), ([2], [2]), ([1, 3], [1, 3]), ([4, 4], [4]), ([5], [5]), ([6, 5], [5, 6]), ([7, 5], [5, 7]), ([5], [5]), ([9, 5, 5], [5, 9]), ([8, 10, 5], [5, 8, 10]), ([5, 11], [5, 11]), ([12, 10, 0, 1, 2, 3, 4, 5, 6, 7, 8, 9, 10, 11, 12], [12])])
def spec_QcOk.B5 : List Nat := [0, 1, 0, 4, 15, 31, 63, 127, 255, 63, 575, 2047, 4095, 8191]
theorem spec_QcOk.tab5 : rtab .any (opsOf Tryz.f49 5) = spec_QcOk.T5 := by kernel_rfl
theorem spec_QcOk.bits5 : waitsOk spec_QcOk.T5.2 spec_QcOk.B5 = true := by kernel_rfl
set_option maxHeartbeats 8000000 in
set_option maxRecDepth 100000 in
theorem spec_QcOk.calls (k : Nat) (a0_0 : Int) (a0_1 : Int) (a1_0 : Int) (a1_1 : ByteArray) (A1_2 : Option Addr) (c1_2 : Nat) (l1_2 : List Int) (r : Bool) (w : World) (hr1_2 : Kd.C (Kd.int .i64) w A1_2 l1_2.length l1_2) (hc1_2 : l1_2.length ≤ c1_2) (h : spec_QcOk.f k a0_0 a0_1 a1_0 a1_1 l1_2 = some r) :
  Calls Tryz.prog 49 #[.agg #[.int .i64 a0_0, .int .i64 a0_1], .agg #[.int .i64 a1_0, .string a1_1, .slice A1_2 l1_2.length c1_2]] w fun e w' => e = .returned (.bool r) ∧ Below w.heap.size w w' := by
 have hu38 := Tryz.underlying38; have hu33 := Tryz.underlying33; have HR1_2 := Aside0.mk hr1_2; have HC1_2 := Aside0.mk hc1_2; clear hr1_2 hc1_2; have HB := Aside0.mk (Below.refl w.heap.size w)
 have H : ((spec_ConfOk.f a0_0 a0_1).bind fun t210 => (if t210 = true then ((spec_NameOk.f k a1_1).bind fun t211 => (if t211 = true then ((spec_ViewOf.f k a1_1).bind fun t212 => (spec_QcOk.j0 k (t212 != a1_0) a0_0 a0_1 a1_0 a1_1 l1_2)) else (spec_QcOk.j0 k true a0_0 a0_1 a1_0 a1_1 l1_2))) else (spec_QcOk.j0 k true a0_0 a0_1 a1_0 a1_1 l1_2))) = some r := h
 clear h; have HC3 := Aside0.mk H; clear H
 go_enter Tryz.func49, Tryz.ntmps49
 go_upto_region 1 with (first | ((with_reducible refine gate_dst (N := 2) rfl ?_); (try (refine gate_guard (by rfl) ?_; dsimp only)); refine box_event ?hg (N := 2) ?hd (cs := #[.int .i64 a0_0, .int .i64 a0_1]) (t := 38) ?hr ?_; (case hd => rfl); (case hg => rfl); (case hr => first | (go_simp; done) | (go_simp; rfl)); intro gb208 hg w4 hbox hb; have BK208 := Aside0.mk (hbox); have GW208 := bg hg HB; have GJ208 := gi GW208; have GE208 := GW208; replace HB := bs HB hb; clear hb hbox hg) | ((with_reducible refine gate_dst (N := 3) rfl ?_); (try (refine gate_guard (by rfl) ?_; dsimp only)); refine box_event ?hg (N := 3) ?hd (cs := #[.int .i64 a1_0, .string a1_1, .slice A1_2 l1_2.length c1_2]) (t := 33) ?hr ?_; (case hd => rfl); (case hg => rfl); (case hr => first | (go_simp; done) | (go_simp; rfl)); intro gb209 hg w5 hbox hb; have BK209 := Aside0.mk (hbox); have GW209 := bg hg HB; have GJ209 := gi GW209; have GE209 := GW209; replace HB := bs HB hb; have NB208_209 := b1 BK208 hg; have NI208_209 := ni NB208_209; have NB209_208 := b2 BK208 hg; have NI209_208 := ni NB209_208; replace BK208 := bk BK208 hb; clear hb hbox hg))
 (try simp only [Act.put, List.setIfInBounds_toArray, List.set_cons_zero, List.set_cons_succ])
 go_cut [21] (fun v21 wc => ∃ (kq : Nat) (x21_2 : Bool), v21 = .bool x21_2 ∧ Aside0 (spec_QcOk.j0 kq x21_2 a0_0 a0_1 a1_0 a1_1 l1_2 = some r) ∧ Aside0 (kq ≤ k) ∧ Aside0 (wc.heap[gb208]? = some (.cells #[.int .i64 a0_0, .int .i64 a0_1] 38 (0, 0))) ∧ Aside0 (wc.heap[gb209]? = some (.cells #[.int .i64 a1_0, .string a1_1, (.slice A1_2 l1_2.length c1_2)] 33 (0, 0))) ∧ Aside0 (Below w.heap.size w wc))
 case first =>
  have H := HC3.out; clear HC3; obtain ⟨t210, A60, H⟩ := Option.bind_eq_some_iff.mp H
  try dsimp only at H
  have A6 := Aside0.mk A60; clear A60
  by_cases c7 : t210 = true
  ·
   subst c7
   rw [if_pos rfl] at H
   obtain ⟨t211, A80, H⟩ := Option.bind_eq_some_iff.mp H
   try dsimp only at H
   have A8 := Aside0.mk A80; clear A80
   by_cases c9 : t211 = true
   ·
    subst c9
    rw [if_pos rfl] at H
    obtain ⟨t212, A100, H⟩ := Option.bind_eq_some_iff.mp H
    try dsimp only at H
    have A10 := Aside0.mk A100; clear A100; have H' := Aside0.mk H; clear H
    try go_wp2
    replace BK208 := Aside0.mk (blk_drew BK208.out); replace BK209 := Aside0.mk (blk_drew BK209.out); replace HB := Aside0.mk (below_drew1 HB.out)
    refine start_ (n := 17) (S := fun w' => w'.cell? ⟨gb208, 0, none⟩ = some (.int .i64 a0_0) ∧ w'.cell? ⟨gb208, 1, none⟩ = some (.int .i64 a0_1) ∧ w'.cell? ⟨gb209, 0, none⟩ = some (.int .i64 a1_0) ∧ w'.cell? ⟨gb209, 1, none⟩ = some (.string a1_1) ∧ w'.cell? ⟨gb209, 2, none⟩ = some (.slice A1_2 l1_2.length c1_2)) (ds := []) #[false, false, false, false, false, false, false, false, false, false, false, false, false, false, false, false, false] (by kernel_rfl) rfl rfl ⟨bc0 BK208.out, bc1 BK208.out, bc0 BK209.out, bc1 BK209.out, bc2 BK209.out⟩ (fun hHeld => ?_); refine with_tabW spec_QcOk.tab1 spec_QcOk.bits1 (fun HT_ HW_ => ?_)
    generalize w5.drew = w11 at BK208 BK209 HB hHeld ⊢
    refine tA 0 (some 5) (bz 17 1) HT_ HW_ hHeld ?_
    refine oA 1 (some 6) (bz 17 3) HT_ (fun K hK => ?_)
    refine gA Tryz.func55 #[.agg #[.int .i64 a0_0, .int .i64 a0_1]] ?_
    with_reducible refine (spec_ConfOk.calls a0_0 a0_1 true _ A6.out).mono ?_
    rintro e w12 ⟨rfl, hb⟩
    refine ⟨_, rfl, ?_⟩
    replace BK208 := bk BK208 hb; replace BK209 := bk BK209 hb; replace HB := bs HB hb
    (try clear hb)
    (try clear hb2)
    (try clear hk)
    (try clear hi)
    refine hK.out _ _ ⟨bc0 BK208.out, bc1 BK208.out, bc0 BK209.out, bc1 BK209.out, bc2 BK209.out⟩ (fun hHeld => ?_)
    clear hK K
    refine nA (some 6) ?_
    refine pA 2 (some 7) (bz 17 7) HT_ ?_
    refine pA 3 (some 8) (bz 17 15) HT_ ?_
    refine pA 4 (some 9) (bz 17 31) HT_ ?_
    refine tA 5 (some 10) (bz 17 63) HT_ HW_ hHeld ?_
    refine oA 6 (some 11) (bz 17 127) HT_ (fun K hK => ?_)
    refine gA Tryz.func97 #[.string a1_1] ?_
    with_reducible refine (spec_NameOk.calls k a1_1 true _ A8.out).mono ?_
    rintro e w13 ⟨rfl, hb⟩
    refine ⟨_, rfl, ?_⟩
    replace BK208 := bk BK208 hb; replace BK209 := bk BK209 hb; replace HB := bs HB hb
    (try clear hb)
    (try clear hb2)
    (try clear hk)
    (try clear hi)
    refine hK.out _ _ ⟨bc0 BK208.out, bc1 BK208.out, bc0 BK209.out, bc1 BK209.out, bc2 BK209.out⟩ (fun hHeld => ?_)
    clear hK K
    refine nA (some 11) ?_
    refine pA 7 (some 12) (bz 17 255) HT_ ?_
    refine pA 8 (some 13) (bz 17 511) HT_ ?_
    refine pA 9 (some 14) (bz 17 1023) HT_ ?_
    refine pA 10 (some 15) (bz 17 2047) HT_ ?_
    refine pA 13 (some 18) (bz 17 0x27ff) HT_ ?_
    refine tA 11 (some 16) (bz 17 0x2fff) HT_ HW_ hHeld ?_
    refine tA 14 (some 19) (bz 17 0x6fff) HT_ HW_ hHeld ?_
    refine oA 12 (some 17) (bz 17 0x7fff) HT_ (fun K hK => ?_)
    refine gA Tryz.func62 #[.string a1_1] ?_
    with_reducible refine (spec_ViewOf.calls k a1_1 t212 _ A10.out).mono ?_
    rintro e w14 ⟨rfl, hb⟩
    refine ⟨_, rfl, ?_⟩
    replace BK208 := bk BK208 hb; replace BK209 := bk BK209 hb; replace HB := bs HB hb
    (try clear hb)
    (try clear hb2)
    (try clear hk)
    (try clear hi)
    refine hK.out _ _ ⟨bc0 BK208.out, bc1 BK208.out, bc0 BK209.out, bc1 BK209.out, bc2 BK209.out⟩ (fun hHeld => ?_)
    clear hK K
    refine nA (some 17) ?_
    refine pA 15 (some 20) (bz 17 0xffff) HT_ ?_
    refine pA 16 (some 21) (bz 17 0x1ffff) HT_ ?_
    refine done_ (done_of HT_.out (by kernel_rfl)) ?_
    try go_wp2
    go_meet
    case rel => exact ⟨_, ((t212 != a1_0)), y0_9, H', ⟨y0_10⟩, ⟨gI BK208.out⟩, ⟨gI BK209.out⟩, ⟨bI HB.out⟩⟩
   replace c9 := Bool.eq_false_iff.mpr c9; subst c9
   rw [if_neg (show ¬ (false = true) by decide)] at H
   have H' := Aside0.mk H; clear H
   try go_wp2
   replace BK208 := Aside0.mk (blk_drew BK208.out); replace BK209 := Aside0.mk (blk_drew BK209.out); replace HB := Aside0.mk (below_drew1 HB.out)
   refine start_ (n := 17) (S := fun w' => w'.cell? ⟨gb208, 0, none⟩ = some (.int .i64 a0_0) ∧ w'.cell? ⟨gb208, 1, none⟩ = some (.int .i64 a0_1) ∧ w'.cell? ⟨gb209, 0, none⟩ = some (.int .i64 a1_0) ∧ w'.cell? ⟨gb209, 1, none⟩ = some (.string a1_1) ∧ w'.cell? ⟨gb209, 2, none⟩ = some (.slice A1_2 l1_2.length c1_2)) (ds := []) #[false, false, false, false, false, false, false, false, false, false, false, false, false, false, false, false, false] (by kernel_rfl) rfl rfl ⟨bc0 BK208.out, bc1 BK208.out, bc0 BK209.out, bc1 BK209.out, bc2 BK209.out⟩ (fun hHeld => ?_); refine with_tabW spec_QcOk.tab1 spec_QcOk.bits1 (fun HT_ HW_ => ?_)
   generalize w5.drew = w15 at BK208 BK209 HB hHeld ⊢
   refine tA 0 (some 5) (bz 17 1) HT_ HW_ hHeld ?_
   refine oA 1 (some 6) (bz 17 3) HT_ (fun K hK => ?_)
   refine gA Tryz.func55 #[.agg #[.int .i64 a0_0, .int .i64 a0_1]] ?_
   with_reducible refine (spec_ConfOk.calls a0_0 a0_1 true _ A6.out).mono ?_
   rintro e w16 ⟨rfl, hb⟩
   refine ⟨_, rfl, ?_⟩
   replace BK208 := bk BK208 hb; replace BK209 := bk BK209 hb; replace HB := bs HB hb
   (try clear hb)
   (try clear hb2)
   (try clear hk)
   (try clear hi)
   refine hK.out _ _ ⟨bc0 BK208.out, bc1 BK208.out, bc0 BK209.out, bc1 BK209.out, bc2 BK209.out⟩ (fun hHeld => ?_)
   clear hK K
   refine nA (some 6) ?_
   refine pA 2 (some 7) (bz 17 7) HT_ ?_
   refine pA 3 (some 8) (bz 17 15) HT_ ?_
   refine pA 4 (some 9) (bz 17 31) HT_ ?_
   refine tA 5 (some 10) (bz 17 63) HT_ HW_ hHeld ?_
   refine oA 6 (some 11) (bz 17 127) HT_ (fun K hK => ?_)
   refine gA Tryz.func97 #[.string a1_1] ?_
   with_reducible refine (spec_NameOk.calls k a1_1 false _ A8.out).mono ?_
   rintro e w17 ⟨rfl, hb⟩
   refine ⟨_, rfl, ?_⟩
   replace BK208 := bk BK208 hb; replace BK209 := bk BK209 hb; replace HB := bs HB hb
   (try clear hb)
   (try clear hb2)
   (try clear hk)
   (try clear hi)
   refine hK.out _ _ ⟨bc0 BK208.out, bc1 BK208.out, bc0 BK209.out, bc1 BK209.out, bc2 BK209.out⟩ (fun hHeld => ?_)
   clear hK K
   refine nA (some 11) ?_
   refine pA 7 (some 12) (bz 17 255) HT_ ?_
   refine pA 8 (some 13) (bz 17 511) HT_ ?_
   refine pA 9 (some 14) (bz 17 1023) HT_ ?_
   refine pU 10 (some 15) (bz 17 2047) HT_ ?_
   refine pU 11 (some 16) (bz 17 4095) HT_ ?_
   refine pU 12 (some 17) (bz 17 0x1fff) HT_ ?_
   refine pU 13 (some 18) (bz 17 0x3fff) HT_ ?_
   refine pU 14 (some 19) (bz 17 0x7fff) HT_ ?_
   refine pU 15 (some 20) (bz 17 0xffff) HT_ ?_
   refine pA 16 (some 21) (bz 17 0x1ffff) HT_ ?_
   refine done_ (done_of HT_.out (by kernel_rfl)) ?_
   try go_wp2
   go_meet
   case rel => exact ⟨_, (true), y0_9, H', ⟨y0_10⟩, ⟨gI BK208.out⟩, ⟨gI BK209.out⟩, ⟨bI HB.out⟩⟩
  replace c7 := Bool.eq_false_iff.mpr c7; subst c7
  rw [if_neg (show ¬ (false = true) by decide)] at H
  have H' := Aside0.mk H; clear H
  try go_wp2
  replace BK208 := Aside0.mk (blk_drew BK208.out); replace BK209 := Aside0.mk (blk_drew BK209.out); replace HB := Aside0.mk (below_drew1 HB.out)
  refine start_ (n := 17) (S := fun w' => w'.cell? ⟨gb208, 0, none⟩ = some (.int .i64 a0_0) ∧ w'.cell? ⟨gb208, 1, none⟩ = some (.int .i64 a0_1)) (ds := []) #[false, false, false, false, false, false, false, false, false, false, false, false, false, false, false, false, false] (by kernel_rfl) rfl rfl ⟨bc0 BK208.out, bc1 BK208.out⟩ (fun hHeld => ?_); refine with_tabW spec_QcOk.tab1 spec_QcOk.bits1 (fun HT_ HW_ => ?_)
  generalize w5.drew = w18 at BK208 BK209 HB hHeld ⊢
  refine tA 0 (some 5) (bz 17 1) HT_ HW_ hHeld ?_
  refine oA 1 (some 6) (bz 17 3) HT_ (fun K hK => ?_)
  refine gA Tryz.func55 #[.agg #[.int .i64 a0_0, .int .i64 a0_1]] ?_
  with_reducible refine (spec_ConfOk.calls a0_0 a0_1 false _ A6.out).mono ?_
  rintro e w19 ⟨rfl, hb⟩
  refine ⟨_, rfl, ?_⟩
  replace BK208 := bk BK208 hb; replace BK209 := bk BK209 hb; replace HB := bs HB hb
  (try clear hb)
  (try clear hb2)
  (try clear hk)
  (try clear hi)
  refine hK.out _ _ ⟨bc0 BK208.out, bc1 BK208.out⟩ (fun hHeld => ?_)
  clear hK K
  refine nA (some 6) ?_
  refine pA 2 (some 7) (bz 17 7) HT_ ?_
  refine pA 3 (some 8) (bz 17 15) HT_ ?_
  refine pU 4 (some 9) (bz 17 31) HT_ ?_
  refine pU 5 (some 10) (bz 17 63) HT_ ?_
  refine pU 6 (some 11) (bz 17 127) HT_ ?_
  refine pU 7 (some 12) (bz 17 255) HT_ ?_
  refine pA 8 (some 13) (bz 17 511) HT_ ?_
  refine pA 9 (some 14) (bz 17 1023) HT_ ?_
  refine pU 10 (some 15) (bz 17 2047) HT_ ?_
  refine pU 11 (some 16) (bz 17 4095) HT_ ?_
  refine pU 12 (some 17) (bz 17 0x1fff) HT_ ?_
  refine pU 13 (some 18) (bz 17 0x3fff) HT_ ?_
  refine pU 14 (some 19) (bz 17 0x7fff) HT_ ?_
  refine pU 15 (some 20) (bz 17 0xffff) HT_ ?_
  refine pA 16 (some 21) (bz 17 0x1ffff) HT_ ?_
  refine done_ (done_of HT_.out (by kernel_rfl)) ?_
  try go_wp2
  go_meet
  case rel => exact ⟨_, (true), y0_9, H', ⟨y0_10⟩, ⟨gI BK208.out⟩, ⟨gI BK209.out⟩, ⟨bI HB.out⟩⟩
 case rest =>
  clear HC3
  try clear c1
  try clear p2
  try clear c4
  try clear c5
  try clear c6
  try clear c7
  try clear c9
  obtain ⟨kq, x21_2, rfl, HA, HJ2, BK208, BK209, HB⟩ := hcut; cases kq with
  | zero => exact absurd HA.out (by simp [spec_QcOk.j0])
  | succ kj2 =>
   have H := HA.out; clear HA
   simp only [spec_QcOk.j0] at H
   by_cases c20 : x21_2 = true
   ·
    subst c20
    rw [if_pos rfl] at H
    obtain rfl := Option.some.inj H
    go_wp2
    go_ret
    exact ⟨y0_6, bI HB.out⟩
   replace c20 := Bool.eq_false_iff.mpr c20; subst c20
   rw [if_neg (show ¬ (false = true) by decide)] at H
   by_cases c21 : a1_1.toList = ([] : List UInt8)
   ·
    rw [if_pos c21] at H
    have c21b0 : (a1_1.toList == ([] : List UInt8)) = true := beq_iff_eq.mpr c21; have c21b1 : (a1_1.toList != ([] : List UInt8)) = false := bne_eq_false_iff_eq.mpr c21; clear c21; obtain rfl := Option.some.inj H; have hnb22 := NB209_208.out; have hnc22 := NB208_209.out; have hcz23_0 := bc0 BK209.out; have hcz23_1 := bc1 BK209.out; have hcz23_2 := bc2 BK209.out; have hfz23_0 := blk_frozen BK209.out 0; have hfz23_1 := blk_frozen BK209.out 1; have hfz23_2 := blk_frozen BK209.out 2
    go_wp2
    go_ret
    exact ⟨y0_6, bI HB.out⟩
   rw [if_neg c21] at H
   have c21b0 : (a1_1.toList == ([] : List UInt8)) = false := beq_eq_false_iff_ne.mpr c21; have c21b1 : (a1_1.toList != ([] : List UInt8)) = true := bne_iff_ne.mpr c21; obtain ⟨t213, A240, H⟩ := Option.bind_eq_some_iff.mp H
   try dsimp only at H
   have A24 := Aside0.mk A240; clear A240
   by_cases c25 : t213 = true
   ·
    subst c25
    rw [if_pos rfl] at H
    obtain ⟨t214, A260, H⟩ := Option.bind_eq_some_iff.mp H
    try dsimp only at H
    have A26 := Aside0.mk A260; clear A260; obtain rfl := Option.some.inj H; have hnb27 := NB209_208.out; have hnc27 := NB208_209.out; have hcz28_0 := bc0 BK209.out; have hcz28_1 := bc1 BK209.out; have hcz28_2 := bc2 BK209.out; have hfz28_0 := blk_frozen BK209.out 0; have hfz28_1 := blk_frozen BK209.out 1; have hfz28_2 := blk_frozen BK209.out 2
    try go_wp2
    replace BK208 := Aside0.mk (blk_drew BK208.out); replace BK209 := Aside0.mk (blk_drew BK209.out); replace HB := Aside0.mk (below_drew1 HB.out)
    refine start_ (n := 14) (S := fun w' => w'.cell? ⟨gb208, 0, none⟩ = some (.int .i64 a0_0) ∧ w'.cell? ⟨gb208, 1, none⟩ = some (.int .i64 a0_1) ∧ w'.cell? ⟨gb209, 0, none⟩ = some (.int .i64 a1_0) ∧ w'.cell? ⟨gb209, 1, none⟩ = some (.string a1_1) ∧ w'.cell? ⟨gb209, 2, none⟩ = some (.slice A1_2 l1_2.length c1_2)) (ds := []) #[false, false, false, false, false, false, false, false, false, false, false, false, false, false] (by kernel_rfl) rfl rfl ⟨bc0 BK208.out, bc1 BK208.out, bc0 BK209.out, bc1 BK209.out, bc2 BK209.out⟩ (fun hHeld => ?_); refine with_tabW spec_QcOk.tab5 spec_QcOk.bits5 (fun HT_ HW_ => ?_)
    generalize wc.drew = w29 at BK208 BK209 HB hHeld ⊢
    refine pA 0 (some 29) (bz 14 1) HT_ ?_
    refine pA 2 (some 31) (bz 14 5) HT_ ?_
    refine tA 1 (some 30) (bz 14 7) HT_ HW_ hHeld ?_
    refine tA 3 (some 32) (bz 14 15) HT_ HW_ hHeld ?_
    refine oA 4 (some 33) (bz 14 31) HT_ (fun K hK => ?_)
    refine gA Tryz.func98 #[.int .i64 a0_0, .slice A1_2 l1_2.length c1_2] ?_
    with_reducible refine (spec_SetOk.calls kj2 a0_0 _ _ l1_2 true _ ?side1 ?side2 A24.out).mono ?_
    (case side1 => exact ch HR1_2 HB)
    (case side2 => exact HC1_2.out)
    rintro e w' ⟨rfl, ⟨nd, rfl⟩⟩
    refine ⟨_, rfl, ?_⟩
    refine hK.out _ _ ⟨bc0 BK208.out, bc1 BK208.out, bc0 BK209.out, bc1 BK209.out, bc2 BK209.out⟩ (fun hHeld => ?_)
    clear hK K
    refine nA (some 33) ?_
    refine pA 5 (some 34) (bz 14 63) HT_ ?_
    refine pA 6 (some 35) (bz 14 127) HT_ ?_
    refine tA 7 (some 36) (bz 14 255) HT_ HW_ hHeld ?_
    refine pA 8 (some 37) (bz 14 511) HT_ ?_
    refine tA 9 (some 38) (bz 14 1023) HT_ HW_ hHeld ?_
    refine oA 10 (some 39) (bz 14 2047) HT_ (fun K hK => ?_)
    refine gA Tryz.func53 #[.agg #[.int .i64 a0_0, .int .i64 a0_1]] ?_
    with_reducible refine (spec_Quorum.calls a0_0 a0_1 t214 _ A26.out).mono ?_
    rintro e w30 ⟨rfl, hb⟩
    refine ⟨_, rfl, ?_⟩
    replace BK208 := bk BK208 hb; replace BK209 := bk BK209 hb; replace HB := bs HB hb
    (try clear hb)
    (try clear hb2)
    (try clear hk)
    (try clear hi)
    refine hK.out _ _ ⟨bc0 BK208.out, bc1 BK208.out, bc0 BK209.out, bc1 BK209.out, bc2 BK209.out⟩ (fun hHeld => ?_)
    clear hK K
    refine nA (some 39) ?_
    refine pA 11 (some 40) (bz 14 4095) HT_ ?_
    refine pA 12 (some 41) (bz 14 0x1fff) HT_ ?_
    refine pA 13 (some 4) (bz 14 0x3fff) HT_ ?_
    refine done_ (done_of HT_.out (by kernel_rfl)) ?_
    try go_wp2
    go_ret
    exact ⟨y0_6, bI HB.out⟩
   replace c25 := Bool.eq_false_iff.mpr c25; subst c25
   rw [if_neg (show ¬ (false = true) by decide)] at H
   obtain rfl := Option.some.inj H; have hnb31 := NB209_208.out; have hnc31 := NB208_209.out; have hcz32_0 := bc0 BK209.out; have hcz32_1 := bc1 BK209.out; have hcz32_2 := bc2 BK209.out; have hfz32_0 := blk_frozen BK209.out 0; have hfz32_1 := blk_frozen BK209.out 1; have hfz32_2 := blk_frozen BK209.out 2
   try go_wp2
   replace BK208 := Aside0.mk (blk_drew BK208.out); replace BK209 := Aside0.mk (blk_drew BK209.out); replace HB := Aside0.mk (below_drew1 HB.out)
   refine start_ (n := 14) (S := fun w' => w'.cell? ⟨gb208, 0, none⟩ = some (.int .i64 a0_0) ∧ w'.cell? ⟨gb208, 1, none⟩ = some (.int .i64 a0_1) ∧ w'.cell? ⟨gb209, 0, none⟩ = some (.int .i64 a1_0) ∧ w'.cell? ⟨gb209, 1, none⟩ = some (.string a1_1) ∧ w'.cell? ⟨gb209, 2, none⟩ = some (.slice A1_2 l1_2.length c1_2)) (ds := []) #[false, false, false, false, false, false, false, false, false, false, false, false, false, false] (by kernel_rfl) rfl rfl ⟨bc0 BK208.out, bc1 BK208.out, bc0 BK209.out, bc1 BK209.out, bc2 BK209.out⟩ (fun hHeld => ?_); refine with_tabW spec_QcOk.tab5 spec_QcOk.bits5 (fun HT_ HW_ => ?_)
   generalize wc.drew = w33 at BK208 BK209 HB hHeld ⊢
   refine pA 0 (some 29) (bz 14 1) HT_ ?_
   refine pA 2 (some 31) (bz 14 5) HT_ ?_
   refine tA 1 (some 30) (bz 14 7) HT_ HW_ hHeld ?_
   refine tA 3 (some 32) (bz 14 15) HT_ HW_ hHeld ?_
   refine oA 4 (some 33) (bz 14 31) HT_ (fun K hK => ?_)
   refine gA Tryz.func98 #[.int .i64 a0_0, .slice A1_2 l1_2.length c1_2] ?_
   with_reducible refine (spec_SetOk.calls kj2 a0_0 _ _ l1_2 false _ ?side1 ?side2 A24.out).mono ?_
   (case side1 => exact ch HR1_2 HB)
   (case side2 => exact HC1_2.out)
   rintro e w' ⟨rfl, ⟨nd, rfl⟩⟩
   refine ⟨_, rfl, ?_⟩
   refine hK.out _ _ ⟨bc0 BK208.out, bc1 BK208.out, bc0 BK209.out, bc1 BK209.out, bc2 BK209.out⟩ (fun hHeld => ?_)
   clear hK K
   refine nA (some 33) ?_
   refine pA 5 (some 34) (bz 14 63) HT_ ?_
   refine pU 6 (some 35) (bz 14 127) HT_ ?_
   refine pU 7 (some 36) (bz 14 255) HT_ ?_
   refine pU 8 (some 37) (bz 14 511) HT_ ?_
   refine pU 9 (some 38) (bz 14 1023) HT_ ?_
   refine pU 10 (some 39) (bz 14 2047) HT_ ?_
   refine pU 11 (some 40) (bz 14 4095) HT_ ?_
   refine pA 12 (some 41) (bz 14 0x1fff) HT_ ?_
   refine pA 13 (some 4) (bz 14 0x3fff) HT_ ?_
   refine done_ (done_of HT_.out (by kernel_rfl)) ?_
   try go_wp2
   go_ret
   exact ⟨y0_6, bI HB.out⟩

end Go.Proofs.YtemjmefacifdeaaGreatDoor.PFnSettlesThree
