-- By a program of this session, out of the translation (the print of the kit, with turns of its own). Lean checks it.
import Derived.Test.YtemjmefacifdeaaPFnDropsBelowx0
import Derived.Test.YtemjmefacifdeaaPFnDropsBelowx2
import Derived.Test.YtemjmefacifdeaaPFnDropsBelowx4
import Derived.Test.YtemjmefacifdeaaPFnDropsBelowx5
namespace Go.Proofs.Ytemjmefacifdeaa.PFnDropsBelow
open Go.RowKit Go.Proofs.YtemjmefacifdeaaW.PrintWords Go.Proofs.YtemjmefacifdeaaW.PrintLast Go.Proofs.YtemjmefacifdeaaW.PrintMore
attribute [local go_sem] max2_int min2_int max_two min_two max_three min_three max_four min_four   -- for this text's walks alone
set_option linter.unusedVariables false
set_option linter.unusedSimpArgs false

/-! ### spec_PartOk: function 65 -/
def spec_PartOk.j0 : Nat → Bool → Int → ByteArray → List Int → Option (Bool)
 | 0, _, _, _, _ => none
 | k + 1, x27, x291000, x291001, x291002 => if x27 = true then (some false) else (if x291001.toList = ([] : List UInt8) then (some true) else ((spec_NameOk.f k x291001).bind fun t294 => (if t294 = true then ((spec_ViewOf.f k x291001).bind fun t295 => (some (t295 == x291000))) else (some false))))
def spec_PartOk.f (k : Nat) (a0_0 : Int) (a0_1 : Int) (a1_0 : Int) (a1_1 : ByteArray) (l1_2 : List Int) : Option (Bool) := (spec_ConfOk.f a0_0 a0_1).bind fun t291 => (if t291 = true then ((spec_l1In.f a1_0 1 60).bind fun t292 => (if t292 = true then ((spec_SetOk.f k a0_0 l1_2).bind fun t293 => (if t293 = true then (spec_PartOk.j0 k ((l1_2.length : Int) == 0) a1_0 a1_1 l1_2) else (spec_PartOk.j0 k true a1_0 a1_1 l1_2))) else (spec_PartOk.j0 k true a1_0 a1_1 l1_2))) else (spec_PartOk.j0 k true a1_0 a1_1 l1_2))
theorem spec_PartOk.mono_l : ∀ k, (∀ y0 y1 y2 y3, LeO (spec_PartOk.j0 k y0 y1 y2 y3) (spec_PartOk.j0 (k + 1) y0 y1 y2 y3))
 | 0 => fun _ _ _ _ r h => by simp [spec_PartOk.j0] at h
 | k + 1 => by
  have ih0 := spec_PartOk.mono_l k
  intro y0 y1 y2 y3
  unfold spec_PartOk.j0
  repeat' first | (with_reducible exact ih0 _ _ _ _) | (with_reducible exact spec_NameOk.mono _ _) | (with_reducible exact spec_SetOk.mono _ _ _) | (with_reducible exact spec_ViewOf.mono _ _) | (with_reducible exact LeO.refl _) | (with_reducible exact LeO.none _) | (with_reducible refine LeO.ite ?_ ?_) | (with_reducible refine LeO.bind ?_ (fun _ => ?_))
theorem spec_PartOk.mono : ∀ a0 a1 a2 a3 a4 k, LeO (spec_PartOk.f k a0 a1 a2 a3 a4) (spec_PartOk.f (k + 1) a0 a1 a2 a3 a4) := by
 intro a0 a1 a2 a3 a4 k
 have ih0 := spec_PartOk.mono_l k
 unfold spec_PartOk.f
 repeat' first | (with_reducible exact ih0 _ _ _ _) | (with_reducible exact spec_NameOk.mono _ _) | (with_reducible exact spec_SetOk.mono _ _ _) | (with_reducible exact spec_ViewOf.mono _ _) | (with_reducible exact LeO.refl _) | (with_reducible exact LeO.none _) | (with_reducible refine LeO.ite ?_ ?_) | (with_reducible refine LeO.bind ?_ (fun _ => ?_))
def spec_PartOk.T3 : Bool × List (List Nat × List Nat) := (true, [([], []), ([0], [0]), ([1], [1]), ([2], [2]), ([3], [3]), ([4, 3], [3, 4]), ([5, 3, 3], [3, 5]), ([6, 6, 3], [3, 6]), ([7], [7]), ([8, 7], [7, 8]), ([9, 7, 7], [7, 9]), ([7], [7]), ([11, 7], [7, 11]), ([10, 12, 7], [7, 10, 12]), ([7, 13, 3], [3, 7, 13]), ([3, 14], [3, 14]), ([15, 10, 0, 1, 2, 3, 4, 5, 6, 7, 8, 9, 10, 11, 12, 13, 14, 15], [15])])
def spec_PartOk.B3 : List Nat := [0, 1, 3, 7, 15, 31, 63, 127, 255, 511, 1023, 255, 2303, 8191, 16383, 32767, 65535]
theorem spec_PartOk.tab3 : rtab .any (opsOf Try.f65 3) = spec_PartOk.T3 := by kernel_rfl
theorem spec_PartOk.bits3 : waitsOk spec_PartOk.T3.2 spec_PartOk.B3 = true := by kernel_rfl
set_option maxHeartbeats 8000000 in
set_option maxRecDepth 100000 in
theorem spec_PartOk.calls (k : Nat) (a0_0 : Int) (a0_1 : Int) (a1_0 : Int) (a1_1 : ByteArray) (A1_2 : Option Addr) (c1_2 : Nat) (l1_2 : List Int) (r : Bool) (w : World) (hr1_2 : Kd.C (Kd.int .i64) w A1_2 l1_2.length l1_2) (hc1_2 : l1_2.length ≤ c1_2) (h : spec_PartOk.f k a0_0 a0_1 a1_0 a1_1 l1_2 = some r) :
  Calls Try.prog 65 #[.agg #[.int .i64 a0_0, .int .i64 a0_1], .agg #[.int .i64 a1_0, .string a1_1, .slice A1_2 l1_2.length c1_2]] w fun e w' => e = .returned (.bool r) ∧ Below w.heap.size w w' := by
 have hu36 := Try.underlying36; have hu26 := Try.underlying26; have HR1_2 := Aside0.mk hr1_2; have HC1_2 := Aside0.mk hc1_2; clear hr1_2 hc1_2; have HB := Aside0.mk (Below.refl w.heap.size w)
 have H : ((spec_ConfOk.f a0_0 a0_1).bind fun t291 => (if t291 = true then ((spec_l1In.f a1_0 1 60).bind fun t292 => (if t292 = true then ((spec_SetOk.f k a0_0 l1_2).bind fun t293 => (if t293 = true then (spec_PartOk.j0 k ((l1_2.length : Int) == 0) a1_0 a1_1 l1_2) else (spec_PartOk.j0 k true a1_0 a1_1 l1_2))) else (spec_PartOk.j0 k true a1_0 a1_1 l1_2))) else (spec_PartOk.j0 k true a1_0 a1_1 l1_2))) = some r := h
 clear h; have HC3 := Aside0.mk H; clear H
 go_enter Try.func65, Try.ntmps65
 go_upto_region 1 with (first | ((with_reducible refine gate_dst (N := 2) rfl ?_); (try (refine gate_guard (by rfl) ?_; dsimp only)); refine box_event ?hg (N := 2) ?hd (cs := #[.int .i64 a0_0, .int .i64 a0_1]) (t := 36) ?hr ?_; (case hd => rfl); (case hg => rfl); (case hr => first | (go_simp; done) | (go_simp; rfl)); intro gb289 hg w4 hbox hb; have BK289 := Aside0.mk (hbox); have GW289 := bg hg HB; have GJ289 := gi GW289; have GE289 := GW289; replace HB := bs HB hb; clear hb hbox hg) | ((with_reducible refine gate_dst (N := 3) rfl ?_); (try (refine gate_guard (by rfl) ?_; dsimp only)); refine box_event ?hg (N := 3) ?hd (cs := #[.int .i64 a1_0, .string a1_1, .slice A1_2 l1_2.length c1_2]) (t := 26) ?hr ?_; (case hd => rfl); (case hg => rfl); (case hr => first | (go_simp; done) | (go_simp; rfl)); intro gb290 hg w5 hbox hb; have BK290 := Aside0.mk (hbox); have GW290 := bg hg HB; have GJ290 := gi GW290; have GE290 := GW290; replace HB := bs HB hb; have NB289_290 := b1 BK289 hg; have NI289_290 := ni NB289_290; have NB290_289 := b2 BK289 hg; have NI290_289 := ni NB290_289; replace BK289 := bk BK289 hb; clear hb hbox hg))
 (try simp only [Act.put, List.setIfInBounds_toArray, List.set_cons_zero, List.set_cons_succ])
 go_cut [27] (fun v27 wc => ∃ (kq : Nat) (x27_2 : Bool), v27 = .bool x27_2 ∧ Aside0 (spec_PartOk.j0 kq x27_2 a1_0 a1_1 l1_2 = some r) ∧ Aside0 (kq ≤ k) ∧ Aside0 (wc.heap[gb289]? = some (.cells #[.int .i64 a0_0, .int .i64 a0_1] 36 (0, 0))) ∧ Aside0 (wc.heap[gb290]? = some (.cells #[.int .i64 a1_0, .string a1_1, (.slice A1_2 l1_2.length c1_2)] 26 (0, 0))) ∧ Aside0 (Below w.heap.size w wc))
 case first =>
  have H := HC3.out; clear HC3; obtain ⟨t291, A60, H⟩ := Option.bind_eq_some_iff.mp H
  try dsimp only at H
  have A6 := Aside0.mk A60; clear A60
  by_cases c7 : t291 = true
  ·
   subst c7
   rw [if_pos rfl] at H
   obtain ⟨t292, A80, H⟩ := Option.bind_eq_some_iff.mp H
   try dsimp only at H
   have A8 := Aside0.mk A80; clear A80
   by_cases c9 : t292 = true
   ·
    subst c9
    rw [if_pos rfl] at H
    obtain ⟨t293, A100, H⟩ := Option.bind_eq_some_iff.mp H
    try dsimp only at H
    have A10 := Aside0.mk A100; clear A100
    by_cases c11 : t293 = true
    ·
     subst c11
     rw [if_pos rfl] at H
     have H' := Aside0.mk H; clear H; have hnb12 := NB289_290.out; have hnc12 := NB290_289.out; have hcz13_0 := bc0 BK289.out; have hcz13_1 := bc1 BK289.out; have hfz13_0 := blk_frozen BK289.out 0; have hfz13_1 := blk_frozen BK289.out 1
     go_wp2_with (first | ((with_reducible refine gate_callee (f := 34) rfl ?_); refine gB (some 6) Try.func34 #[.agg #[.int .i64 a0_0, .int .i64 a0_1]] ?_; (with_reducible refine (spec_ConfOk.calls a0_0 a0_1 true _ A6.out).mono ?_); rintro e w14 ⟨rfl, hb⟩; refine ⟨_, rfl, ?_⟩; replace BK289 := bk BK289 hb; replace BK290 := bk BK290 hb; replace HB := bs HB hb; (try clear hb); (try clear hb2); (try clear hk); (try clear hi); obtain ⟨hcz15_0, hcz15_1, hcz15_2, hfz15_0, hfz15_1, hfz15_2⟩ := cs3 BK290) | (go_at_call 51; (with_reducible refine (spec_l1In.calls a1_0 1 60 true _ A8.out).mono ?_); rintro e w' ⟨rfl, ⟨nd, rfl⟩⟩; obtain ⟨hcz16_0, hcz16_1, hfz16_0, hfz16_1⟩ := cs2 BK289) | (go_at_call 73; (with_reducible refine (spec_SetOk.calls k a0_0 _ _ l1_2 true _ ?side1 ?side2 A10.out).mono ?_); (case side1 => exact (Kd.C_below HR1_2.out (bI HB.out))); (case side2 => exact HC1_2.out); rintro e w' ⟨rfl, ⟨nd, rfl⟩⟩))
     go_meet
     case rel => exact ⟨_, (((l1_2.length : Int) == 0)), y0_21, H', ⟨y0_22⟩, ⟨gI BK289.out⟩, ⟨gI BK290.out⟩, ⟨bI HB.out⟩⟩
    replace c11 := Bool.eq_false_iff.mpr c11; subst c11
    rw [if_neg (show ¬ (false = true) by decide)] at H
    have H' := Aside0.mk H; clear H; have hnb17 := NB289_290.out; have hnc17 := NB290_289.out; have hcz18_0 := bc0 BK289.out; have hcz18_1 := bc1 BK289.out; have hfz18_0 := blk_frozen BK289.out 0; have hfz18_1 := blk_frozen BK289.out 1
    go_wp2_with (first | ((with_reducible refine gate_callee (f := 34) rfl ?_); refine gB (some 6) Try.func34 #[.agg #[.int .i64 a0_0, .int .i64 a0_1]] ?_; (with_reducible refine (spec_ConfOk.calls a0_0 a0_1 true _ A6.out).mono ?_); rintro e w19 ⟨rfl, hb⟩; refine ⟨_, rfl, ?_⟩; replace BK289 := bk BK289 hb; replace BK290 := bk BK290 hb; replace HB := bs HB hb; (try clear hb); (try clear hb2); (try clear hk); (try clear hi); obtain ⟨hcz20_0, hcz20_1, hcz20_2, hfz20_0, hfz20_1, hfz20_2⟩ := cs3 BK290) | (go_at_call 51; (with_reducible refine (spec_l1In.calls a1_0 1 60 true _ A8.out).mono ?_); rintro e w' ⟨rfl, ⟨nd, rfl⟩⟩; obtain ⟨hcz21_0, hcz21_1, hfz21_0, hfz21_1⟩ := cs2 BK289) | (go_at_call 73; (with_reducible refine (spec_SetOk.calls k a0_0 _ _ l1_2 false _ ?side1 ?side2 A10.out).mono ?_); (case side1 => exact (Kd.C_below HR1_2.out (bI HB.out))); (case side2 => exact HC1_2.out); rintro e w' ⟨rfl, ⟨nd, rfl⟩⟩))
    go_meet
    case rel => exact ⟨_, (true), y0_21, H', ⟨y0_22⟩, ⟨gI BK289.out⟩, ⟨gI BK290.out⟩, ⟨bI HB.out⟩⟩
   replace c9 := Bool.eq_false_iff.mpr c9; subst c9
   rw [if_neg (show ¬ (false = true) by decide)] at H
   have H' := Aside0.mk H; clear H; have hnb22 := NB289_290.out; have hnc22 := NB290_289.out; have hcz23_0 := bc0 BK289.out; have hcz23_1 := bc1 BK289.out; have hfz23_0 := blk_frozen BK289.out 0; have hfz23_1 := blk_frozen BK289.out 1
   go_wp2_with (first | ((with_reducible refine gate_callee (f := 34) rfl ?_); refine gB (some 6) Try.func34 #[.agg #[.int .i64 a0_0, .int .i64 a0_1]] ?_; (with_reducible refine (spec_ConfOk.calls a0_0 a0_1 true _ A6.out).mono ?_); rintro e w24 ⟨rfl, hb⟩; refine ⟨_, rfl, ?_⟩; replace BK289 := bk BK289 hb; replace BK290 := bk BK290 hb; replace HB := bs HB hb; (try clear hb); (try clear hb2); (try clear hk); (try clear hi); obtain ⟨hcz25_0, hcz25_1, hcz25_2, hfz25_0, hfz25_1, hfz25_2⟩ := cs3 BK290) | (go_at_call 51; (with_reducible refine (spec_l1In.calls a1_0 1 60 false _ A8.out).mono ?_); rintro e w' ⟨rfl, ⟨nd, rfl⟩⟩))
   go_meet
   case rel => exact ⟨_, (true), y0_21, H', ⟨y0_22⟩, ⟨gI BK289.out⟩, ⟨gI BK290.out⟩, ⟨bI HB.out⟩⟩
  replace c7 := Bool.eq_false_iff.mpr c7; subst c7
  rw [if_neg (show ¬ (false = true) by decide)] at H
  have H' := Aside0.mk H; clear H; have hnb26 := NB289_290.out; have hnc26 := NB290_289.out; have hcz27_0 := bc0 BK289.out; have hcz27_1 := bc1 BK289.out; have hfz27_0 := blk_frozen BK289.out 0; have hfz27_1 := blk_frozen BK289.out 1
  go_wp2_with (first | ((with_reducible refine gate_callee (f := 34) rfl ?_); refine gB (some 6) Try.func34 #[.agg #[.int .i64 a0_0, .int .i64 a0_1]] ?_; (with_reducible refine (spec_ConfOk.calls a0_0 a0_1 false _ A6.out).mono ?_); rintro e w28 ⟨rfl, hb⟩; refine ⟨_, rfl, ?_⟩; replace BK289 := bk BK289 hb; replace BK290 := bk BK290 hb; replace HB := bs HB hb; (try clear hb); (try clear hb2); (try clear hk); (try clear hi)))
  go_meet
  case rel => exact ⟨_, (true), y0_21, H', ⟨y0_22⟩, ⟨gI BK289.out⟩, ⟨gI BK290.out⟩, ⟨bI HB.out⟩⟩
 case rest =>
  clear HC3
  try clear c1
  try clear c2
  try clear p2
  try clear c3
  try clear c6
  try clear c7
  try clear c9
  try clear c11
  try clear c12
  try clear c17
  try clear c22
  try clear c26
  try clear hcz13_0
  try clear hcz13_1
  try clear hcz15_0
  try clear hcz15_1
  try clear hcz15_2
  try clear hcz16_0
  try clear hcz16_1
  try clear hcz18_0
  try clear hcz18_1
  try clear hcz20_0
  try clear hcz20_1
  try clear hcz20_2
  try clear hcz21_0
  try clear hcz21_1
  try clear hcz23_0
  try clear hcz23_1
  try clear hcz25_0
  try clear hcz25_1
  try clear hcz25_2
  try clear hcz27_0
  try clear hcz27_1
  try clear hfz13_0
  try clear hfz13_1
  try clear hfz15_0
  try clear hfz15_1
  try clear hfz15_2
  try clear hfz16_0
  try clear hfz16_1
  try clear hfz18_0
  try clear hfz18_1
  try clear hfz20_0
  try clear hfz20_1
  try clear hfz20_2
  try clear hfz21_0
  try clear hfz21_1
  try clear hfz23_0
  try clear hfz23_1
  try clear hfz25_0
  try clear hfz25_1
  try clear hfz25_2
  try clear hfz27_0
  try clear hfz27_1
  obtain ⟨kq, x27_2, rfl, HA, HJ2, BK289, BK290, HB⟩ := hcut; cases kq with
  | zero => exact absurd HA.out (by simp [spec_PartOk.j0])
  | succ kj2 =>
   have H := HA.out; clear HA
   simp only [spec_PartOk.j0] at H
   by_cases c29 : x27_2 = true
   ·
    subst c29
    rw [if_pos rfl] at H
    obtain rfl := Option.some.inj H
    go_wp2
    go_ret
    exact ⟨y0_16, bI HB.out⟩
   replace c29 := Bool.eq_false_iff.mpr c29; subst c29
   rw [if_neg (show ¬ (false = true) by decide)] at H
   by_cases c30 : a1_1.toList = ([] : List UInt8)
   ·
    rw [if_pos c30] at H
    have c30b0 : (a1_1.toList == ([] : List UInt8)) = true := beq_iff_eq.mpr c30; have c30b1 : (a1_1.toList != ([] : List UInt8)) = false := bne_eq_false_iff_eq.mpr c30; clear c30; obtain rfl := Option.some.inj H
    try go_wp2
    replace BK289 := Aside0.mk (blk_drew BK289.out); replace BK290 := Aside0.mk (blk_drew BK290.out); replace HB := Aside0.mk (below_drew1 HB.out)
    refine start_ (n := 17) (S := fun w' => w'.cell? ⟨gb290, 0, none⟩ = some (.int .i64 a1_0) ∧ w'.cell? ⟨gb290, 1, none⟩ = some (.string a1_1) ∧ w'.cell? ⟨gb290, 2, none⟩ = some (.slice A1_2 l1_2.length c1_2)) (ds := []) #[false, false, false, false, false, false, false, false, false, false, false, false, false, false, false, false, false] (by kernel_rfl) rfl rfl ⟨bc0 BK290.out, bc1 BK290.out, bc2 BK290.out⟩ (fun hHeld => ?_); refine with_tabW spec_PartOk.tab3 spec_PartOk.bits3 (fun HT_ HW_ => ?_)
    generalize wc.drew = w31 at BK289 BK290 HB hHeld ⊢
    refine pA 0 (some 28) (bz 17 1) HT_ ?_
    refine tA 1 (some 29) (bz 17 3) HT_ HW_ hHeld ?_
    refine pA 2 (some 30) (bz 17 7) HT_ ?_
    refine pA 3 (some 31) (bz 17 15) HT_ ?_
    refine pU 4 (some 32) (bz 17 31) HT_ ?_
    refine pU 5 (some 33) (bz 17 63) HT_ ?_
    refine pU 6 (some 34) (bz 17 127) HT_ ?_
    refine pU 7 (some 35) (bz 17 255) HT_ ?_
    refine pU 8 (some 36) (bz 17 511) HT_ ?_
    refine pU 9 (some 37) (bz 17 1023) HT_ ?_
    refine pU 10 (some 38) (bz 17 2047) HT_ ?_
    refine pU 11 (some 39) (bz 17 4095) HT_ ?_
    refine pU 12 (some 40) (bz 17 0x1fff) HT_ ?_
    refine pU 13 (some 41) (bz 17 0x3fff) HT_ ?_
    refine pU 14 (some 42) (bz 17 0x7fff) HT_ ?_
    refine pA 15 (some 43) (bz 17 0xffff) HT_ ?_
    refine pA 16 (some 4) (bz 17 0x1ffff) HT_ ?_
    refine done_ (done_of HT_.out (by kernel_rfl)) ?_
    try go_wp2
    go_ret
    exact ⟨y0_16, bI HB.out⟩
   rw [if_neg c30] at H
   have c30b0 : (a1_1.toList == ([] : List UInt8)) = false := beq_eq_false_iff_ne.mpr c30; have c30b1 : (a1_1.toList != ([] : List UInt8)) = true := bne_iff_ne.mpr c30; obtain ⟨t294, A320, H⟩ := Option.bind_eq_some_iff.mp H
   try dsimp only at H
   have A32 := Aside0.mk A320; clear A320
   by_cases c33 : t294 = true
   ·
    subst c33
    rw [if_pos rfl] at H
    obtain ⟨t295, A340, H⟩ := Option.bind_eq_some_iff.mp H
    try dsimp only at H
    have A34 := Aside0.mk A340; clear A340; obtain rfl := Option.some.inj H
    try go_wp2
    replace BK289 := Aside0.mk (blk_drew BK289.out); replace BK290 := Aside0.mk (blk_drew BK290.out); replace HB := Aside0.mk (below_drew1 HB.out)
    refine start_ (n := 17) (S := fun w' => w'.cell? ⟨gb290, 0, none⟩ = some (.int .i64 a1_0) ∧ w'.cell? ⟨gb290, 1, none⟩ = some (.string a1_1) ∧ w'.cell? ⟨gb290, 2, none⟩ = some (.slice A1_2 l1_2.length c1_2)) (ds := []) #[false, false, false, false, false, false, false, false, false, false, false, false, false, false, false, false, false] (by kernel_rfl) rfl rfl ⟨bc0 BK290.out, bc1 BK290.out, bc2 BK290.out⟩ (fun hHeld => ?_); refine with_tabW spec_PartOk.tab3 spec_PartOk.bits3 (fun HT_ HW_ => ?_)
    generalize wc.drew = w35 at BK289 BK290 HB hHeld ⊢
    refine pA 0 (some 28) (bz 17 1) HT_ ?_
    refine tA 1 (some 29) (bz 17 3) HT_ HW_ hHeld ?_
    refine pA 2 (some 30) (bz 17 7) HT_ ?_
    refine pA 3 (some 31) (bz 17 15) HT_ ?_
    refine pA 4 (some 32) (bz 17 31) HT_ ?_
    refine tA 5 (some 33) (bz 17 63) HT_ HW_ hHeld ?_
    refine oA 6 (some 34) (bz 17 127) HT_ (fun K hK => ?_)
    refine gA Try.func74 #[.string a1_1] ?_
    with_reducible refine (spec_NameOk.calls kj2 a1_1 true _ A32.out).mono ?_
    rintro e w36 ⟨rfl, hb⟩
    refine ⟨_, rfl, ?_⟩
    replace BK289 := bk BK289 hb; replace BK290 := bk BK290 hb; replace HB := bs HB hb
    (try clear hb)
    (try clear hb2)
    (try clear hk)
    (try clear hi)
    refine hK.out _ _ ⟨bc0 BK290.out, bc1 BK290.out, bc2 BK290.out⟩ (fun hHeld => ?_)
    clear hK K
    refine nA (some 34) ?_
    refine pA 7 (some 35) (bz 17 255) HT_ ?_
    refine pA 8 (some 36) (bz 17 511) HT_ ?_
    refine pA 11 (some 39) (bz 17 2559) HT_ ?_
    refine tA 9 (some 37) (bz 17 3071) HT_ HW_ hHeld ?_
    refine tA 12 (some 40) (bz 17 0x1bff) HT_ HW_ hHeld ?_
    refine oA 10 (some 38) (bz 17 0x1fff) HT_ (fun K hK => ?_)
    refine gA Try.func68 #[.string a1_1] ?_
    with_reducible refine (spec_ViewOf.calls kj2 a1_1 t295 _ A34.out).mono ?_
    rintro e w37 ⟨rfl, hb⟩
    refine ⟨_, rfl, ?_⟩
    replace BK289 := bk BK289 hb; replace BK290 := bk BK290 hb; replace HB := bs HB hb
    (try clear hb)
    (try clear hb2)
    (try clear hk)
    (try clear hi)
    refine hK.out _ _ ⟨bc0 BK290.out, bc1 BK290.out, bc2 BK290.out⟩ (fun hHeld => ?_)
    clear hK K
    refine nA (some 38) ?_
    refine pA 13 (some 41) (bz 17 0x3fff) HT_ ?_
    refine pA 14 (some 42) (bz 17 0x7fff) HT_ ?_
    refine pA 15 (some 43) (bz 17 0xffff) HT_ ?_
    refine pA 16 (some 4) (bz 17 0x1ffff) HT_ ?_
    refine done_ (done_of HT_.out (by kernel_rfl)) ?_
    try go_wp2
    go_ret
    exact ⟨y0_16, bI HB.out⟩
   replace c33 := Bool.eq_false_iff.mpr c33; subst c33
   rw [if_neg (show ¬ (false = true) by decide)] at H
   obtain rfl := Option.some.inj H
   try go_wp2
   replace BK289 := Aside0.mk (blk_drew BK289.out); replace BK290 := Aside0.mk (blk_drew BK290.out); replace HB := Aside0.mk (below_drew1 HB.out)
   refine start_ (n := 17) (S := fun w' => w'.cell? ⟨gb290, 0, none⟩ = some (.int .i64 a1_0) ∧ w'.cell? ⟨gb290, 1, none⟩ = some (.string a1_1) ∧ w'.cell? ⟨gb290, 2, none⟩ = some (.slice A1_2 l1_2.length c1_2)) (ds := []) #[false, false, false, false, false, false, false, false, false, false, false, false, false, false, false, false, false] (by kernel_rfl) rfl rfl ⟨bc0 BK290.out, bc1 BK290.out, bc2 BK290.out⟩ (fun hHeld => ?_); refine with_tabW spec_PartOk.tab3 spec_PartOk.bits3 (fun HT_ HW_ => ?_)
   generalize wc.drew = w38 at BK289 BK290 HB hHeld ⊢
   refine pA 0 (some 28) (bz 17 1) HT_ ?_
   refine tA 1 (some 29) (bz 17 3) HT_ HW_ hHeld ?_
   refine pA 2 (some 30) (bz 17 7) HT_ ?_
   refine pA 3 (some 31) (bz 17 15) HT_ ?_
   refine pA 4 (some 32) (bz 17 31) HT_ ?_
   refine tA 5 (some 33) (bz 17 63) HT_ HW_ hHeld ?_
   refine oA 6 (some 34) (bz 17 127) HT_ (fun K hK => ?_)
   refine gA Try.func74 #[.string a1_1] ?_
   with_reducible refine (spec_NameOk.calls kj2 a1_1 false _ A32.out).mono ?_
   rintro e w39 ⟨rfl, hb⟩
   refine ⟨_, rfl, ?_⟩
   replace BK289 := bk BK289 hb; replace BK290 := bk BK290 hb; replace HB := bs HB hb
   (try clear hb)
   (try clear hb2)
   (try clear hk)
   (try clear hi)
   refine hK.out _ _ ⟨bc0 BK290.out, bc1 BK290.out, bc2 BK290.out⟩ (fun hHeld => ?_)
   clear hK K
   refine nA (some 34) ?_
   refine pA 7 (some 35) (bz 17 255) HT_ ?_
   refine pU 8 (some 36) (bz 17 511) HT_ ?_
   refine pU 9 (some 37) (bz 17 1023) HT_ ?_
   refine pU 10 (some 38) (bz 17 2047) HT_ ?_
   refine pU 11 (some 39) (bz 17 4095) HT_ ?_
   refine pU 12 (some 40) (bz 17 0x1fff) HT_ ?_
   refine pU 13 (some 41) (bz 17 0x3fff) HT_ ?_
   refine pA 14 (some 42) (bz 17 0x7fff) HT_ ?_
   refine pA 15 (some 43) (bz 17 0xffff) HT_ ?_
   refine pA 16 (some 4) (bz 17 0x1ffff) HT_ ?_
   refine done_ (done_of HT_.out (by kernel_rfl)) ?_
   try go_wp2
   go_ret
   exact ⟨y0_16, bI HB.out⟩

end Go.Proofs.Ytemjmefacifdeaa.PFnDropsBelow
