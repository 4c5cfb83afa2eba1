-- By a program of this session, out of the translation (the print of the kit, with turns of its own). Lean checks it.
import Derived.Test.YtemjmefacifdeaaPFnDropsBelowx0
import Derived.Test.YtemjmefacifdeaaPFnDropsBelowx2
import Derived.Test.YtemjmefacifdeaaPFnDropsBelowx6
namespace Go.Proofs.Ytemjmefacifdeaa.PFnDropsBelow
open Go.RowKit Go.Proofs.YtemjmefacifdeaaW.PrintWords Go.Proofs.YtemjmefacifdeaaW.PrintLast Go.Proofs.YtemjmefacifdeaaW.PrintMore
attribute [local go_sem] max2_int min2_int max_two min_two max_three min_three max_four min_four   -- for this text's walks alone
set_option linter.unusedVariables false
set_option linter.unusedSimpArgs false

/-! ### spec_TableOk: function 64 -/
def spec_TableOk.l0 : Nat → List (S26) → Int → Int → Int → Option (Bool)
 | 0, _, _, _, _ => none
 | k + 1, x1, x5, x297000, x297001 => if x5 < (x1.length : Int) then (if 0 ≤ x5 then ((spec_PartOk.f k x297000 x297001 ((rd_T26 x1 x5).f0) ((rd_T26 x1 x5).f1) ((rd_T26 x1 x5).f2)).bind fun t298 => (if t298 = true then (if x5 > 0 then (if 0 ≤ (wrap64 (x5 - 1)) then (if (wrap64 (x5 - 1)) < (x1.length : Int) then ((spec_l10Before.f ((rd_T26 x1 (wrap64 (x5 - 1))).f0) ((rd_T26 x1 (wrap64 (x5 - 1))).f1) ((rd_T26 x1 (wrap64 (x5 - 1))).f2) ((rd_T26 x1 x5).f0) ((rd_T26 x1 x5).f1) ((rd_T26 x1 x5).f2)).bind fun t301 => (if t301 = true then (spec_TableOk.l0 k x1 (wrap64 (x5 + 1)) x297000 x297001) else (some false))) else (none)) else (none)) else (spec_TableOk.l0 k x1 (wrap64 (x5 + 1)) x297000 x297001)) else (some false))) else (none)) else (some (decide ((x1.length : Int) ≤ 20)))
def spec_TableOk.f (k : Nat) (a0_0 : Int) (a0_1 : Int) (l1 : List (S26)) : Option (Bool) := spec_TableOk.l0 k l1 0 a0_0 a0_1
theorem spec_TableOk.mono_l : ∀ k, (∀ y0 y1 y2 y3, LeO (spec_TableOk.l0 k y0 y1 y2 y3) (spec_TableOk.l0 (k + 1) y0 y1 y2 y3))
 | 0 => fun _ _ _ _ r h => by simp [spec_TableOk.l0] at h
 | k + 1 => by
  have ih0 := spec_TableOk.mono_l k
  intro y0 y1 y2 y3
  unfold spec_TableOk.l0
  repeat' first | (with_reducible exact ih0 _ _ _ _) | (with_reducible exact spec_PartOk.mono _ _ _ _ _ _) | (with_reducible exact LeO.refl _) | (with_reducible exact LeO.none _) | (with_reducible refine LeO.ite ?_ ?_) | (with_reducible refine LeO.bind ?_ (fun _ => ?_))
theorem spec_TableOk.mono : ∀ a0 a1 a2 k, LeO (spec_TableOk.f k a0 a1 a2) (spec_TableOk.f (k + 1) a0 a1 a2) := by
 intro a0 a1 a2 k
 have ih0 := spec_TableOk.mono_l k
 unfold spec_TableOk.f
 repeat' first | (with_reducible exact ih0 _ _ _ _) | (with_reducible exact spec_PartOk.mono _ _ _ _ _ _) | (with_reducible exact LeO.refl _) | (with_reducible exact LeO.none _) | (with_reducible refine LeO.ite ?_ ?_) | (with_reducible refine LeO.bind ?_ (fun _ => ?_))
def spec_TableOk.T4 : Bool × List (List Nat × List Nat) := (true, [([], []), ([], []), ([], []), ([1, 2], [1, 2]), ([3], [3]), ([0, 4], [0, 4]), ([5], [5]), ([6, 5], [6]), ([7], [7]), ([8, 7], [7, 8]), ([9, 7, 7], [7, 9]), ([10], [10]), ([10], [10]), ([12, 10], [10, 12]), ([11, 13, 10], [10, 11, 13]), ([14, 10], [10, 14]), ([10], [10]), ([10], [10]), ([16, 17, 10], [10, 16, 17]), ([18, 10], [10, 18]), ([15, 19, 10, 10], [10, 15, 19]), ([20, 10], [10, 20]), ([10, 21, 7], [7, 10, 21]), ([7, 22], [7, 22])])
def spec_TableOk.B4 : List Nat := [0, 0, 0, 6, 14, 31, 63, 127, 255, 511, 1023, 2047, 2047, 6143, 16383, 32767, 2047, 2047, 198655, 460799, 1048575, 2097151, 4194303, 8388607]
theorem spec_TableOk.tab4 : rtab .any (opsOf Try.f64 4) = spec_TableOk.T4 := by kernel_rfl
theorem spec_TableOk.bits4 : waitsOk spec_TableOk.T4.2 spec_TableOk.B4 = true := by kernel_rfl
set_option maxHeartbeats 8000000 in
set_option maxRecDepth 100000 in
theorem spec_TableOk.calls (k : Nat) (a0_0 : Int) (a0_1 : Int) (A1 : Option Addr) (c1 : Nat) (l1 : List (S26)) (r : Bool) (w : World) (hr1 : Kd.C k26 w A1 l1.length l1) (hc1 : l1.length ≤ c1) (h : spec_TableOk.f k a0_0 a0_1 l1 = some r) :
  Calls Try.prog 64 #[.agg #[.int .i64 a0_0, .int .i64 a0_1], .slice A1 l1.length c1] w fun e w' => e = .returned (.bool r) ∧ Below w.heap.size w w' := by
 have hu36 := Try.underlying36; have hu26 := Try.underlying26; have HR1 := Aside0.mk hr1; have HC1 := Aside0.mk hc1; clear hr1 hc1; have HB := Aside0.mk (Below.refl w.heap.size w); have H : (spec_TableOk.l0 k l1 0 a0_0 a0_1) = some r := h; clear h; have H' := Aside0.mk H; clear H
 go_enter Try.func64, Try.ntmps64
 go_wp2_with (first | ((with_reducible refine gd 2 ?_); refine bA 2 #[.int .i64 a0_0, .int .i64 a0_1] 36 ?_; intro gb296 hg w3 hbox hb; have BK296 := Aside0.mk (hbox); have GW296 := bg hg HB; have GJ296 := gi GW296; have GE296 := GW296; replace HB := bs HB hb; clear hb hbox hg))
 go_loopg [5] k (fun kq v5 w' => ∃ (x5_1 : Int), v5 = .int .i64 x5_1 ∧ Aside0 (spec_TableOk.l0 kq l1 x5_1 a0_0 a0_1 = some r) ∧ Aside0 (kq ≤ k) ∧ Aside0 (w'.heap[gb296]? = some (.cells #[.int .i64 a0_0, .int .i64 a0_1] 36 (0, 0))) ∧ Aside0 (Below w.heap.size w w'))
 case atStart => exact ⟨(0), y0_21, H', ⟨Nat.le_refl _⟩, ⟨gI BK296.out⟩, ⟨bI HB.out⟩⟩
 case round =>
  clear H'
  try clear c1
  try clear p2
  obtain ⟨x5_1, rfl, HA, HK1, BK296, HB⟩ := hrel; cases gk with
  | zero => exact absurd HA.out (by simp [spec_TableOk.l0])
  | succ k1 =>
   have H := HA.out; clear HA
   simp only [spec_TableOk.l0] at H
   by_cases c4 : x5_1 < (l1.length : Int)
   ·
    rw [if_pos c4] at H
    have c4b0 : decide (x5_1 < (l1.length : Int)) = true := decide_eq_true c4; clear c4
    by_cases c5 : 0 ≤ x5_1
    rotate_left
    ·
     rw [if_neg c5] at H
     exact absurd H (by simp)
    rw [if_pos c5] at H
    have c5b0 : decide (0 ≤ x5_1) = true := decide_eq_true c5; clear c5; obtain ⟨t298, A60, H⟩ := Option.bind_eq_some_iff.mp H
    try dsimp only at H
    have A6 := Aside0.mk A60; clear A60
    by_cases c7 : t298 = true
    ·
     subst c7
     rw [if_pos rfl] at H
     by_cases c8 : x5_1 > 0
     ·
      rw [if_pos c8] at H
      have c8b0 : decide (0 < x5_1) = true := decide_eq_true c8; clear c8; obtain ⟨ji9, hji9⟩ : ∃ j_ : Int, (wrap64 (x5_1 - 1)) = j_ := ⟨_, rfl⟩
      replace H : (if 0 ≤ (ji9) then (if (ji9) < (l1.length : Int) then ((spec_l10Before.f ((rd_T26 l1 (ji9)).f0) ((rd_T26 l1 (ji9)).f1) ((rd_T26 l1 (ji9)).f2) ((rd_T26 l1 x5_1).f0) ((rd_T26 l1 x5_1).f1) ((rd_T26 l1 x5_1).f2)).bind fun t301 => (if t301 = true then (spec_TableOk.l0 k1 l1 (wrap64 (x5_1 + 1)) a0_0 a0_1) else (some false))) else (none)) else (none)) = some r := by first | (rw [hji9] at H; exact H) | (simp only [hji9] at H ⊢; exact H)
      (try rw [hji9] at A6)
      have hji9w : (IntKind.i64.wrap (x5_1 - 1)) = ji9 := (i64_w _).trans hji9
      by_cases c10 : 0 ≤ (ji9)
      rotate_left
      ·
       rw [if_neg c10] at H
       exact absurd H (by simp)
      rw [if_pos c10] at H
      have c10b0 : decide (0 ≤ (ji9)) = true := decide_eq_true c10; clear c10
      by_cases c11 : (ji9) < (l1.length : Int)
      rotate_left
      ·
       rw [if_neg c11] at H
       exact absurd H (by simp)
      rw [if_pos c11] at H
      have c11b0 : decide ((ji9) < (l1.length : Int)) = true := decide_eq_true c11; clear c11; obtain ⟨t301, A120, H⟩ := Option.bind_eq_some_iff.mp H
      try dsimp only at H
      have A12 := Aside0.mk A120; clear A120
      by_cases c13 : t301 = true
      ·
       subst c13
       rw [if_pos rfl] at H
       have H' := Aside0.mk H; clear H
       try go_wp2
       replace BK296 := Aside0.mk (blk_drew BK296.out); replace HB := Aside0.mk (below_drew1 HB.out); have p297 : 0 ≤ (x5_1 : Int) := of_decide_eq_true y0_20; have q297 : x5_1 < (l1.length : Int) := of_decide_eq_true y0_20; obtain ⟨ad297, A297_2, c297_2, e297, hx297_0, hx297_1, hx297_2, hl297_2, hi297_2⟩ := at_T26 HR1.out x5_1 p297 q297; have hw297_2 := hx297_2; have hw297_1 := hx297_1; have hw297_0 := hx297_0; cases e297; replace hx297_0 := bx HB hx297_0; replace hx297_1 := bx HB hx297_1; replace hx297_2 := bx HB hx297_2; have HR297_2 := Aside0.mk hi297_2; have HC297_2 := Aside0.mk hl297_2; clear hi297_2 hl297_2; replace p297 := eq_true p297; replace q297 := eq_true q297; have p299 : 0 ≤ ((ji9) : Int) := of_decide_eq_true y0_20; have q299 : (ji9) < (l1.length : Int) := of_decide_eq_true y0_20; obtain ⟨ad299, A299_2, c299_2, e299, hx299_0, hx299_1, hx299_2, hl299_2, hi299_2⟩ := at_T26 HR1.out (ji9) p299 q299; have hw299_2 := hx299_2; have hw299_1 := hx299_1; have hw299_0 := hx299_0
       obtain rfl : ad297 = ad299 := (by injection e299)
       replace hx299_0 := bx HB hx299_0; replace hx299_1 := bx HB hx299_1; replace hx299_2 := bx HB hx299_2; have HR299_2 := Aside0.mk hi299_2; have HC299_2 := Aside0.mk hl299_2; clear hi299_2 hl299_2; replace p299 := eq_true p299; replace q299 := eq_true q299; have p300 : 0 ≤ (x5_1 : Int) := of_decide_eq_true y0_20; have q300 : x5_1 < (l1.length : Int) := of_decide_eq_true y0_20; have hx300_0 := hw297_0; have hx300_1 := hw297_1; have hx300_2 := hw297_2; have hl300_2 := HC297_2.out; have hi300_2 := HR297_2.out; have hw300_2 := hx300_2; have hw300_1 := hx300_1; have hw300_0 := hx300_0; replace hx300_0 := bx HB hx300_0; replace hx300_1 := bx HB hx300_1; replace hx300_2 := bx HB hx300_2; have HR300_2 := Aside0.mk hi300_2; have HC300_2 := Aside0.mk hl300_2; clear hi300_2 hl300_2; replace p300 := eq_true p300; replace q300 := eq_true q300
       refine start_ (n := 24) (S := fun w' => w'.cell? ⟨gb296, 0, none⟩ = some (.int .i64 a0_0) ∧ w'.cell? ⟨gb296, 1, none⟩ = some (.int .i64 a0_1) ∧ w'.cell? (ad297.add ((x5_1).toNat * 3)) = some (.int .i64 ((rd_T26 l1 x5_1).f0)) ∧ w'.cell? ⟨(ad297.add ((x5_1).toNat * 3)).block, (ad297.add ((x5_1).toNat * 3)).off + 1, none⟩ = some (.string ((rd_T26 l1 x5_1).f1)) ∧ w'.cell? ⟨(ad297.add ((x5_1).toNat * 3)).block, (ad297.add ((x5_1).toNat * 3)).off + 2, none⟩ = some (.slice A297_2 ((rd_T26 l1 x5_1).f2).length c297_2) ∧ w'.cell? (ad297.add (((ji9)).toNat * 3)) = some (.int .i64 ((rd_T26 l1 (ji9)).f0)) ∧ w'.cell? ⟨(ad297.add (((ji9)).toNat * 3)).block, (ad297.add (((ji9)).toNat * 3)).off + 1, none⟩ = some (.string ((rd_T26 l1 (ji9)).f1)) ∧ w'.cell? ⟨(ad297.add (((ji9)).toNat * 3)).block, (ad297.add (((ji9)).toNat * 3)).off + 2, none⟩ = some (.slice A299_2 ((rd_T26 l1 (ji9)).f2).length c299_2) ∧ w'.cell? (ad297.add ((x5_1).toNat * 3)) = some (.int .i64 ((rd_T26 l1 x5_1).f0)) ∧ w'.cell? ⟨(ad297.add ((x5_1).toNat * 3)).block, (ad297.add ((x5_1).toNat * 3)).off + 1, none⟩ = some (.string ((rd_T26 l1 x5_1).f1)) ∧ w'.cell? ⟨(ad297.add ((x5_1).toNat * 3)).block, (ad297.add ((x5_1).toNat * 3)).off + 2, none⟩ = some (.slice A297_2 ((rd_T26 l1 x5_1).f2).length c297_2)) (ds := []) #[false, false, false, false, false, false, false, false, false, false, false, false, false, false, false, false, false, false, false, false, false, false, false, false] (by kernel_rfl) rfl rfl ⟨bc0 BK296.out, bc1 BK296.out, (bx HB hw297_0), (bx HB hw297_1), (bx HB hw297_2), (bx HB hw299_0), (bx HB hw299_1), (bx HB hw299_2), (bx HB hw300_0), (bx HB hw300_1), (bx HB hw300_2)⟩ (fun hHeld => ?_); refine with_tabW spec_TableOk.tab4 spec_TableOk.bits4 (fun HT_ HW_ => ?_)
       generalize wr.drew = w14 at BK296 HB HR297_2 HR299_2 HR300_2 hx297_0 hx297_1 hx297_2 hx299_0 hx299_1 hx299_2 hx300_0 hx300_1 hx300_2 hHeld ⊢
       refine pA 1 (some 13) (bz 24 2) HT_ ?_
       refine pA 2 (some 14) (bz 24 6) HT_ ?_
       refine pA 3 (some 15) (bz 24 14) HT_ ?_
       refine tA 0 (some 12) (bz 24 15) HT_ HW_ hHeld ?_
       refine tA 4 (some 16) (bz 24 31) HT_ HW_ hHeld ?_
       refine oA 5 (some 17) (bz 24 63) HT_ (fun K hK => ?_)
       refine gA Try.func65 #[.agg #[.int .i64 a0_0, .int .i64 a0_1], .agg #[.int .i64 ((rd_T26 l1 x5_1).f0), .string ((rd_T26 l1 x5_1).f1), .slice A297_2 ((rd_T26 l1 x5_1).f2).length c297_2]] ?_
       with_reducible refine (spec_PartOk.calls k1 a0_0 a0_1 ((rd_T26 l1 x5_1).f0) ((rd_T26 l1 x5_1).f1) _ _ ((rd_T26 l1 x5_1).f2) true _ ?side1 ?side2 A6.out).mono ?_
       (case side1 => exact ch HR297_2 HB)
       (case side2 => exact HC297_2.out)
       rintro e w15 ⟨rfl, hb⟩
       refine ⟨_, rfl, ?_⟩
       replace BK296 := bk BK296 hb; replace HB := bs HB hb
       (try clear hb)
       (try clear hb2)
       (try clear hk)
       (try clear hi)
       refine hK.out _ _ ⟨bc0 BK296.out, bc1 BK296.out, (bx HB hw297_0), (bx HB hw297_1), (bx HB hw297_2), (bx HB hw299_0), (bx HB hw299_1), (bx HB hw299_2), (bx HB hw300_0), (bx HB hw300_1), (bx HB hw300_2)⟩ (fun hHeld => ?_)
       clear hK K
       refine nA (some 17) ?_
       refine pA 6 (some 18) (bz 24 127) HT_ ?_
       refine pA 7 (some 19) (bz 24 255) HT_ ?_
       refine pA 8 (some 20) (bz 24 511) HT_ ?_
       refine pA 9 (some 21) (bz 24 1023) HT_ ?_
       refine pA 10 (some 22) (bz 24 2047) HT_ ?_
       refine pA 11 (some 23) (bz 24 4095) HT_ ?_
       refine pA 12 (some 24) (bz 24 0x1fff) HT_ ?_
       refine pA 13 (some 25) (bz 24 0x3fff) HT_ ?_
       refine pA 14 (some 26) (bz 24 0x7fff) HT_ ?_
       refine pA 16 (some 28) (bz 24 0x17fff) HT_ ?_
       refine pA 17 (some 29) (bz 24 0x37fff) HT_ ?_
       refine pA 18 (some 30) (bz 24 0x77fff) HT_ ?_
       refine tA 15 (some 27) (bz 24 0x7ffff) HT_ HW_ hHeld ?_
       refine tA 19 (some 31) (bz 24 0xfffff) HT_ HW_ hHeld ?_
       refine oA 20 (some 32) (bz 24 0x1fffff) HT_ (fun K hK => ?_)
       refine goes_ Try.func63 (by kernel_rfl) rfl #[.agg #[.int .i64 ((rd_T26 l1 (ji9)).f0), .string ((rd_T26 l1 (ji9)).f1), .slice A299_2 ((rd_T26 l1 (ji9)).f2).length c299_2], .agg #[.int .i64 ((rd_T26 l1 x5_1).f0), .string ((rd_T26 l1 x5_1).f1), .slice A297_2 ((rd_T26 l1 x5_1).f2).length c297_2]] (by rfl) rfl rfl (by (try simp only [List.map_toArray, List.map_cons, List.map_nil]); first | done | (simp only [hji9]; rfl) | rfl | (simp only [List.length_drop, List.length_take]; rfl)) ?_
       with_reducible refine (spec_l10Before.calls ((rd_T26 l1 (ji9)).f0) ((rd_T26 l1 (ji9)).f1) _ _ ((rd_T26 l1 (ji9)).f2) ((rd_T26 l1 x5_1).f0) ((rd_T26 l1 x5_1).f1) _ _ ((rd_T26 l1 x5_1).f2) true _ ?side1 ?side2 ?side3 ?side4 A12.out).mono ?_
       (case side1 => exact ch HR299_2 HB)
       (case side2 => exact HC299_2.out)
       (case side3 => exact ch HR300_2 HB)
       (case side4 => exact HC300_2.out)
       rintro e w16 ⟨rfl, hb⟩
       refine ⟨_, rfl, ?_⟩
       replace BK296 := bk BK296 hb; replace HB := bs HB hb
       (try clear hb)
       (try clear hb2)
       (try clear hk)
       (try clear hi)
       refine hK.out _ _ ⟨bc0 BK296.out, bc1 BK296.out, (bx HB hw297_0), (bx HB hw297_1), (bx HB hw297_2), (bx HB hw299_0), (bx HB hw299_1), (bx HB hw299_2), (bx HB hw300_0), (bx HB hw300_1), (bx HB hw300_2)⟩ (fun hHeld => ?_)
       clear hK K
       refine nA (some 32) ?_
       refine pA 21 (some 33) (bz 24 0x3fffff) HT_ ?_
       refine pA 22 (some 34) (bz 24 0x7fffff) HT_ ?_
       refine pA 23 (some 35) (bz 24 0xffffff) HT_ ?_
       refine done_ (done_of HT_.out (by kernel_rfl)) ?_
       try go_wp2
       go_roundg k1
       case measure => have := HK1.out; omega
       case rel => exact ⟨(wrap64 (x5_1 + 1)), y0_21, H', ⟨y0_25⟩, ⟨gI BK296.out⟩, ⟨bI HB.out⟩⟩
      replace c13 := Bool.eq_false_iff.mpr c13; subst c13
      rw [if_neg (show ¬ (false = true) by decide)] at H
      obtain rfl := Option.some.inj H
      try go_wp2
      replace BK296 := Aside0.mk (blk_drew BK296.out); replace HB := Aside0.mk (below_drew1 HB.out); have p297 : 0 ≤ (x5_1 : Int) := of_decide_eq_true y0_20; have q297 : x5_1 < (l1.length : Int) := of_decide_eq_true y0_20; obtain ⟨ad297, A297_2, c297_2, e297, hx297_0, hx297_1, hx297_2, hl297_2, hi297_2⟩ := at_T26 HR1.out x5_1 p297 q297; have hw297_2 := hx297_2; have hw297_1 := hx297_1; have hw297_0 := hx297_0; cases e297; replace hx297_0 := bx HB hx297_0; replace hx297_1 := bx HB hx297_1; replace hx297_2 := bx HB hx297_2; have HR297_2 := Aside0.mk hi297_2; have HC297_2 := Aside0.mk hl297_2; clear hi297_2 hl297_2; replace p297 := eq_true p297; replace q297 := eq_true q297; have p299 : 0 ≤ ((ji9) : Int) := of_decide_eq_true y0_20; have q299 : (ji9) < (l1.length : Int) := of_decide_eq_true y0_20; obtain ⟨ad299, A299_2, c299_2, e299, hx299_0, hx299_1, hx299_2, hl299_2, hi299_2⟩ := at_T26 HR1.out (ji9) p299 q299; have hw299_2 := hx299_2; have hw299_1 := hx299_1; have hw299_0 := hx299_0
      obtain rfl : ad297 = ad299 := (by injection e299)
      replace hx299_0 := bx HB hx299_0; replace hx299_1 := bx HB hx299_1; replace hx299_2 := bx HB hx299_2; have HR299_2 := Aside0.mk hi299_2; have HC299_2 := Aside0.mk hl299_2; clear hi299_2 hl299_2; replace p299 := eq_true p299; replace q299 := eq_true q299; have p300 : 0 ≤ (x5_1 : Int) := of_decide_eq_true y0_20; have q300 : x5_1 < (l1.length : Int) := of_decide_eq_true y0_20; have hx300_0 := hw297_0; have hx300_1 := hw297_1; have hx300_2 := hw297_2; have hl300_2 := HC297_2.out; have hi300_2 := HR297_2.out; have hw300_2 := hx300_2; have hw300_1 := hx300_1; have hw300_0 := hx300_0; replace hx300_0 := bx HB hx300_0; replace hx300_1 := bx HB hx300_1; replace hx300_2 := bx HB hx300_2; have HR300_2 := Aside0.mk hi300_2; have HC300_2 := Aside0.mk hl300_2; clear hi300_2 hl300_2; replace p300 := eq_true p300; replace q300 := eq_true q300
      refine start_ (n := 24) (S := fun w' => w'.cell? ⟨gb296, 0, none⟩ = some (.int .i64 a0_0) ∧ w'.cell? ⟨gb296, 1, none⟩ = some (.int .i64 a0_1) ∧ w'.cell? (ad297.add ((x5_1).toNat * 3)) = some (.int .i64 ((rd_T26 l1 x5_1).f0)) ∧ w'.cell? ⟨(ad297.add ((x5_1).toNat * 3)).block, (ad297.add ((x5_1).toNat * 3)).off + 1, none⟩ = some (.string ((rd_T26 l1 x5_1).f1)) ∧ w'.cell? ⟨(ad297.add ((x5_1).toNat * 3)).block, (ad297.add ((x5_1).toNat * 3)).off + 2, none⟩ = some (.slice A297_2 ((rd_T26 l1 x5_1).f2).length c297_2) ∧ w'.cell? (ad297.add (((ji9)).toNat * 3)) = some (.int .i64 ((rd_T26 l1 (ji9)).f0)) ∧ w'.cell? ⟨(ad297.add (((ji9)).toNat * 3)).block, (ad297.add (((ji9)).toNat * 3)).off + 1, none⟩ = some (.string ((rd_T26 l1 (ji9)).f1)) ∧ w'.cell? ⟨(ad297.add (((ji9)).toNat * 3)).block, (ad297.add (((ji9)).toNat * 3)).off + 2, none⟩ = some (.slice A299_2 ((rd_T26 l1 (ji9)).f2).length c299_2) ∧ w'.cell? (ad297.add ((x5_1).toNat * 3)) = some (.int .i64 ((rd_T26 l1 x5_1).f0)) ∧ w'.cell? ⟨(ad297.add ((x5_1).toNat * 3)).block, (ad297.add ((x5_1).toNat * 3)).off + 1, none⟩ = some (.string ((rd_T26 l1 x5_1).f1)) ∧ w'.cell? ⟨(ad297.add ((x5_1).toNat * 3)).block, (ad297.add ((x5_1).toNat * 3)).off + 2, none⟩ = some (.slice A297_2 ((rd_T26 l1 x5_1).f2).length c297_2)) (ds := []) #[false, false, false, false, false, false, false, false, false, false, false, false, false, false, false, false, false, false, false, false, false, false, false, false] (by kernel_rfl) rfl rfl ⟨bc0 BK296.out, bc1 BK296.out, (bx HB hw297_0), (bx HB hw297_1), (bx HB hw297_2), (bx HB hw299_0), (bx HB hw299_1), (bx HB hw299_2), (bx HB hw300_0), (bx HB hw300_1), (bx HB hw300_2)⟩ (fun hHeld => ?_); refine with_tabW spec_TableOk.tab4 spec_TableOk.bits4 (fun HT_ HW_ => ?_)
      generalize wr.drew = w17 at BK296 HB HR297_2 HR299_2 HR300_2 hx297_0 hx297_1 hx297_2 hx299_0 hx299_1 hx299_2 hx300_0 hx300_1 hx300_2 hHeld ⊢
      refine pA 1 (some 13) (bz 24 2) HT_ ?_
      refine pA 2 (some 14) (bz 24 6) HT_ ?_
      refine pA 3 (some 15) (bz 24 14) HT_ ?_
      refine tA 0 (some 12) (bz 24 15) HT_ HW_ hHeld ?_
      refine tA 4 (some 16) (bz 24 31) HT_ HW_ hHeld ?_
      refine oA 5 (some 17) (bz 24 63) HT_ (fun K hK => ?_)
      refine gA Try.func65 #[.agg #[.int .i64 a0_0, .int .i64 a0_1], .agg #[.int .i64 ((rd_T26 l1 x5_1).f0), .string ((rd_T26 l1 x5_1).f1), .slice A297_2 ((rd_T26 l1 x5_1).f2).length c297_2]] ?_
      with_reducible refine (spec_PartOk.calls k1 a0_0 a0_1 ((rd_T26 l1 x5_1).f0) ((rd_T26 l1 x5_1).f1) _ _ ((rd_T26 l1 x5_1).f2) true _ ?side1 ?side2 A6.out).mono ?_
      (case side1 => exact ch HR297_2 HB)
      (case side2 => exact HC297_2.out)
      rintro e w18 ⟨rfl, hb⟩
      refine ⟨_, rfl, ?_⟩
      replace BK296 := bk BK296 hb; replace HB := bs HB hb
      (try clear hb)
      (try clear hb2)
      (try clear hk)
      (try clear hi)
      refine hK.out _ _ ⟨bc0 BK296.out, bc1 BK296.out, (bx HB hw297_0), (bx HB hw297_1), (bx HB hw297_2), (bx HB hw299_0), (bx HB hw299_1), (bx HB hw299_2), (bx HB hw300_0), (bx HB hw300_1), (bx HB hw300_2)⟩ (fun hHeld => ?_)
      clear hK K
      refine nA (some 17) ?_
      refine pA 6 (some 18) (bz 24 127) HT_ ?_
      refine pA 7 (some 19) (bz 24 255) HT_ ?_
      refine pA 8 (some 20) (bz 24 511) HT_ ?_
      refine pA 9 (some 21) (bz 24 1023) HT_ ?_
      refine pA 10 (some 22) (bz 24 2047) HT_ ?_
      refine pA 11 (some 23) (bz 24 4095) HT_ ?_
      refine pA 12 (some 24) (bz 24 0x1fff) HT_ ?_
      refine pA 13 (some 25) (bz 24 0x3fff) HT_ ?_
      refine pA 14 (some 26) (bz 24 0x7fff) HT_ ?_
      refine pA 16 (some 28) (bz 24 0x17fff) HT_ ?_
      refine pA 17 (some 29) (bz 24 0x37fff) HT_ ?_
      refine pA 18 (some 30) (bz 24 0x77fff) HT_ ?_
      refine tA 15 (some 27) (bz 24 0x7ffff) HT_ HW_ hHeld ?_
      refine tA 19 (some 31) (bz 24 0xfffff) HT_ HW_ hHeld ?_
      refine oA 20 (some 32) (bz 24 0x1fffff) HT_ (fun K hK => ?_)
      refine goes_ Try.func63 (by kernel_rfl) rfl #[.agg #[.int .i64 ((rd_T26 l1 (ji9)).f0), .string ((rd_T26 l1 (ji9)).f1), .slice A299_2 ((rd_T26 l1 (ji9)).f2).length c299_2], .agg #[.int .i64 ((rd_T26 l1 x5_1).f0), .string ((rd_T26 l1 x5_1).f1), .slice A297_2 ((rd_T26 l1 x5_1).f2).length c297_2]] (by rfl) rfl rfl (by (try simp only [List.map_toArray, List.map_cons, List.map_nil]); first | done | (simp only [hji9]; rfl) | rfl | (simp only [List.length_drop, List.length_take]; rfl)) ?_
      with_reducible refine (spec_l10Before.calls ((rd_T26 l1 (ji9)).f0) ((rd_T26 l1 (ji9)).f1) _ _ ((rd_T26 l1 (ji9)).f2) ((rd_T26 l1 x5_1).f0) ((rd_T26 l1 x5_1).f1) _ _ ((rd_T26 l1 x5_1).f2) false _ ?side1 ?side2 ?side3 ?side4 A12.out).mono ?_
      (case side1 => exact ch HR299_2 HB)
      (case side2 => exact HC299_2.out)
      (case side3 => exact ch HR300_2 HB)
      (case side4 => exact HC300_2.out)
      rintro e w19 ⟨rfl, hb⟩
      refine ⟨_, rfl, ?_⟩
      replace BK296 := bk BK296 hb; replace HB := bs HB hb
      (try clear hb)
      (try clear hb2)
      (try clear hk)
      (try clear hi)
      refine hK.out _ _ ⟨bc0 BK296.out, bc1 BK296.out, (bx HB hw297_0), (bx HB hw297_1), (bx HB hw297_2), (bx HB hw299_0), (bx HB hw299_1), (bx HB hw299_2), (bx HB hw300_0), (bx HB hw300_1), (bx HB hw300_2)⟩ (fun hHeld => ?_)
      clear hK K
      refine nA (some 32) ?_
      refine pA 21 (some 33) (bz 24 0x3fffff) HT_ ?_
      refine pA 22 (some 34) (bz 24 0x7fffff) HT_ ?_
      refine pA 23 (some 35) (bz 24 0xffffff) HT_ ?_
      refine done_ (done_of HT_.out (by kernel_rfl)) ?_
      try go_wp2
      go_ret
      exact ⟨by first | rfl | (simp [errW_none, errW_some] <;> rfl) | (simp only [← hji9]; first | rfl | (simp [errW_none, errW_some] <;> rfl)) | (simp [*, errW_none, errW_some] <;> rfl), bI HB.out⟩
     rw [if_neg c8] at H
     have c8b0 : decide (0 < x5_1) = false := decide_eq_false c8; clear c8; have H' := Aside0.mk H; clear H
     try go_wp2
     replace BK296 := Aside0.mk (blk_drew BK296.out); replace HB := Aside0.mk (below_drew1 HB.out); have p297 : 0 ≤ (x5_1 : Int) := of_decide_eq_true y0_20; have q297 : x5_1 < (l1.length : Int) := of_decide_eq_true y0_20; obtain ⟨ad297, A297_2, c297_2, e297, hx297_0, hx297_1, hx297_2, hl297_2, hi297_2⟩ := at_T26 HR1.out x5_1 p297 q297; have hw297_2 := hx297_2; have hw297_1 := hx297_1; have hw297_0 := hx297_0; cases e297; replace hx297_0 := bx HB hx297_0; replace hx297_1 := bx HB hx297_1; replace hx297_2 := bx HB hx297_2; have HR297_2 := Aside0.mk hi297_2; have HC297_2 := Aside0.mk hl297_2; clear hi297_2 hl297_2; replace p297 := eq_true p297; replace q297 := eq_true q297
     refine start_ (n := 24) (S := fun w' => w'.cell? ⟨gb296, 0, none⟩ = some (.int .i64 a0_0) ∧ w'.cell? ⟨gb296, 1, none⟩ = some (.int .i64 a0_1) ∧ w'.cell? (ad297.add ((x5_1).toNat * 3)) = some (.int .i64 ((rd_T26 l1 x5_1).f0)) ∧ w'.cell? ⟨(ad297.add ((x5_1).toNat * 3)).block, (ad297.add ((x5_1).toNat * 3)).off + 1, none⟩ = some (.string ((rd_T26 l1 x5_1).f1)) ∧ w'.cell? ⟨(ad297.add ((x5_1).toNat * 3)).block, (ad297.add ((x5_1).toNat * 3)).off + 2, none⟩ = some (.slice A297_2 ((rd_T26 l1 x5_1).f2).length c297_2)) (ds := []) #[false, false, false, false, false, false, false, false, false, false, false, false, false, false, false, false, false, false, false, false, false, false, false, false] (by kernel_rfl) rfl rfl ⟨bc0 BK296.out, bc1 BK296.out, (bx HB hw297_0), (bx HB hw297_1), (bx HB hw297_2)⟩ (fun hHeld => ?_); refine with_tabW spec_TableOk.tab4 spec_TableOk.bits4 (fun HT_ HW_ => ?_)
     generalize wr.drew = w20 at BK296 HB HR297_2 hx297_0 hx297_1 hx297_2 hHeld ⊢
     refine pA 1 (some 13) (bz 24 2) HT_ ?_
     refine pA 2 (some 14) (bz 24 6) HT_ ?_
     refine pA 3 (some 15) (bz 24 14) HT_ ?_
     refine tA 0 (some 12) (bz 24 15) HT_ HW_ hHeld ?_
     refine tA 4 (some 16) (bz 24 31) HT_ HW_ hHeld ?_
     refine oA 5 (some 17) (bz 24 63) HT_ (fun K hK => ?_)
     refine gA Try.func65 #[.agg #[.int .i64 a0_0, .int .i64 a0_1], .agg #[.int .i64 ((rd_T26 l1 x5_1).f0), .string ((rd_T26 l1 x5_1).f1), .slice A297_2 ((rd_T26 l1 x5_1).f2).length c297_2]] ?_
     with_reducible refine (spec_PartOk.calls k1 a0_0 a0_1 ((rd_T26 l1 x5_1).f0) ((rd_T26 l1 x5_1).f1) _ _ ((rd_T26 l1 x5_1).f2) true _ ?side1 ?side2 A6.out).mono ?_
     (case side1 => exact ch HR297_2 HB)
     (case side2 => exact HC297_2.out)
     rintro e w21 ⟨rfl, hb⟩
     refine ⟨_, rfl, ?_⟩
     replace BK296 := bk BK296 hb; replace HB := bs HB hb
     (try clear hb)
     (try clear hb2)
     (try clear hk)
     (try clear hi)
     refine hK.out _ _ ⟨bc0 BK296.out, bc1 BK296.out, (bx HB hw297_0), (bx HB hw297_1), (bx HB hw297_2)⟩ (fun hHeld => ?_)
     clear hK K
     refine nA (some 17) ?_
     refine pA 6 (some 18) (bz 24 127) HT_ ?_
     refine pA 7 (some 19) (bz 24 255) HT_ ?_
     refine pA 8 (some 20) (bz 24 511) HT_ ?_
     refine pA 9 (some 21) (bz 24 1023) HT_ ?_
     refine pA 10 (some 22) (bz 24 2047) HT_ ?_
     refine pU 11 (some 23) (bz 24 4095) HT_ ?_
     refine pU 12 (some 24) (bz 24 0x1fff) HT_ ?_
     refine pU 13 (some 25) (bz 24 0x3fff) HT_ ?_
     refine pU 14 (some 26) (bz 24 0x7fff) HT_ ?_
     refine pU 15 (some 27) (bz 24 0xffff) HT_ ?_
     refine pU 16 (some 28) (bz 24 0x1ffff) HT_ ?_
     refine pU 17 (some 29) (bz 24 0x3ffff) HT_ ?_
     refine pU 18 (some 30) (bz 24 0x7ffff) HT_ ?_
     refine pU 19 (some 31) (bz 24 0xfffff) HT_ ?_
     refine pU 20 (some 32) (bz 24 0x1fffff) HT_ ?_
     refine pU 21 (some 33) (bz 24 0x3fffff) HT_ ?_
     refine pA 22 (some 34) (bz 24 0x7fffff) HT_ ?_
     refine pA 23 (some 35) (bz 24 0xffffff) HT_ ?_
     refine done_ (done_of HT_.out (by kernel_rfl)) ?_
     try go_wp2
     go_roundg k1
     case measure => have := HK1.out; omega
     case rel => exact ⟨(wrap64 (x5_1 + 1)), y0_21, H', ⟨y0_25⟩, ⟨gI BK296.out⟩, ⟨bI HB.out⟩⟩
    replace c7 := Bool.eq_false_iff.mpr c7; subst c7
    rw [if_neg (show ¬ (false = true) by decide)] at H
    obtain rfl := Option.some.inj H
    try go_wp2
    replace BK296 := Aside0.mk (blk_drew BK296.out); replace HB := Aside0.mk (below_drew1 HB.out); have p297 : 0 ≤ (x5_1 : Int) := of_decide_eq_true y0_20; have q297 : x5_1 < (l1.length : Int) := of_decide_eq_true y0_20; obtain ⟨ad297, A297_2, c297_2, e297, hx297_0, hx297_1, hx297_2, hl297_2, hi297_2⟩ := at_T26 HR1.out x5_1 p297 q297; have hw297_2 := hx297_2; have hw297_1 := hx297_1; have hw297_0 := hx297_0; cases e297; replace hx297_0 := bx HB hx297_0; replace hx297_1 := bx HB hx297_1; replace hx297_2 := bx HB hx297_2; have HR297_2 := Aside0.mk hi297_2; have HC297_2 := Aside0.mk hl297_2; clear hi297_2 hl297_2; replace p297 := eq_true p297; replace q297 := eq_true q297
    refine start_ (n := 24) (S := fun w' => w'.cell? ⟨gb296, 0, none⟩ = some (.int .i64 a0_0) ∧ w'.cell? ⟨gb296, 1, none⟩ = some (.int .i64 a0_1) ∧ w'.cell? (ad297.add ((x5_1).toNat * 3)) = some (.int .i64 ((rd_T26 l1 x5_1).f0)) ∧ w'.cell? ⟨(ad297.add ((x5_1).toNat * 3)).block, (ad297.add ((x5_1).toNat * 3)).off + 1, none⟩ = some (.string ((rd_T26 l1 x5_1).f1)) ∧ w'.cell? ⟨(ad297.add ((x5_1).toNat * 3)).block, (ad297.add ((x5_1).toNat * 3)).off + 2, none⟩ = some (.slice A297_2 ((rd_T26 l1 x5_1).f2).length c297_2)) (ds := []) #[false, false, false, false, false, false, false, false, false, false, false, false, false, false, false, false, false, false, false, false, false, false, false, false] (by kernel_rfl) rfl rfl ⟨bc0 BK296.out, bc1 BK296.out, (bx HB hw297_0), (bx HB hw297_1), (bx HB hw297_2)⟩ (fun hHeld => ?_); refine with_tabW spec_TableOk.tab4 spec_TableOk.bits4 (fun HT_ HW_ => ?_)
    generalize wr.drew = w22 at BK296 HB HR297_2 hx297_0 hx297_1 hx297_2 hHeld ⊢
    refine pA 1 (some 13) (bz 24 2) HT_ ?_
    refine pA 2 (some 14) (bz 24 6) HT_ ?_
    refine pA 3 (some 15) (bz 24 14) HT_ ?_
    refine tA 0 (some 12) (bz 24 15) HT_ HW_ hHeld ?_
    refine tA 4 (some 16) (bz 24 31) HT_ HW_ hHeld ?_
    refine oA 5 (some 17) (bz 24 63) HT_ (fun K hK => ?_)
    refine gA Try.func65 #[.agg #[.int .i64 a0_0, .int .i64 a0_1], .agg #[.int .i64 ((rd_T26 l1 x5_1).f0), .string ((rd_T26 l1 x5_1).f1), .slice A297_2 ((rd_T26 l1 x5_1).f2).length c297_2]] ?_
    with_reducible refine (spec_PartOk.calls k1 a0_0 a0_1 ((rd_T26 l1 x5_1).f0) ((rd_T26 l1 x5_1).f1) _ _ ((rd_T26 l1 x5_1).f2) false _ ?side1 ?side2 A6.out).mono ?_
    (case side1 => exact ch HR297_2 HB)
    (case side2 => exact HC297_2.out)
    rintro e w23 ⟨rfl, hb⟩
    refine ⟨_, rfl, ?_⟩
    replace BK296 := bk BK296 hb; replace HB := bs HB hb
    (try clear hb)
    (try clear hb2)
    (try clear hk)
    (try clear hi)
    refine hK.out _ _ ⟨bc0 BK296.out, bc1 BK296.out, (bx HB hw297_0), (bx HB hw297_1), (bx HB hw297_2)⟩ (fun hHeld => ?_)
    clear hK K
    refine nA (some 17) ?_
    refine pA 6 (some 18) (bz 24 127) HT_ ?_
    refine pA 7 (some 19) (bz 24 255) HT_ ?_
    refine pU 8 (some 20) (bz 24 511) HT_ ?_
    refine pU 9 (some 21) (bz 24 1023) HT_ ?_
    refine pU 10 (some 22) (bz 24 2047) HT_ ?_
    refine pU 11 (some 23) (bz 24 4095) HT_ ?_
    refine pU 12 (some 24) (bz 24 0x1fff) HT_ ?_
    refine pU 13 (some 25) (bz 24 0x3fff) HT_ ?_
    refine pU 14 (some 26) (bz 24 0x7fff) HT_ ?_
    refine pU 15 (some 27) (bz 24 0xffff) HT_ ?_
    refine pU 16 (some 28) (bz 24 0x1ffff) HT_ ?_
    refine pU 17 (some 29) (bz 24 0x3ffff) HT_ ?_
    refine pU 18 (some 30) (bz 24 0x7ffff) HT_ ?_
    refine pU 19 (some 31) (bz 24 0xfffff) HT_ ?_
    refine pU 20 (some 32) (bz 24 0x1fffff) HT_ ?_
    refine pU 21 (some 33) (bz 24 0x3fffff) HT_ ?_
    refine pU 22 (some 34) (bz 24 0x7fffff) HT_ ?_
    refine pA 23 (some 35) (bz 24 0xffffff) HT_ ?_
    refine done_ (done_of HT_.out (by kernel_rfl)) ?_
    try go_wp2
    go_ret
    exact ⟨y0_16, bI HB.out⟩
   rw [if_neg c4] at H
   have c4b0 : decide (x5_1 < (l1.length : Int)) = false := decide_eq_false c4; clear c4; obtain rfl := Option.some.inj H
   go_wp2
   go_ret
   exact ⟨y0_16, bI HB.out⟩

end Go.Proofs.Ytemjmefacifdeaa.PFnDropsBelow
