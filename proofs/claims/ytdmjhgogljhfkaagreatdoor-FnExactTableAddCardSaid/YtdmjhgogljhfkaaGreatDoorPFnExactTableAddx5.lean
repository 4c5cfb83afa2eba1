-- By a program of this session, out of the translation (the print of the kit, with turns of its own). Lean checks it.
import Derived.Test.YtdmjhgogljhfkaaGreatDoorPFnExactTableAddx0
import Derived.Test.YtdmjhgogljhfkaaGreatDoorPFnExactTableAddx4
namespace Go.Proofs.YtdmjhgogljhfkaaGreatDoor.PFnExactTableAdd
open Go.RowKit Go.Proofs.YtdmjhgogljhfkaaGreatDoorW.PrintWords Go.Proofs.YtdmjhgogljhfkaaGreatDoorW.PrintLast Go.Proofs.YtdmjhgogljhfkaaGreatDoorW.PrintMore
attribute [local go_sem] max2_int min2_int max_two min_two max_three min_three max_four min_four   -- for this text's walks alone
attribute [local go_sem] cell_in frozen_in cell_g cell_p
set_option synthInstance.maxSize 1000000
set_option synthInstance.maxHeartbeats 2000000
set_option linter.unusedVariables false
set_option linter.unusedSimpArgs false

/-! ### spec_TableOk: function 47 -/
def spec_TableOk.l0 : Nat → List (S48) → Int → Int → Int → Option (Bool)
 | 0, _, _, _, _ => none
 | k + 1, x1, x5, x277000, x277001 => if x5 < (x1.length : Int) then (if 0 ≤ x5 then ((spec_PartOk.f k x277000 x277001 ((rd_T48 x1 x5).f0) ((rd_T48 x1 x5).f1) ((rd_T48 x1 x5).f2)).bind fun t278 => (if t278 = true then (if x5 > 0 then (if 0 ≤ (wrap64 (x5 - 1)) then (if (wrap64 (x5 - 1)) < (x1.length : Int) then ((spec_l10Before.f ((rd_T48 x1 (wrap64 (x5 - 1))).f0) ((rd_T48 x1 (wrap64 (x5 - 1))).f1) ((rd_T48 x1 (wrap64 (x5 - 1))).f2) ((rd_T48 x1 x5).f0) ((rd_T48 x1 x5).f1) ((rd_T48 x1 x5).f2)).bind fun t281 => (if t281 = true then (spec_TableOk.l0 k x1 (wrap64 (x5 + 1)) x277000 x277001) else (some false))) else (none)) else (none)) else (spec_TableOk.l0 k x1 (wrap64 (x5 + 1)) x277000 x277001)) else (some false))) else (none)) else (some (decide ((x1.length : Int) ≤ 20)))
def spec_TableOk.f (k : Nat) (a0_0 : Int) (a0_1 : Int) (l1 : List (S48)) : Option (Bool) := spec_TableOk.l0 k l1 0 a0_0 a0_1
theorem spec_TableOk.mono_l : ∀ k, (∀ y0 y1 y2 y3, LeO (spec_TableOk.l0 k y0 y1 y2 y3) (spec_TableOk.l0 (k + 1) y0 y1 y2 y3))
 | 0 => fun _ _ _ _ r h => by simp [spec_TableOk.l0] at h
 | k + 1 => by
  have ih0 := spec_TableOk.mono_l k
  intro y0 y1 y2 y3
  unfold spec_TableOk.l0
  repeat' first | (with_reducible exact ih0 _ _ _ _) | (with_reducible exact spec_PartOk.mono _ _ _ _ _ _) | (with_reducible exact LeO.refl _) | (with_reducible exact LeO.none _) | (with_reducible refine LeO.ite ?_ ?_) | (with_reducible refine LeO.bind ?_ (fun _ => ?_))
theorem spec_TableOk.mono : ∀ a0 a1 a2 k, LeO (spec_TableOk.f k a0 a1 a2) (spec_TableOk.f (k + 1) a0 a1 a2) := by
 intro a0 a1 a2 k
 have ih0 := spec_TableOk.mono_l k
 unfold spec_TableOk.f
 repeat' first | (with_reducible exact ih0 _ _ _ _) | (with_reducible exact spec_PartOk.mono _ _ _ _ _ _) | (with_reducible exact LeO.refl _) | (with_reducible exact LeO.none _) | (with_reducible refine LeO.ite ?_ ?_) | (with_reducible refine LeO.bind ?_ (fun _ => ?_))
def spec_TableOk.T4 : Bool × List (List Nat × List Nat) := (true, [([], []), ([], []), ([], []), ([1, 2], [1, 2]), ([3], [3]), ([0, 4], [0, 4]), ([5], [5]), ([6, 5], [6]), ([7], [7]), ([8, 7], [7, 8]), ([9, 7, 7], [7, 9]), ([10], [10]), ([10], [10]), ([12, 10], [10, 12]), ([11, 13, 10], [10, 11, 13]), ([14, 10], [10, 14]), ([10], [10]), ([10], [10]), ([16, 17, 10], [10, 16, 17]), ([18, 10], [10, 18]), ([15, 19, 10, 10], [10, 15, 19]), ([20, 10], [10, 20]), ([10, 21, 7], [7, 10, 21]), ([7, 22], [7, 22])])
def spec_TableOk.B4 : List Nat := [0, 0, 0, 6, 14, 31, 63, 127, 255, 511, 1023, 2047, 2047, 6143, 16383, 32767, 2047, 2047, 198655, 460799, 1048575, 2097151, 4194303, 8388607]
theorem spec_TableOk.tab4 : rtab .any (opsOf Tryz.f47 4) = spec_TableOk.T4 := by kernel_rfl
theorem spec_TableOk.bits4 : waitsOk spec_TableOk.T4.2 spec_TableOk.B4 = true := by kernel_rfl
set_option maxHeartbeats 8000000 in
set_option maxRecDepth 100000 in
theorem spec_TableOk.calls (k : Nat) (a0_0 : Int) (a0_1 : Int) (A1 : Option Addr) (c1 : Nat) (l1 : List (S48)) (r : Bool) (w : World) (hr1 : Kd.C k48 w A1 l1.length l1) (hc1 : l1.length ≤ c1) (h : spec_TableOk.f k a0_0 a0_1 l1 = some r) :
  Calls Tryz.prog 47 #[.agg #[.int .i64 a0_0, .int .i64 a0_1], .slice A1 l1.length c1] w fun e w' => e = .returned (.bool r) ∧ Below w.heap.size w w' := by
 have hu32 := Tryz.underlying32; have hu48 := Tryz.underlying48; have HR1 := Aside0.mk hr1; have HC1 := Aside0.mk hc1; clear hr1 hc1; have HB := Aside0.mk (Below.refl w.heap.size w); have H := h; unfold spec_TableOk.f at H; clear h; have H' := Aside0.mk H; clear H
 go_enter Tryz.func47, Tryz.ntmps47
 go_wp2_with (first | ((with_reducible refine gd 2 ?_); refine bA 2 #[.int .i64 a0_0, .int .i64 a0_1] 32 ?_; intro gb276 hg w3 hbox hb; have BK276 := Aside0.mk (hbox); have GW276 := bg hg HB; have GJ276 := gi GW276; have GE276 := GW276; replace HB := bs HB hb; clear hb hbox hg))
 go_loopg [5] k (fun kq v5 w' => ∃ (x5_1 : Int), v5 = .int .i64 x5_1 ∧ Aside0 (spec_TableOk.l0 kq l1 x5_1 a0_0 a0_1 = some r) ∧ Aside0 (kq ≤ k) ∧ Aside0 (w'.heap[gb276]? = some (.cells #[.int .i64 a0_0, .int .i64 a0_1] 32 (0, 0))) ∧ Aside0 (Below w.heap.size w w'))
 case atStart => exact ⟨(0), y0_13, H', ⟨Nat.le_refl _⟩, ⟨gI BK276.out⟩, ⟨bI HB.out⟩⟩
 case round =>
  clear H'
  try clear c1
  try clear p2
  obtain ⟨x5_1, rfl, HA, HK1, BK276, HB⟩ := hrel; cases gk with
  | zero => exact absurd HA.out (by simp [spec_TableOk.l0])
  | succ k1 =>
   have H := HA.out; clear HA
   simp only [spec_TableOk.l0] at H
   by_cases c4 : x5_1 < (l1.length : Int)
   ·
    rw [if_pos c4] at H
    have c4b0 : decide (x5_1 < (l1.length : Int)) = true := decide_eq_true c4; clear c4
    by_cases c5 : 0 ≤ x5_1
    rotate_left
    ·
     rw [if_neg c5] at H
     exact absurd H (by simp)
    rw [if_pos c5] at H
    have c5b0 : decide (0 ≤ x5_1) = true := decide_eq_true c5; clear c5; obtain ⟨t278, A6, H⟩ := oB H; (try dsimp only at H)
    by_cases c7 : t278 = true
    ·
     subst c7
     rw [if_pos rfl] at H
     by_cases c8 : x5_1 > 0
     ·
      rw [if_pos c8] at H
      have c8b0 : decide (0 < x5_1) = true := decide_eq_true c8; clear c8; obtain ⟨ji9, hji9⟩ : ∃ j_ : Int, (wrap64 (x5_1 - 1)) = j_ := ⟨_, rfl⟩
      replace H : (if 0 ≤ (ji9) then (if (ji9) < (l1.length : Int) then ((spec_l10Before.f ((rd_T48 l1 (ji9)).f0) ((rd_T48 l1 (ji9)).f1) ((rd_T48 l1 (ji9)).f2) ((rd_T48 l1 x5_1).f0) ((rd_T48 l1 x5_1).f1) ((rd_T48 l1 x5_1).f2)).bind fun t281 => (if t281 = true then (spec_TableOk.l0 k1 l1 (wrap64 (x5_1 + 1)) a0_0 a0_1) else (some false))) else (none)) else (none)) = some r := by first | (rw [hji9] at H; exact H) | (simp only [hji9] at H ⊢; exact H)
      (try rw [hji9] at A6)
      have hji9w : (IntKind.i64.wrap (x5_1 - 1)) = ji9 := (i64_w _).trans hji9
      by_cases c10 : 0 ≤ (ji9)
      rotate_left
      ·
       rw [if_neg c10] at H
       exact absurd H (by simp)
      rw [if_pos c10] at H
      have c10b0 : decide (0 ≤ (ji9)) = true := decide_eq_true c10; clear c10
      by_cases c11 : (ji9) < (l1.length : Int)
      rotate_left
      ·
       rw [if_neg c11] at H
       exact absurd H (by simp)
      rw [if_pos c11] at H
      have c11b0 : decide ((ji9) < (l1.length : Int)) = true := decide_eq_true c11; clear c11; obtain ⟨t281, A12, H⟩ := oB H; (try dsimp only at H)
      by_cases c13 : t281 = true
      ·
       subst c13
       rw [if_pos rfl] at H
       have H' := Aside0.mk H; clear H
       try go_wp2
       replace BK276 := Aside0.mk (blk_drew BK276.out); replace HB := Aside0.mk (below_drew1 HB.out); have p277 : 0 ≤ (x5_1 : Int) := of_decide_eq_true y0_12; have q277 : x5_1 < (l1.length : Int) := of_decide_eq_true y0_12; obtain ⟨ad277, A277_2, c277_2, e277, hx277_0, hx277_1, hx277_2, hl277_2, hi277_2⟩ := at_T48 HR1.out x5_1 p277 q277; have hr277_2 := hx277_2; have hw277_2 := hx277_2; have hw277_1 := hx277_1; have hw277_0 := hx277_0; cases e277; replace hx277_0 := bx HB hx277_0; replace hx277_1 := bx HB hx277_1; replace hx277_2 := bx HB hx277_2; have HR277_2 := Aside0.mk hi277_2; have HC277_2 := Aside0.mk hl277_2; clear hi277_2 hl277_2; replace p277 := eq_true p277; replace q277 := eq_true q277; have p279 : 0 ≤ ((ji9) : Int) := of_decide_eq_true y0_12; have q279 : (ji9) < (l1.length : Int) := of_decide_eq_true y0_12; obtain ⟨ad279, A279_2, c279_2, e279, hx279_0, hx279_1, hx279_2, hl279_2, hi279_2⟩ := at_T48 HR1.out (ji9) p279 q279; have hr279_2 := hx279_2; have hw279_2 := hx279_2; have hw279_1 := hx279_1; have hw279_0 := hx279_0
       obtain rfl : ad277 = ad279 := (by injection e279)
       replace hx279_0 := bx HB hx279_0; replace hx279_1 := bx HB hx279_1; replace hx279_2 := bx HB hx279_2; have HR279_2 := Aside0.mk hi279_2; have HC279_2 := Aside0.mk hl279_2; clear hi279_2 hl279_2; replace p279 := eq_true p279; replace q279 := eq_true q279; have p280 : 0 ≤ (x5_1 : Int) := of_decide_eq_true y0_12; have q280 : x5_1 < (l1.length : Int) := of_decide_eq_true y0_12; have hx280_0 := hw277_0; have hx280_1 := hw277_1; have hx280_2 := hw277_2; have hl280_2 := HC277_2.out; have hi280_2 := HR277_2.out; have hw280_2 := hx280_2; have hw280_1 := hx280_1; have hw280_0 := hx280_0; replace hx280_0 := bx HB hx280_0; replace hx280_1 := bx HB hx280_1; replace hx280_2 := bx HB hx280_2; have HR280_2 := Aside0.mk hi280_2; have HC280_2 := Aside0.mk hl280_2; clear hi280_2 hl280_2; replace p280 := eq_true p280; replace q280 := eq_true q280
       refine start_ (n := 24) (S := fun w' => w'.cell? ⟨gb276, 0, none⟩ = some (.int .i64 a0_0) ∧ w'.cell? ⟨gb276, 1, none⟩ = some (.int .i64 a0_1) ∧ w'.cell? (ad277.add ((x5_1).toNat * 3)) = some (.int .i64 ((rd_T48 l1 x5_1).f0)) ∧ w'.cell? ⟨(ad277.add ((x5_1).toNat * 3)).block, (ad277.add ((x5_1).toNat * 3)).off + 1, none⟩ = some (.string ((rd_T48 l1 x5_1).f1)) ∧ w'.cell? ⟨(ad277.add ((x5_1).toNat * 3)).block, (ad277.add ((x5_1).toNat * 3)).off + 2, none⟩ = some (.slice A277_2 ((rd_T48 l1 x5_1).f2).length c277_2) ∧ w'.cell? (ad277.add (((ji9)).toNat * 3)) = some (.int .i64 ((rd_T48 l1 (ji9)).f0)) ∧ w'.cell? ⟨(ad277.add (((ji9)).toNat * 3)).block, (ad277.add (((ji9)).toNat * 3)).off + 1, none⟩ = some (.string ((rd_T48 l1 (ji9)).f1)) ∧ w'.cell? ⟨(ad277.add (((ji9)).toNat * 3)).block, (ad277.add (((ji9)).toNat * 3)).off + 2, none⟩ = some (.slice A279_2 ((rd_T48 l1 (ji9)).f2).length c279_2) ∧ w'.cell? (ad277.add ((x5_1).toNat * 3)) = some (.int .i64 ((rd_T48 l1 x5_1).f0)) ∧ w'.cell? ⟨(ad277.add ((x5_1).toNat * 3)).block, (ad277.add ((x5_1).toNat * 3)).off + 1, none⟩ = some (.string ((rd_T48 l1 x5_1).f1)) ∧ w'.cell? ⟨(ad277.add ((x5_1).toNat * 3)).block, (ad277.add ((x5_1).toNat * 3)).off + 2, none⟩ = some (.slice A277_2 ((rd_T48 l1 x5_1).f2).length c277_2)) (ds := []) #[false, false, false, false, false, false, false, false, false, false, false, false, false, false, false, false, false, false, false, false, false, false, false, false] (by kernel_rfl) rfl rfl ⟨bc0 BK276.out, bc1 BK276.out, (bx HB hw277_0), (bx HB hw277_1), (bx HB hw277_2), (bx HB hw279_0), (bx HB hw279_1), (bx HB hw279_2), (bx HB hw280_0), (bx HB hw280_1), (bx HB hw280_2)⟩ (fun hHeld => ?_); refine with_tabW spec_TableOk.tab4 spec_TableOk.bits4 (fun HT_ HW_ => ?_)
       generalize wr.drew = w14 at BK276 HB HR277_2 HR279_2 HR280_2 hx277_0 hx277_1 hx277_2 hx279_0 hx279_1 hx279_2 hx280_0 hx280_1 hx280_2 hHeld ⊢
       refine pA 1 (some 13) (bz 24 2) HT_ ?_
       refine pA 2 (some 14) (bz 24 6) HT_ ?_
       refine pA 3 (some 15) (bz 24 14) HT_ ?_
       refine tA 0 (some 12) (bz 24 15) HT_ HW_ hHeld ?_
       refine tA 4 (some 16) (bz 24 31) HT_ HW_ hHeld ?_
       refine oA 5 (some 17) (bz 24 63) HT_ (fun K hK => ?_)
       refine gA Tryz.func49 #[.agg #[.int .i64 a0_0, .int .i64 a0_1], .agg #[.int .i64 ((rd_T48 l1 x5_1).f0), .string ((rd_T48 l1 x5_1).f1), .slice A277_2 ((rd_T48 l1 x5_1).f2).length c277_2]] ?_
       with_reducible refine (spec_PartOk.calls k1 a0_0 a0_1 ((rd_T48 l1 x5_1).f0) ((rd_T48 l1 x5_1).f1) _ _ ((rd_T48 l1 x5_1).f2) true _ ?side1 ?side2 A6.out).mono ?_
       (case side1 => exact ch HR277_2 HB)
       (case side2 => exact HC277_2.out)
       rintro e w15 ⟨rfl, hb⟩
       refine ⟨_, rfl, ?_⟩
       replace BK276 := bk BK276 hb; replace HB := bs HB hb
       (try clear hb)
       (try clear hb2)
       (try clear hk)
       (try clear hi)
       refine hK.out _ _ ⟨bc0 BK276.out, bc1 BK276.out, (bx HB hw277_0), (bx HB hw277_1), (bx HB hw277_2), (bx HB hw279_0), (bx HB hw279_1), (bx HB hw279_2), (bx HB hw280_0), (bx HB hw280_1), (bx HB hw280_2)⟩ (fun hHeld => ?_)
       clear hK K
       refine nA (some 17) ?_
       refine pA 6 (some 18) (bz 24 127) HT_ ?_
       refine pA 7 (some 19) (bz 24 255) HT_ ?_
       refine pA 8 (some 20) (bz 24 511) HT_ ?_
       refine pA 9 (some 21) (bz 24 1023) HT_ ?_
       refine pA 10 (some 22) (bz 24 2047) HT_ ?_
       refine pA 11 (some 23) (bz 24 4095) HT_ ?_
       refine pA 12 (some 24) (bz 24 0x1fff) HT_ ?_
       refine pA 13 (some 25) (bz 24 0x3fff) HT_ ?_
       refine pA 14 (some 26) (bz 24 0x7fff) HT_ ?_
       refine pA 16 (some 28) (bz 24 0x17fff) HT_ ?_
       refine pA 17 (some 29) (bz 24 0x37fff) HT_ ?_
       refine pA 18 (some 30) (bz 24 0x77fff) HT_ ?_
       refine tA 15 (some 27) (bz 24 0x7ffff) HT_ HW_ hHeld ?_
       refine tA 19 (some 31) (bz 24 0xfffff) HT_ HW_ hHeld ?_
       refine oA 20 (some 32) (bz 24 0x1fffff) HT_ (fun K hK => ?_)
       refine goes_ Tryz.func79 (by kernel_rfl) rfl #[.agg #[.int .i64 ((rd_T48 l1 (ji9)).f0), .string ((rd_T48 l1 (ji9)).f1), .slice A279_2 ((rd_T48 l1 (ji9)).f2).length c279_2], .agg #[.int .i64 ((rd_T48 l1 x5_1).f0), .string ((rd_T48 l1 x5_1).f1), .slice A277_2 ((rd_T48 l1 x5_1).f2).length c277_2]] (by rfl) rfl rfl (by (try simp only [List.map_toArray, List.map_cons, List.map_nil]); first | done | (simp only [hji9]; rfl) | rfl | (simp only [List.length_drop, List.length_take]; rfl)) ?_
       with_reducible refine (spec_l10Before.calls ((rd_T48 l1 (ji9)).f0) ((rd_T48 l1 (ji9)).f1) _ _ ((rd_T48 l1 (ji9)).f2) ((rd_T48 l1 x5_1).f0) ((rd_T48 l1 x5_1).f1) _ _ ((rd_T48 l1 x5_1).f2) true _ ?side1 ?side2 ?side3 ?side4 A12.out).mono ?_
       (case side1 => exact ch HR279_2 HB)
       (case side2 => exact HC279_2.out)
       (case side3 => exact ch HR280_2 HB)
       (case side4 => exact HC280_2.out)
       rintro e w16 ⟨rfl, hb⟩
       refine ⟨_, rfl, ?_⟩
       replace BK276 := bk BK276 hb; replace HB := bs HB hb
       (try clear hb)
       (try clear hb2)
       (try clear hk)
       (try clear hi)
       refine hK.out _ _ ⟨bc0 BK276.out, bc1 BK276.out, (bx HB hw277_0), (bx HB hw277_1), (bx HB hw277_2), (bx HB hw279_0), (bx HB hw279_1), (bx HB hw279_2), (bx HB hw280_0), (bx HB hw280_1), (bx HB hw280_2)⟩ (fun hHeld => ?_)
       clear hK K
       refine nA (some 32) ?_
       refine pA 21 (some 33) (bz 24 0x3fffff) HT_ ?_
       refine pA 22 (some 34) (bz 24 0x7fffff) HT_ ?_
       refine pA 23 (some 35) (bz 24 0xffffff) HT_ ?_
       refine done_ (done_of HT_.out (by kernel_rfl)) ?_
       try go_wp2
       go_roundg k1
       case measure => have := HK1.out; omega
       case rel => exact ⟨(wrap64 (x5_1 + 1)), y0_13, H', ⟨y0_16⟩, ⟨gI BK276.out⟩, ⟨bI HB.out⟩⟩
      replace c13 := Bool.eq_false_iff.mpr c13; subst c13
      rw [if_neg (show ¬ (false = true) by decide)] at H
      obtain rfl := Option.some.inj H
      try go_wp2
      replace BK276 := Aside0.mk (blk_drew BK276.out); replace HB := Aside0.mk (below_drew1 HB.out); have p277 : 0 ≤ (x5_1 : Int) := of_decide_eq_true y0_12; have q277 : x5_1 < (l1.length : Int) := of_decide_eq_true y0_12; obtain ⟨ad277, A277_2, c277_2, e277, hx277_0, hx277_1, hx277_2, hl277_2, hi277_2⟩ := at_T48 HR1.out x5_1 p277 q277; have hr277_2 := hx277_2; have hw277_2 := hx277_2; have hw277_1 := hx277_1; have hw277_0 := hx277_0; cases e277; replace hx277_0 := bx HB hx277_0; replace hx277_1 := bx HB hx277_1; replace hx277_2 := bx HB hx277_2; have HR277_2 := Aside0.mk hi277_2; have HC277_2 := Aside0.mk hl277_2; clear hi277_2 hl277_2; replace p277 := eq_true p277; replace q277 := eq_true q277; have p279 : 0 ≤ ((ji9) : Int) := of_decide_eq_true y0_12; have q279 : (ji9) < (l1.length : Int) := of_decide_eq_true y0_12; obtain ⟨ad279, A279_2, c279_2, e279, hx279_0, hx279_1, hx279_2, hl279_2, hi279_2⟩ := at_T48 HR1.out (ji9) p279 q279; have hr279_2 := hx279_2; have hw279_2 := hx279_2; have hw279_1 := hx279_1; have hw279_0 := hx279_0
      obtain rfl : ad277 = ad279 := (by injection e279)
      replace hx279_0 := bx HB hx279_0; replace hx279_1 := bx HB hx279_1; replace hx279_2 := bx HB hx279_2; have HR279_2 := Aside0.mk hi279_2; have HC279_2 := Aside0.mk hl279_2; clear hi279_2 hl279_2; replace p279 := eq_true p279; replace q279 := eq_true q279; have p280 : 0 ≤ (x5_1 : Int) := of_decide_eq_true y0_12; have q280 : x5_1 < (l1.length : Int) := of_decide_eq_true y0_12; have hx280_0 := hw277_0; have hx280_1 := hw277_1; have hx280_2 := hw277_2; have hl280_2 := HC277_2.out; have hi280_2 := HR277_2.out; have hw280_2 := hx280_2; have hw280_1 := hx280_1; have hw280_0 := hx280_0; replace hx280_0 := bx HB hx280_0; replace hx280_1 := bx HB hx280_1; replace hx280_2 := bx HB hx280_2; have HR280_2 := Aside0.mk hi280_2; have HC280_2 := Aside0.mk hl280_2; clear hi280_2 hl280_2; replace p280 := eq_true p280; replace q280 := eq_true q280
      refine start_ (n := 24) (S := fun w' => w'.cell? ⟨gb276, 0, none⟩ = some (.int .i64 a0_0) ∧ w'.cell? ⟨gb276, 1, none⟩ = some (.int .i64 a0_1) ∧ w'.cell? (ad277.add ((x5_1).toNat * 3)) = some (.int .i64 ((rd_T48 l1 x5_1).f0)) ∧ w'.cell? ⟨(ad277.add ((x5_1).toNat * 3)).block, (ad277.add ((x5_1).toNat * 3)).off + 1, none⟩ = some (.string ((rd_T48 l1 x5_1).f1)) ∧ w'.cell? ⟨(ad277.add ((x5_1).toNat * 3)).block, (ad277.add ((x5_1).toNat * 3)).off + 2, none⟩ = some (.slice A277_2 ((rd_T48 l1 x5_1).f2).length c277_2) ∧ w'.cell? (ad277.add (((ji9)).toNat * 3)) = some (.int .i64 ((rd_T48 l1 (ji9)).f0)) ∧ w'.cell? ⟨(ad277.add (((ji9)).toNat * 3)).block, (ad277.add (((ji9)).toNat * 3)).off + 1, none⟩ = some (.string ((rd_T48 l1 (ji9)).f1)) ∧ w'.cell? ⟨(ad277.add (((ji9)).toNat * 3)).block, (ad277.add (((ji9)).toNat * 3)).off + 2, none⟩ = some (.slice A279_2 ((rd_T48 l1 (ji9)).f2).length c279_2) ∧ w'.cell? (ad277.add ((x5_1).toNat * 3)) = some (.int .i64 ((rd_T48 l1 x5_1).f0)) ∧ w'.cell? ⟨(ad277.add ((x5_1).toNat * 3)).block, (ad277.add ((x5_1).toNat * 3)).off + 1, none⟩ = some (.string ((rd_T48 l1 x5_1).f1)) ∧ w'.cell? ⟨(ad277.add ((x5_1).toNat * 3)).block, (ad277.add ((x5_1).toNat * 3)).off + 2, none⟩ = some (.slice A277_2 ((rd_T48 l1 x5_1).f2).length c277_2)) (ds := []) #[false, false, false, false, false, false, false, false, false, false, false, false, false, false, false, false, false, false, false, false, false, false, false, false] (by kernel_rfl) rfl rfl ⟨bc0 BK276.out, bc1 BK276.out, (bx HB hw277_0), (bx HB hw277_1), (bx HB hw277_2), (bx HB hw279_0), (bx HB hw279_1), (bx HB hw279_2), (bx HB hw280_0), (bx HB hw280_1), (bx HB hw280_2)⟩ (fun hHeld => ?_); refine with_tabW spec_TableOk.tab4 spec_TableOk.bits4 (fun HT_ HW_ => ?_)
      generalize wr.drew = w17 at BK276 HB HR277_2 HR279_2 HR280_2 hx277_0 hx277_1 hx277_2 hx279_0 hx279_1 hx279_2 hx280_0 hx280_1 hx280_2 hHeld ⊢
      refine pA 1 (some 13) (bz 24 2) HT_ ?_
      refine pA 2 (some 14) (bz 24 6) HT_ ?_
      refine pA 3 (some 15) (bz 24 14) HT_ ?_
      refine tA 0 (some 12) (bz 24 15) HT_ HW_ hHeld ?_
      refine tA 4 (some 16) (bz 24 31) HT_ HW_ hHeld ?_
      refine oA 5 (some 17) (bz 24 63) HT_ (fun K hK => ?_)
      refine gA Tryz.func49 #[.agg #[.int .i64 a0_0, .int .i64 a0_1], .agg #[.int .i64 ((rd_T48 l1 x5_1).f0), .string ((rd_T48 l1 x5_1).f1), .slice A277_2 ((rd_T48 l1 x5_1).f2).length c277_2]] ?_
      with_reducible refine (spec_PartOk.calls k1 a0_0 a0_1 ((rd_T48 l1 x5_1).f0) ((rd_T48 l1 x5_1).f1) _ _ ((rd_T48 l1 x5_1).f2) true _ ?side1 ?side2 A6.out).mono ?_
      (case side1 => exact ch HR277_2 HB)
      (case side2 => exact HC277_2.out)
      rintro e w18 ⟨rfl, hb⟩
      refine ⟨_, rfl, ?_⟩
      replace BK276 := bk BK276 hb; replace HB := bs HB hb
      (try clear hb)
      (try clear hb2)
      (try clear hk)
      (try clear hi)
      refine hK.out _ _ ⟨bc0 BK276.out, bc1 BK276.out, (bx HB hw277_0), (bx HB hw277_1), (bx HB hw277_2), (bx HB hw279_0), (bx HB hw279_1), (bx HB hw279_2), (bx HB hw280_0), (bx HB hw280_1), (bx HB hw280_2)⟩ (fun hHeld => ?_)
      clear hK K
      refine nA (some 17) ?_
      refine pA 6 (some 18) (bz 24 127) HT_ ?_
      refine pA 7 (some 19) (bz 24 255) HT_ ?_
      refine pA 8 (some 20) (bz 24 511) HT_ ?_
      refine pA 9 (some 21) (bz 24 1023) HT_ ?_
      refine pA 10 (some 22) (bz 24 2047) HT_ ?_
      refine pA 11 (some 23) (bz 24 4095) HT_ ?_
      refine pA 12 (some 24) (bz 24 0x1fff) HT_ ?_
      refine pA 13 (some 25) (bz 24 0x3fff) HT_ ?_
      refine pA 14 (some 26) (bz 24 0x7fff) HT_ ?_
      refine pA 16 (some 28) (bz 24 0x17fff) HT_ ?_
      refine pA 17 (some 29) (bz 24 0x37fff) HT_ ?_
      refine pA 18 (some 30) (bz 24 0x77fff) HT_ ?_
      refine tA 15 (some 27) (bz 24 0x7ffff) HT_ HW_ hHeld ?_
      refine tA 19 (some 31) (bz 24 0xfffff) HT_ HW_ hHeld ?_
      refine oA 20 (some 32) (bz 24 0x1fffff) HT_ (fun K hK => ?_)
      refine goes_ Tryz.func79 (by kernel_rfl) rfl #[.agg #[.int .i64 ((rd_T48 l1 (ji9)).f0), .string ((rd_T48 l1 (ji9)).f1), .slice A279_2 ((rd_T48 l1 (ji9)).f2).length c279_2], .agg #[.int .i64 ((rd_T48 l1 x5_1).f0), .string ((rd_T48 l1 x5_1).f1), .slice A277_2 ((rd_T48 l1 x5_1).f2).length c277_2]] (by rfl) rfl rfl (by (try simp only [List.map_toArray, List.map_cons, List.map_nil]); first | done | (simp only [hji9]; rfl) | rfl | (simp only [List.length_drop, List.length_take]; rfl)) ?_
      with_reducible refine (spec_l10Before.calls ((rd_T48 l1 (ji9)).f0) ((rd_T48 l1 (ji9)).f1) _ _ ((rd_T48 l1 (ji9)).f2) ((rd_T48 l1 x5_1).f0) ((rd_T48 l1 x5_1).f1) _ _ ((rd_T48 l1 x5_1).f2) false _ ?side1 ?side2 ?side3 ?side4 A12.out).mono ?_
      (case side1 => exact ch HR279_2 HB)
      (case side2 => exact HC279_2.out)
      (case side3 => exact ch HR280_2 HB)
      (case side4 => exact HC280_2.out)
      rintro e w19 ⟨rfl, hb⟩
      refine ⟨_, rfl, ?_⟩
      replace BK276 := bk BK276 hb; replace HB := bs HB hb
      (try clear hb)
      (try clear hb2)
      (try clear hk)
      (try clear hi)
      refine hK.out _ _ ⟨bc0 BK276.out, bc1 BK276.out, (bx HB hw277_0), (bx HB hw277_1), (bx HB hw277_2), (bx HB hw279_0), (bx HB hw279_1), (bx HB hw279_2), (bx HB hw280_0), (bx HB hw280_1), (bx HB hw280_2)⟩ (fun hHeld => ?_)
      clear hK K
      refine nA (some 32) ?_
      refine pA 21 (some 33) (bz 24 0x3fffff) HT_ ?_
      refine pA 22 (some 34) (bz 24 0x7fffff) HT_ ?_
      refine pA 23 (some 35) (bz 24 0xffffff) HT_ ?_
      refine done_ (done_of HT_.out (by kernel_rfl)) ?_
      try go_wp2
      go_ret
      exact ⟨by first | rfl | (simp [errW_none, errW_some] <;> rfl) | (simp only [← hji9]; first | rfl | (simp [errW_none, errW_some] <;> rfl)) | (simp [*, errW_none, errW_some] <;> rfl), bI HB.out⟩
     rw [if_neg c8] at H
     have c8b0 : decide (0 < x5_1) = false := decide_eq_false c8; clear c8; have H' := Aside0.mk H; clear H
     try go_wp2
     replace BK276 := Aside0.mk (blk_drew BK276.out); replace HB := Aside0.mk (below_drew1 HB.out); have p277 : 0 ≤ (x5_1 : Int) := of_decide_eq_true y0_12; have q277 : x5_1 < (l1.length : Int) := of_decide_eq_true y0_12; obtain ⟨ad277, A277_2, c277_2, e277, hx277_0, hx277_1, hx277_2, hl277_2, hi277_2⟩ := at_T48 HR1.out x5_1 p277 q277; have hr277_2 := hx277_2; have hw277_2 := hx277_2; have hw277_1 := hx277_1; have hw277_0 := hx277_0; cases e277; replace hx277_0 := bx HB hx277_0; replace hx277_1 := bx HB hx277_1; replace hx277_2 := bx HB hx277_2; have HR277_2 := Aside0.mk hi277_2; have HC277_2 := Aside0.mk hl277_2; clear hi277_2 hl277_2; replace p277 := eq_true p277; replace q277 := eq_true q277
     refine start_ (n := 24) (S := fun w' => w'.cell? ⟨gb276, 0, none⟩ = some (.int .i64 a0_0) ∧ w'.cell? ⟨gb276, 1, none⟩ = some (.int .i64 a0_1) ∧ w'.cell? (ad277.add ((x5_1).toNat * 3)) = some (.int .i64 ((rd_T48 l1 x5_1).f0)) ∧ w'.cell? ⟨(ad277.add ((x5_1).toNat * 3)).block, (ad277.add ((x5_1).toNat * 3)).off + 1, none⟩ = some (.string ((rd_T48 l1 x5_1).f1)) ∧ w'.cell? ⟨(ad277.add ((x5_1).toNat * 3)).block, (ad277.add ((x5_1).toNat * 3)).off + 2, none⟩ = some (.slice A277_2 ((rd_T48 l1 x5_1).f2).length c277_2)) (ds := []) #[false, false, false, false, false, false, false, false, false, false, false, false, false, false, false, false, false, false, false, false, false, false, false, false] (by kernel_rfl) rfl rfl ⟨bc0 BK276.out, bc1 BK276.out, (bx HB hw277_0), (bx HB hw277_1), (bx HB hw277_2)⟩ (fun hHeld => ?_); refine with_tabW spec_TableOk.tab4 spec_TableOk.bits4 (fun HT_ HW_ => ?_)
     generalize wr.drew = w20 at BK276 HB HR277_2 hx277_0 hx277_1 hx277_2 hHeld ⊢
     refine pA 1 (some 13) (bz 24 2) HT_ ?_
     refine pA 2 (some 14) (bz 24 6) HT_ ?_
     refine pA 3 (some 15) (bz 24 14) HT_ ?_
     refine tA 0 (some 12) (bz 24 15) HT_ HW_ hHeld ?_
     refine tA 4 (some 16) (bz 24 31) HT_ HW_ hHeld ?_
     refine oA 5 (some 17) (bz 24 63) HT_ (fun K hK => ?_)
     refine gA Tryz.func49 #[.agg #[.int .i64 a0_0, .int .i64 a0_1], .agg #[.int .i64 ((rd_T48 l1 x5_1).f0), .string ((rd_T48 l1 x5_1).f1), .slice A277_2 ((rd_T48 l1 x5_1).f2).length c277_2]] ?_
     with_reducible refine (spec_PartOk.calls k1 a0_0 a0_1 ((rd_T48 l1 x5_1).f0) ((rd_T48 l1 x5_1).f1) _ _ ((rd_T48 l1 x5_1).f2) true _ ?side1 ?side2 A6.out).mono ?_
     (case side1 => exact ch HR277_2 HB)
     (case side2 => exact HC277_2.out)
     rintro e w21 ⟨rfl, hb⟩
     refine ⟨_, rfl, ?_⟩
     replace BK276 := bk BK276 hb; replace HB := bs HB hb
     (try clear hb)
     (try clear hb2)
     (try clear hk)
     (try clear hi)
     refine hK.out _ _ ⟨bc0 BK276.out, bc1 BK276.out, (bx HB hw277_0), (bx HB hw277_1), (bx HB hw277_2)⟩ (fun hHeld => ?_)
     clear hK K
     refine nA (some 17) ?_
     refine pA 6 (some 18) (bz 24 127) HT_ ?_
     refine pA 7 (some 19) (bz 24 255) HT_ ?_
     refine pA 8 (some 20) (bz 24 511) HT_ ?_
     refine pA 9 (some 21) (bz 24 1023) HT_ ?_
     refine pA 10 (some 22) (bz 24 2047) HT_ ?_
     refine pU 11 (some 23) (bz 24 4095) HT_ ?_
     refine pU 12 (some 24) (bz 24 0x1fff) HT_ ?_
     refine pU 13 (some 25) (bz 24 0x3fff) HT_ ?_
     refine pU 14 (some 26) (bz 24 0x7fff) HT_ ?_
     refine pU 15 (some 27) (bz 24 0xffff) HT_ ?_
     refine pU 16 (some 28) (bz 24 0x1ffff) HT_ ?_
     refine pU 17 (some 29) (bz 24 0x3ffff) HT_ ?_
     refine pU 18 (some 30) (bz 24 0x7ffff) HT_ ?_
     refine pU 19 (some 31) (bz 24 0xfffff) HT_ ?_
     refine pU 20 (some 32) (bz 24 0x1fffff) HT_ ?_
     refine pU 21 (some 33) (bz 24 0x3fffff) HT_ ?_
     refine pA 22 (some 34) (bz 24 0x7fffff) HT_ ?_
     refine pA 23 (some 35) (bz 24 0xffffff) HT_ ?_
     refine done_ (done_of HT_.out (by kernel_rfl)) ?_
     try go_wp2
     go_roundg k1
     case measure => have := HK1.out; omega
     case rel => exact ⟨(wrap64 (x5_1 + 1)), y0_13, H', ⟨y0_16⟩, ⟨gI BK276.out⟩, ⟨bI HB.out⟩⟩
    replace c7 := Bool.eq_false_iff.mpr c7; subst c7
    rw [if_neg (show ¬ (false = true) by decide)] at H
    obtain rfl := Option.some.inj H
    try go_wp2
    replace BK276 := Aside0.mk (blk_drew BK276.out); replace HB := Aside0.mk (below_drew1 HB.out); have p277 : 0 ≤ (x5_1 : Int) := of_decide_eq_true y0_12; have q277 : x5_1 < (l1.length : Int) := of_decide_eq_true y0_12; obtain ⟨ad277, A277_2, c277_2, e277, hx277_0, hx277_1, hx277_2, hl277_2, hi277_2⟩ := at_T48 HR1.out x5_1 p277 q277; have hr277_2 := hx277_2; have hw277_2 := hx277_2; have hw277_1 := hx277_1; have hw277_0 := hx277_0; cases e277; replace hx277_0 := bx HB hx277_0; replace hx277_1 := bx HB hx277_1; replace hx277_2 := bx HB hx277_2; have HR277_2 := Aside0.mk hi277_2; have HC277_2 := Aside0.mk hl277_2; clear hi277_2 hl277_2; replace p277 := eq_true p277; replace q277 := eq_true q277
    refine start_ (n := 24) (S := fun w' => w'.cell? ⟨gb276, 0, none⟩ = some (.int .i64 a0_0) ∧ w'.cell? ⟨gb276, 1, none⟩ = some (.int .i64 a0_1) ∧ w'.cell? (ad277.add ((x5_1).toNat * 3)) = some (.int .i64 ((rd_T48 l1 x5_1).f0)) ∧ w'.cell? ⟨(ad277.add ((x5_1).toNat * 3)).block, (ad277.add ((x5_1).toNat * 3)).off + 1, none⟩ = some (.string ((rd_T48 l1 x5_1).f1)) ∧ w'.cell? ⟨(ad277.add ((x5_1).toNat * 3)).block, (ad277.add ((x5_1).toNat * 3)).off + 2, none⟩ = some (.slice A277_2 ((rd_T48 l1 x5_1).f2).length c277_2)) (ds := []) #[false, false, false, false, false, false, false, false, false, false, false, false, false, false, false, false, false, false, false, false, false, false, false, false] (by kernel_rfl) rfl rfl ⟨bc0 BK276.out, bc1 BK276.out, (bx HB hw277_0), (bx HB hw277_1), (bx HB hw277_2)⟩ (fun hHeld => ?_); refine with_tabW spec_TableOk.tab4 spec_TableOk.bits4 (fun HT_ HW_ => ?_)
    generalize wr.drew = w22 at BK276 HB HR277_2 hx277_0 hx277_1 hx277_2 hHeld ⊢
    refine pA 1 (some 13) (bz 24 2) HT_ ?_
    refine pA 2 (some 14) (bz 24 6) HT_ ?_
    refine pA 3 (some 15) (bz 24 14) HT_ ?_
    refine tA 0 (some 12) (bz 24 15) HT_ HW_ hHeld ?_
    refine tA 4 (some 16) (bz 24 31) HT_ HW_ hHeld ?_
    refine oA 5 (some 17) (bz 24 63) HT_ (fun K hK => ?_)
    refine gA Tryz.func49 #[.agg #[.int .i64 a0_0, .int .i64 a0_1], .agg #[.int .i64 ((rd_T48 l1 x5_1).f0), .string ((rd_T48 l1 x5_1).f1), .slice A277_2 ((rd_T48 l1 x5_1).f2).length c277_2]] ?_
    with_reducible refine (spec_PartOk.calls k1 a0_0 a0_1 ((rd_T48 l1 x5_1).f0) ((rd_T48 l1 x5_1).f1) _ _ ((rd_T48 l1 x5_1).f2) false _ ?side1 ?side2 A6.out).mono ?_
    (case side1 => exact ch HR277_2 HB)
    (case side2 => exact HC277_2.out)
    rintro e w23 ⟨rfl, hb⟩
    refine ⟨_, rfl, ?_⟩
    replace BK276 := bk BK276 hb; replace HB := bs HB hb
    (try clear hb)
    (try clear hb2)
    (try clear hk)
    (try clear hi)
    refine hK.out _ _ ⟨bc0 BK276.out, bc1 BK276.out, (bx HB hw277_0), (bx HB hw277_1), (bx HB hw277_2)⟩ (fun hHeld => ?_)
    clear hK K
    refine nA (some 17) ?_
    refine pA 6 (some 18) (bz 24 127) HT_ ?_
    refine pA 7 (some 19) (bz 24 255) HT_ ?_
    refine pU 8 (some 20) (bz 24 511) HT_ ?_
    refine pU 9 (some 21) (bz 24 1023) HT_ ?_
    refine pU 10 (some 22) (bz 24 2047) HT_ ?_
    refine pU 11 (some 23) (bz 24 4095) HT_ ?_
    refine pU 12 (some 24) (bz 24 0x1fff) HT_ ?_
    refine pU 13 (some 25) (bz 24 0x3fff) HT_ ?_
    refine pU 14 (some 26) (bz 24 0x7fff) HT_ ?_
    refine pU 15 (some 27) (bz 24 0xffff) HT_ ?_
    refine pU 16 (some 28) (bz 24 0x1ffff) HT_ ?_
    refine pU 17 (some 29) (bz 24 0x3ffff) HT_ ?_
    refine pU 18 (some 30) (bz 24 0x7ffff) HT_ ?_
    refine pU 19 (some 31) (bz 24 0xfffff) HT_ ?_
    refine pU 20 (some 32) (bz 24 0x1fffff) HT_ ?_
    refine pU 21 (some 33) (bz 24 0x3fffff) HT_ ?_
    refine pU 22 (some 34) (bz 24 0x7fffff) HT_ ?_
    refine pA 23 (some 35) (bz 24 0xffffff) HT_ ?_
    refine done_ (done_of HT_.out (by kernel_rfl)) ?_
    try go_wp2
    go_ret
    exact ⟨y0_7, bI HB.out⟩
   rw [if_neg c4] at H
   have c4b0 : decide (x5_1 < (l1.length : Int)) = false := decide_eq_false c4; clear c4; obtain rfl := Option.some.inj H
   go_wp2
   go_ret
   exact ⟨y0_7, bI HB.out⟩

end Go.Proofs.YtdmjhgogljhfkaaGreatDoor.PFnExactTableAdd
