-- By a program of this session, out of the translation (the print of the kit, with turns of its own). Lean checks it.
import Derived.Test.YtdmjhgogljhfkaaGreatDoorPFnExactTableAddx0
import Derived.Test.YtdmjhgogljhfkaaGreatDoorPFnExactTableAddx11
namespace Go.Proofs.YtdmjhgogljhfkaaGreatDoor.PFnExactTableAdd
open Go.RowKit Go.Proofs.YtdmjhgogljhfkaaGreatDoorW.PrintWords Go.Proofs.YtdmjhgogljhfkaaGreatDoorW.PrintLast Go.Proofs.YtdmjhgogljhfkaaGreatDoorW.PrintMore
attribute [local go_sem] max2_int min2_int max_two min_two max_three min_three max_four min_four   -- for this text's walks alone
attribute [local go_sem] cell_in frozen_in cell_g cell_p
set_option synthInstance.maxSize 1000000
set_option synthInstance.maxHeartbeats 2000000
set_option linter.unusedVariables false
set_option linter.unusedSimpArgs false

/-! ### impl_TableOk: function 46 -/
def impl_TableOk.l0 : Nat → List (S48) → List (S48) → Int → Int → Int → Int → Option (Bool)
 | 0, _, _, _, _, _, _ => none
 | k + 1, x1, x7, x8, x9, x496000, x496001 => if x9 < x8 then (if 0 ≤ x9 then (if x9 < (x7.length : Int) then ((impl_PartOk.f k x496000 x496001 ((rd_T48 x7 x9).f0) ((rd_T48 x7 x9).f1) ((rd_T48 x7 x9).f2)).bind fun t498 => (if t498 = true then (if x9 > 0 then (if 0 ≤ (wrap64 (x9 - 1)) then (if (wrap64 (x9 - 1)) < (x1.length : Int) then ((impl_comparePlace.f ((rd_T48 x1 (wrap64 (x9 - 1))).f0) ((rd_T48 x1 (wrap64 (x9 - 1))).f1) ((rd_T48 x1 (wrap64 (x9 - 1))).f2) ((rd_T48 x7 x9).f0) ((rd_T48 x7 x9).f1) ((rd_T48 x7 x9).f2)).bind fun t500 => (if t500 ≥ 0 then (some false) else (impl_TableOk.l0 k x1 x7 x8 (wrap64 (x9 + 1)) x496000 x496001))) else (none)) else (none)) else (impl_TableOk.l0 k x1 x7 x8 (wrap64 (x9 + 1)) x496000 x496001)) else (some false))) else (none)) else (none)) else (some (decide ((x1.length : Int) ≤ 20)))
def impl_TableOk.f (k : Nat) (a0_0 : Int) (a0_1 : Int) (l1 : List (S48)) : Option (Bool) := impl_TableOk.l0 k l1 l1 (l1.length : Int) 0 a0_0 a0_1
theorem impl_TableOk.mono_l : ∀ k, (∀ y0 y1 y2 y3 y4 y5, LeO (impl_TableOk.l0 k y0 y1 y2 y3 y4 y5) (impl_TableOk.l0 (k + 1) y0 y1 y2 y3 y4 y5))
 | 0 => fun _ _ _ _ _ _ r h => by simp [impl_TableOk.l0] at h
 | k + 1 => by
  have ih0 := impl_TableOk.mono_l k
  intro y0 y1 y2 y3 y4 y5
  unfold impl_TableOk.l0
  repeat' first | (with_reducible exact ih0 _ _ _ _ _ _) | (with_reducible exact impl_PartOk.mono _ _ _ _ _ _) | (with_reducible exact LeO.refl _) | (with_reducible exact LeO.none _) | (with_reducible refine LeO.ite ?_ ?_) | (with_reducible refine LeO.bind ?_ (fun _ => ?_))
theorem impl_TableOk.mono : ∀ a0 a1 a2 k, LeO (impl_TableOk.f k a0 a1 a2) (impl_TableOk.f (k + 1) a0 a1 a2) := by
 intro a0 a1 a2 k
 have ih0 := impl_TableOk.mono_l k
 unfold impl_TableOk.f
 repeat' first | (with_reducible exact ih0 _ _ _ _ _ _) | (with_reducible exact impl_PartOk.mono _ _ _ _ _ _) | (with_reducible exact LeO.refl _) | (with_reducible exact LeO.none _) | (with_reducible refine LeO.ite ?_ ?_) | (with_reducible refine LeO.bind ?_ (fun _ => ?_))
def impl_TableOk.T4 : Bool × List (List Nat × List Nat) := (true, [([], []), ([], []), ([0, 1], [0, 1]), ([2], [2]), ([3, 2], [3]), ([4], [4]), ([5, 4], [4, 5]), ([6, 4, 4], [4, 6]), ([7], [7]), ([7], [7]), ([9, 7], [7, 9]), ([8, 10, 7], [7, 8, 10]), ([11, 7], [7, 11]), ([7], [7]), ([12, 13, 7, 7], [7, 12, 13]), ([14, 7], [7, 14]), ([7, 15, 4], [4, 7, 15]), ([4, 16], [4, 16])])
def impl_TableOk.B4 : List Nat := [0, 0, 3, 7, 15, 31, 63, 127, 255, 255, 767, 2047, 4095, 255, 16383, 32767, 65535, 131071]
theorem impl_TableOk.tab4 : rtab .any (opsOf Tryz.f46 4) = impl_TableOk.T4 := by kernel_rfl
theorem impl_TableOk.bits4 : waitsOk impl_TableOk.T4.2 impl_TableOk.B4 = true := by kernel_rfl
set_option maxHeartbeats 8000000 in
set_option maxRecDepth 100000 in
theorem impl_TableOk.calls (k : Nat) (a0_0 : Int) (a0_1 : Int) (A1 : Option Addr) (c1 : Nat) (l1 : List (S48)) (r : Bool) (w : World) (hr1 : Kd.C k48 w A1 l1.length l1) (hc1 : l1.length ≤ c1) (h : impl_TableOk.f k a0_0 a0_1 l1 = some r) (hG : Glob w := by exact gG HG HB) :
  Calls Tryz.prog 46 #[.agg #[.int .i64 a0_0, .int .i64 a0_1], .slice A1 l1.length c1] w fun e w' => e = .returned (.bool r) ∧ Below w.heap.size w w' := by
 have HG := Aside0.mk hG; clear hG; have hu32 := Tryz.underlying32; have hu48 := Tryz.underlying48; have HR1 := Aside0.mk hr1; have HC1 := Aside0.mk hc1; clear hr1 hc1; have HB := Aside0.mk (Below.refl w.heap.size w); have H := h; unfold impl_TableOk.f at H; clear h; have H' := Aside0.mk H; clear H
 go_enter Tryz.func46, Tryz.ntmps46
 go_wp2_with (first | ((with_reducible refine gd 2 ?_); refine bA 2 #[.int .i64 a0_0, .int .i64 a0_1] 32 ?_; intro gb495 hg w3 hbox hb; have BK495 := Aside0.mk (hbox); have GW495 := bg hg HB; have GJ495 := gi GW495; have GE495 := GW495; replace HB := bs HB hb; clear hb hbox hg))
 go_loopg [9] k (fun kq v9 w' => ∃ (x9_1 : Int), v9 = .int .i64 x9_1 ∧ Aside0 (impl_TableOk.l0 kq l1 l1 (l1.length : Int) x9_1 a0_0 a0_1 = some r) ∧ Aside0 (kq ≤ k) ∧ Aside0 (w'.heap[gb495]? = some (.cells #[.int .i64 a0_0, .int .i64 a0_1] 32 (0, 0))) ∧ Aside0 (Below w.heap.size w w'))
 case atStart => exact ⟨(0), y0_13, H', ⟨Nat.le_refl _⟩, ⟨gI BK495.out⟩, ⟨bI HB.out⟩⟩
 case round =>
  clear H'
  try clear c1
  try clear p2
  obtain ⟨x9_1, rfl, HA, HK1, BK495, HB⟩ := hrel; cases gk with
  | zero => exact absurd HA.out (by simp [impl_TableOk.l0])
  | succ k1 =>
   have H := HA.out; clear HA
   simp only [impl_TableOk.l0] at H
   by_cases c4 : x9_1 < (l1.length : Int)
   ·
    rw [if_pos c4] at H
    have c4b0 : decide (x9_1 < (l1.length : Int)) = true := decide_eq_true c4; clear c4
    by_cases c5 : 0 ≤ x9_1
    rotate_left
    ·
     rw [if_neg c5] at H
     exact absurd H (by simp)
    rw [if_pos c5] at H
    have c5b0 : decide (0 ≤ x9_1) = true := decide_eq_true c5; clear c5
    by_cases c6 : x9_1 < (l1.length : Int)
    rotate_left
    ·
     rw [if_neg c6] at H
     exact absurd H (by simp)
    rw [if_pos c6] at H
    have c6b0 : decide (x9_1 < (l1.length : Int)) = true := decide_eq_true c6; clear c6; obtain ⟨t498, A7, H⟩ := oB H; (try dsimp only at H)
    by_cases c8 : t498 = true
    ·
     subst c8
     rw [if_pos rfl] at H
     by_cases c9 : x9_1 > 0
     ·
      rw [if_pos c9] at H
      have c9b0 : decide (0 < x9_1) = true := decide_eq_true c9; clear c9; obtain ⟨ji10, hji10⟩ : ∃ j_ : Int, (wrap64 (x9_1 - 1)) = j_ := ⟨_, rfl⟩
      replace H : (if 0 ≤ (ji10) then (if (ji10) < (l1.length : Int) then ((impl_comparePlace.f ((rd_T48 l1 (ji10)).f0) ((rd_T48 l1 (ji10)).f1) ((rd_T48 l1 (ji10)).f2) ((rd_T48 l1 x9_1).f0) ((rd_T48 l1 x9_1).f1) ((rd_T48 l1 x9_1).f2)).bind fun t500 => (if t500 ≥ 0 then (some false) else (impl_TableOk.l0 k1 l1 l1 (l1.length : Int) (wrap64 (x9_1 + 1)) a0_0 a0_1))) else (none)) else (none)) = some r := by first | (rw [hji10] at H; exact H) | (simp only [hji10] at H ⊢; exact H)
      (try rw [hji10] at A7)
      have hji10w : (IntKind.i64.wrap (x9_1 - 1)) = ji10 := (i64_w _).trans hji10
      by_cases c11 : 0 ≤ (ji10)
      rotate_left
      ·
       rw [if_neg c11] at H
       exact absurd H (by simp)
      rw [if_pos c11] at H
      have c11b0 : decide (0 ≤ (ji10)) = true := decide_eq_true c11; clear c11
      by_cases c12 : (ji10) < (l1.length : Int)
      rotate_left
      ·
       rw [if_neg c12] at H
       exact absurd H (by simp)
      rw [if_pos c12] at H
      have c12b0 : decide ((ji10) < (l1.length : Int)) = true := decide_eq_true c12; clear c12; obtain ⟨t500, A13, H⟩ := oB H; (try dsimp only at H)
      by_cases c14 : t500 ≥ 0
      ·
       rw [if_pos c14] at H
       have c14b0 : decide (0 ≤ t500) = true := decide_eq_true c14; clear c14; obtain rfl := Option.some.inj H; have p496 : 0 ≤ (x9_1 : Int) := of_decide_eq_true y0_12; have q496 : x9_1 < (l1.length : Int) := of_decide_eq_true y0_12; obtain ⟨ad496, A496_2, c496_2, e496, hx496_0, hx496_1, hx496_2, hl496_2, hi496_2⟩ := at_T48 HR1.out x9_1 p496 q496; have hr496_2 := hx496_2; cases e496; replace hx496_0 := bx HB hx496_0; replace hx496_1 := bx HB hx496_1; replace hx496_2 := bx HB hx496_2; have HR496_2 := Aside0.mk hi496_2; have HC496_2 := Aside0.mk hl496_2; clear hi496_2 hl496_2; replace p496 := eq_true p496; replace q496 := eq_true q496
       try go_wp2_with (first | ((with_reducible refine gd 6 ?_); refine bA 6 #[.int .i64 0, .string (⟨#[]⟩ : ByteArray), .slice none 0 0] 48 ?_; intro gb497 hg w15 hbox hb; have BK497 := Aside0.mk (hbox); have GW497 := bg hg HB; have GJ497 := gi GW497; have GE497 := GW497; replace HB := bs HB hb; have NB495_497 := b1 BK495 hg; have NI495_497 := ni NB495_497; have NB497_495 := b2 BK495 hg; have NI497_495 := ni NB497_495; replace BK495 := bk BK495 hb; clear hb hbox hg; have hnb16 := NB497_495.out; have hnc16 := NB495_497.out; obtain ⟨hcz17_0, hcz17_1, hcz17_2, hfz17_0, hfz17_1, hfz17_2⟩ := cs3 BK497))
       have n0_ : Aside0 ((((w15.setCell ⟨gb497, 0, none⟩ (.int .i64 ((rd_T48 l1 x9_1).f0))).setCell ⟨gb497, 1, none⟩ (.string ((rd_T48 l1 x9_1).f1))).setCell ⟨gb497, 2, none⟩ (.slice A496_2 ((rd_T48 l1 x9_1).f2).length c496_2)).heap[gb495]? = some (.cells #[.int .i64 a0_0, .int .i64 a0_1] 32 (0, 0))) := ⟨gI BK495.out⟩; have n1_ : Aside0 ((((w15.setCell ⟨gb497, 0, none⟩ (.int .i64 ((rd_T48 l1 x9_1).f0))).setCell ⟨gb497, 1, none⟩ (.string ((rd_T48 l1 x9_1).f1))).setCell ⟨gb497, 2, none⟩ (.slice A496_2 ((rd_T48 l1 x9_1).f2).length c496_2)).heap[gb497]? = some (.cells #[.int .i64 ((rd_T48 l1 x9_1).f0), .string ((rd_T48 l1 x9_1).f1), .slice A496_2 ((rd_T48 l1 x9_1).f2).length c496_2] 48 (0, 0))) := ⟨pI BK497⟩; have n2_ : Aside0 (Below w.heap.size w (((w15.setCell ⟨gb497, 0, none⟩ (.int .i64 ((rd_T48 l1 x9_1).f0))).setCell ⟨gb497, 1, none⟩ (.string ((rd_T48 l1 x9_1).f1))).setCell ⟨gb497, 2, none⟩ (.slice A496_2 ((rd_T48 l1 x9_1).f2).length c496_2))) := ⟨bI HB.out⟩
       (try clear BK495)
       (try clear BK497)
       (try clear HB)
       generalize (((w15.setCell ⟨gb497, 0, none⟩ (.int .i64 ((rd_T48 l1 x9_1).f0))).setCell ⟨gb497, 1, none⟩ (.string ((rd_T48 l1 x9_1).f1))).setCell ⟨gb497, 2, none⟩ (.slice A496_2 ((rd_T48 l1 x9_1).f2).length c496_2)) = w18 at n0_ n1_ n2_ ⊢
       have BK495 := n0_; have BK497 := n1_; have HB := n2_; clear n0_ n1_ n2_; replace BK495 := Aside0.mk (blk_drew BK495.out); replace BK497 := Aside0.mk (blk_drew BK497.out); replace HB := Aside0.mk (below_drew1 HB.out); have p499 : 0 ≤ ((ji10) : Int) := of_decide_eq_true y0_12; have q499 : (ji10) < (l1.length : Int) := of_decide_eq_true y0_12; obtain ⟨ad499, A499_2, c499_2, e499, hx499_0, hx499_1, hx499_2, hl499_2, hi499_2⟩ := at_T48 HR1.out (ji10) p499 q499; have hr499_2 := hx499_2; have hw499_2 := hx499_2; have hw499_1 := hx499_1; have hw499_0 := hx499_0
       obtain rfl : ad496 = ad499 := (by injection e499)
       replace hx499_0 := bx HB hx499_0; replace hx499_1 := bx HB hx499_1; replace hx499_2 := bx HB hx499_2; have HR499_2 := Aside0.mk hi499_2; have HC499_2 := Aside0.mk hl499_2; clear hi499_2 hl499_2; replace p499 := eq_true p499; replace q499 := eq_true q499
       refine start_ (n := 18) (S := fun w' => w'.cell? ⟨gb495, 0, none⟩ = some (.int .i64 a0_0) ∧ w'.cell? ⟨gb495, 1, none⟩ = some (.int .i64 a0_1) ∧ w'.cell? ⟨gb497, 0, none⟩ = some (.int .i64 ((rd_T48 l1 x9_1).f0)) ∧ w'.cell? ⟨gb497, 1, none⟩ = some (.string ((rd_T48 l1 x9_1).f1)) ∧ w'.cell? ⟨gb497, 2, none⟩ = some (.slice A496_2 ((rd_T48 l1 x9_1).f2).length c496_2) ∧ w'.cell? (ad496.add (((ji10)).toNat * 3)) = some (.int .i64 ((rd_T48 l1 (ji10)).f0)) ∧ w'.cell? ⟨(ad496.add (((ji10)).toNat * 3)).block, (ad496.add (((ji10)).toNat * 3)).off + 1, none⟩ = some (.string ((rd_T48 l1 (ji10)).f1)) ∧ w'.cell? ⟨(ad496.add (((ji10)).toNat * 3)).block, (ad496.add (((ji10)).toNat * 3)).off + 2, none⟩ = some (.slice A499_2 ((rd_T48 l1 (ji10)).f2).length c499_2)) (ds := []) #[false, false, false, false, false, false, false, false, false, false, false, false, false, false, false, false, false, false] (by kernel_rfl) rfl rfl ⟨bc0 BK495.out, bc1 BK495.out, bc0 BK497.out, bc1 BK497.out, bc2 BK497.out, (bx HB hw499_0), (bx HB hw499_1), (bx HB hw499_2)⟩ (fun hHeld => ?_); refine with_tabW impl_TableOk.tab4 impl_TableOk.bits4 (fun HT_ HW_ => ?_)
       generalize w18.drew = w19 at BK495 BK497 HB HR499_2 hx499_0 hx499_1 hx499_2 hHeld ⊢
       refine tA 0 (some 14) (bz 18 1) HT_ HW_ hHeld ?_
       refine tA 1 (some 15) (bz 18 3) HT_ HW_ hHeld ?_
       refine oA 2 (some 16) (bz 18 7) HT_ (fun K hK => ?_)
       refine gA Tryz.func48 #[.agg #[.int .i64 a0_0, .int .i64 a0_1], .agg #[.int .i64 ((rd_T48 l1 x9_1).f0), .string ((rd_T48 l1 x9_1).f1), .slice A496_2 ((rd_T48 l1 x9_1).f2).length c496_2]] ?_
       with_reducible refine (impl_PartOk.calls k1 a0_0 a0_1 ((rd_T48 l1 x9_1).f0) ((rd_T48 l1 x9_1).f1) _ _ ((rd_T48 l1 x9_1).f2) true _ ?side1 ?side2 A7.out).mono ?_
       (case side1 => exact ch HR496_2 HB)
       (case side2 => exact HC496_2.out)
       rintro e w20 ⟨rfl, hb⟩
       refine ⟨_, rfl, ?_⟩
       replace BK495 := bk BK495 hb; replace BK497 := bk BK497 hb; replace HB := bs HB hb
       (try clear hb)
       (try clear hb2)
       (try clear hk)
       (try clear hi)
       refine hK.out _ _ ⟨bc0 BK495.out, bc1 BK495.out, bc0 BK497.out, bc1 BK497.out, bc2 BK497.out, (bx HB hw499_0), (bx HB hw499_1), (bx HB hw499_2)⟩ (fun hHeld => ?_)
       clear hK K
       refine nA (some 16) ?_
       refine pA 3 (some 17) (bz 18 15) HT_ ?_
       refine pA 4 (some 18) (bz 18 31) HT_ ?_
       refine pA 5 (some 19) (bz 18 63) HT_ ?_
       refine pA 6 (some 20) (bz 18 127) HT_ ?_
       refine pA 7 (some 21) (bz 18 255) HT_ ?_
       refine pA 8 (some 22) (bz 18 511) HT_ ?_
       refine pA 9 (some 23) (bz 18 1023) HT_ ?_
       refine pA 10 (some 24) (bz 18 2047) HT_ ?_
       refine pA 11 (some 25) (bz 18 4095) HT_ ?_
       refine tA 12 (some 26) (bz 18 0x1fff) HT_ HW_ hHeld ?_
       refine tA 13 (some 27) (bz 18 0x3fff) HT_ HW_ hHeld ?_
       refine oA 14 (some 28) (bz 18 0x7fff) HT_ (fun K hK => ?_)
       refine goes_ Tryz.func83 (by kernel_rfl) rfl #[.agg #[.int .i64 ((rd_T48 l1 (ji10)).f0), .string ((rd_T48 l1 (ji10)).f1), .slice A499_2 ((rd_T48 l1 (ji10)).f2).length c499_2], .agg #[.int .i64 ((rd_T48 l1 x9_1).f0), .string ((rd_T48 l1 x9_1).f1), .slice A496_2 ((rd_T48 l1 x9_1).f2).length c496_2]] (by rfl) rfl rfl (by (try simp only [List.map_toArray, List.map_cons, List.map_nil]); first | done | (simp only [hji10]; rfl) | rfl | (simp only [List.length_drop, List.length_take]; rfl)) ?_
       with_reducible refine (impl_comparePlace.calls ((rd_T48 l1 (ji10)).f0) ((rd_T48 l1 (ji10)).f1) _ _ ((rd_T48 l1 (ji10)).f2) ((rd_T48 l1 x9_1).f0) ((rd_T48 l1 x9_1).f1) _ _ ((rd_T48 l1 x9_1).f2) t500 _ ?side1 ?side2 ?side3 ?side4 A13.out).mono ?_
       (case side1 => exact ch HR499_2 HB)
       (case side2 => exact HC499_2.out)
       (case side3 => exact ch HR496_2 HB)
       (case side4 => exact HC496_2.out)
       rintro e w21 ⟨rfl, hb⟩
       refine ⟨_, rfl, ?_⟩
       replace BK495 := bk BK495 hb; replace BK497 := bk BK497 hb; replace HB := bs HB hb
       (try clear hb)
       (try clear hb2)
       (try clear hk)
       (try clear hi)
       refine hK.out _ _ ⟨bc0 BK495.out, bc1 BK495.out, bc0 BK497.out, bc1 BK497.out, bc2 BK497.out, (bx HB hw499_0), (bx HB hw499_1), (bx HB hw499_2)⟩ (fun hHeld => ?_)
       clear hK K
       refine nA (some 28) ?_
       refine pA 15 (some 29) (bz 18 0xffff) HT_ ?_
       refine pA 16 (some 30) (bz 18 0x1ffff) HT_ ?_
       refine pA 17 (some 31) (bz 18 0x3ffff) HT_ ?_
       refine done_ (done_of HT_.out (by kernel_rfl)) ?_
       try go_wp2
       go_ret
       exact ⟨by first | rfl | (simp [errW_none, errW_some] <;> rfl) | (simp only [← hji10]; first | rfl | (simp [errW_none, errW_some] <;> rfl)) | (simp [*, errW_none, errW_some] <;> rfl), bI HB.out⟩
      rw [if_neg c14] at H
      have c14b0 : decide (0 ≤ t500) = false := decide_eq_false c14; clear c14; have H' := Aside0.mk H; clear H; have p496 : 0 ≤ (x9_1 : Int) := of_decide_eq_true y0_12; have q496 : x9_1 < (l1.length : Int) := of_decide_eq_true y0_12; obtain ⟨ad496, A496_2, c496_2, e496, hx496_0, hx496_1, hx496_2, hl496_2, hi496_2⟩ := at_T48 HR1.out x9_1 p496 q496; have hr496_2 := hx496_2; cases e496; replace hx496_0 := bx HB hx496_0; replace hx496_1 := bx HB hx496_1; replace hx496_2 := bx HB hx496_2; have HR496_2 := Aside0.mk hi496_2; have HC496_2 := Aside0.mk hl496_2; clear hi496_2 hl496_2; replace p496 := eq_true p496; replace q496 := eq_true q496
      try go_wp2_with (first | ((with_reducible refine gd 6 ?_); refine bA 6 #[.int .i64 0, .string (⟨#[]⟩ : ByteArray), .slice none 0 0] 48 ?_; intro gb497 hg w22 hbox hb; have BK497 := Aside0.mk (hbox); have GW497 := bg hg HB; have GJ497 := gi GW497; have GE497 := GW497; replace HB := bs HB hb; have NB495_497 := b1 BK495 hg; have NI495_497 := ni NB495_497; have NB497_495 := b2 BK495 hg; have NI497_495 := ni NB497_495; replace BK495 := bk BK495 hb; clear hb hbox hg; have hnb23 := NB497_495.out; have hnc23 := NB495_497.out; obtain ⟨hcz24_0, hcz24_1, hcz24_2, hfz24_0, hfz24_1, hfz24_2⟩ := cs3 BK497))
      have n0_ : Aside0 ((((w22.setCell ⟨gb497, 0, none⟩ (.int .i64 ((rd_T48 l1 x9_1).f0))).setCell ⟨gb497, 1, none⟩ (.string ((rd_T48 l1 x9_1).f1))).setCell ⟨gb497, 2, none⟩ (.slice A496_2 ((rd_T48 l1 x9_1).f2).length c496_2)).heap[gb495]? = some (.cells #[.int .i64 a0_0, .int .i64 a0_1] 32 (0, 0))) := ⟨gI BK495.out⟩; have n1_ : Aside0 ((((w22.setCell ⟨gb497, 0, none⟩ (.int .i64 ((rd_T48 l1 x9_1).f0))).setCell ⟨gb497, 1, none⟩ (.string ((rd_T48 l1 x9_1).f1))).setCell ⟨gb497, 2, none⟩ (.slice A496_2 ((rd_T48 l1 x9_1).f2).length c496_2)).heap[gb497]? = some (.cells #[.int .i64 ((rd_T48 l1 x9_1).f0), .string ((rd_T48 l1 x9_1).f1), .slice A496_2 ((rd_T48 l1 x9_1).f2).length c496_2] 48 (0, 0))) := ⟨pI BK497⟩; have n2_ : Aside0 (Below w.heap.size w (((w22.setCell ⟨gb497, 0, none⟩ (.int .i64 ((rd_T48 l1 x9_1).f0))).setCell ⟨gb497, 1, none⟩ (.string ((rd_T48 l1 x9_1).f1))).setCell ⟨gb497, 2, none⟩ (.slice A496_2 ((rd_T48 l1 x9_1).f2).length c496_2))) := ⟨bI HB.out⟩
      (try clear BK495)
      (try clear BK497)
      (try clear HB)
      generalize (((w22.setCell ⟨gb497, 0, none⟩ (.int .i64 ((rd_T48 l1 x9_1).f0))).setCell ⟨gb497, 1, none⟩ (.string ((rd_T48 l1 x9_1).f1))).setCell ⟨gb497, 2, none⟩ (.slice A496_2 ((rd_T48 l1 x9_1).f2).length c496_2)) = w25 at n0_ n1_ n2_ ⊢
      have BK495 := n0_; have BK497 := n1_; have HB := n2_; clear n0_ n1_ n2_; replace BK495 := Aside0.mk (blk_drew BK495.out); replace BK497 := Aside0.mk (blk_drew BK497.out); replace HB := Aside0.mk (below_drew1 HB.out); have p499 : 0 ≤ ((ji10) : Int) := of_decide_eq_true y0_12; have q499 : (ji10) < (l1.length : Int) := of_decide_eq_true y0_12; obtain ⟨ad499, A499_2, c499_2, e499, hx499_0, hx499_1, hx499_2, hl499_2, hi499_2⟩ := at_T48 HR1.out (ji10) p499 q499; have hr499_2 := hx499_2; have hw499_2 := hx499_2; have hw499_1 := hx499_1; have hw499_0 := hx499_0
      obtain rfl : ad496 = ad499 := (by injection e499)
      replace hx499_0 := bx HB hx499_0; replace hx499_1 := bx HB hx499_1; replace hx499_2 := bx HB hx499_2; have HR499_2 := Aside0.mk hi499_2; have HC499_2 := Aside0.mk hl499_2; clear hi499_2 hl499_2; replace p499 := eq_true p499; replace q499 := eq_true q499
      refine start_ (n := 18) (S := fun w' => w'.cell? ⟨gb495, 0, none⟩ = some (.int .i64 a0_0) ∧ w'.cell? ⟨gb495, 1, none⟩ = some (.int .i64 a0_1) ∧ w'.cell? ⟨gb497, 0, none⟩ = some (.int .i64 ((rd_T48 l1 x9_1).f0)) ∧ w'.cell? ⟨gb497, 1, none⟩ = some (.string ((rd_T48 l1 x9_1).f1)) ∧ w'.cell? ⟨gb497, 2, none⟩ = some (.slice A496_2 ((rd_T48 l1 x9_1).f2).length c496_2) ∧ w'.cell? (ad496.add (((ji10)).toNat * 3)) = some (.int .i64 ((rd_T48 l1 (ji10)).f0)) ∧ w'.cell? ⟨(ad496.add (((ji10)).toNat * 3)).block, (ad496.add (((ji10)).toNat * 3)).off + 1, none⟩ = some (.string ((rd_T48 l1 (ji10)).f1)) ∧ w'.cell? ⟨(ad496.add (((ji10)).toNat * 3)).block, (ad496.add (((ji10)).toNat * 3)).off + 2, none⟩ = some (.slice A499_2 ((rd_T48 l1 (ji10)).f2).length c499_2)) (ds := []) #[false, false, false, false, false, false, false, false, false, false, false, false, false, false, false, false, false, false] (by kernel_rfl) rfl rfl ⟨bc0 BK495.out, bc1 BK495.out, bc0 BK497.out, bc1 BK497.out, bc2 BK497.out, (bx HB hw499_0), (bx HB hw499_1), (bx HB hw499_2)⟩ (fun hHeld => ?_); refine with_tabW impl_TableOk.tab4 impl_TableOk.bits4 (fun HT_ HW_ => ?_)
      generalize w25.drew = w26 at BK495 BK497 HB HR499_2 hx499_0 hx499_1 hx499_2 hHeld ⊢
      refine tA 0 (some 14) (bz 18 1) HT_ HW_ hHeld ?_
      refine tA 1 (some 15) (bz 18 3) HT_ HW_ hHeld ?_
      refine oA 2 (some 16) (bz 18 7) HT_ (fun K hK => ?_)
      refine gA Tryz.func48 #[.agg #[.int .i64 a0_0, .int .i64 a0_1], .agg #[.int .i64 ((rd_T48 l1 x9_1).f0), .string ((rd_T48 l1 x9_1).f1), .slice A496_2 ((rd_T48 l1 x9_1).f2).length c496_2]] ?_
      with_reducible refine (impl_PartOk.calls k1 a0_0 a0_1 ((rd_T48 l1 x9_1).f0) ((rd_T48 l1 x9_1).f1) _ _ ((rd_T48 l1 x9_1).f2) true _ ?side1 ?side2 A7.out).mono ?_
      (case side1 => exact ch HR496_2 HB)
      (case side2 => exact HC496_2.out)
      rintro e w27 ⟨rfl, hb⟩
      refine ⟨_, rfl, ?_⟩
      replace BK495 := bk BK495 hb; replace BK497 := bk BK497 hb; replace HB := bs HB hb
      (try clear hb)
      (try clear hb2)
      (try clear hk)
      (try clear hi)
      refine hK.out _ _ ⟨bc0 BK495.out, bc1 BK495.out, bc0 BK497.out, bc1 BK497.out, bc2 BK497.out, (bx HB hw499_0), (bx HB hw499_1), (bx HB hw499_2)⟩ (fun hHeld => ?_)
      clear hK K
      refine nA (some 16) ?_
      refine pA 3 (some 17) (bz 18 15) HT_ ?_
      refine pA 4 (some 18) (bz 18 31) HT_ ?_
      refine pA 5 (some 19) (bz 18 63) HT_ ?_
      refine pA 6 (some 20) (bz 18 127) HT_ ?_
      refine pA 7 (some 21) (bz 18 255) HT_ ?_
      refine pA 8 (some 22) (bz 18 511) HT_ ?_
      refine pA 9 (some 23) (bz 18 1023) HT_ ?_
      refine pA 10 (some 24) (bz 18 2047) HT_ ?_
      refine pA 11 (some 25) (bz 18 4095) HT_ ?_
      refine tA 12 (some 26) (bz 18 0x1fff) HT_ HW_ hHeld ?_
      refine tA 13 (some 27) (bz 18 0x3fff) HT_ HW_ hHeld ?_
      refine oA 14 (some 28) (bz 18 0x7fff) HT_ (fun K hK => ?_)
      refine goes_ Tryz.func83 (by kernel_rfl) rfl #[.agg #[.int .i64 ((rd_T48 l1 (ji10)).f0), .string ((rd_T48 l1 (ji10)).f1), .slice A499_2 ((rd_T48 l1 (ji10)).f2).length c499_2], .agg #[.int .i64 ((rd_T48 l1 x9_1).f0), .string ((rd_T48 l1 x9_1).f1), .slice A496_2 ((rd_T48 l1 x9_1).f2).length c496_2]] (by rfl) rfl rfl (by (try simp only [List.map_toArray, List.map_cons, List.map_nil]); first | done | (simp only [hji10]; rfl) | rfl | (simp only [List.length_drop, List.length_take]; rfl)) ?_
      with_reducible refine (impl_comparePlace.calls ((rd_T48 l1 (ji10)).f0) ((rd_T48 l1 (ji10)).f1) _ _ ((rd_T48 l1 (ji10)).f2) ((rd_T48 l1 x9_1).f0) ((rd_T48 l1 x9_1).f1) _ _ ((rd_T48 l1 x9_1).f2) t500 _ ?side1 ?side2 ?side3 ?side4 A13.out).mono ?_
      (case side1 => exact ch HR499_2 HB)
      (case side2 => exact HC499_2.out)
      (case side3 => exact ch HR496_2 HB)
      (case side4 => exact HC496_2.out)
      rintro e w28 ⟨rfl, hb⟩
      refine ⟨_, rfl, ?_⟩
      replace BK495 := bk BK495 hb; replace BK497 := bk BK497 hb; replace HB := bs HB hb
      (try clear hb)
      (try clear hb2)
      (try clear hk)
      (try clear hi)
      refine hK.out _ _ ⟨bc0 BK495.out, bc1 BK495.out, bc0 BK497.out, bc1 BK497.out, bc2 BK497.out, (bx HB hw499_0), (bx HB hw499_1), (bx HB hw499_2)⟩ (fun hHeld => ?_)
      clear hK K
      refine nA (some 28) ?_
      refine pA 15 (some 29) (bz 18 0xffff) HT_ ?_
      refine pA 16 (some 30) (bz 18 0x1ffff) HT_ ?_
      refine pA 17 (some 31) (bz 18 0x3ffff) HT_ ?_
      refine done_ (done_of HT_.out (by kernel_rfl)) ?_
      try go_wp2
      go_roundg k1
      case measure => have := HK1.out; omega
      case rel => exact ⟨(wrap64 (x9_1 + 1)), y0_13, H', ⟨y0_16⟩, ⟨gI BK495.out⟩, ⟨bI HB.out⟩⟩
     rw [if_neg c9] at H
     have c9b0 : decide (0 < x9_1) = false := decide_eq_false c9; clear c9; have H' := Aside0.mk H; clear H; have p496 : 0 ≤ (x9_1 : Int) := of_decide_eq_true y0_12; have q496 : x9_1 < (l1.length : Int) := of_decide_eq_true y0_12; obtain ⟨ad496, A496_2, c496_2, e496, hx496_0, hx496_1, hx496_2, hl496_2, hi496_2⟩ := at_T48 HR1.out x9_1 p496 q496; have hr496_2 := hx496_2; cases e496; replace hx496_0 := bx HB hx496_0; replace hx496_1 := bx HB hx496_1; replace hx496_2 := bx HB hx496_2; have HR496_2 := Aside0.mk hi496_2; have HC496_2 := Aside0.mk hl496_2; clear hi496_2 hl496_2; replace p496 := eq_true p496; replace q496 := eq_true q496
     try go_wp2_with (first | ((with_reducible refine gd 6 ?_); refine bA 6 #[.int .i64 0, .string (⟨#[]⟩ : ByteArray), .slice none 0 0] 48 ?_; intro gb497 hg w29 hbox hb; have BK497 := Aside0.mk (hbox); have GW497 := bg hg HB; have GJ497 := gi GW497; have GE497 := GW497; replace HB := bs HB hb; have NB495_497 := b1 BK495 hg; have NI495_497 := ni NB495_497; have NB497_495 := b2 BK495 hg; have NI497_495 := ni NB497_495; replace BK495 := bk BK495 hb; clear hb hbox hg; have hnb30 := NB497_495.out; have hnc30 := NB495_497.out; obtain ⟨hcz31_0, hcz31_1, hcz31_2, hfz31_0, hfz31_1, hfz31_2⟩ := cs3 BK497))
     have n0_ : Aside0 ((((w29.setCell ⟨gb497, 0, none⟩ (.int .i64 ((rd_T48 l1 x9_1).f0))).setCell ⟨gb497, 1, none⟩ (.string ((rd_T48 l1 x9_1).f1))).setCell ⟨gb497, 2, none⟩ (.slice A496_2 ((rd_T48 l1 x9_1).f2).length c496_2)).heap[gb495]? = some (.cells #[.int .i64 a0_0, .int .i64 a0_1] 32 (0, 0))) := ⟨gI BK495.out⟩; have n1_ : Aside0 ((((w29.setCell ⟨gb497, 0, none⟩ (.int .i64 ((rd_T48 l1 x9_1).f0))).setCell ⟨gb497, 1, none⟩ (.string ((rd_T48 l1 x9_1).f1))).setCell ⟨gb497, 2, none⟩ (.slice A496_2 ((rd_T48 l1 x9_1).f2).length c496_2)).heap[gb497]? = some (.cells #[.int .i64 ((rd_T48 l1 x9_1).f0), .string ((rd_T48 l1 x9_1).f1), .slice A496_2 ((rd_T48 l1 x9_1).f2).length c496_2] 48 (0, 0))) := ⟨pI BK497⟩; have n2_ : Aside0 (Below w.heap.size w (((w29.setCell ⟨gb497, 0, none⟩ (.int .i64 ((rd_T48 l1 x9_1).f0))).setCell ⟨gb497, 1, none⟩ (.string ((rd_T48 l1 x9_1).f1))).setCell ⟨gb497, 2, none⟩ (.slice A496_2 ((rd_T48 l1 x9_1).f2).length c496_2))) := ⟨bI HB.out⟩
     (try clear BK495)
     (try clear BK497)
     (try clear HB)
     generalize (((w29.setCell ⟨gb497, 0, none⟩ (.int .i64 ((rd_T48 l1 x9_1).f0))).setCell ⟨gb497, 1, none⟩ (.string ((rd_T48 l1 x9_1).f1))).setCell ⟨gb497, 2, none⟩ (.slice A496_2 ((rd_T48 l1 x9_1).f2).length c496_2)) = w32 at n0_ n1_ n2_ ⊢
     have BK495 := n0_; have BK497 := n1_; have HB := n2_; clear n0_ n1_ n2_; replace BK495 := Aside0.mk (blk_drew BK495.out); replace BK497 := Aside0.mk (blk_drew BK497.out); replace HB := Aside0.mk (below_drew1 HB.out)
     refine start_ (n := 18) (S := fun w' => w'.cell? ⟨gb495, 0, none⟩ = some (.int .i64 a0_0) ∧ w'.cell? ⟨gb495, 1, none⟩ = some (.int .i64 a0_1) ∧ w'.cell? ⟨gb497, 0, none⟩ = some (.int .i64 ((rd_T48 l1 x9_1).f0)) ∧ w'.cell? ⟨gb497, 1, none⟩ = some (.string ((rd_T48 l1 x9_1).f1)) ∧ w'.cell? ⟨gb497, 2, none⟩ = some (.slice A496_2 ((rd_T48 l1 x9_1).f2).length c496_2)) (ds := []) #[false, false, false, false, false, false, false, false, false, false, false, false, false, false, false, false, false, false] (by kernel_rfl) rfl rfl ⟨bc0 BK495.out, bc1 BK495.out, bc0 BK497.out, bc1 BK497.out, bc2 BK497.out⟩ (fun hHeld => ?_); refine with_tabW impl_TableOk.tab4 impl_TableOk.bits4 (fun HT_ HW_ => ?_)
     generalize w32.drew = w33 at BK495 BK497 HB hHeld ⊢
     refine tA 0 (some 14) (bz 18 1) HT_ HW_ hHeld ?_
     refine tA 1 (some 15) (bz 18 3) HT_ HW_ hHeld ?_
     refine oA 2 (some 16) (bz 18 7) HT_ (fun K hK => ?_)
     refine gA Tryz.func48 #[.agg #[.int .i64 a0_0, .int .i64 a0_1], .agg #[.int .i64 ((rd_T48 l1 x9_1).f0), .string ((rd_T48 l1 x9_1).f1), .slice A496_2 ((rd_T48 l1 x9_1).f2).length c496_2]] ?_
     with_reducible refine (impl_PartOk.calls k1 a0_0 a0_1 ((rd_T48 l1 x9_1).f0) ((rd_T48 l1 x9_1).f1) _ _ ((rd_T48 l1 x9_1).f2) true _ ?side1 ?side2 A7.out).mono ?_
     (case side1 => exact ch HR496_2 HB)
     (case side2 => exact HC496_2.out)
     rintro e w34 ⟨rfl, hb⟩
     refine ⟨_, rfl, ?_⟩
     replace BK495 := bk BK495 hb; replace BK497 := bk BK497 hb; replace HB := bs HB hb
     (try clear hb)
     (try clear hb2)
     (try clear hk)
     (try clear hi)
     refine hK.out _ _ ⟨bc0 BK495.out, bc1 BK495.out, bc0 BK497.out, bc1 BK497.out, bc2 BK497.out⟩ (fun hHeld => ?_)
     clear hK K
     refine nA (some 16) ?_
     refine pA 3 (some 17) (bz 18 15) HT_ ?_
     refine pA 4 (some 18) (bz 18 31) HT_ ?_
     refine pA 5 (some 19) (bz 18 63) HT_ ?_
     refine pA 6 (some 20) (bz 18 127) HT_ ?_
     refine pA 7 (some 21) (bz 18 255) HT_ ?_
     refine pU 8 (some 22) (bz 18 511) HT_ ?_
     refine pU 9 (some 23) (bz 18 1023) HT_ ?_
     refine pU 10 (some 24) (bz 18 2047) HT_ ?_
     refine pU 11 (some 25) (bz 18 4095) HT_ ?_
     refine pU 12 (some 26) (bz 18 0x1fff) HT_ ?_
     refine pU 13 (some 27) (bz 18 0x3fff) HT_ ?_
     refine pU 14 (some 28) (bz 18 0x7fff) HT_ ?_
     refine pU 15 (some 29) (bz 18 0xffff) HT_ ?_
     refine pA 16 (some 30) (bz 18 0x1ffff) HT_ ?_
     refine pA 17 (some 31) (bz 18 0x3ffff) HT_ ?_
     refine done_ (done_of HT_.out (by kernel_rfl)) ?_
     try go_wp2
     go_roundg k1
     case measure => have := HK1.out; omega
     case rel => exact ⟨(wrap64 (x9_1 + 1)), y0_13, H', ⟨y0_16⟩, ⟨gI BK495.out⟩, ⟨bI HB.out⟩⟩
    replace c8 := Bool.eq_false_iff.mpr c8; subst c8
    rw [if_neg (show ¬ (false = true) by decide)] at H
    obtain rfl := Option.some.inj H; have p496 : 0 ≤ (x9_1 : Int) := of_decide_eq_true y0_12; have q496 : x9_1 < (l1.length : Int) := of_decide_eq_true y0_12; obtain ⟨ad496, A496_2, c496_2, e496, hx496_0, hx496_1, hx496_2, hl496_2, hi496_2⟩ := at_T48 HR1.out x9_1 p496 q496; have hr496_2 := hx496_2; cases e496; replace hx496_0 := bx HB hx496_0; replace hx496_1 := bx HB hx496_1; replace hx496_2 := bx HB hx496_2; have HR496_2 := Aside0.mk hi496_2; have HC496_2 := Aside0.mk hl496_2; clear hi496_2 hl496_2; replace p496 := eq_true p496; replace q496 := eq_true q496
    try go_wp2_with (first | ((with_reducible refine gd 6 ?_); refine bA 6 #[.int .i64 0, .string (⟨#[]⟩ : ByteArray), .slice none 0 0] 48 ?_; intro gb497 hg w35 hbox hb; have BK497 := Aside0.mk (hbox); have GW497 := bg hg HB; have GJ497 := gi GW497; have GE497 := GW497; replace HB := bs HB hb; have NB495_497 := b1 BK495 hg; have NI495_497 := ni NB495_497; have NB497_495 := b2 BK495 hg; have NI497_495 := ni NB497_495; replace BK495 := bk BK495 hb; clear hb hbox hg; have hnb36 := NB497_495.out; have hnc36 := NB495_497.out; obtain ⟨hcz37_0, hcz37_1, hcz37_2, hfz37_0, hfz37_1, hfz37_2⟩ := cs3 BK497))
    have n0_ : Aside0 ((((w35.setCell ⟨gb497, 0, none⟩ (.int .i64 ((rd_T48 l1 x9_1).f0))).setCell ⟨gb497, 1, none⟩ (.string ((rd_T48 l1 x9_1).f1))).setCell ⟨gb497, 2, none⟩ (.slice A496_2 ((rd_T48 l1 x9_1).f2).length c496_2)).heap[gb495]? = some (.cells #[.int .i64 a0_0, .int .i64 a0_1] 32 (0, 0))) := ⟨gI BK495.out⟩; have n1_ : Aside0 ((((w35.setCell ⟨gb497, 0, none⟩ (.int .i64 ((rd_T48 l1 x9_1).f0))).setCell ⟨gb497, 1, none⟩ (.string ((rd_T48 l1 x9_1).f1))).setCell ⟨gb497, 2, none⟩ (.slice A496_2 ((rd_T48 l1 x9_1).f2).length c496_2)).heap[gb497]? = some (.cells #[.int .i64 ((rd_T48 l1 x9_1).f0), .string ((rd_T48 l1 x9_1).f1), .slice A496_2 ((rd_T48 l1 x9_1).f2).length c496_2] 48 (0, 0))) := ⟨pI BK497⟩; have n2_ : Aside0 (Below w.heap.size w (((w35.setCell ⟨gb497, 0, none⟩ (.int .i64 ((rd_T48 l1 x9_1).f0))).setCell ⟨gb497, 1, none⟩ (.string ((rd_T48 l1 x9_1).f1))).setCell ⟨gb497, 2, none⟩ (.slice A496_2 ((rd_T48 l1 x9_1).f2).length c496_2))) := ⟨bI HB.out⟩
    (try clear BK495)
    (try clear BK497)
    (try clear HB)
    generalize (((w35.setCell ⟨gb497, 0, none⟩ (.int .i64 ((rd_T48 l1 x9_1).f0))).setCell ⟨gb497, 1, none⟩ (.string ((rd_T48 l1 x9_1).f1))).setCell ⟨gb497, 2, none⟩ (.slice A496_2 ((rd_T48 l1 x9_1).f2).length c496_2)) = w38 at n0_ n1_ n2_ ⊢
    have BK495 := n0_; have BK497 := n1_; have HB := n2_; clear n0_ n1_ n2_; replace BK495 := Aside0.mk (blk_drew BK495.out); replace BK497 := Aside0.mk (blk_drew BK497.out); replace HB := Aside0.mk (below_drew1 HB.out)
    refine start_ (n := 18) (S := fun w' => w'.cell? ⟨gb495, 0, none⟩ = some (.int .i64 a0_0) ∧ w'.cell? ⟨gb495, 1, none⟩ = some (.int .i64 a0_1) ∧ w'.cell? ⟨gb497, 0, none⟩ = some (.int .i64 ((rd_T48 l1 x9_1).f0)) ∧ w'.cell? ⟨gb497, 1, none⟩ = some (.string ((rd_T48 l1 x9_1).f1)) ∧ w'.cell? ⟨gb497, 2, none⟩ = some (.slice A496_2 ((rd_T48 l1 x9_1).f2).length c496_2)) (ds := []) #[false, false, false, false, false, false, false, false, false, false, false, false, false, false, false, false, false, false] (by kernel_rfl) rfl rfl ⟨bc0 BK495.out, bc1 BK495.out, bc0 BK497.out, bc1 BK497.out, bc2 BK497.out⟩ (fun hHeld => ?_); refine with_tabW impl_TableOk.tab4 impl_TableOk.bits4 (fun HT_ HW_ => ?_)
    generalize w38.drew = w39 at BK495 BK497 HB hHeld ⊢
    refine tA 0 (some 14) (bz 18 1) HT_ HW_ hHeld ?_
    refine tA 1 (some 15) (bz 18 3) HT_ HW_ hHeld ?_
    refine oA 2 (some 16) (bz 18 7) HT_ (fun K hK => ?_)
    refine gA Tryz.func48 #[.agg #[.int .i64 a0_0, .int .i64 a0_1], .agg #[.int .i64 ((rd_T48 l1 x9_1).f0), .string ((rd_T48 l1 x9_1).f1), .slice A496_2 ((rd_T48 l1 x9_1).f2).length c496_2]] ?_
    with_reducible refine (impl_PartOk.calls k1 a0_0 a0_1 ((rd_T48 l1 x9_1).f0) ((rd_T48 l1 x9_1).f1) _ _ ((rd_T48 l1 x9_1).f2) false _ ?side1 ?side2 A7.out).mono ?_
    (case side1 => exact ch HR496_2 HB)
    (case side2 => exact HC496_2.out)
    rintro e w40 ⟨rfl, hb⟩
    refine ⟨_, rfl, ?_⟩
    replace BK495 := bk BK495 hb; replace BK497 := bk BK497 hb; replace HB := bs HB hb
    (try clear hb)
    (try clear hb2)
    (try clear hk)
    (try clear hi)
    refine hK.out _ _ ⟨bc0 BK495.out, bc1 BK495.out, bc0 BK497.out, bc1 BK497.out, bc2 BK497.out⟩ (fun hHeld => ?_)
    clear hK K
    refine nA (some 16) ?_
    refine pA 3 (some 17) (bz 18 15) HT_ ?_
    refine pA 4 (some 18) (bz 18 31) HT_ ?_
    refine pU 5 (some 19) (bz 18 63) HT_ ?_
    refine pU 6 (some 20) (bz 18 127) HT_ ?_
    refine pU 7 (some 21) (bz 18 255) HT_ ?_
    refine pU 8 (some 22) (bz 18 511) HT_ ?_
    refine pU 9 (some 23) (bz 18 1023) HT_ ?_
    refine pU 10 (some 24) (bz 18 2047) HT_ ?_
    refine pU 11 (some 25) (bz 18 4095) HT_ ?_
    refine pU 12 (some 26) (bz 18 0x1fff) HT_ ?_
    refine pU 13 (some 27) (bz 18 0x3fff) HT_ ?_
    refine pU 14 (some 28) (bz 18 0x7fff) HT_ ?_
    refine pU 15 (some 29) (bz 18 0xffff) HT_ ?_
    refine pU 16 (some 30) (bz 18 0x1ffff) HT_ ?_
    refine pA 17 (some 31) (bz 18 0x3ffff) HT_ ?_
    refine done_ (done_of HT_.out (by kernel_rfl)) ?_
    try go_wp2
    go_ret
    exact ⟨y0_7, bI HB.out⟩
   rw [if_neg c4] at H
   have c4b0 : decide (x9_1 < (l1.length : Int)) = false := decide_eq_false c4; clear c4; obtain rfl := Option.some.inj H
   go_wp2
   go_ret
   exact ⟨y0_7, bI HB.out⟩

end Go.Proofs.YtdmjhgogljhfkaaGreatDoor.PFnExactTableAdd
