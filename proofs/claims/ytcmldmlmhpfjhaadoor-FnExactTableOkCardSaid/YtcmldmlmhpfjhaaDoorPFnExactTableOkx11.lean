-- By a program of this session, out of the translation (the print of the kit, with turns of its own). Lean checks it.
import Derived.Test.YtcmldmlmhpfjhaaDoorPFnExactTableOkx0
import Derived.Test.YtcmldmlmhpfjhaaDoorPFnExactTableOkx9
import Derived.Test.YtcmldmlmhpfjhaaDoorPFnExactTableOkx10
namespace Go.Proofs.YtcmldmlmhpfjhaaDoor.PFnExactTableOk
open Go.RowKit Go.Proofs.YtcmldmlmhpfjhaaDoorW.PrintWords Go.Proofs.YtcmldmlmhpfjhaaDoorW.PrintLast Go.Proofs.YtcmldmlmhpfjhaaDoorW.PrintMore
attribute [local go_sem] max2_int min2_int max_two min_two max_three min_three max_four min_four   -- for this text's walks alone
set_option linter.unusedVariables false
set_option linter.unusedSimpArgs false

/-! ### impl_TableOk: function 31 -/
def impl_TableOk.l0 : Nat → List (S34) → List (S34) → Int → Int → Int → Int → Option (Bool)
  | 0, _, _, _, _, _, _ => none
  | k + 1, x1, x7, x8, x9, x334000, x334001 => if x9 < x8 then (if 0 ≤ x9 then (if x9 < (x7.length : Int) then ((impl_PartOk.f k x334000 x334001 ((rd_T34 x7 x9).f0) ((rd_T34 x7 x9).f1) ((rd_T34 x7 x9).f2)).bind fun t336 => (if t336 = true then (if x9 > 0 then (if 0 ≤ (wrap64 (x9 - 1)) then (if (wrap64 (x9 - 1)) < (x1.length : Int) then ((impl_comparePlace.f ((rd_T34 x1 (wrap64 (x9 - 1))).f0) ((rd_T34 x1 (wrap64 (x9 - 1))).f1) ((rd_T34 x1 (wrap64 (x9 - 1))).f2) ((rd_T34 x7 x9).f0) ((rd_T34 x7 x9).f1) ((rd_T34 x7 x9).f2)).bind fun t338 => (if t338 ≥ 0 then (some false) else (impl_TableOk.l0 k x1 x7 x8 (wrap64 (x9 + 1)) x334000 x334001))) else (none)) else (none)) else (impl_TableOk.l0 k x1 x7 x8 (wrap64 (x9 + 1)) x334000 x334001)) else (some false))) else (none)) else (none)) else (some (decide ((x1.length : Int) ≤ 20)))
def impl_TableOk.f (k : Nat) (a0_0 : Int) (a0_1 : Int) (l1 : List (S34)) : Option (Bool) := impl_TableOk.l0 k l1 l1 (l1.length : Int) 0 a0_0 a0_1
theorem impl_TableOk.mono_l : ∀ k, (∀ y0 y1 y2 y3 y4 y5, LeO (impl_TableOk.l0 k y0 y1 y2 y3 y4 y5) (impl_TableOk.l0 (k + 1) y0 y1 y2 y3 y4 y5))
  | 0 => fun _ _ _ _ _ _ r h => by simp [impl_TableOk.l0] at h
  | k + 1 => by
    have ih0 := impl_TableOk.mono_l k
    · intro y0 y1 y2 y3 y4 y5
      unfold impl_TableOk.l0
      repeat' first
      | (with_reducible exact ih0 _ _ _ _ _ _)
      | (with_reducible exact impl_PartOk.mono _ _ _ _ _ _)
      | (with_reducible exact LeO.refl _)
      | (with_reducible exact LeO.none _)
      | (with_reducible refine LeO.ite ?_ ?_)
      | (with_reducible refine LeO.bind ?_ (fun _ => ?_))
      | exact ih0 _ _ _ _ _ _
      | exact impl_PartOk.mono _ _ _ _ _ _
      | exact LeO.none _
      | refine LeO.ite ?_ ?_
      | refine LeO.bind ?_ (fun _ => ?_)
theorem impl_TableOk.mono : ∀ a0 a1 a2 k, LeO (impl_TableOk.f k a0 a1 a2) (impl_TableOk.f (k + 1) a0 a1 a2) := by
  intro a0 a1 a2 k
  have ih0 := impl_TableOk.mono_l k
  unfold impl_TableOk.f
  repeat' first
      | (with_reducible exact ih0 _ _ _ _ _ _)
      | (with_reducible exact impl_PartOk.mono _ _ _ _ _ _)
      | (with_reducible exact LeO.refl _)
      | (with_reducible exact LeO.none _)
      | (with_reducible refine LeO.ite ?_ ?_)
      | (with_reducible refine LeO.bind ?_ (fun _ => ?_))
      | exact ih0 _ _ _ _ _ _
      | exact impl_PartOk.mono _ _ _ _ _ _
      | exact LeO.none _
      | refine LeO.ite ?_ ?_
      | refine LeO.bind ?_ (fun _ => ?_)
def impl_TableOk.T4 : Bool × List (List Nat × List Nat) := (true, [([], []), ([], []), ([0, 1], [0, 1]), ([2], [2]), ([3, 2], [3]), ([4], [4]), ([5, 4], [4, 5]), ([6, 4, 4], [4, 6]), ([7], [7]), ([7], [7]), ([9, 7], [7, 9]), ([8, 10, 7], [7, 8, 10]), ([11, 7], [7, 11]), ([7], [7]), ([12, 13, 7, 7], [7, 12, 13]), ([14, 7], [7, 14]), ([7, 15, 4], [4, 7, 15]), ([4, 16], [4, 16])])
def impl_TableOk.B4 : List Nat := [0, 0, 3, 7, 15, 31, 63, 127, 255, 255, 767, 2047, 4095, 255, 16383, 32767, 65535, 131071]
theorem impl_TableOk.tab4 : rtab .any (opsOf Tryd.f31 4) = impl_TableOk.T4 := by kernel_rfl
theorem impl_TableOk.bits4 : waitsOk impl_TableOk.T4.2 impl_TableOk.B4 = true := by kernel_rfl
set_option maxHeartbeats 8000000 in
set_option maxRecDepth 100000 in
theorem impl_TableOk.calls (k : Nat) (a0_0 : Int) (a0_1 : Int) (A1 : Option Addr) (c1 : Nat) (l1 : List (S34)) (r : Bool) (w : World) (hr1 : Kd.C k34 w A1 l1.length l1) (hc1 : l1.length ≤ c1) (h : impl_TableOk.f k a0_0 a0_1 l1 = some r) (hG : Glob w := by exact gG HG HB) :
    Calls Tryd.prog 31 #[.agg #[.int .i64 a0_0, .int .i64 a0_1], .slice A1 l1.length c1] w fun e w' => e = .returned (.bool r) ∧ Below w.heap.size w w' := by
  have HG := Aside0.mk hG
  clear hG
  have hu32 := Tryd.underlying32
  have hu34 := Tryd.underlying34
  have HR1 := Aside0.mk hr1
  have HC1 := Aside0.mk hc1
  clear hr1 hc1
  have HB := Aside0.mk (Below.refl w.heap.size w)
  have H : (impl_TableOk.l0 k l1 l1 (l1.length : Int) 0 a0_0 a0_1) = some r := h
  clear h
  have H' := Aside0.mk H
  clear H
  go_enter Tryd.func31, Tryd.ntmps31
  go_wp2_with (first | ((with_reducible refine gd 2 ?_); refine bA 2 #[.int .i64 a0_0, .int .i64 a0_1] 32 ?_; intro gb333 hg w3 hbox hb; have BK333 := Aside0.mk (hbox); have GW333 := bg hg HB; have GJ333 := gi GW333; have GE333 := GW333; replace HB := bs HB hb; clear hb hbox hg))
  go_loopg [9] k (fun kq v9 w' => ∃ (x9_1 : Int), v9 = .int .i64 x9_1 ∧ Aside0 (impl_TableOk.l0 kq l1 l1 (l1.length : Int) x9_1 a0_0 a0_1 = some r) ∧ Aside0 (kq ≤ k) ∧ Aside0 (w'.heap[gb333]? = some (.cells #[.int .i64 a0_0, .int .i64 a0_1] 32 (0, 0))) ∧ Aside0 (Below w.heap.size w w'))
  case atStart => exact ⟨(0), y0_8, H', ⟨Nat.le_refl _⟩, ⟨gI BK333.out⟩, ⟨bI HB.out⟩⟩
  case round =>
    clear H'
    try clear c1
    try clear p2
    try clear c3
    obtain ⟨x9_1, rfl, HA, HK1, BK333, HB⟩ := hrel
    cases gk with
    | zero => exact absurd HA.out (by simp [impl_TableOk.l0])
    | succ k1 =>
      have H := HA.out
      clear HA
      simp only [impl_TableOk.l0] at H
      by_cases c4 : x9_1 < (l1.length : Int)
      · rw [if_pos c4] at H
        have c4b0 : decide (x9_1 < (l1.length : Int)) = true := decide_eq_true c4
        clear c4
        by_cases c5 : 0 ≤ x9_1
        rotate_left
        · rw [if_neg c5] at H
          exact absurd H (by simp)
        rw [if_pos c5] at H
        have c5b0 : decide (0 ≤ x9_1) = true := decide_eq_true c5
        clear c5
        by_cases c6 : x9_1 < (l1.length : Int)
        rotate_left
        · rw [if_neg c6] at H
          exact absurd H (by simp)
        rw [if_pos c6] at H
        have c6b0 : decide (x9_1 < (l1.length : Int)) = true := decide_eq_true c6
        clear c6
        obtain ⟨t336, A70, H⟩ := Option.bind_eq_some_iff.mp H
        try dsimp only at H
        have A7 := Aside0.mk A70
        clear A70
        by_cases c8 : t336 = true
        · subst c8
          rw [if_pos rfl] at H
          by_cases c9 : x9_1 > 0
          · rw [if_pos c9] at H
            have c9b0 : decide (0 < x9_1) = true := decide_eq_true c9
            clear c9
            obtain ⟨ji10, hji10⟩ : ∃ j_ : Int, (wrap64 (x9_1 - 1)) = j_ := ⟨_, rfl⟩
            replace H : (if 0 ≤ (ji10) then (if (ji10) < (l1.length : Int) then ((impl_comparePlace.f ((rd_T34 l1 (ji10)).f0) ((rd_T34 l1 (ji10)).f1) ((rd_T34 l1 (ji10)).f2) ((rd_T34 l1 x9_1).f0) ((rd_T34 l1 x9_1).f1) ((rd_T34 l1 x9_1).f2)).bind fun t338 => (if t338 ≥ 0 then (some false) else (impl_TableOk.l0 k1 l1 l1 (l1.length : Int) (wrap64 (x9_1 + 1)) a0_0 a0_1))) else (none)) else (none)) = some r := by first | (rw [hji10] at H; exact H) | (simp only [hji10] at H ⊢; exact H)
            (try rw [hji10] at A7)
            have hji10w : (IntKind.i64.wrap (x9_1 - 1)) = ji10 := (i64_w _).trans hji10
            by_cases c11 : 0 ≤ (ji10)
            rotate_left
            · rw [if_neg c11] at H
              exact absurd H (by simp)
            rw [if_pos c11] at H
            have c11b0 : decide (0 ≤ (ji10)) = true := decide_eq_true c11
            clear c11
            by_cases c12 : (ji10) < (l1.length : Int)
            rotate_left
            · rw [if_neg c12] at H
              exact absurd H (by simp)
            rw [if_pos c12] at H
            have c12b0 : decide ((ji10) < (l1.length : Int)) = true := decide_eq_true c12
            clear c12
            obtain ⟨t338, A130, H⟩ := Option.bind_eq_some_iff.mp H
            try dsimp only at H
            have A13 := Aside0.mk A130
            clear A130
            by_cases c14 : t338 ≥ 0
            · rw [if_pos c14] at H
              have c14b0 : decide (0 ≤ t338) = true := decide_eq_true c14
              clear c14
              obtain rfl := Option.some.inj H
              have p334 : 0 ≤ (x9_1 : Int) := of_decide_eq_true y0_7
              have q334 : x9_1 < (l1.length : Int) := of_decide_eq_true y0_7
              obtain ⟨ad334, A334_2, c334_2, e334, hx334_0, hx334_1, hx334_2, hl334_2, hi334_2⟩ := at_T34 HR1.out x9_1 p334 q334
              cases e334
              replace hx334_0 := bx HB hx334_0
              replace hx334_1 := bx HB hx334_1
              replace hx334_2 := bx HB hx334_2
              have HR334_2 := Aside0.mk hi334_2
              have HC334_2 := Aside0.mk hl334_2
              clear hi334_2 hl334_2
              replace p334 := eq_true p334
              replace q334 := eq_true q334
              try go_wp2_with (first | ((with_reducible refine gd 6 ?_); refine bA 6 #[.int .i64 0, .string (⟨#[]⟩ : ByteArray), .slice none 0 0] 34 ?_; intro gb335 hg w15 hbox hb; have BK335 := Aside0.mk (hbox); have GW335 := bg hg HB; have GJ335 := gi GW335; have GE335 := GW335; replace HB := bs HB hb; have NB333_335 := b1 BK333 hg; have NI333_335 := ni NB333_335; have NB335_333 := b2 BK333 hg; have NI335_333 := ni NB335_333; replace BK333 := bk BK333 hb; clear hb hbox hg; have hnb16 := NB335_333.out; have hnc16 := NB333_335.out; obtain ⟨hcz17_0, hcz17_1, hcz17_2, hfz17_0, hfz17_1, hfz17_2⟩ := cs3 BK335))
              have n0_ : Aside0 ((((w15.setCell ⟨gb335, 0, none⟩ (.int .i64 ((rd_T34 l1 x9_1).f0))).setCell ⟨gb335, 1, none⟩ (.string ((rd_T34 l1 x9_1).f1))).setCell ⟨gb335, 2, none⟩ (.slice A334_2 ((rd_T34 l1 x9_1).f2).length c334_2)).heap[gb333]? = some (.cells #[.int .i64 a0_0, .int .i64 a0_1] 32 (0, 0))) := ⟨gI BK333.out⟩
              have n1_ : Aside0 ((((w15.setCell ⟨gb335, 0, none⟩ (.int .i64 ((rd_T34 l1 x9_1).f0))).setCell ⟨gb335, 1, none⟩ (.string ((rd_T34 l1 x9_1).f1))).setCell ⟨gb335, 2, none⟩ (.slice A334_2 ((rd_T34 l1 x9_1).f2).length c334_2)).heap[gb335]? = some (.cells #[.int .i64 ((rd_T34 l1 x9_1).f0), .string ((rd_T34 l1 x9_1).f1), .slice A334_2 ((rd_T34 l1 x9_1).f2).length c334_2] 34 (0, 0))) := ⟨pI BK335⟩
              have n2_ : Aside0 (Below w.heap.size w (((w15.setCell ⟨gb335, 0, none⟩ (.int .i64 ((rd_T34 l1 x9_1).f0))).setCell ⟨gb335, 1, none⟩ (.string ((rd_T34 l1 x9_1).f1))).setCell ⟨gb335, 2, none⟩ (.slice A334_2 ((rd_T34 l1 x9_1).f2).length c334_2))) := ⟨bI HB.out⟩
              (try clear BK333)
              (try clear BK335)
              (try clear HB)
              generalize (((w15.setCell ⟨gb335, 0, none⟩ (.int .i64 ((rd_T34 l1 x9_1).f0))).setCell ⟨gb335, 1, none⟩ (.string ((rd_T34 l1 x9_1).f1))).setCell ⟨gb335, 2, none⟩ (.slice A334_2 ((rd_T34 l1 x9_1).f2).length c334_2)) = w18 at n0_ n1_ n2_ ⊢
              have BK333 := n0_
              have BK335 := n1_
              have HB := n2_
              clear n0_ n1_ n2_
              replace BK333 := Aside0.mk (blk_drew BK333.out)
              replace BK335 := Aside0.mk (blk_drew BK335.out)
              replace HB := Aside0.mk (below_drew1 HB.out)
              have p337 : 0 ≤ ((ji10) : Int) := of_decide_eq_true y0_7
              have q337 : (ji10) < (l1.length : Int) := of_decide_eq_true y0_7
              obtain ⟨ad337, A337_2, c337_2, e337, hx337_0, hx337_1, hx337_2, hl337_2, hi337_2⟩ := at_T34 HR1.out (ji10) p337 q337
              have hw337_2 := hx337_2
              have hw337_1 := hx337_1
              have hw337_0 := hx337_0
              obtain rfl : ad334 = ad337 := (by injection e337)
              replace hx337_0 := bx HB hx337_0
              replace hx337_1 := bx HB hx337_1
              replace hx337_2 := bx HB hx337_2
              have HR337_2 := Aside0.mk hi337_2
              have HC337_2 := Aside0.mk hl337_2
              clear hi337_2 hl337_2
              replace p337 := eq_true p337
              replace q337 := eq_true q337
              refine start_ (n := 18) (S := fun w' => w'.cell? ⟨gb333, 0, none⟩ = some (.int .i64 a0_0) ∧ w'.cell? ⟨gb333, 1, none⟩ = some (.int .i64 a0_1) ∧ w'.cell? ⟨gb335, 0, none⟩ = some (.int .i64 ((rd_T34 l1 x9_1).f0)) ∧ w'.cell? ⟨gb335, 1, none⟩ = some (.string ((rd_T34 l1 x9_1).f1)) ∧ w'.cell? ⟨gb335, 2, none⟩ = some (.slice A334_2 ((rd_T34 l1 x9_1).f2).length c334_2) ∧ w'.cell? (ad334.add (((ji10)).toNat * 3)) = some (.int .i64 ((rd_T34 l1 (ji10)).f0)) ∧ w'.cell? ⟨(ad334.add (((ji10)).toNat * 3)).block, (ad334.add (((ji10)).toNat * 3)).off + 1, none⟩ = some (.string ((rd_T34 l1 (ji10)).f1)) ∧ w'.cell? ⟨(ad334.add (((ji10)).toNat * 3)).block, (ad334.add (((ji10)).toNat * 3)).off + 2, none⟩ = some (.slice A337_2 ((rd_T34 l1 (ji10)).f2).length c337_2)) (ds := []) #[false, false, false, false, false, false, false, false, false, false, false, false, false, false, false, false, false, false] (by kernel_rfl) rfl rfl ⟨bc0 BK333.out, bc1 BK333.out, bc0 BK335.out, bc1 BK335.out, bc2 BK335.out, (bx HB hw337_0), (bx HB hw337_1), (bx HB hw337_2)⟩ (fun hHeld => ?_); refine with_tabW impl_TableOk.tab4 impl_TableOk.bits4 (fun HT_ HW_ => ?_)
              generalize w18.drew = w19 at BK333 BK335 HB HR337_2 hx337_0 hx337_1 hx337_2 hHeld ⊢
              refine tA 0 (some 14) (bz 18 1) HT_ HW_ hHeld ?_
              refine tA 1 (some 15) (bz 18 3) HT_ HW_ hHeld ?_
              refine oA 2 (some 16) (bz 18 7) HT_ (fun K hK => ?_)
              refine gA Tryd.func21 #[.agg #[.int .i64 a0_0, .int .i64 a0_1], .agg #[.int .i64 ((rd_T34 l1 x9_1).f0), .string ((rd_T34 l1 x9_1).f1), .slice A334_2 ((rd_T34 l1 x9_1).f2).length c334_2]] ?_
              with_reducible refine (impl_PartOk.calls k1 a0_0 a0_1 ((rd_T34 l1 x9_1).f0) ((rd_T34 l1 x9_1).f1) _ _ ((rd_T34 l1 x9_1).f2) true _ ?side1 ?side2 A7.out).mono ?_
              (case side1 => exact ch HR334_2 HB)
              (case side2 => exact HC334_2.out)
              rintro e w20 ⟨rfl, hb⟩
              refine ⟨_, rfl, ?_⟩
              replace BK333 := bk BK333 hb
              replace BK335 := bk BK335 hb
              replace HB := bs HB hb
              (try clear hb)
              (try clear hb2)
              (try clear hk)
              (try clear hi)
              refine hK.out _ _ ⟨bc0 BK333.out, bc1 BK333.out, bc0 BK335.out, bc1 BK335.out, bc2 BK335.out, (bx HB hw337_0), (bx HB hw337_1), (bx HB hw337_2)⟩ (fun hHeld => ?_)
              clear hK K
              refine nA (some 16) ?_
              refine pA 3 (some 17) (bz 18 15) HT_ ?_
              refine pA 4 (some 18) (bz 18 31) HT_ ?_
              refine pA 5 (some 19) (bz 18 63) HT_ ?_
              refine pA 6 (some 20) (bz 18 127) HT_ ?_
              refine pA 7 (some 21) (bz 18 255) HT_ ?_
              refine pA 8 (some 22) (bz 18 511) HT_ ?_
              refine pA 9 (some 23) (bz 18 1023) HT_ ?_
              refine pA 10 (some 24) (bz 18 2047) HT_ ?_
              refine pA 11 (some 25) (bz 18 4095) HT_ ?_
              refine tA 12 (some 26) (bz 18 0x1fff) HT_ HW_ hHeld ?_
              refine tA 13 (some 27) (bz 18 0x3fff) HT_ HW_ hHeld ?_
              refine oA 14 (some 28) (bz 18 0x7fff) HT_ (fun K hK => ?_)
              refine goes_ Tryd.func85 (by kernel_rfl) rfl #[.agg #[.int .i64 ((rd_T34 l1 (ji10)).f0), .string ((rd_T34 l1 (ji10)).f1), .slice A337_2 ((rd_T34 l1 (ji10)).f2).length c337_2], .agg #[.int .i64 ((rd_T34 l1 x9_1).f0), .string ((rd_T34 l1 x9_1).f1), .slice A334_2 ((rd_T34 l1 x9_1).f2).length c334_2]] (by rfl) rfl rfl (by (try simp only [List.map_toArray, List.map_cons, List.map_nil]); first | done | (simp only [hji10]; rfl) | rfl | (simp only [List.length_drop, List.length_take]; rfl)) ?_
              with_reducible refine (impl_comparePlace.calls ((rd_T34 l1 (ji10)).f0) ((rd_T34 l1 (ji10)).f1) _ _ ((rd_T34 l1 (ji10)).f2) ((rd_T34 l1 x9_1).f0) ((rd_T34 l1 x9_1).f1) _ _ ((rd_T34 l1 x9_1).f2) t338 _ ?side1 ?side2 ?side3 ?side4 A13.out).mono ?_
              (case side1 => exact ch HR337_2 HB)
              (case side2 => exact HC337_2.out)
              (case side3 => exact ch HR334_2 HB)
              (case side4 => exact HC334_2.out)
              rintro e w21 ⟨rfl, hb⟩
              refine ⟨_, rfl, ?_⟩
              replace BK333 := bk BK333 hb
              replace BK335 := bk BK335 hb
              replace HB := bs HB hb
              (try clear hb)
              (try clear hb2)
              (try clear hk)
              (try clear hi)
              refine hK.out _ _ ⟨bc0 BK333.out, bc1 BK333.out, bc0 BK335.out, bc1 BK335.out, bc2 BK335.out, (bx HB hw337_0), (bx HB hw337_1), (bx HB hw337_2)⟩ (fun hHeld => ?_)
              clear hK K
              refine nA (some 28) ?_
              refine pA 15 (some 29) (bz 18 0xffff) HT_ ?_
              refine pA 16 (some 30) (bz 18 0x1ffff) HT_ ?_
              refine pA 17 (some 31) (bz 18 0x3ffff) HT_ ?_
              refine done_ (done_of HT_.out (by kernel_rfl)) ?_
              try go_wp2
              go_ret
              exact ⟨by first | rfl | (simp [errW_none, errW_some] <;> rfl) | (simp only [← hji10]; first | rfl | (simp [errW_none, errW_some] <;> rfl)) | (simp [*, errW_none, errW_some] <;> rfl), bI HB.out⟩
            · rw [if_neg c14] at H
              have c14b0 : decide (0 ≤ t338) = false := decide_eq_false c14
              clear c14
              have H' := Aside0.mk H
              clear H
              have p334 : 0 ≤ (x9_1 : Int) := of_decide_eq_true y0_7
              have q334 : x9_1 < (l1.length : Int) := of_decide_eq_true y0_7
              obtain ⟨ad334, A334_2, c334_2, e334, hx334_0, hx334_1, hx334_2, hl334_2, hi334_2⟩ := at_T34 HR1.out x9_1 p334 q334
              cases e334
              replace hx334_0 := bx HB hx334_0
              replace hx334_1 := bx HB hx334_1
              replace hx334_2 := bx HB hx334_2
              have HR334_2 := Aside0.mk hi334_2
              have HC334_2 := Aside0.mk hl334_2
              clear hi334_2 hl334_2
              replace p334 := eq_true p334
              replace q334 := eq_true q334
              try go_wp2_with (first | ((with_reducible refine gd 6 ?_); refine bA 6 #[.int .i64 0, .string (⟨#[]⟩ : ByteArray), .slice none 0 0] 34 ?_; intro gb335 hg w22 hbox hb; have BK335 := Aside0.mk (hbox); have GW335 := bg hg HB; have GJ335 := gi GW335; have GE335 := GW335; replace HB := bs HB hb; have NB333_335 := b1 BK333 hg; have NI333_335 := ni NB333_335; have NB335_333 := b2 BK333 hg; have NI335_333 := ni NB335_333; replace BK333 := bk BK333 hb; clear hb hbox hg; have hnb23 := NB335_333.out; have hnc23 := NB333_335.out; obtain ⟨hcz24_0, hcz24_1, hcz24_2, hfz24_0, hfz24_1, hfz24_2⟩ := cs3 BK335))
              have n0_ : Aside0 ((((w22.setCell ⟨gb335, 0, none⟩ (.int .i64 ((rd_T34 l1 x9_1).f0))).setCell ⟨gb335, 1, none⟩ (.string ((rd_T34 l1 x9_1).f1))).setCell ⟨gb335, 2, none⟩ (.slice A334_2 ((rd_T34 l1 x9_1).f2).length c334_2)).heap[gb333]? = some (.cells #[.int .i64 a0_0, .int .i64 a0_1] 32 (0, 0))) := ⟨gI BK333.out⟩
              have n1_ : Aside0 ((((w22.setCell ⟨gb335, 0, none⟩ (.int .i64 ((rd_T34 l1 x9_1).f0))).setCell ⟨gb335, 1, none⟩ (.string ((rd_T34 l1 x9_1).f1))).setCell ⟨gb335, 2, none⟩ (.slice A334_2 ((rd_T34 l1 x9_1).f2).length c334_2)).heap[gb335]? = some (.cells #[.int .i64 ((rd_T34 l1 x9_1).f0), .string ((rd_T34 l1 x9_1).f1), .slice A334_2 ((rd_T34 l1 x9_1).f2).length c334_2] 34 (0, 0))) := ⟨pI BK335⟩
              have n2_ : Aside0 (Below w.heap.size w (((w22.setCell ⟨gb335, 0, none⟩ (.int .i64 ((rd_T34 l1 x9_1).f0))).setCell ⟨gb335, 1, none⟩ (.string ((rd_T34 l1 x9_1).f1))).setCell ⟨gb335, 2, none⟩ (.slice A334_2 ((rd_T34 l1 x9_1).f2).length c334_2))) := ⟨bI HB.out⟩
              (try clear BK333)
              (try clear BK335)
              (try clear HB)
              generalize (((w22.setCell ⟨gb335, 0, none⟩ (.int .i64 ((rd_T34 l1 x9_1).f0))).setCell ⟨gb335, 1, none⟩ (.string ((rd_T34 l1 x9_1).f1))).setCell ⟨gb335, 2, none⟩ (.slice A334_2 ((rd_T34 l1 x9_1).f2).length c334_2)) = w25 at n0_ n1_ n2_ ⊢
              have BK333 := n0_
              have BK335 := n1_
              have HB := n2_
              clear n0_ n1_ n2_
              replace BK333 := Aside0.mk (blk_drew BK333.out)
              replace BK335 := Aside0.mk (blk_drew BK335.out)
              replace HB := Aside0.mk (below_drew1 HB.out)
              have p337 : 0 ≤ ((ji10) : Int) := of_decide_eq_true y0_7
              have q337 : (ji10) < (l1.length : Int) := of_decide_eq_true y0_7
              obtain ⟨ad337, A337_2, c337_2, e337, hx337_0, hx337_1, hx337_2, hl337_2, hi337_2⟩ := at_T34 HR1.out (ji10) p337 q337
              have hw337_2 := hx337_2
              have hw337_1 := hx337_1
              have hw337_0 := hx337_0
              obtain rfl : ad334 = ad337 := (by injection e337)
              replace hx337_0 := bx HB hx337_0
              replace hx337_1 := bx HB hx337_1
              replace hx337_2 := bx HB hx337_2
              have HR337_2 := Aside0.mk hi337_2
              have HC337_2 := Aside0.mk hl337_2
              clear hi337_2 hl337_2
              replace p337 := eq_true p337
              replace q337 := eq_true q337
              refine start_ (n := 18) (S := fun w' => w'.cell? ⟨gb333, 0, none⟩ = some (.int .i64 a0_0) ∧ w'.cell? ⟨gb333, 1, none⟩ = some (.int .i64 a0_1) ∧ w'.cell? ⟨gb335, 0, none⟩ = some (.int .i64 ((rd_T34 l1 x9_1).f0)) ∧ w'.cell? ⟨gb335, 1, none⟩ = some (.string ((rd_T34 l1 x9_1).f1)) ∧ w'.cell? ⟨gb335, 2, none⟩ = some (.slice A334_2 ((rd_T34 l1 x9_1).f2).length c334_2) ∧ w'.cell? (ad334.add (((ji10)).toNat * 3)) = some (.int .i64 ((rd_T34 l1 (ji10)).f0)) ∧ w'.cell? ⟨(ad334.add (((ji10)).toNat * 3)).block, (ad334.add (((ji10)).toNat * 3)).off + 1, none⟩ = some (.string ((rd_T34 l1 (ji10)).f1)) ∧ w'.cell? ⟨(ad334.add (((ji10)).toNat * 3)).block, (ad334.add (((ji10)).toNat * 3)).off + 2, none⟩ = some (.slice A337_2 ((rd_T34 l1 (ji10)).f2).length c337_2)) (ds := []) #[false, false, false, false, false, false, false, false, false, false, false, false, false, false, false, false, false, false] (by kernel_rfl) rfl rfl ⟨bc0 BK333.out, bc1 BK333.out, bc0 BK335.out, bc1 BK335.out, bc2 BK335.out, (bx HB hw337_0), (bx HB hw337_1), (bx HB hw337_2)⟩ (fun hHeld => ?_); refine with_tabW impl_TableOk.tab4 impl_TableOk.bits4 (fun HT_ HW_ => ?_)
              generalize w25.drew = w26 at BK333 BK335 HB HR337_2 hx337_0 hx337_1 hx337_2 hHeld ⊢
              refine tA 0 (some 14) (bz 18 1) HT_ HW_ hHeld ?_
              refine tA 1 (some 15) (bz 18 3) HT_ HW_ hHeld ?_
              refine oA 2 (some 16) (bz 18 7) HT_ (fun K hK => ?_)
              refine gA Tryd.func21 #[.agg #[.int .i64 a0_0, .int .i64 a0_1], .agg #[.int .i64 ((rd_T34 l1 x9_1).f0), .string ((rd_T34 l1 x9_1).f1), .slice A334_2 ((rd_T34 l1 x9_1).f2).length c334_2]] ?_
              with_reducible refine (impl_PartOk.calls k1 a0_0 a0_1 ((rd_T34 l1 x9_1).f0) ((rd_T34 l1 x9_1).f1) _ _ ((rd_T34 l1 x9_1).f2) true _ ?side1 ?side2 A7.out).mono ?_
              (case side1 => exact ch HR334_2 HB)
              (case side2 => exact HC334_2.out)
              rintro e w27 ⟨rfl, hb⟩
              refine ⟨_, rfl, ?_⟩
              replace BK333 := bk BK333 hb
              replace BK335 := bk BK335 hb
              replace HB := bs HB hb
              (try clear hb)
              (try clear hb2)
              (try clear hk)
              (try clear hi)
              refine hK.out _ _ ⟨bc0 BK333.out, bc1 BK333.out, bc0 BK335.out, bc1 BK335.out, bc2 BK335.out, (bx HB hw337_0), (bx HB hw337_1), (bx HB hw337_2)⟩ (fun hHeld => ?_)
              clear hK K
              refine nA (some 16) ?_
              refine pA 3 (some 17) (bz 18 15) HT_ ?_
              refine pA 4 (some 18) (bz 18 31) HT_ ?_
              refine pA 5 (some 19) (bz 18 63) HT_ ?_
              refine pA 6 (some 20) (bz 18 127) HT_ ?_
              refine pA 7 (some 21) (bz 18 255) HT_ ?_
              refine pA 8 (some 22) (bz 18 511) HT_ ?_
              refine pA 9 (some 23) (bz 18 1023) HT_ ?_
              refine pA 10 (some 24) (bz 18 2047) HT_ ?_
              refine pA 11 (some 25) (bz 18 4095) HT_ ?_
              refine tA 12 (some 26) (bz 18 0x1fff) HT_ HW_ hHeld ?_
              refine tA 13 (some 27) (bz 18 0x3fff) HT_ HW_ hHeld ?_
              refine oA 14 (some 28) (bz 18 0x7fff) HT_ (fun K hK => ?_)
              refine goes_ Tryd.func85 (by kernel_rfl) rfl #[.agg #[.int .i64 ((rd_T34 l1 (ji10)).f0), .string ((rd_T34 l1 (ji10)).f1), .slice A337_2 ((rd_T34 l1 (ji10)).f2).length c337_2], .agg #[.int .i64 ((rd_T34 l1 x9_1).f0), .string ((rd_T34 l1 x9_1).f1), .slice A334_2 ((rd_T34 l1 x9_1).f2).length c334_2]] (by rfl) rfl rfl (by (try simp only [List.map_toArray, List.map_cons, List.map_nil]); first | done | (simp only [hji10]; rfl) | rfl | (simp only [List.length_drop, List.length_take]; rfl)) ?_
              with_reducible refine (impl_comparePlace.calls ((rd_T34 l1 (ji10)).f0) ((rd_T34 l1 (ji10)).f1) _ _ ((rd_T34 l1 (ji10)).f2) ((rd_T34 l1 x9_1).f0) ((rd_T34 l1 x9_1).f1) _ _ ((rd_T34 l1 x9_1).f2) t338 _ ?side1 ?side2 ?side3 ?side4 A13.out).mono ?_
              (case side1 => exact ch HR337_2 HB)
              (case side2 => exact HC337_2.out)
              (case side3 => exact ch HR334_2 HB)
              (case side4 => exact HC334_2.out)
              rintro e w28 ⟨rfl, hb⟩
              refine ⟨_, rfl, ?_⟩
              replace BK333 := bk BK333 hb
              replace BK335 := bk BK335 hb
              replace HB := bs HB hb
              (try clear hb)
              (try clear hb2)
              (try clear hk)
              (try clear hi)
              refine hK.out _ _ ⟨bc0 BK333.out, bc1 BK333.out, bc0 BK335.out, bc1 BK335.out, bc2 BK335.out, (bx HB hw337_0), (bx HB hw337_1), (bx HB hw337_2)⟩ (fun hHeld => ?_)
              clear hK K
              refine nA (some 28) ?_
              refine pA 15 (some 29) (bz 18 0xffff) HT_ ?_
              refine pA 16 (some 30) (bz 18 0x1ffff) HT_ ?_
              refine pA 17 (some 31) (bz 18 0x3ffff) HT_ ?_
              refine done_ (done_of HT_.out (by kernel_rfl)) ?_
              try go_wp2
              go_roundg k1
              case measure => have := HK1.out; omega
              case rel => exact ⟨(wrap64 (x9_1 + 1)), y0_8, H', ⟨y0_12⟩, ⟨gI BK333.out⟩, ⟨bI HB.out⟩⟩
          · rw [if_neg c9] at H
            have c9b0 : decide (0 < x9_1) = false := decide_eq_false c9
            clear c9
            have H' := Aside0.mk H
            clear H
            have p334 : 0 ≤ (x9_1 : Int) := of_decide_eq_true y0_7
            have q334 : x9_1 < (l1.length : Int) := of_decide_eq_true y0_7
            obtain ⟨ad334, A334_2, c334_2, e334, hx334_0, hx334_1, hx334_2, hl334_2, hi334_2⟩ := at_T34 HR1.out x9_1 p334 q334
            cases e334
            replace hx334_0 := bx HB hx334_0
            replace hx334_1 := bx HB hx334_1
            replace hx334_2 := bx HB hx334_2
            have HR334_2 := Aside0.mk hi334_2
            have HC334_2 := Aside0.mk hl334_2
            clear hi334_2 hl334_2
            replace p334 := eq_true p334
            replace q334 := eq_true q334
            try go_wp2_with (first | ((with_reducible refine gd 6 ?_); refine bA 6 #[.int .i64 0, .string (⟨#[]⟩ : ByteArray), .slice none 0 0] 34 ?_; intro gb335 hg w29 hbox hb; have BK335 := Aside0.mk (hbox); have GW335 := bg hg HB; have GJ335 := gi GW335; have GE335 := GW335; replace HB := bs HB hb; have NB333_335 := b1 BK333 hg; have NI333_335 := ni NB333_335; have NB335_333 := b2 BK333 hg; have NI335_333 := ni NB335_333; replace BK333 := bk BK333 hb; clear hb hbox hg; have hnb30 := NB335_333.out; have hnc30 := NB333_335.out; obtain ⟨hcz31_0, hcz31_1, hcz31_2, hfz31_0, hfz31_1, hfz31_2⟩ := cs3 BK335))
            have n0_ : Aside0 ((((w29.setCell ⟨gb335, 0, none⟩ (.int .i64 ((rd_T34 l1 x9_1).f0))).setCell ⟨gb335, 1, none⟩ (.string ((rd_T34 l1 x9_1).f1))).setCell ⟨gb335, 2, none⟩ (.slice A334_2 ((rd_T34 l1 x9_1).f2).length c334_2)).heap[gb333]? = some (.cells #[.int .i64 a0_0, .int .i64 a0_1] 32 (0, 0))) := ⟨gI BK333.out⟩
            have n1_ : Aside0 ((((w29.setCell ⟨gb335, 0, none⟩ (.int .i64 ((rd_T34 l1 x9_1).f0))).setCell ⟨gb335, 1, none⟩ (.string ((rd_T34 l1 x9_1).f1))).setCell ⟨gb335, 2, none⟩ (.slice A334_2 ((rd_T34 l1 x9_1).f2).length c334_2)).heap[gb335]? = some (.cells #[.int .i64 ((rd_T34 l1 x9_1).f0), .string ((rd_T34 l1 x9_1).f1), .slice A334_2 ((rd_T34 l1 x9_1).f2).length c334_2] 34 (0, 0))) := ⟨pI BK335⟩
            have n2_ : Aside0 (Below w.heap.size w (((w29.setCell ⟨gb335, 0, none⟩ (.int .i64 ((rd_T34 l1 x9_1).f0))).setCell ⟨gb335, 1, none⟩ (.string ((rd_T34 l1 x9_1).f1))).setCell ⟨gb335, 2, none⟩ (.slice A334_2 ((rd_T34 l1 x9_1).f2).length c334_2))) := ⟨bI HB.out⟩
            (try clear BK333)
            (try clear BK335)
            (try clear HB)
            generalize (((w29.setCell ⟨gb335, 0, none⟩ (.int .i64 ((rd_T34 l1 x9_1).f0))).setCell ⟨gb335, 1, none⟩ (.string ((rd_T34 l1 x9_1).f1))).setCell ⟨gb335, 2, none⟩ (.slice A334_2 ((rd_T34 l1 x9_1).f2).length c334_2)) = w32 at n0_ n1_ n2_ ⊢
            have BK333 := n0_
            have BK335 := n1_
            have HB := n2_
            clear n0_ n1_ n2_
            replace BK333 := Aside0.mk (blk_drew BK333.out)
            replace BK335 := Aside0.mk (blk_drew BK335.out)
            replace HB := Aside0.mk (below_drew1 HB.out)
            refine start_ (n := 18) (S := fun w' => w'.cell? ⟨gb333, 0, none⟩ = some (.int .i64 a0_0) ∧ w'.cell? ⟨gb333, 1, none⟩ = some (.int .i64 a0_1) ∧ w'.cell? ⟨gb335, 0, none⟩ = some (.int .i64 ((rd_T34 l1 x9_1).f0)) ∧ w'.cell? ⟨gb335, 1, none⟩ = some (.string ((rd_T34 l1 x9_1).f1)) ∧ w'.cell? ⟨gb335, 2, none⟩ = some (.slice A334_2 ((rd_T34 l1 x9_1).f2).length c334_2)) (ds := []) #[false, false, false, false, false, false, false, false, false, false, false, false, false, false, false, false, false, false] (by kernel_rfl) rfl rfl ⟨bc0 BK333.out, bc1 BK333.out, bc0 BK335.out, bc1 BK335.out, bc2 BK335.out⟩ (fun hHeld => ?_); refine with_tabW impl_TableOk.tab4 impl_TableOk.bits4 (fun HT_ HW_ => ?_)
            generalize w32.drew = w33 at BK333 BK335 HB hHeld ⊢
            refine tA 0 (some 14) (bz 18 1) HT_ HW_ hHeld ?_
            refine tA 1 (some 15) (bz 18 3) HT_ HW_ hHeld ?_
            refine oA 2 (some 16) (bz 18 7) HT_ (fun K hK => ?_)
            refine gA Tryd.func21 #[.agg #[.int .i64 a0_0, .int .i64 a0_1], .agg #[.int .i64 ((rd_T34 l1 x9_1).f0), .string ((rd_T34 l1 x9_1).f1), .slice A334_2 ((rd_T34 l1 x9_1).f2).length c334_2]] ?_
            with_reducible refine (impl_PartOk.calls k1 a0_0 a0_1 ((rd_T34 l1 x9_1).f0) ((rd_T34 l1 x9_1).f1) _ _ ((rd_T34 l1 x9_1).f2) true _ ?side1 ?side2 A7.out).mono ?_
            (case side1 => exact ch HR334_2 HB)
            (case side2 => exact HC334_2.out)
            rintro e w34 ⟨rfl, hb⟩
            refine ⟨_, rfl, ?_⟩
            replace BK333 := bk BK333 hb
            replace BK335 := bk BK335 hb
            replace HB := bs HB hb
            (try clear hb)
            (try clear hb2)
            (try clear hk)
            (try clear hi)
            refine hK.out _ _ ⟨bc0 BK333.out, bc1 BK333.out, bc0 BK335.out, bc1 BK335.out, bc2 BK335.out⟩ (fun hHeld => ?_)
            clear hK K
            refine nA (some 16) ?_
            refine pA 3 (some 17) (bz 18 15) HT_ ?_
            refine pA 4 (some 18) (bz 18 31) HT_ ?_
            refine pA 5 (some 19) (bz 18 63) HT_ ?_
            refine pA 6 (some 20) (bz 18 127) HT_ ?_
            refine pA 7 (some 21) (bz 18 255) HT_ ?_
            refine pU 8 (some 22) (bz 18 511) HT_ ?_
            refine pU 9 (some 23) (bz 18 1023) HT_ ?_
            refine pU 10 (some 24) (bz 18 2047) HT_ ?_
            refine pU 11 (some 25) (bz 18 4095) HT_ ?_
            refine pU 12 (some 26) (bz 18 0x1fff) HT_ ?_
            refine pU 13 (some 27) (bz 18 0x3fff) HT_ ?_
            refine pU 14 (some 28) (bz 18 0x7fff) HT_ ?_
            refine pU 15 (some 29) (bz 18 0xffff) HT_ ?_
            refine pA 16 (some 30) (bz 18 0x1ffff) HT_ ?_
            refine pA 17 (some 31) (bz 18 0x3ffff) HT_ ?_
            refine done_ (done_of HT_.out (by kernel_rfl)) ?_
            try go_wp2
            go_roundg k1
            case measure => have := HK1.out; omega
            case rel => exact ⟨(wrap64 (x9_1 + 1)), y0_8, H', ⟨y0_12⟩, ⟨gI BK333.out⟩, ⟨bI HB.out⟩⟩
        · replace c8 := Bool.eq_false_iff.mpr c8
          subst c8
          rw [if_neg (show ¬ (false = true) by decide)] at H
          obtain rfl := Option.some.inj H
          have p334 : 0 ≤ (x9_1 : Int) := of_decide_eq_true y0_7
          have q334 : x9_1 < (l1.length : Int) := of_decide_eq_true y0_7
          obtain ⟨ad334, A334_2, c334_2, e334, hx334_0, hx334_1, hx334_2, hl334_2, hi334_2⟩ := at_T34 HR1.out x9_1 p334 q334
          cases e334
          replace hx334_0 := bx HB hx334_0
          replace hx334_1 := bx HB hx334_1
          replace hx334_2 := bx HB hx334_2
          have HR334_2 := Aside0.mk hi334_2
          have HC334_2 := Aside0.mk hl334_2
          clear hi334_2 hl334_2
          replace p334 := eq_true p334
          replace q334 := eq_true q334
          try go_wp2_with (first | ((with_reducible refine gd 6 ?_); refine bA 6 #[.int .i64 0, .string (⟨#[]⟩ : ByteArray), .slice none 0 0] 34 ?_; intro gb335 hg w35 hbox hb; have BK335 := Aside0.mk (hbox); have GW335 := bg hg HB; have GJ335 := gi GW335; have GE335 := GW335; replace HB := bs HB hb; have NB333_335 := b1 BK333 hg; have NI333_335 := ni NB333_335; have NB335_333 := b2 BK333 hg; have NI335_333 := ni NB335_333; replace BK333 := bk BK333 hb; clear hb hbox hg; have hnb36 := NB335_333.out; have hnc36 := NB333_335.out; obtain ⟨hcz37_0, hcz37_1, hcz37_2, hfz37_0, hfz37_1, hfz37_2⟩ := cs3 BK335))
          have n0_ : Aside0 ((((w35.setCell ⟨gb335, 0, none⟩ (.int .i64 ((rd_T34 l1 x9_1).f0))).setCell ⟨gb335, 1, none⟩ (.string ((rd_T34 l1 x9_1).f1))).setCell ⟨gb335, 2, none⟩ (.slice A334_2 ((rd_T34 l1 x9_1).f2).length c334_2)).heap[gb333]? = some (.cells #[.int .i64 a0_0, .int .i64 a0_1] 32 (0, 0))) := ⟨gI BK333.out⟩
          have n1_ : Aside0 ((((w35.setCell ⟨gb335, 0, none⟩ (.int .i64 ((rd_T34 l1 x9_1).f0))).setCell ⟨gb335, 1, none⟩ (.string ((rd_T34 l1 x9_1).f1))).setCell ⟨gb335, 2, none⟩ (.slice A334_2 ((rd_T34 l1 x9_1).f2).length c334_2)).heap[gb335]? = some (.cells #[.int .i64 ((rd_T34 l1 x9_1).f0), .string ((rd_T34 l1 x9_1).f1), .slice A334_2 ((rd_T34 l1 x9_1).f2).length c334_2] 34 (0, 0))) := ⟨pI BK335⟩
          have n2_ : Aside0 (Below w.heap.size w (((w35.setCell ⟨gb335, 0, none⟩ (.int .i64 ((rd_T34 l1 x9_1).f0))).setCell ⟨gb335, 1, none⟩ (.string ((rd_T34 l1 x9_1).f1))).setCell ⟨gb335, 2, none⟩ (.slice A334_2 ((rd_T34 l1 x9_1).f2).length c334_2))) := ⟨bI HB.out⟩
          (try clear BK333)
          (try clear BK335)
          (try clear HB)
          generalize (((w35.setCell ⟨gb335, 0, none⟩ (.int .i64 ((rd_T34 l1 x9_1).f0))).setCell ⟨gb335, 1, none⟩ (.string ((rd_T34 l1 x9_1).f1))).setCell ⟨gb335, 2, none⟩ (.slice A334_2 ((rd_T34 l1 x9_1).f2).length c334_2)) = w38 at n0_ n1_ n2_ ⊢
          have BK333 := n0_
          have BK335 := n1_
          have HB := n2_
          clear n0_ n1_ n2_
          replace BK333 := Aside0.mk (blk_drew BK333.out)
          replace BK335 := Aside0.mk (blk_drew BK335.out)
          replace HB := Aside0.mk (below_drew1 HB.out)
          refine start_ (n := 18) (S := fun w' => w'.cell? ⟨gb333, 0, none⟩ = some (.int .i64 a0_0) ∧ w'.cell? ⟨gb333, 1, none⟩ = some (.int .i64 a0_1) ∧ w'.cell? ⟨gb335, 0, none⟩ = some (.int .i64 ((rd_T34 l1 x9_1).f0)) ∧ w'.cell? ⟨gb335, 1, none⟩ = some (.string ((rd_T34 l1 x9_1).f1)) ∧ w'.cell? ⟨gb335, 2, none⟩ = some (.slice A334_2 ((rd_T34 l1 x9_1).f2).length c334_2)) (ds := []) #[false, false, false, false, false, false, false, false, false, false, false, false, false, false, false, false, false, false] (by kernel_rfl) rfl rfl ⟨bc0 BK333.out, bc1 BK333.out, bc0 BK335.out, bc1 BK335.out, bc2 BK335.out⟩ (fun hHeld => ?_); refine with_tabW impl_TableOk.tab4 impl_TableOk.bits4 (fun HT_ HW_ => ?_)
          generalize w38.drew = w39 at BK333 BK335 HB hHeld ⊢
          refine tA 0 (some 14) (bz 18 1) HT_ HW_ hHeld ?_
          refine tA 1 (some 15) (bz 18 3) HT_ HW_ hHeld ?_
          refine oA 2 (some 16) (bz 18 7) HT_ (fun K hK => ?_)
          refine gA Tryd.func21 #[.agg #[.int .i64 a0_0, .int .i64 a0_1], .agg #[.int .i64 ((rd_T34 l1 x9_1).f0), .string ((rd_T34 l1 x9_1).f1), .slice A334_2 ((rd_T34 l1 x9_1).f2).length c334_2]] ?_
          with_reducible refine (impl_PartOk.calls k1 a0_0 a0_1 ((rd_T34 l1 x9_1).f0) ((rd_T34 l1 x9_1).f1) _ _ ((rd_T34 l1 x9_1).f2) false _ ?side1 ?side2 A7.out).mono ?_
          (case side1 => exact ch HR334_2 HB)
          (case side2 => exact HC334_2.out)
          rintro e w40 ⟨rfl, hb⟩
          refine ⟨_, rfl, ?_⟩
          replace BK333 := bk BK333 hb
          replace BK335 := bk BK335 hb
          replace HB := bs HB hb
          (try clear hb)
          (try clear hb2)
          (try clear hk)
          (try clear hi)
          refine hK.out _ _ ⟨bc0 BK333.out, bc1 BK333.out, bc0 BK335.out, bc1 BK335.out, bc2 BK335.out⟩ (fun hHeld => ?_)
          clear hK K
          refine nA (some 16) ?_
          refine pA 3 (some 17) (bz 18 15) HT_ ?_
          refine pA 4 (some 18) (bz 18 31) HT_ ?_
          refine pU 5 (some 19) (bz 18 63) HT_ ?_
          refine pU 6 (some 20) (bz 18 127) HT_ ?_
          refine pU 7 (some 21) (bz 18 255) HT_ ?_
          refine pU 8 (some 22) (bz 18 511) HT_ ?_
          refine pU 9 (some 23) (bz 18 1023) HT_ ?_
          refine pU 10 (some 24) (bz 18 2047) HT_ ?_
          refine pU 11 (some 25) (bz 18 4095) HT_ ?_
          refine pU 12 (some 26) (bz 18 0x1fff) HT_ ?_
          refine pU 13 (some 27) (bz 18 0x3fff) HT_ ?_
          refine pU 14 (some 28) (bz 18 0x7fff) HT_ ?_
          refine pU 15 (some 29) (bz 18 0xffff) HT_ ?_
          refine pU 16 (some 30) (bz 18 0x1ffff) HT_ ?_
          refine pA 17 (some 31) (bz 18 0x3ffff) HT_ ?_
          refine done_ (done_of HT_.out (by kernel_rfl)) ?_
          try go_wp2
          go_ret
          exact ⟨y0_4, bI HB.out⟩
      · rw [if_neg c4] at H
        have c4b0 : decide (x9_1 < (l1.length : Int)) = false := decide_eq_false c4
        clear c4
        obtain rfl := Option.some.inj H
        go_wp2
        go_ret
        exact ⟨y0_4, bI HB.out⟩

end Go.Proofs.YtcmldmlmhpfjhaaDoor.PFnExactTableOk
