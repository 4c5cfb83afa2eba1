-- By a program of this session, out of the translation (the print of the kit, with turns of its own). Lean checks it.
import Derived.Test.YtemjmefacifdeaaPFnDropsBelowx0
import Derived.Test.YtemjmefacifdeaaPFnDropsBelowx1
namespace Go.Proofs.Ytemjmefacifdeaa.PFnDropsBelow
open Go.RowKit Go.Proofs.YtemjmefacifdeaaW.PrintWords Go.Proofs.YtemjmefacifdeaaW.PrintLast Go.Proofs.YtemjmefacifdeaaW.PrintMore
attribute [local go_sem] max2_int min2_int max_two min_two max_three min_three max_four min_four   -- for this text's walks alone
set_option linter.unusedVariables false
set_option linter.unusedSimpArgs false

/-! ### spec_PartJoin: function 7 -/
def spec_PartJoin.f (k : Nat) (a0_0 : Int) (a0_1 : ByteArray) (l0_2 : List Int) (a1_0 : Int) (a1_1 : ByteArray) (l1_2 : List Int) : Option (Int × ByteArray × List Int × Bool) := if a0_0 = a1_0 then (if a0_1.toList = a1_1.toList then ((spec_SetJoin.f k l0_2 l1_2).bind fun t171 => (some (a0_0, a0_1, t171, true))) else (some (0, (⟨#[]⟩ : ByteArray), ([] : List Int), false))) else (some (0, (⟨#[]⟩ : ByteArray), ([] : List Int), false))
theorem spec_PartJoin.mono : ∀ a0 a1 a2 a3 a4 a5 k, LeO (spec_PartJoin.f k a0 a1 a2 a3 a4 a5) (spec_PartJoin.f (k + 1) a0 a1 a2 a3 a4 a5) := by
 intro a0 a1 a2 a3 a4 a5 k
 unfold spec_PartJoin.f
 repeat' first | (with_reducible exact spec_SetJoin.mono _ _ _) | (with_reducible exact LeO.refl _) | (with_reducible exact LeO.none _) | (with_reducible refine LeO.ite ?_ ?_) | (with_reducible refine LeO.bind ?_ (fun _ => ?_))
def spec_PartJoin.T3 : Bool × List (List Nat × List Nat) := (true, [([], []), ([0], [0]), ([], []), ([2], [2]), ([], []), ([4], [4]), ([], []), ([6], [6]), ([5, 7], [5, 7]), ([1, 3, 8], [1, 3, 8]), ([9, 8, 0, 1, 2, 3, 4, 5, 6, 7, 8, 9], [9]), ([10, 0, 1, 2, 3, 4, 5, 6, 7, 8, 9, 10], [])])
def spec_PartJoin.B3 : List Nat := [0, 1, 0, 4, 0, 16, 0, 64, 240, 511, 1023, 2047]
theorem spec_PartJoin.tab3 : rtab .any (opsOf Try.f7 3) = spec_PartJoin.T3 := by kernel_rfl
theorem spec_PartJoin.bits3 : waitsOk spec_PartJoin.T3.2 spec_PartJoin.B3 = true := by kernel_rfl
set_option maxHeartbeats 8000000 in
set_option maxRecDepth 100000 in
theorem spec_PartJoin.calls (k : Nat) (a0_0 : Int) (a0_1 : ByteArray) (A0_2 : Option Addr) (c0_2 : Nat) (l0_2 : List Int) (a1_0 : Int) (a1_1 : ByteArray) (A1_2 : Option Addr) (c1_2 : Nat) (l1_2 : List Int) (r1 : Int) (r2 : ByteArray) (r3 : List Int) (r4 : Bool) (w : World) (hr0_2 : Kd.C (Kd.int .i64) w A0_2 l0_2.length l0_2) (hc0_2 : l0_2.length ≤ c0_2) (hr1_2 : Kd.C (Kd.int .i64) w A1_2 l1_2.length l1_2) (hc1_2 : l1_2.length ≤ c1_2) (h : spec_PartJoin.f k a0_0 a0_1 l0_2 a1_0 a1_1 l1_2 = some (r1, r2, r3, r4)) :
  Calls Try.prog 7 #[.agg #[.int .i64 a0_0, .string a0_1, .slice A0_2 l0_2.length c0_2], .agg #[.int .i64 a1_0, .string a1_1, .slice A1_2 l1_2.length c1_2]] w fun e w' => ∃ v2_ : Value, e = .returned (.tuple #[.agg #[.int .i64 r1, .string r2, v2_], .bool r4]) ∧ Kd.R (Kd.int .i64) 3 w' w.heap.size (fun _ => True) v2_ r3 ∧ Below w.heap.size w w' := by
 have hu26 := Try.underlying26; have HR0_2 := Aside0.mk hr0_2; have HC0_2 := Aside0.mk hc0_2; clear hr0_2 hc0_2; have HR1_2 := Aside0.mk hr1_2; have HC1_2 := Aside0.mk hc1_2; clear hr1_2 hc1_2; have HB := Aside0.mk (Below.refl w.heap.size w)
 have H : (if a0_0 = a1_0 then (if a0_1.toList = a1_1.toList then ((spec_SetJoin.f k l0_2 l1_2).bind fun t171 => (some (a0_0, a0_1, t171, true))) else (some (0, (⟨#[]⟩ : ByteArray), ([] : List Int), false))) else (some (0, (⟨#[]⟩ : ByteArray), ([] : List Int), false))) = some (r1, r2, r3, r4) := h
 clear h
 by_cases c3 : a0_0 = a1_0
 ·
  rw [if_pos c3] at H
  have c3b0 : (a0_0 == a1_0) = true := beq_iff_eq.mpr c3; have c3b1 : (a0_0 != a1_0) = false := bne_eq_false_iff_eq.mpr c3; clear c3
  by_cases c4 : a0_1.toList = a1_1.toList
  ·
   rw [if_pos c4] at H
   have c4b0 : (a0_1.toList == a1_1.toList) = true := beq_iff_eq.mpr c4; have c4b1 : (a0_1.toList != a1_1.toList) = false := bne_eq_false_iff_eq.mpr c4; clear c4; obtain ⟨t171, A50, H⟩ := Option.bind_eq_some_iff.mp H
   try dsimp only at H
   have A5 := Aside0.mk A50; clear A50
   simp only [Option.some.injEq, Prod.mk.injEq] at H
   obtain ⟨rfl, rfl, rfl, rfl⟩ := H
   go_enter Try.func7, Try.ntmps7
   try go_wp2_with (first | ((with_reducible refine gd 2 ?_); refine bA 2 #[.int .i64 a0_0, .string a0_1, .slice A0_2 l0_2.length c0_2] 26 ?_; intro gb168 hg w6 hbox hb; have BK168 := Aside0.mk (hbox); have GW168 := bg hg HB; have GJ168 := gi GW168; have GE168 := GW168; replace HB := bs HB hb; clear hb hbox hg) | ((with_reducible refine gd 3 ?_); refine bA 3 #[.int .i64 a1_0, .string a1_1, .slice A1_2 l1_2.length c1_2] 26 ?_; intro gb169 hg w7 hbox hb; have BK169 := Aside0.mk (hbox); have GW169 := bg hg HB; have GJ169 := gi GW169; have GE169 := GW169; replace HB := bs HB hb; have NB168_169 := b1 BK168 hg; have NI168_169 := ni NB168_169; have NB169_168 := b2 BK168 hg; have NI169_168 := ni NB169_168; replace BK168 := bk BK168 hb; clear hb hbox hg) | ((with_reducible refine gd 4 ?_); refine bA 4 #[.int .i64 0, .string (⟨#[]⟩ : ByteArray), .slice none 0 0] 26 ?_; intro gb170 hg w8 hbox hb; have BK170 := Aside0.mk (hbox); have GW170 := bg hg HB; have GJ170 := gi GW170; have GE170 := GW170; replace HB := bs HB hb; have NB168_170 := b1 BK168 hg; have NI168_170 := ni NB168_170; have NB170_168 := b2 BK168 hg; have NI170_168 := ni NB170_168; replace BK168 := bk BK168 hb; have NB169_170 := b1 BK169 hg; have NI169_170 := ni NB169_170; have NB170_169 := b2 BK169 hg; have NI170_169 := ni NB170_169; replace BK169 := bk BK169 hb; clear hb hbox hg; have hnb9 := NB168_169.out; have hnc9 := NB169_168.out; have hnb10 := NB168_170.out; have hnc10 := NB170_168.out; obtain ⟨hcz11_0, hcz11_1, hcz11_2, hfz11_0, hfz11_1, hfz11_2⟩ := cs3 BK168; have hnb12 := NB169_170.out; have hnc12 := NB170_169.out; obtain ⟨hcz13_0, hcz13_1, hcz13_2, hfz13_0, hfz13_1, hfz13_2⟩ := cs3 BK169))
   replace BK168 := Aside0.mk (blk_drew BK168.out); replace BK169 := Aside0.mk (blk_drew BK169.out); replace BK170 := Aside0.mk (blk_drew BK170.out); replace HB := Aside0.mk (below_drew1 HB.out)
   refine start_ (n := 12) (S := fun w' => w'.cell? ⟨gb168, 0, none⟩ = some (.int .i64 a0_0) ∧ w'.cell? ⟨gb168, 1, none⟩ = some (.string a0_1) ∧ w'.cell? ⟨gb168, 2, none⟩ = some (.slice A0_2 l0_2.length c0_2) ∧ w'.cell? ⟨gb169, 0, none⟩ = some (.int .i64 a1_0) ∧ w'.cell? ⟨gb169, 1, none⟩ = some (.string a1_1) ∧ w'.cell? ⟨gb169, 2, none⟩ = some (.slice A1_2 l1_2.length c1_2)) (ds := []) #[false, false, false, false, false, false, false, false, false, false, false, false] (by kernel_rfl) rfl rfl ⟨bc0 BK168.out, bc1 BK168.out, bc2 BK168.out, bc0 BK169.out, bc1 BK169.out, bc2 BK169.out⟩ (fun hHeld => ?_); refine with_tabW spec_PartJoin.tab3 spec_PartJoin.bits3 (fun HT_ HW_ => ?_)
   generalize w8.drew = w14 at BK168 BK169 BK170 HB hHeld ⊢
   refine pA 0 (some 19) (bz 12 1) HT_ ?_
   refine pA 2 (some 21) (bz 12 5) HT_ ?_
   refine pA 4 (some 23) (bz 12 21) HT_ ?_
   refine pA 6 (some 25) (bz 12 85) HT_ ?_
   refine tA 1 (some 20) (bz 12 87) HT_ HW_ hHeld ?_
   refine tA 3 (some 22) (bz 12 95) HT_ HW_ hHeld ?_
   refine tA 5 (some 24) (bz 12 127) HT_ HW_ hHeld ?_
   refine tA 7 (some 26) (bz 12 255) HT_ HW_ hHeld ?_
   refine oA 8 (some 27) (bz 12 511) HT_ (fun K hK => ?_)
   refine gA Try.func27 #[.slice A0_2 l0_2.length c0_2, .slice A1_2 l1_2.length c1_2] ?_
   with_reducible refine (spec_SetJoin.calls k _ _ l0_2 _ _ l1_2 t171 _ ?side1 ?side2 ?side3 ?side4 A5.out).mono ?_
   (case side1 => exact ch HR0_2 HB)
   (case side2 => exact HC0_2.out)
   (case side3 => exact ch HR1_2 HB)
   (case side4 => exact HC1_2.out)
   rintro e w15 ⟨v172, rfl, ho0, hb⟩
   refine ⟨_, rfl, ?_⟩
   have HO173 := Aside0.mk (Kd.R_lower ho0 (below_size (bI HB.out))); replace BK168 := bk BK168 hb; replace BK169 := bk BK169 hb; replace BK170 := bk BK170 hb; replace HB := bs HB hb
   (try clear hb)
   (try clear hb2)
   (try clear hk)
   (try clear hi)
   (try clear ho0)
   obtain ⟨Ao16, co16, eo16⟩ := Kd.R_slice HO173.out
   (first | subst eo16 | (injection eo16 with f1_ f2_ f3_; have f4_ := f1_.symm; have f5_ := f3_.symm; clear f1_ f2_ f3_; subst f4_; subst f5_))
   refine hK.out _ _ ⟨bc0 BK168.out, bc1 BK168.out, bc2 BK168.out, bc0 BK169.out, bc1 BK169.out, bc2 BK169.out⟩ (fun hHeld => ?_)
   clear hK K
   refine nA (some 27) ?_
   refine pA 9 (some 28) (bz 12 1023) HT_ ?_
   refine oA 10 none (bz 12 2047) HT_ (fun K hK => ?_)
   have hs17 : w15.cell? ⟨gb170, 0, none⟩ = some (.int .i64 0) := bc0 BK170.out; have hfs17 := blk_frozen BK170.out 0; have hns17_0 := NB168_170.out; have hns17_1 := NB169_170.out; have hms17_0 := NB170_168.out; have hms17_1 := NB170_169.out; have hs18 : w15.cell? ⟨gb170, 1, none⟩ = some (.string (⟨#[]⟩ : ByteArray)) := bc1 BK170.out; have hfs18 := blk_frozen BK170.out 1; have hns18_0 := NB168_170.out; have hns18_1 := NB169_170.out; have hms18_0 := NB170_168.out; have hms18_1 := NB170_169.out; have hs19 : w15.cell? ⟨gb170, 2, none⟩ = some (.slice none 0 0) := bc2 BK170.out; have hfs19 := blk_frozen BK170.out 2; have hns19_0 := NB168_170.out; have hns19_1 := NB169_170.out; have hms19_0 := NB170_168.out; have hms19_1 := NB170_169.out
   refine skip_ (w1 := ?_) (by rfl) rfl ?_ ?_
   rotate_left
   ·
    go_simp
    rfl
   refine hK.out _ _ ⟨((cell_far (p := ⟨gb170, _, none⟩) NB168_170.out _).trans (((cell_far (p := ⟨gb170, _, none⟩) NB168_170.out _).trans (((cell_far (p := ⟨gb170, _, none⟩) NB168_170.out _).trans (hHeld.1)))))), ((cell_far (p := ⟨gb170, _, none⟩) NB168_170.out _).trans (((cell_far (p := ⟨gb170, _, none⟩) NB168_170.out _).trans (((cell_far (p := ⟨gb170, _, none⟩) NB168_170.out _).trans (hHeld.2.1)))))), ((cell_far (p := ⟨gb170, _, none⟩) NB168_170.out _).trans (((cell_far (p := ⟨gb170, _, none⟩) NB168_170.out _).trans (((cell_far (p := ⟨gb170, _, none⟩) NB168_170.out _).trans (hHeld.2.2.1)))))), ((cell_far (p := ⟨gb170, _, none⟩) NB169_170.out _).trans (((cell_far (p := ⟨gb170, _, none⟩) NB169_170.out _).trans (((cell_far (p := ⟨gb170, _, none⟩) NB169_170.out _).trans (hHeld.2.2.2.1)))))), ((cell_far (p := ⟨gb170, _, none⟩) NB169_170.out _).trans (((cell_far (p := ⟨gb170, _, none⟩) NB169_170.out _).trans (((cell_far (p := ⟨gb170, _, none⟩) NB169_170.out _).trans (hHeld.2.2.2.2.1)))))), ((cell_far (p := ⟨gb170, _, none⟩) NB169_170.out _).trans (((cell_far (p := ⟨gb170, _, none⟩) NB169_170.out _).trans (((cell_far (p := ⟨gb170, _, none⟩) NB169_170.out _).trans (hHeld.2.2.2.2.2))))))⟩ (fun hHeld => ?_)
   clear hK K
   refine pA 11 (some 5) (bz 12 4095) HT_ ?_
   refine done_ (done_of HT_.out (by kernel_rfl)) ?_
   try go_wp2
   refine bodyPost_ret (results_ct rfl _ _ gb170 26 #[.int .i64 a0_0, .string a0_1, .slice Ao16 t171.length co16] (0, 0) _ rfl (pI BK170) Try.underlying26 rfl (by kernel_rfl)) rfl ?_
   exact ⟨_, y0_16, by (with_reducible repeat (first | apply Kd.R_alloc | apply Kd.R_drewN | apply Kd.R_drew)); exact Kd.R_mono (Kd.R_far (p := ⟨gb170, 2, none⟩) (Kd.R_far (p := ⟨gb170, 1, none⟩) (Kd.R_far (p := ⟨gb170, 0, none⟩) (Kd.R_types HO173.out BK170.out (by decide)) (fun _ hk => hk.2) (.int .i64 a0_0)) (fun _ hk => hk.2) (.string a0_1)) (fun _ hk => hk.2) (.slice Ao16 t171.length co16)) (fun _ hk => trivial), bI HB.out⟩
  rw [if_neg c4] at H
  have c4b0 : (a0_1.toList == a1_1.toList) = false := beq_eq_false_iff_ne.mpr c4; have c4b1 : (a0_1.toList != a1_1.toList) = true := bne_iff_ne.mpr c4
  simp only [Option.some.injEq, Prod.mk.injEq] at H
  obtain ⟨rfl, rfl, rfl, rfl⟩ := H
  go_enter Try.func7, Try.ntmps7
  go_wp2_with (first | ((with_reducible refine gd 2 ?_); refine bA 2 #[.int .i64 a0_0, .string a0_1, .slice A0_2 l0_2.length c0_2] 26 ?_; intro gb168 hg w20 hbox hb; have BK168 := Aside0.mk (hbox); have GW168 := bg hg HB; have GJ168 := gi GW168; have GE168 := GW168; replace HB := bs HB hb; clear hb hbox hg) | ((with_reducible refine gd 3 ?_); refine bA 3 #[.int .i64 a1_0, .string a1_1, .slice A1_2 l1_2.length c1_2] 26 ?_; intro gb169 hg w21 hbox hb; have BK169 := Aside0.mk (hbox); have GW169 := bg hg HB; have GJ169 := gi GW169; have GE169 := GW169; replace HB := bs HB hb; have NB168_169 := b1 BK168 hg; have NI168_169 := ni NB168_169; have NB169_168 := b2 BK168 hg; have NI169_168 := ni NB169_168; replace BK168 := bk BK168 hb; clear hb hbox hg) | ((with_reducible refine gd 4 ?_); refine bA 4 #[.int .i64 0, .string (⟨#[]⟩ : ByteArray), .slice none 0 0] 26 ?_; intro gb170 hg w22 hbox hb; have BK170 := Aside0.mk (hbox); have GW170 := bg hg HB; have GJ170 := gi GW170; have GE170 := GW170; replace HB := bs HB hb; have NB168_170 := b1 BK168 hg; have NI168_170 := ni NB168_170; have NB170_168 := b2 BK168 hg; have NI170_168 := ni NB170_168; replace BK168 := bk BK168 hb; have NB169_170 := b1 BK169 hg; have NI169_170 := ni NB169_170; have NB170_169 := b2 BK169 hg; have NI170_169 := ni NB170_169; replace BK169 := bk BK169 hb; clear hb hbox hg; have hnb23 := NB168_169.out; have hnc23 := NB169_168.out; have hnb24 := NB168_170.out; have hnc24 := NB170_168.out; obtain ⟨hcz25_0, hcz25_1, hcz25_2, hfz25_0, hfz25_1, hfz25_2⟩ := cs3 BK168; have hnb26 := NB169_170.out; have hnc26 := NB170_169.out; obtain ⟨hcz27_0, hcz27_1, hcz27_2, hfz27_0, hfz27_1, hfz27_2⟩ := cs3 BK169; obtain ⟨hcz28_0, hcz28_1, hcz28_2, hfz28_0, hfz28_1, hfz28_2⟩ := cs3 BK170))
  refine bodyPost_ret (results_ct rfl _ _ gb170 26 #[.int .i64 0, .string (⟨#[]⟩ : ByteArray), .slice none 0 0] (0, 0) _ rfl (pI BK170) Try.underlying26 rfl (by kernel_rfl)) rfl ?_
  exact ⟨_, y0_16, y0_11, bI HB.out⟩
 rw [if_neg c3] at H
 have c3b0 : (a0_0 == a1_0) = false := beq_eq_false_iff_ne.mpr c3; have c3b1 : (a0_0 != a1_0) = true := bne_iff_ne.mpr c3
 simp only [Option.some.injEq, Prod.mk.injEq] at H
 obtain ⟨rfl, rfl, rfl, rfl⟩ := H
 go_enter Try.func7, Try.ntmps7
 go_wp2_with (first | ((with_reducible refine gd 2 ?_); refine bA 2 #[.int .i64 a0_0, .string a0_1, .slice A0_2 l0_2.length c0_2] 26 ?_; intro gb168 hg w29 hbox hb; have BK168 := Aside0.mk (hbox); have GW168 := bg hg HB; have GJ168 := gi GW168; have GE168 := GW168; replace HB := bs HB hb; clear hb hbox hg) | ((with_reducible refine gd 3 ?_); refine bA 3 #[.int .i64 a1_0, .string a1_1, .slice A1_2 l1_2.length c1_2] 26 ?_; intro gb169 hg w30 hbox hb; have BK169 := Aside0.mk (hbox); have GW169 := bg hg HB; have GJ169 := gi GW169; have GE169 := GW169; replace HB := bs HB hb; have NB168_169 := b1 BK168 hg; have NI168_169 := ni NB168_169; have NB169_168 := b2 BK168 hg; have NI169_168 := ni NB169_168; replace BK168 := bk BK168 hb; clear hb hbox hg) | ((with_reducible refine gd 4 ?_); refine bA 4 #[.int .i64 0, .string (⟨#[]⟩ : ByteArray), .slice none 0 0] 26 ?_; intro gb170 hg w31 hbox hb; have BK170 := Aside0.mk (hbox); have GW170 := bg hg HB; have GJ170 := gi GW170; have GE170 := GW170; replace HB := bs HB hb; have NB168_170 := b1 BK168 hg; have NI168_170 := ni NB168_170; have NB170_168 := b2 BK168 hg; have NI170_168 := ni NB170_168; replace BK168 := bk BK168 hb; have NB169_170 := b1 BK169 hg; have NI169_170 := ni NB169_170; have NB170_169 := b2 BK169 hg; have NI170_169 := ni NB170_169; replace BK169 := bk BK169 hb; clear hb hbox hg; have hnb32 := NB168_169.out; have hnc32 := NB169_168.out; have hnb33 := NB168_170.out; have hnc33 := NB170_168.out; obtain ⟨hcz34_0, hcz34_1, hcz34_2, hfz34_0, hfz34_1, hfz34_2⟩ := cs3 BK168; have hnb35 := NB169_170.out; have hnc35 := NB170_169.out; obtain ⟨hcz36_0, hcz36_1, hcz36_2, hfz36_0, hfz36_1, hfz36_2⟩ := cs3 BK169; obtain ⟨hcz37_0, hcz37_1, hcz37_2, hfz37_0, hfz37_1, hfz37_2⟩ := cs3 BK170))
 refine bodyPost_ret (results_ct rfl _ _ gb170 26 #[.int .i64 0, .string (⟨#[]⟩ : ByteArray), .slice none 0 0] (0, 0) _ rfl (pI BK170) Try.underlying26 rfl (by kernel_rfl)) rfl ?_
 exact ⟨_, y0_16, y0_11, bI HB.out⟩

/-! ### spec_l10Copy: function 46 -/
def spec_l10Copy.f (a0_0 : Int) (a0_1 : ByteArray) (l0_2 : List Int) : Option (Int × ByteArray × List Int) := (some (([] : List Int) : List Int)).bind fun y176 => (if y176.length + l0_2.length < 17592186044416 then (some (a0_0, a0_1, (y176 ++ l0_2))) else (none))
set_option maxHeartbeats 8000000 in
set_option maxRecDepth 100000 in
theorem spec_l10Copy.calls (a0_0 : Int) (a0_1 : ByteArray) (A0_2 : Option Addr) (c0_2 : Nat) (l0_2 : List Int) (r1 : Int) (r2 : ByteArray) (r3 : List Int) (w : World) (hr0_2 : Kd.C (Kd.int .i64) w A0_2 l0_2.length l0_2) (hc0_2 : l0_2.length ≤ c0_2) (h : spec_l10Copy.f a0_0 a0_1 l0_2 = some (r1, r2, r3)) :
  Calls Try.prog 46 #[.agg #[.int .i64 a0_0, .string a0_1, .slice A0_2 l0_2.length c0_2]] w fun e w' => ∃ v2_ : Value, e = .returned (.agg #[.int .i64 r1, .string r2, v2_]) ∧ Kd.R (Kd.int .i64) 3 w' w.heap.size (fun _ => True) v2_ r3 ∧ Below w.heap.size w w' := by
 have hu26 := Try.underlying26; have HR0_2 := Aside0.mk hr0_2; have HC0_2 := Aside0.mk hc0_2; clear hr0_2 hc0_2; have HB := Aside0.mk (Below.refl w.heap.size w)
 have H : ((some (([] : List Int) : List Int)).bind fun y176 => (if y176.length + l0_2.length < 17592186044416 then (some (a0_0, a0_1, (y176 ++ l0_2))) else (none))) = some (r1, r2, r3) := h
 clear h; obtain ⟨y176, hy176⟩ : ∃ y_ : List Int, y_ = (([] : List Int)) := ⟨_, rfl⟩
 replace H : (if y176.length + l0_2.length < 17592186044416 then (some (a0_0, a0_1, (y176 ++ l0_2))) else (none)) = some (r1, r2, r3) := by first | (rw [hy176]; with_reducible exact H) | (have H2_ := (Option.bind_some _ _).symm.trans H; rw [hy176]; with_reducible exact H2_) | (have H2_ := (Option.bind_some _ _).symm.trans H; with_reducible exact H2_) | with_reducible exact H | (rw [hy176]; exact H) | exact H
 have Ny176 := Aside0.mk hy176; clear hy176
 by_cases c2 : y176.length + l0_2.length < 17592186044416
 ·
  rw [if_pos c2] at H
  have LMc2 := Aside0.mk c2; clear c2; obtain ⟨y179, hy179⟩ : ∃ y_ : List Int, y_ = (y176 ++ l0_2) := ⟨_, rfl⟩
  replace H : (some (a0_0, a0_1, y179)) = some (r1, r2, r3) := by first | (rw [hy179]; with_reducible exact H) | (have H2_ := (Option.bind_some _ _).symm.trans H; rw [hy179]; with_reducible exact H2_) | (have H2_ := (Option.bind_some _ _).symm.trans H; with_reducible exact H2_) | with_reducible exact H | (rw [hy179]; exact H) | exact H
  have Ny179 := Aside0.mk hy179; clear hy179
  simp only [Option.some.injEq, Prod.mk.injEq] at H
  obtain ⟨rfl, rfl, rfl⟩ := H
  go_enter Try.func46, Try.ntmps46
  go_wp2_with (first | ((with_reducible refine gd 1 ?_); refine bA 1 #[.int .i64 a0_0, .string a0_1, .slice A0_2 l0_2.length c0_2] 26 ?_; intro gb174 hg w3 hbox hb; have BK174 := Aside0.mk (hbox); have GW174 := bg hg HB; have GJ174 := gi GW174; have GE174 := GW174; replace HB := bs HB hb; clear hb hbox hg) | ((with_reducible refine gd 2 ?_); refine bA 2 #[.int .i64 0, .string (⟨#[]⟩ : ByteArray), .slice none 0 0] 26 ?_; intro gb175 hg w4 hbox hb; have BK175 := Aside0.mk (hbox); have GW175 := bg hg HB; have GJ175 := gi GW175; have GE175 := GW175; replace HB := bs HB hb; have NB174_175 := b1 BK174 hg; have NI174_175 := ni NB174_175; have NB175_174 := b2 BK174 hg; have NI175_174 := ni NB175_174; replace BK174 := bk BK174 hb; clear hb hbox hg) | ((with_reducible refine gate_dst (N := 3) rfl ?_); refine Kd.R_lit (Kd.int .i64) _ 3 ?hg (N := 3) ?hd (xs := ([] : List Int)) (inner := []) (ok := fun _ => True) (okp := fun _ => True) ?hr ?hp (fun _ hk => hk) trivial (Below.refl _ _) (Nat.le_refl _) (by simp) ?_; (case hd => rfl); (case hg => rfl); (case hr => first | (go_simp; done) | (go_simp; rfl)); (case hp => exact (Reps.none _ _)); intro v177 w5 ho6 hb hg_ hnew_; clear hg_ hnew_; (first | rw [← Ny176.out] at ho6 | (simp only [Int.reduceToNat] at ho6; rw [← Ny176.out] at ho6)); have HO178 := Aside0.mk (Kd.R_lower ho6 (below_size (bI HB.out))); replace BK174 := bk BK174 hb; replace BK175 := bk BK175 hb; replace HB := bs HB hb; clear hb ho6; have hnb7 := NB174_175.out; have hnc7 := NB175_174.out; obtain ⟨hcz8_0, hcz8_1, hcz8_2, hfz8_0, hfz8_1, hfz8_2⟩ := cs3 BK174) | ((with_reducible refine gate_builtin (b := .append) (xs := #[.tmp 3, .tmp 5]) rfl ?_); at_builtin; refine Kd.R_append_rows (Kd.int .i64) (w0 := w) w.heap.size rfl (.tmp 3) (.tmp 5) 22 3 (.int .i64 0) 8 rfl Try.underlying22 info3 rfl (by decide) (by omega) v177 y176 l0_2 _ _ _ (fun _ => True) (fun _ => False) rfl rfl ?aO ?aR (fun _ _ h => h) (fun _ h => h.elim) ?aF ?aB ?aS ?aL ?_; (case aR => exact ch HR0_2 HB); (case aB => exact (bI HB.out)); (case aF => exact (fun _ _ => trivial)); (case aO => exact (rI HO178.out)); (case aS => exact (below_size (bI HB.out))); (case aL => have := LMc2.out; omega); intro v180 w9 ho hb hg hat; rw [← Ny179.out] at ho; have n0_ := bn BK174 hg (Kd.R_ne HO178.out BK174.out (by decide)); have n1_ := bn BK175 hg (Kd.R_ne HO178.out BK175.out (by decide)); have n2_ := Aside0.mk (hb); have n3_ := Aside0.mk (ho); clear BK174; clear BK175; clear HB; clear HO178; have BK174 := n0_; have BK175 := n1_; have HB := n2_; have HO181 := n3_; clear n0_ n1_ n2_ n3_; clear ho hb hg hat; obtain ⟨Ao10, co10, eo10⟩ := Kd.R_slice HO181.out; subst eo10; obtain ⟨hcz11_0, hcz11_1, hcz11_2, hfz11_0, hfz11_1, hfz11_2⟩ := cs3 BK174; obtain ⟨hcz12_0, hcz12_1, hcz12_2, hfz12_0, hfz12_1, hfz12_2⟩ := cs3 BK175))
  refine bodyPost_ret (results_cell_row rfl _ _ gb175 26 #[.int .i64 a0_0, .string a0_1, .slice Ao10 y179.length co10] (0, 0) _ rfl (pI BK175) Try.underlying26 rfl (by kernel_rfl)) rfl ?_
  exact ⟨_, y0_16, by (with_reducible repeat (first | apply Kd.R_alloc | apply Kd.R_drewN | apply Kd.R_drew)); exact Kd.R_mono (Kd.R_far (p := ⟨gb175, 2, none⟩) (Kd.R_far (p := ⟨gb175, 1, none⟩) (Kd.R_far (p := ⟨gb175, 0, none⟩) (Kd.R_far (p := ⟨gb174, 2, none⟩) (Kd.R_types (Kd.R_types HO181.out BK174.out (by decide)) BK175.out (by decide)) (fun _ hk => hk.1.2) (.slice Ao10 y179.length co10)) (fun _ hk => hk.2) (.int .i64 a0_0)) (fun _ hk => hk.2) (.string a0_1)) (fun _ hk => hk.2) (.slice Ao10 y179.length co10)) (fun _ hk => trivial), bI HB.out⟩
 rw [if_neg c2] at H
 exact absurd H (by simp)

/-! ### spec_l10Before: function 63 -/
def spec_l10Before.f (a0_0 : Int) (a0_1 : ByteArray) (l0_2 : List Int) (a1_0 : Int) (a1_1 : ByteArray) (l1_2 : List Int) : Option (Bool) := if a0_0 < a1_0 then (some true) else (if a0_0 = a1_0 then (some (Op.bytesLess a0_1.toList a1_1.toList)) else (some false))
set_option maxHeartbeats 8000000 in
set_option maxRecDepth 100000 in
theorem spec_l10Before.calls (a0_0 : Int) (a0_1 : ByteArray) (A0_2 : Option Addr) (c0_2 : Nat) (l0_2 : List Int) (a1_0 : Int) (a1_1 : ByteArray) (A1_2 : Option Addr) (c1_2 : Nat) (l1_2 : List Int) (r : Bool) (w : World) (hr0_2 : Kd.C (Kd.int .i64) w A0_2 l0_2.length l0_2) (hc0_2 : l0_2.length ≤ c0_2) (hr1_2 : Kd.C (Kd.int .i64) w A1_2 l1_2.length l1_2) (hc1_2 : l1_2.length ≤ c1_2) (h : spec_l10Before.f a0_0 a0_1 l0_2 a1_0 a1_1 l1_2 = some r) :
  Calls Try.prog 63 #[.agg #[.int .i64 a0_0, .string a0_1, .slice A0_2 l0_2.length c0_2], .agg #[.int .i64 a1_0, .string a1_1, .slice A1_2 l1_2.length c1_2]] w fun e w' => e = .returned (.bool r) ∧ Below w.heap.size w w' := by
 have hu26 := Try.underlying26; have HR0_2 := Aside0.mk hr0_2; have HC0_2 := Aside0.mk hc0_2; clear hr0_2 hc0_2; have HR1_2 := Aside0.mk hr1_2; have HC1_2 := Aside0.mk hc1_2; clear hr1_2 hc1_2; have HB := Aside0.mk (Below.refl w.heap.size w); have H : (if a0_0 < a1_0 then (some true) else (if a0_0 = a1_0 then (some (Op.bytesLess a0_1.toList a1_1.toList)) else (some false))) = some r := h; clear h
 by_cases c3 : a0_0 < a1_0
 ·
  rw [if_pos c3] at H
  have c3b0 : decide (a0_0 < a1_0) = true := decide_eq_true c3; clear c3; obtain rfl := Option.some.inj H
  go_enter Try.func63, Try.ntmps63
  go_wp2_with (first | ((with_reducible refine gd 2 ?_); refine bA 2 #[.int .i64 a0_0, .string a0_1, .slice A0_2 l0_2.length c0_2] 26 ?_; intro gb182 hg w4 hbox hb; have BK182 := Aside0.mk (hbox); have GW182 := bg hg HB; have GJ182 := gi GW182; have GE182 := GW182; replace HB := bs HB hb; clear hb hbox hg) | ((with_reducible refine gd 3 ?_); refine bA 3 #[.int .i64 a1_0, .string a1_1, .slice A1_2 l1_2.length c1_2] 26 ?_; intro gb183 hg w5 hbox hb; have BK183 := Aside0.mk (hbox); have GW183 := bg hg HB; have GJ183 := gi GW183; have GE183 := GW183; replace HB := bs HB hb; have NB182_183 := b1 BK182 hg; have NI182_183 := ni NB182_183; have NB183_182 := b2 BK182 hg; have NI183_182 := ni NB183_182; replace BK182 := bk BK182 hb; clear hb hbox hg; have hnb6 := NB182_183.out; have hnc6 := NB183_182.out; obtain ⟨hcz7_0, hcz7_1, hcz7_2, hfz7_0, hfz7_1, hfz7_2⟩ := cs3 BK182; obtain ⟨hcz8_0, hcz8_1, hcz8_2, hfz8_0, hfz8_1, hfz8_2⟩ := cs3 BK183))
  go_ret
  exact ⟨y0_16, bI HB.out⟩
 rw [if_neg c3] at H
 have c3b0 : decide (a0_0 < a1_0) = false := decide_eq_false c3; clear c3
 by_cases c9 : a0_0 = a1_0
 ·
  rw [if_pos c9] at H
  have c9b0 : (a0_0 == a1_0) = true := beq_iff_eq.mpr c9; have c9b1 : (a0_0 != a1_0) = false := bne_eq_false_iff_eq.mpr c9; clear c9; obtain rfl := Option.some.inj H
  go_enter Try.func63, Try.ntmps63
  go_wp2_with (first | ((with_reducible refine gd 2 ?_); refine bA 2 #[.int .i64 a0_0, .string a0_1, .slice A0_2 l0_2.length c0_2] 26 ?_; intro gb182 hg w10 hbox hb; have BK182 := Aside0.mk (hbox); have GW182 := bg hg HB; have GJ182 := gi GW182; have GE182 := GW182; replace HB := bs HB hb; clear hb hbox hg) | ((with_reducible refine gd 3 ?_); refine bA 3 #[.int .i64 a1_0, .string a1_1, .slice A1_2 l1_2.length c1_2] 26 ?_; intro gb183 hg w11 hbox hb; have BK183 := Aside0.mk (hbox); have GW183 := bg hg HB; have GJ183 := gi GW183; have GE183 := GW183; replace HB := bs HB hb; have NB182_183 := b1 BK182 hg; have NI182_183 := ni NB182_183; have NB183_182 := b2 BK182 hg; have NI183_182 := ni NB183_182; replace BK182 := bk BK182 hb; clear hb hbox hg; have hnb12 := NB182_183.out; have hnc12 := NB183_182.out; obtain ⟨hcz13_0, hcz13_1, hcz13_2, hfz13_0, hfz13_1, hfz13_2⟩ := cs3 BK182; obtain ⟨hcz14_0, hcz14_1, hcz14_2, hfz14_0, hfz14_1, hfz14_2⟩ := cs3 BK183))
  go_ret
  exact ⟨y0_16, bI HB.out⟩
 rw [if_neg c9] at H
 have c9b0 : (a0_0 == a1_0) = false := beq_eq_false_iff_ne.mpr c9; have c9b1 : (a0_0 != a1_0) = true := bne_iff_ne.mpr c9; obtain rfl := Option.some.inj H
 go_enter Try.func63, Try.ntmps63
 go_wp2_with (first | ((with_reducible refine gd 2 ?_); refine bA 2 #[.int .i64 a0_0, .string a0_1, .slice A0_2 l0_2.length c0_2] 26 ?_; intro gb182 hg w15 hbox hb; have BK182 := Aside0.mk (hbox); have GW182 := bg hg HB; have GJ182 := gi GW182; have GE182 := GW182; replace HB := bs HB hb; clear hb hbox hg) | ((with_reducible refine gd 3 ?_); refine bA 3 #[.int .i64 a1_0, .string a1_1, .slice A1_2 l1_2.length c1_2] 26 ?_; intro gb183 hg w16 hbox hb; have BK183 := Aside0.mk (hbox); have GW183 := bg hg HB; have GJ183 := gi GW183; have GE183 := GW183; replace HB := bs HB hb; have NB182_183 := b1 BK182 hg; have NI182_183 := ni NB182_183; have NB183_182 := b2 BK182 hg; have NI183_182 := ni NB183_182; replace BK182 := bk BK182 hb; clear hb hbox hg; have hnb17 := NB182_183.out; have hnc17 := NB183_182.out; obtain ⟨hcz18_0, hcz18_1, hcz18_2, hfz18_0, hfz18_1, hfz18_2⟩ := cs3 BK182; obtain ⟨hcz19_0, hcz19_1, hcz19_2, hfz19_0, hfz19_1, hfz19_2⟩ := cs3 BK183))
 go_ret
 exact ⟨y0_16, bI HB.out⟩

/-! ### spec_l1In: function 51 -/
def spec_l1In.f (a0 : Int) (a1 : Int) (a2 : Int) : Option (Bool) := if a0 ≥ a1 then (some (decide (a0 ≤ a2))) else (some false)
set_option maxHeartbeats 8000000 in
set_option maxRecDepth 100000 in
theorem spec_l1In.calls (a0 : Int) (a1 : Int) (a2 : Int) (r : Bool) (w : World) (h : spec_l1In.f a0 a1 a2 = some r) :
  Calls Try.prog 51 #[.int .i64 a0, .int .i64 a1, .int .i64 a2] w fun e w' => e = .returned (.bool r) ∧ Drawn0 w w' := by
 have H : (if a0 ≥ a1 then (some (decide (a0 ≤ a2))) else (some false)) = some r := h; clear h
 by_cases c4 : a0 ≥ a1
 ·
  rw [if_pos c4] at H
  have c4b0 : decide (a1 ≤ a0) = true := decide_eq_true c4; clear c4; obtain rfl := Option.some.inj H
  go_enter Try.func51, Try.ntmps51
  go_wp2
  go_ret
  exact ⟨y0_21, y0_18⟩
 rw [if_neg c4] at H
 have c4b0 : decide (a1 ≤ a0) = false := decide_eq_false c4; clear c4; obtain rfl := Option.some.inj H
 go_enter Try.func51, Try.ntmps51
 go_wp2
 go_ret
 exact ⟨y0_21, y0_18⟩

/-! ### spec_ConfOk: function 34 -/
def spec_ConfOk.f (a0_0 : Int) (a0_1 : Int) : Option (Bool) := (spec_l1In.f a0_0 4 7).bind fun t185 => (if t185 = true then ((spec_l1In.f a0_1 1 6).bind fun t186 => (some t186)) else (some false))
set_option maxHeartbeats 8000000 in
set_option maxRecDepth 100000 in
theorem spec_ConfOk.calls (a0_0 : Int) (a0_1 : Int) (r : Bool) (w : World) (h : spec_ConfOk.f a0_0 a0_1 = some r) :
  Calls Try.prog 34 #[.agg #[.int .i64 a0_0, .int .i64 a0_1]] w fun e w' => e = .returned (.bool r) ∧ Below w.heap.size w w' := by
 have hu36 := Try.underlying36; have HB := Aside0.mk (Below.refl w.heap.size w)
 have H : ((spec_l1In.f a0_0 4 7).bind fun t185 => (if t185 = true then ((spec_l1In.f a0_1 1 6).bind fun t186 => (some t186)) else (some false))) = some r := h
 clear h; obtain ⟨t185, A20, H⟩ := Option.bind_eq_some_iff.mp H
 try dsimp only at H
 have A2 := Aside0.mk A20; clear A20
 by_cases c3 : t185 = true
 ·
  subst c3
  rw [if_pos rfl] at H
  obtain ⟨t186, A40, H⟩ := Option.bind_eq_some_iff.mp H
  try dsimp only at H
  have A4 := Aside0.mk A40; clear A40; obtain rfl := Option.some.inj H
  go_enter Try.func34, Try.ntmps34
  go_wp2_with (first | ((with_reducible refine gd 1 ?_); refine bA 1 #[.int .i64 a0_0, .int .i64 a0_1] 36 ?_; intro gb184 hg w5 hbox hb; have BK184 := Aside0.mk (hbox); have GW184 := bg hg HB; have GJ184 := gi GW184; have GE184 := GW184; replace HB := bs HB hb; clear hb hbox hg; obtain ⟨hcz6_0, hcz6_1, hfz6_0, hfz6_1⟩ := cs2 BK184) | ((with_reducible refine gate_callee (f := 51) rfl ?_); refine gB (some 5) Try.func51 #[.int .i64 a0_0, .int .i64 4, .int .i64 7] ?_; (with_reducible refine (spec_l1In.calls a0_0 4 7 true _ A2.out).mono ?_); rintro e w' ⟨rfl, ⟨nd, rfl⟩⟩; refine ⟨_, rfl, ?_⟩) | (go_at_call 51; (with_reducible refine (spec_l1In.calls a0_1 1 6 t186 _ A4.out).mono ?_); rintro e w' ⟨rfl, ⟨nd, rfl⟩⟩))
  go_ret
  exact ⟨y0_16, bI HB.out⟩
 replace c3 := Bool.eq_false_iff.mpr c3; subst c3
 rw [if_neg (show ¬ (false = true) by decide)] at H
 obtain rfl := Option.some.inj H
 go_enter Try.func34, Try.ntmps34
 go_wp2_with (first | ((with_reducible refine gd 1 ?_); refine bA 1 #[.int .i64 a0_0, .int .i64 a0_1] 36 ?_; intro gb184 hg w7 hbox hb; have BK184 := Aside0.mk (hbox); have GW184 := bg hg HB; have GJ184 := gi GW184; have GE184 := GW184; replace HB := bs HB hb; clear hb hbox hg; obtain ⟨hcz8_0, hcz8_1, hfz8_0, hfz8_1⟩ := cs2 BK184) | ((with_reducible refine gate_callee (f := 51) rfl ?_); refine gB (some 5) Try.func51 #[.int .i64 a0_0, .int .i64 4, .int .i64 7] ?_; (with_reducible refine (spec_l1In.calls a0_0 4 7 false _ A2.out).mono ?_); rintro e w' ⟨rfl, ⟨nd, rfl⟩⟩; refine ⟨_, rfl, ?_⟩))
 go_ret
 exact ⟨y0_16, bI HB.out⟩

/-! ### spec_Split: function 82 -/
def spec_Split.l0 : Nat → ByteArray → Int → List ByteArray → Int → Int → Option (List ByteArray)
 | 0, _, _, _, _, _ => none
 | k + 1, x0, x1, x5, x6, x7 => if x7 ≤ (x0.size : Int) then (if x7 = (x0.size : Int) then (if 0 ≤ x6 then (if x6 ≤ x7 then (if x5.length < 8796093022208 then (spec_Split.l0 k x0 x1 (x5 ++ [x0.extract (x6 : Int).toNat (x7 : Int).toNat]) (wrap64 (x7 + 1)) (wrap64 (x7 + 1))) else (none)) else (none)) else (none)) else (if 0 ≤ x7 then (if x7 < (x0.size : Int) then (if (bt x0 x7) = x1 then (if 0 ≤ x6 then (if x6 ≤ x7 then (if x5.length < 8796093022208 then (spec_Split.l0 k x0 x1 (x5 ++ [x0.extract (x6 : Int).toNat (x7 : Int).toNat]) (wrap64 (x7 + 1)) (wrap64 (x7 + 1))) else (none)) else (none)) else (none)) else (spec_Split.l0 k x0 x1 x5 x6 (wrap64 (x7 + 1)))) else (none)) else (none))) else (some x5)
def spec_Split.f (k : Nat) (a0 : ByteArray) (a1 : Int) : Option (List ByteArray) := spec_Split.l0 k a0 a1 (([] : List ByteArray)) 0 0
theorem spec_Split.mono_l : ∀ k, (∀ y0 y1 y2 y3 y4, LeO (spec_Split.l0 k y0 y1 y2 y3 y4) (spec_Split.l0 (k + 1) y0 y1 y2 y3 y4))
 | 0 => fun _ _ _ _ _ r h => by simp [spec_Split.l0] at h
 | k + 1 => by
  have ih0 := spec_Split.mono_l k
  intro y0 y1 y2 y3 y4
  unfold spec_Split.l0
  repeat' first | (with_reducible exact ih0 _ _ _ _ _) | (with_reducible exact LeO.refl _) | (with_reducible exact LeO.none _) | (with_reducible refine LeO.ite ?_ ?_) | (with_reducible refine LeO.bind ?_ (fun _ => ?_))
theorem spec_Split.mono : ∀ a0 a1 k, LeO (spec_Split.f k a0 a1) (spec_Split.f (k + 1) a0 a1) := by
 intro a0 a1 k
 have ih0 := spec_Split.mono_l k
 unfold spec_Split.f
 repeat' first | (with_reducible exact ih0 _ _ _ _ _) | (with_reducible exact LeO.refl _) | (with_reducible exact LeO.none _) | (with_reducible refine LeO.ite ?_ ?_) | (with_reducible refine LeO.bind ?_ (fun _ => ?_))
set_option maxHeartbeats 8000000 in
set_option maxRecDepth 100000 in
theorem spec_Split.calls (k : Nat) (a0 : ByteArray) (a1 : Int) (r : List ByteArray) (w : World) (h : spec_Split.f k a0 a1 = some r) :
  Calls Try.prog 82 #[.string a0, .int .u8 a1] w fun e w' => ∃ v0_ : Value, e = .returned (v0_) ∧ Kd.R Kd.string 9 w' w.heap.size (fun _ => True) v0_ r ∧ Below w.heap.size w w' := by
 have HB := Aside0.mk (Below.refl w.heap.size w); have H : (spec_Split.l0 k a0 a1 (([] : List ByteArray)) 0 0) = some r := h; clear h; obtain ⟨y187, hy187⟩ : ∃ y_ : List ByteArray, y_ = (([] : List ByteArray)) := ⟨_, rfl⟩
 replace H : (spec_Split.l0 k a0 a1 y187 0 0) = some r := by first | (rw [hy187]; with_reducible exact H) | (have H2_ := (Option.bind_some _ _).symm.trans H; rw [hy187]; with_reducible exact H2_) | (have H2_ := (Option.bind_some _ _).symm.trans H; with_reducible exact H2_) | with_reducible exact H | (rw [hy187]; exact H) | exact H
 have Ny187 := Aside0.mk hy187; clear hy187; have H' := Aside0.mk H; clear H
 go_enter Try.func82, Try.ntmps82
 go_wp2_with (first | ((with_reducible refine gate_dst (N := 8) rfl ?_); refine Kd.R_lit Kd.string _ 9 ?hg (N := 8) ?hd (xs := ([] : List ByteArray)) (inner := []) (ok := fun _ => True) (okp := fun _ => True) ?hr ?hp (fun _ hk => hk) trivial (Below.refl _ _) (Nat.le_refl _) (by simp) ?_; (case hd => rfl); (case hg => rfl); (case hr => first | (go_simp; done) | (go_simp; rfl)); (case hp => exact (Reps.none _ _)); intro v188 w3 ho4 hb hg_ hnew_; clear hg_ hnew_; (first | rw [← Ny187.out] at ho4 | (simp only [Int.reduceToNat] at ho4; rw [← Ny187.out] at ho4)); have HO189 := Aside0.mk (Kd.R_lower ho4 (below_size (bI HB.out))); replace HB := bs HB hb; clear hb ho4))
 go_loopg [5, 6, 7] k (fun kq v5 v6 v7 w' => ∃ (x5_1 : List ByteArray) (x6_1 : Int) (x7_1 : Int), v6 = .int .i64 x6_1 ∧ v7 = .int .i64 x7_1 ∧ Aside0 (spec_Split.l0 kq a0 a1 x5_1 x6_1 x7_1 = some r) ∧ Aside0 (kq ≤ k) ∧ Aside0 (Kd.R Kd.string 9 w' w.heap.size (fun _ => True) v5 x5_1) ∧ Aside0 (Below w.heap.size w w'))
 case atStart => exact ⟨(y187), (0), (0), y0_21, y0_21, H', ⟨Nat.le_refl _⟩, ⟨by (with_reducible repeat (first | apply Kd.R_alloc | apply Kd.R_drewN | apply Kd.R_drew)); exact HO189.out⟩, ⟨bI HB.out⟩⟩
 case round =>
  clear H'
  try clear p2
  obtain ⟨x5_1, x6_1, x7_1, rfl, rfl, HA, HK1, HO_5, HB⟩ := hrel; cases gk with
  | zero => exact absurd HA.out (by simp [spec_Split.l0])
  | succ k1 =>
   have H := HA.out; clear HA
   simp only [spec_Split.l0] at H
   by_cases c5 : x7_1 ≤ (a0.size : Int)
   ·
    rw [if_pos c5] at H
    have c5b0 : decide (x7_1 ≤ (a0.size : Int)) = true := decide_eq_true c5; clear c5
    by_cases c6 : x7_1 = (a0.size : Int)
    ·
     rw [if_pos c6] at H
     have c6b0 : (x7_1 == (a0.size : Int)) = true := beq_iff_eq.mpr c6; have c6b1 : (x7_1 != (a0.size : Int)) = false := bne_eq_false_iff_eq.mpr c6; clear c6
     by_cases c7 : 0 ≤ x6_1
     rotate_left
     ·
      rw [if_neg c7] at H
      exact absurd H (by simp)
     rw [if_pos c7] at H
     have c7b0 := eq_true c7; have c7b1 : decide (0 ≤ x6_1) = true := decide_eq_true c7; clear c7
     by_cases c8 : x6_1 ≤ x7_1
     rotate_left
     ·
      rw [if_neg c8] at H
      exact absurd H (by simp)
     rw [if_pos c8] at H
     have c8b0 := eq_true c8; have c8b1 : decide (x6_1 ≤ x7_1) = true := decide_eq_true c8; clear c8; have c9b0 := eq_true (of_decide_eq_true y0_20 : x7_1 ≤ (a0.size : Int))
     by_cases c10 : x5_1.length < 8796093022208
     rotate_left
     ·
      rw [if_neg c10] at H
      exact absurd H (by simp)
     rw [if_pos c10] at H
     have LMc10 := Aside0.mk c10; clear c10; obtain ⟨y190, hy190⟩ : ∃ y_ : List ByteArray, y_ = (x5_1 ++ [a0.extract (x6_1 : Int).toNat (x7_1 : Int).toNat]) := ⟨_, rfl⟩
     replace H : (spec_Split.l0 k1 a0 a1 y190 (wrap64 (x7_1 + 1)) (wrap64 (x7_1 + 1))) = some r := by first | (rw [hy190]; with_reducible exact H) | (have H2_ := (Option.bind_some _ _).symm.trans H; rw [hy190]; with_reducible exact H2_) | (have H2_ := (Option.bind_some _ _).symm.trans H; with_reducible exact H2_) | with_reducible exact H | (rw [hy190]; exact H) | exact H
     have Ny190 := Aside0.mk hy190; clear hy190; have H' := Aside0.mk H; clear H
     go_wp2_with (first | ((with_reducible refine gate_builtin (b := .append) (xs := #[.tmp 26, .tmp 31]) rfl ?_); at_builtin; refine Kd.R_append Kd.string (w0 := w) w.heap.size rfl (.tmp 26) (.tmp 31) 99 9 (.string ⟨#[]⟩) 16 rfl Try.underlying99 info9 rfl (by decide) (by omega) u5 x5_1 (a0.extract (x6_1 : Int).toNat (x7_1 : Int).toNat) [.string (a0.extract (x6_1 : Int).toNat (x7_1 : Int).toNat)] (fun _ => True) (fun _ => False) rfl rfl ?aP (fun _ hk => hk.elim) ?aF ?aO ?aB ?aS ?aL ?_; (case aP => exact rfl); (case aB => exact (bI HB.out)); (case aF => exact (fun _ _ => trivial)); (case aO => exact (rI HO_5.out)); (case aS => exact (below_size (bI HB.out))); (case aL => have := LMc10.out; omega); intro v191 w11 ho hb hg hat; rw [← Ny190.out] at ho; have n0_ := Aside0.mk (hb); have n1_ := Aside0.mk (ho); clear HB; clear HO_5; have HB := n0_; have HO192 := n1_; clear n0_ n1_; clear ho hb hg hat))
     go_roundg k1
     case measure => have := HK1.out; omega
     case rel => exact ⟨(y190), (wrap64 (x7_1 + 1)), (wrap64 (x7_1 + 1)), y0_21, y0_21, H', ⟨y0_25⟩, ⟨by (with_reducible repeat (first | apply Kd.R_alloc | apply Kd.R_drewN | apply Kd.R_drew)); exact HO192.out⟩, ⟨bI HB.out⟩⟩
    rw [if_neg c6] at H
    have c6b0 : (x7_1 == (a0.size : Int)) = false := beq_eq_false_iff_ne.mpr c6; have c6b1 : (x7_1 != (a0.size : Int)) = true := bne_iff_ne.mpr c6
    by_cases c12 : 0 ≤ x7_1
    rotate_left
    ·
     rw [if_neg c12] at H
     exact absurd H (by simp)
    rw [if_pos c12] at H
    have c12b0 : decide (0 ≤ x7_1) = true := decide_eq_true c12; clear c12
    by_cases c13 : x7_1 < (a0.size : Int)
    rotate_left
    ·
     rw [if_neg c13] at H
     exact absurd H (by simp)
    rw [if_pos c13] at H
    have c13b0 : decide (x7_1 < (a0.size : Int)) = true := decide_eq_true c13; clear c13
    by_cases c15 : (bt a0 x7_1) = a1
    ·
     rw [if_pos c15] at H
     have c15b0 : ((bt a0 x7_1) == a1) = true := beq_iff_eq.mpr c15; have c15b1 : ((bt a0 x7_1) != a1) = false := bne_eq_false_iff_eq.mpr c15; clear c15
     by_cases c16 : 0 ≤ x6_1
     rotate_left
     ·
      rw [if_neg c16] at H
      exact absurd H (by simp)
     rw [if_pos c16] at H
     have c16b0 := eq_true c16; have c16b1 : decide (0 ≤ x6_1) = true := decide_eq_true c16; clear c16
     by_cases c17 : x6_1 ≤ x7_1
     rotate_left
     ·
      rw [if_neg c17] at H
      exact absurd H (by simp)
     rw [if_pos c17] at H
     have c17b0 := eq_true c17; have c17b1 : decide (x6_1 ≤ x7_1) = true := decide_eq_true c17; clear c17; have c18b0 := eq_true (of_decide_eq_true y0_20 : x7_1 ≤ (a0.size : Int))
     by_cases c19 : x5_1.length < 8796093022208
     rotate_left
     ·
      rw [if_neg c19] at H
      exact absurd H (by simp)
     rw [if_pos c19] at H
     have LMc19 := Aside0.mk c19; clear c19; obtain ⟨y193, hy193⟩ : ∃ y_ : List ByteArray, y_ = (x5_1 ++ [a0.extract (x6_1 : Int).toNat (x7_1 : Int).toNat]) := ⟨_, rfl⟩
     replace H : (spec_Split.l0 k1 a0 a1 y193 (wrap64 (x7_1 + 1)) (wrap64 (x7_1 + 1))) = some r := by first | (rw [hy193]; with_reducible exact H) | (have H2_ := (Option.bind_some _ _).symm.trans H; rw [hy193]; with_reducible exact H2_) | (have H2_ := (Option.bind_some _ _).symm.trans H; with_reducible exact H2_) | with_reducible exact H | (rw [hy193]; exact H) | exact H
     have Ny193 := Aside0.mk hy193; clear hy193; have H' := Aside0.mk H; clear H; have p14 : 0 ≤ (x7_1 : Int) := of_decide_eq_true y0_20; have q14 : x7_1 < (a0.size : Int) := of_decide_eq_true y0_20; have hx14 := bt_at a0 x7_1; replace p14 := eq_true p14; replace q14 := eq_true q14
     go_wp2_with (first | ((with_reducible refine gate_builtin (b := .append) (xs := #[.tmp 26, .tmp 31]) rfl ?_); at_builtin; refine Kd.R_append Kd.string (w0 := w) w.heap.size rfl (.tmp 26) (.tmp 31) 99 9 (.string ⟨#[]⟩) 16 rfl Try.underlying99 info9 rfl (by decide) (by omega) u5 x5_1 (a0.extract (x6_1 : Int).toNat (x7_1 : Int).toNat) [.string (a0.extract (x6_1 : Int).toNat (x7_1 : Int).toNat)] (fun _ => True) (fun _ => False) rfl rfl ?aP (fun _ hk => hk.elim) ?aF ?aO ?aB ?aS ?aL ?_; (case aP => exact rfl); (case aB => exact (bI HB.out)); (case aF => exact (fun _ _ => trivial)); (case aO => exact (rI HO_5.out)); (case aS => exact (below_size (bI HB.out))); (case aL => have := LMc19.out; omega); intro v194 w20 ho hb hg hat; rw [← Ny193.out] at ho; have n0_ := Aside0.mk (hb); have n1_ := Aside0.mk (ho); clear HB; clear HO_5; have HB := n0_; have HO195 := n1_; clear n0_ n1_; clear ho hb hg hat))
     go_roundg k1
     case measure => have := HK1.out; omega
     case rel => exact ⟨(y193), (wrap64 (x7_1 + 1)), (wrap64 (x7_1 + 1)), y0_21, y0_21, H', ⟨y0_25⟩, ⟨by (with_reducible repeat (first | apply Kd.R_alloc | apply Kd.R_drewN | apply Kd.R_drew)); exact HO195.out⟩, ⟨bI HB.out⟩⟩
    rw [if_neg c15] at H
    have c15b0 : ((bt a0 x7_1) == a1) = false := beq_eq_false_iff_ne.mpr c15; have c15b1 : ((bt a0 x7_1) != a1) = true := bne_iff_ne.mpr c15; have H' := Aside0.mk H; clear H; have p14 : 0 ≤ (x7_1 : Int) := of_decide_eq_true y0_20; have q14 : x7_1 < (a0.size : Int) := of_decide_eq_true y0_20; have hx14 := bt_at a0 x7_1; replace p14 := eq_true p14; replace q14 := eq_true q14
    go_wp2
    go_roundg k1
    case measure => have := HK1.out; omega
    case rel => exact ⟨(x5_1), (x6_1), (wrap64 (x7_1 + 1)), y0_21, y0_21, H', ⟨y0_25⟩, ⟨y0_13⟩, ⟨bI HB.out⟩⟩
   rw [if_neg c5] at H
   have c5b0 : decide (x7_1 ≤ (a0.size : Int)) = false := decide_eq_false c5; clear c5; obtain rfl := Option.some.inj H
   go_wp2
   go_ret
   exact ⟨_, y0_16, y0_13, bI HB.out⟩

/-! ### spec_l2Cut: function 83 -/
def spec_l2Cut.l0 : Nat → ByteArray → Int → Int → Option (ByteArray × ByteArray × Bool)
 | 0, _, _, _ => none
 | k + 1, x0, x1, x7 => if x7 < (x0.size : Int) then (if 0 ≤ x7 then (if (bt x0 x7) = x1 then (if x7 ≤ (x0.size : Int) then (if 0 ≤ (wrap64 (x7 + 1)) then (if (wrap64 (x7 + 1)) ≤ (x0.size : Int) then (some (x0.extract 0 (x7 : Int).toNat, x0.extract ((wrap64 (x7 + 1)) : Int).toNat x0.size, true)) else (none)) else (none)) else (none)) else (spec_l2Cut.l0 k x0 x1 (wrap64 (x7 + 1)))) else (none)) else (some ((⟨#[]⟩ : ByteArray), (⟨#[]⟩ : ByteArray), false))
def spec_l2Cut.f (k : Nat) (a0 : ByteArray) (a1 : Int) : Option (ByteArray × ByteArray × Bool) := spec_l2Cut.l0 k a0 a1 0
theorem spec_l2Cut.mono_l : ∀ k, (∀ y0 y1 y2, LeO (spec_l2Cut.l0 k y0 y1 y2) (spec_l2Cut.l0 (k + 1) y0 y1 y2))
 | 0 => fun _ _ _ r h => by simp [spec_l2Cut.l0] at h
 | k + 1 => by
  have ih0 := spec_l2Cut.mono_l k
  intro y0 y1 y2
  unfold spec_l2Cut.l0
  repeat' first | (with_reducible exact ih0 _ _ _) | (with_reducible exact LeO.refl _) | (with_reducible exact LeO.none _) | (with_reducible refine LeO.ite ?_ ?_) | (with_reducible refine LeO.bind ?_ (fun _ => ?_))
theorem spec_l2Cut.mono : ∀ a0 a1 k, LeO (spec_l2Cut.f k a0 a1) (spec_l2Cut.f (k + 1) a0 a1) := by
 intro a0 a1 k
 have ih0 := spec_l2Cut.mono_l k
 unfold spec_l2Cut.f
 repeat' first | (with_reducible exact ih0 _ _ _) | (with_reducible exact LeO.refl _) | (with_reducible exact LeO.none _) | (with_reducible refine LeO.ite ?_ ?_) | (with_reducible refine LeO.bind ?_ (fun _ => ?_))
set_option maxHeartbeats 8000000 in
set_option maxRecDepth 100000 in
theorem spec_l2Cut.calls (k : Nat) (a0 : ByteArray) (a1 : Int) (r1 : ByteArray) (r2 : ByteArray) (r3 : Bool) (w : World) (h : spec_l2Cut.f k a0 a1 = some (r1, r2, r3)) :
  Calls Try.prog 83 #[.string a0, .int .u8 a1] w fun e w' => e = .returned (.tuple #[.string r1, .string r2, .bool r3]) ∧ Drawn0 w w' := by
 have H : (spec_l2Cut.l0 k a0 a1 0) = some (r1, r2, r3) := h; clear h; have H' := Aside0.mk H; clear H
 go_enter Try.func83, Try.ntmps83
 go_wp2
 repeat (go_quiet (fail); try go_wp2)
 go_loopg [7] k (fun kq v7 w' => ∃ (x7_1 : Int), v7 = .int .i64 x7_1 ∧ Aside0 (spec_l2Cut.l0 kq a0 a1 x7_1 = some (r1, r2, r3)) ∧ Aside0 (kq ≤ k) ∧ Drawn0 w w')
 case atStart => exact ⟨(0), y0_21, H', ⟨Nat.le_refl _⟩, y0_18⟩
 case round =>
  clear H'
  try clear p2
  obtain ⟨x7_1, rfl, HA, HK1, ⟨m1, rfl⟩⟩ := hrel; cases gk with
  | zero => exact absurd HA.out (by simp [spec_l2Cut.l0])
  | succ k1 =>
   have H := HA.out; clear HA
   simp only [spec_l2Cut.l0] at H
   by_cases c3 : x7_1 < (a0.size : Int)
   ·
    rw [if_pos c3] at H
    have c3b0 : decide (x7_1 < (a0.size : Int)) = true := decide_eq_true c3; clear c3
    by_cases c4 : 0 ≤ x7_1
    rotate_left
    ·
     rw [if_neg c4] at H
     exact absurd H (by simp)
    rw [if_pos c4] at H
    have c4b0 : decide (0 ≤ x7_1) = true := decide_eq_true c4; clear c4
    by_cases c6 : (bt a0 x7_1) = a1
    ·
     rw [if_pos c6] at H
     have c6b0 : ((bt a0 x7_1) == a1) = true := beq_iff_eq.mpr c6; have c6b1 : ((bt a0 x7_1) != a1) = false := bne_eq_false_iff_eq.mpr c6; clear c6; have c7b0 := eq_true (of_decide_eq_true y0_20 : 0 ≤ x7_1)
     by_cases c8 : x7_1 ≤ (a0.size : Int)
     rotate_left
     ·
      rw [if_neg c8] at H
      exact absurd H (by simp)
     rw [if_pos c8] at H
     have c8b0 := eq_true c8; have c8b1 : decide (x7_1 ≤ (a0.size : Int)) = true := decide_eq_true c8; clear c8; obtain ⟨ji9, hji9⟩ : ∃ j_ : Int, (wrap64 (x7_1 + 1)) = j_ := ⟨_, rfl⟩
     replace H : (if 0 ≤ (ji9) then (if (ji9) ≤ (a0.size : Int) then (some (a0.extract 0 (x7_1 : Int).toNat, a0.extract ((ji9) : Int).toNat a0.size, true)) else (none)) else (none)) = some (r1, r2, r3) := by first | (rw [hji9] at H; exact H) | (simp only [hji9] at H ⊢; exact H)
     have hji9w : (IntKind.i64.wrap (x7_1 + 1)) = ji9 := (i64_w _).trans hji9
     by_cases c10 : 0 ≤ (ji9)
     rotate_left
     ·
      rw [if_neg c10] at H
      exact absurd H (by simp)
     rw [if_pos c10] at H
     have c10b0 := eq_true c10; have c10b1 : decide (0 ≤ (ji9)) = true := decide_eq_true c10; clear c10
     by_cases c11 : (ji9) ≤ (a0.size : Int)
     rotate_left
     ·
      rw [if_neg c11] at H
      exact absurd H (by simp)
     rw [if_pos c11] at H
     have c11b0 := eq_true c11; have c11b1 : decide ((ji9) ≤ (a0.size : Int)) = true := decide_eq_true c11; clear c11
     simp only [Option.some.injEq, Prod.mk.injEq] at H
     obtain ⟨rfl, rfl, rfl⟩ := H; have p5 : 0 ≤ (x7_1 : Int) := of_decide_eq_true y0_20; have q5 : x7_1 < (a0.size : Int) := of_decide_eq_true y0_20; have hx5 := bt_at a0 x7_1; replace p5 := eq_true p5; replace q5 := eq_true q5
     go_wp2
     repeat (go_quiet (fail); try go_wp2)
     go_ret3
     exact ⟨by first | rfl | (simp; done) | (simp only [← hji9] <;> (first | rfl | simp)) | (simp [*]; done), y0_18⟩
    rw [if_neg c6] at H
    have c6b0 : ((bt a0 x7_1) == a1) = false := beq_eq_false_iff_ne.mpr c6; have c6b1 : ((bt a0 x7_1) != a1) = true := bne_iff_ne.mpr c6; have H' := Aside0.mk H; clear H; have p5 : 0 ≤ (x7_1 : Int) := of_decide_eq_true y0_20; have q5 : x7_1 < (a0.size : Int) := of_decide_eq_true y0_20; have hx5 := bt_at a0 x7_1; replace p5 := eq_true p5; replace q5 := eq_true q5
    go_wp2
    repeat (go_quiet (fail); try go_wp2)
    go_roundg k1
    case measure => have := HK1.out; omega
    case rel => exact ⟨(wrap64 (x7_1 + 1)), y0_21, H', ⟨y0_25⟩, y0_18⟩
   rw [if_neg c3] at H
   have c3b0 : decide (x7_1 < (a0.size : Int)) = false := decide_eq_false c3; clear c3
   simp only [Option.some.injEq, Prod.mk.injEq] at H
   obtain ⟨rfl, rfl, rfl⟩ := H
   go_wp2
   repeat (go_quiet (fail); try go_wp2)
   go_ret3
   exact ⟨y0_21, y0_18⟩

/-! ### spec_Digits: function 78 -/
def spec_Digits.l0 : Nat → Int → Bool → ByteArray → Option (ByteArray)
 | 0, _, _, _ => none
 | k + 1, x0, x3, x4 => if x0 = 0 then (if x3 = true then (if 1 + x4.size ≤ 9223372036854775807 then (some ((⟨#[45]⟩ : ByteArray) ++ x4)) else (none)) else (some x4)) else (if (Int.tmod x0 10) < 0 then ((some (([(wrap64 (48 + (wrap64 (-(Int.tmod x0 10))))) % 256] : List Int) : List Int)).bind fun y196 => (if (strOfNums y196).size + x4.size ≤ 9223372036854775807 then (spec_Digits.l0 k (wrap64 (Int.tdiv x0 10)) x3 ((strOfNums y196) ++ x4)) else (none))) else ((some (([(wrap64 (48 + (Int.tmod x0 10))) % 256] : List Int) : List Int)).bind fun y199 => (if (strOfNums y199).size + x4.size ≤ 9223372036854775807 then (spec_Digits.l0 k (wrap64 (Int.tdiv x0 10)) x3 ((strOfNums y199) ++ x4)) else (none))))
def spec_Digits.f (k : Nat) (a0 : Int) : Option (ByteArray) := if a0 = 0 then (some (⟨#[48]⟩ : ByteArray)) else (spec_Digits.l0 k a0 (decide (a0 < 0)) (⟨#[]⟩ : ByteArray))
theorem spec_Digits.mono_l : ∀ k, (∀ y0 y1 y2, LeO (spec_Digits.l0 k y0 y1 y2) (spec_Digits.l0 (k + 1) y0 y1 y2))
 | 0 => fun _ _ _ r h => by simp [spec_Digits.l0] at h
 | k + 1 => by
  have ih0 := spec_Digits.mono_l k
  intro y0 y1 y2
  unfold spec_Digits.l0
  repeat' first | (with_reducible exact ih0 _ _ _) | (with_reducible exact LeO.refl _) | (with_reducible exact LeO.none _) | (with_reducible refine LeO.ite ?_ ?_) | (with_reducible refine LeO.bind ?_ (fun _ => ?_))
theorem spec_Digits.mono : ∀ a0 k, LeO (spec_Digits.f k a0) (spec_Digits.f (k + 1) a0) := by
 intro a0 k
 have ih0 := spec_Digits.mono_l k
 unfold spec_Digits.f
 repeat' first | (with_reducible exact ih0 _ _ _) | (with_reducible exact LeO.refl _) | (with_reducible exact LeO.none _) | (with_reducible refine LeO.ite ?_ ?_) | (with_reducible refine LeO.bind ?_ (fun _ => ?_))
set_option maxHeartbeats 8000000 in
set_option maxRecDepth 100000 in
theorem spec_Digits.calls (k : Nat) (a0 : Int) (r : ByteArray) (w : World) (h : spec_Digits.f k a0 = some r) :
  Calls Try.prog 78 #[.int .i64 a0] w fun e w' => e = .returned (.string r) ∧ Below w.heap.size w w' := by
 have HB := Aside0.mk (Below.refl w.heap.size w); have H : (if a0 = 0 then (some (⟨#[48]⟩ : ByteArray)) else (spec_Digits.l0 k a0 (decide (a0 < 0)) (⟨#[]⟩ : ByteArray))) = some r := h; clear h
 by_cases c2 : a0 = 0
 ·
  rw [if_pos c2] at H
  have c2b0 : (a0 == 0) = true := beq_iff_eq.mpr c2; have c2b1 : (a0 != 0) = false := bne_eq_false_iff_eq.mpr c2; clear c2; obtain rfl := Option.some.inj H
  go_enter Try.func78, Try.ntmps78
  go_wp2
  go_ret
  exact ⟨y0_16, bI HB.out⟩
 rw [if_neg c2] at H
 have c2b0 : (a0 == 0) = false := beq_eq_false_iff_ne.mpr c2; have c2b1 : (a0 != 0) = true := bne_iff_ne.mpr c2; have H' := Aside0.mk H; clear H
 go_enter Try.func78, Try.ntmps78
 go_wp2
 go_loopg [0, 4] k (fun kq v0 v4 w' => ∃ (x0_1 : Int) (x4_1 : ByteArray), v0 = .int .i64 x0_1 ∧ v4 = .string x4_1 ∧ Aside0 (spec_Digits.l0 kq x0_1 (decide (a0 < 0)) x4_1 = some r) ∧ Aside0 (kq ≤ k) ∧ Aside0 (Below w.heap.size w w'))
 case atStart => exact ⟨(a0), ((⟨#[]⟩ : ByteArray)), y0_21, y0_21, H', ⟨Nat.le_refl _⟩, ⟨bI HB.out⟩⟩
 case round =>
  clear H'
  try clear c2
  try clear c2b0
  try clear c2b1
  try clear p2
  obtain ⟨x0_1, x4_1, rfl, rfl, HA, HK1, HB⟩ := hrel; cases gk with
  | zero => exact absurd HA.out (by simp [spec_Digits.l0])
  | succ k1 =>
   have H := HA.out; clear HA
   simp only [spec_Digits.l0] at H
   by_cases c3 : x0_1 = 0
   ·
    rw [if_pos c3] at H
    have c3b0 : (x0_1 == 0) = true := beq_iff_eq.mpr c3; have c3b1 : (x0_1 != 0) = false := bne_eq_false_iff_eq.mpr c3; clear c3
    by_cases c4 : (decide (a0 < 0)) = true
    ·
     rw [if_pos c4] at H
     have c4b0 : (decide (a0 < 0)) = true := c4
     (try simp only [c4b0])
     clear c4
     by_cases c5 : 1 + x4_1.size ≤ 9223372036854775807
     rotate_left
     ·
      rw [if_neg c5] at H
      exact absurd H (by simp)
     rw [if_pos c5] at H
     have c5b0 := eq_true c5; have c5b1 : decide (1 + x4_1.size ≤ 9223372036854775807) = true := decide_eq_true c5
     try have c5b2 : (9223372036854775807 < 1 + x4_1.size) = False := eq_false (Nat.not_lt.2 c5)
     obtain rfl := Option.some.inj H
     go_wp2
     go_ret
     exact ⟨y0_16, bI HB.out⟩
    rw [if_neg c4] at H
    have c4b0 : (decide (a0 < 0)) = false := by simpa using c4
    (try simp only [c4b0])
    clear c4; obtain rfl := Option.some.inj H
    go_wp2
    go_ret
    exact ⟨y0_16, bI HB.out⟩
   rw [if_neg c3] at H
   have c3b0 : (x0_1 == 0) = false := beq_eq_false_iff_ne.mpr c3; have c3b1 : (x0_1 != 0) = true := bne_iff_ne.mpr c3
   by_cases c6 : (Int.tmod x0_1 10) < 0
   ·
    rw [if_pos c6] at H
    have c6b0 : decide ((Int.tmod x0_1 10) < 0) = true := decide_eq_true c6; clear c6; obtain ⟨y196, hy196⟩ : ∃ y_ : List Int, y_ = (([(wrap64 (48 + (wrap64 (-(Int.tmod x0_1 10))))) % 256] : List Int)) := ⟨_, rfl⟩
    replace H : (if (strOfNums y196).size + x4_1.size ≤ 9223372036854775807 then (spec_Digits.l0 k1 (wrap64 (Int.tdiv x0_1 10)) (decide (a0 < 0)) ((strOfNums y196) ++ x4_1)) else (none)) = some r := by first | (rw [hy196]; with_reducible exact H) | (have H2_ := (Option.bind_some _ _).symm.trans H; rw [hy196]; with_reducible exact H2_) | (have H2_ := (Option.bind_some _ _).symm.trans H; with_reducible exact H2_) | with_reducible exact H | (rw [hy196]; exact H) | exact H
    have Ny196 := Aside0.mk hy196; clear hy196
    by_cases c7 : (strOfNums y196).size + x4_1.size ≤ 9223372036854775807
    rotate_left
    ·
     rw [if_neg c7] at H
     exact absurd H (by simp)
    rw [if_pos c7] at H
    have c7b0 := eq_true c7; have c7b1 : decide ((strOfNums y196).size + x4_1.size ≤ 9223372036854775807) = true := decide_eq_true c7
    try have c7b2 : (9223372036854775807 < (strOfNums y196).size + x4_1.size) = False := eq_false (Nat.not_lt.2 c7)
    have H' := Aside0.mk H; clear H
    go_wp2_with (first | ((with_reducible refine gate_dst (N := 21) rfl ?_); refine Kd.R_lit (Kd.int .u8) _ 5 ?hg (N := 21) ?hd (xs := ([(wrap64 (48 + (wrap64 (-(Int.tmod x0_1 10))))) % 256] : List Int)) (inner := [.int .u8 ((wrap64 (48 + (wrap64 (-(Int.tmod x0_1 10))))) % 256)]) (ok := fun _ => True) (okp := fun _ => True) ?hr ?hp (fun _ hk => hk) trivial (Below.refl _ _) (Nat.le_refl _) (by simp) ?_; (case hd => rfl); (case hg => rfl); (case hr => first | (go_simp; done) | (go_simp; rfl)); (case hp => exact (Reps.one (show Kd.M (Kd.int .u8) _ _ _ ((wrap64 (48 + (wrap64 (-(Int.tmod x0_1 10))))) % 256) [.int .u8 ((wrap64 (48 + (wrap64 (-(Int.tmod x0_1 10))))) % 256)] from rfl) (Reps.none _ _))); intro v197 w8 ho9 hb hg_ hnew_; clear hg_ hnew_; (first | rw [← Ny196.out] at ho9 | (simp only [Int.reduceToNat] at ho9; rw [← Ny196.out] at ho9)); have HO198 := Aside0.mk (Kd.R_lower ho9 (below_size (bI HB.out))); replace HB := bs HB hb; clear hb ho9; have hcv10 := own_string (P := Try.prog) Try.underlying33 Try.underlying5 Try.underlying9 (Kd.own_of_R HO198.out)))
    go_roundg k1
    case measure => have := HK1.out; omega
    case rel => exact ⟨(wrap64 (Int.tdiv x0_1 10)), ((strOfNums y196) ++ x4_1), y0_21, y0_21, H', ⟨y0_25⟩, ⟨bI HB.out⟩⟩
   rw [if_neg c6] at H
   have c6b0 : decide ((Int.tmod x0_1 10) < 0) = false := decide_eq_false c6; clear c6; obtain ⟨y199, hy199⟩ : ∃ y_ : List Int, y_ = (([(wrap64 (48 + (Int.tmod x0_1 10))) % 256] : List Int)) := ⟨_, rfl⟩
   replace H : (if (strOfNums y199).size + x4_1.size ≤ 9223372036854775807 then (spec_Digits.l0 k1 (wrap64 (Int.tdiv x0_1 10)) (decide (a0 < 0)) ((strOfNums y199) ++ x4_1)) else (none)) = some r := by first | (rw [hy199]; with_reducible exact H) | (have H2_ := (Option.bind_some _ _).symm.trans H; rw [hy199]; with_reducible exact H2_) | (have H2_ := (Option.bind_some _ _).symm.trans H; with_reducible exact H2_) | with_reducible exact H | (rw [hy199]; exact H) | exact H
   have Ny199 := Aside0.mk hy199; clear hy199
   by_cases c11 : (strOfNums y199).size + x4_1.size ≤ 9223372036854775807
   ·
    rw [if_pos c11] at H
    have c11b0 := eq_true c11; have c11b1 : decide ((strOfNums y199).size + x4_1.size ≤ 9223372036854775807) = true := decide_eq_true c11
    try have c11b2 : (9223372036854775807 < (strOfNums y199).size + x4_1.size) = False := eq_false (Nat.not_lt.2 c11)
    have H' := Aside0.mk H; clear H
    go_wp2_with (first | ((with_reducible refine gate_dst (N := 21) rfl ?_); refine Kd.R_lit (Kd.int .u8) _ 5 ?hg (N := 21) ?hd (xs := ([(wrap64 (48 + (Int.tmod x0_1 10))) % 256] : List Int)) (inner := [.int .u8 ((wrap64 (48 + (Int.tmod x0_1 10))) % 256)]) (ok := fun _ => True) (okp := fun _ => True) ?hr ?hp (fun _ hk => hk) trivial (Below.refl _ _) (Nat.le_refl _) (by simp) ?_; (case hd => rfl); (case hg => rfl); (case hr => first | (go_simp; done) | (go_simp; rfl)); (case hp => exact (Reps.one (show Kd.M (Kd.int .u8) _ _ _ ((wrap64 (48 + (Int.tmod x0_1 10))) % 256) [.int .u8 ((wrap64 (48 + (Int.tmod x0_1 10))) % 256)] from rfl) (Reps.none _ _))); intro v200 w12 ho13 hb hg_ hnew_; clear hg_ hnew_; (first | rw [← Ny199.out] at ho13 | (simp only [Int.reduceToNat] at ho13; rw [← Ny199.out] at ho13)); have HO201 := Aside0.mk (Kd.R_lower ho13 (below_size (bI HB.out))); replace HB := bs HB hb; clear hb ho13; have hcv14 := own_string (P := Try.prog) Try.underlying33 Try.underlying5 Try.underlying9 (Kd.own_of_R HO201.out)))
    go_roundg k1
    case measure => have := HK1.out; omega
    case rel => exact ⟨(wrap64 (Int.tdiv x0_1 10)), ((strOfNums y199) ++ x4_1), y0_21, y0_21, H', ⟨y0_25⟩, ⟨bI HB.out⟩⟩
   rw [if_neg c11] at H
   exact absurd H (by simp)

end Go.Proofs.Ytemjmefacifdeaa.PFnDropsBelow
