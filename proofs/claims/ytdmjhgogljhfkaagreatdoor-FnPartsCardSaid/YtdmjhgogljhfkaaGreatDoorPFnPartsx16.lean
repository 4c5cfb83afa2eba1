import Derived.Test.YtdmjhgogljhfkaaGreatDoorPFnPartsx0
import Derived.Test.YtdmjhgogljhfkaaGreatDoorPFnPartsx4
import Derived.Test.YtdmjhgogljhfkaaGreatDoorPFnPartsx12
import Derived.Test.YtdmjhgogljhfkaaGreatDoorPFnPartsx14
namespace Go.Proofs.YtdmjhgogljhfkaaGreatDoor.PFnParts
open Go.RowKit Go.Proofs.YtdmjhgogljhfkaaGreatDoorW.PrintWords Go.Proofs.YtdmjhgogljhfkaaGreatDoorW.PrintLast Go.Proofs.YtdmjhgogljhfkaaGreatDoorW.PrintMore
attribute [local go_sem] max2_int min2_int max_two min_two max_three min_three max_four min_four
attribute [local go_sem] cell_in frozen_in cell_g cell_p cell_r cell_q
set_option synthInstance.maxSize 1000000
set_option synthInstance.maxHeartbeats 2000000
set_option linter.unusedVariables false
set_option linter.unusedSimpArgs false
set_option maxHeartbeats 8000000
set_option maxRecDepth 100000
def spec_l7DrawOf.l0 : Nat → Int → List Int → Int → Int → Int → Int → Int → ByteArray → List Int → Option (Int × ByteArray × List Int × Int × Int)
 | 0, _, _, _, _, _, _, _, _, _ => none
 | k + 1, x8, x1000, x1001, x1002, x805000, x805001, x808000, x808001, x808002 => if x8 < x805000 then (if x808002.length < 17592186044416 then (spec_l7DrawOf.l0 k (wrap64 (x8 + 1)) x1000 x1001 x1002 x805000 x805001 x808000 x808001 (x808002 ++ [x8])) else (none)) else ((spec_l1Once.f x1000 x1001 x1002 2).bind fun bt811 => (if bt811.1 = true then (if (x808002.length : Int) > 0 then ((spec_l1Below.f x1000 bt811.2.1 bt811.2.2 (x808002.length : Int)).bind fun bt814 => ((some (([] : List Int) : List Int)).bind fun y817 => (if 0 ≤ bt814.1 then (if bt814.1 ≤ (x808002.length : Int) then ((some (x808002.take (bt814.1 : Int).toNat : List Int)).bind fun y820 => (if y817.length + y820.length < 17592186044416 then ((some (y817 ++ y820 : List Int)).bind fun y824 => (if 0 ≤ (wrap64 (bt814.1 + 1)) then (if (wrap64 (bt814.1 + 1)) ≤ (x808002.length : Int) then ((some (x808002.drop ((wrap64 (bt814.1 + 1)) : Int).toNat : List Int)).bind fun y827 => (if y824.length + y827.length < 17592186044416 then (some (x808000, x808001, (y824 ++ y827), bt814.2.1, bt814.2.2)) else (none))) else (none)) else (none))) else (none))) else (none)) else (none)))) else (some (x808000, x808001, x808002, bt811.2.1, bt811.2.2))) else (some (x808000, x808001, x808002, bt811.2.1, bt811.2.2))))
def spec_l7DrawOf.f (k : Nat) (s0_0 : List Int) (s0_1 : Int) (s0_2 : Int) (a1_0 : Int) (a1_1 : Int) (a2 : ByteArray) : Option (Int × ByteArray × List Int × Int × Int) := (spec_ViewOf.f k a2).bind fun t806 => (if a2.toList = ([] : List UInt8) then (some (t806, a2, ([] : List Int), s0_1, s0_2)) else (spec_l7DrawOf.l0 k 0 s0_0 s0_1 s0_2 a1_0 a1_1 t806 a2 ([] : List Int)))
def spec_l7DrawOf.T10 : Bool × List (List Nat × List Nat) := (true, [([], []), ([], []), ([1], [1]), ([], []), ([2, 3], [2, 3]), ([0, 4], [0, 4]), ([], []), ([6], [6]), ([], []), ([8], [8]), ([7, 9], [7, 9]), ([5, 10, 5], [5, 10]), ([0, 1, 2, 3, 4, 5, 6, 7, 8, 9, 10, 11], []), ([12, 11, 11, 0, 1, 2, 3, 4, 5, 6, 7, 8, 9, 10, 11], [11, 12])])
def spec_l7DrawOf.B10 : List Nat := [0, 0, 2, 0, 14, 31, 0, 64, 0, 256, 960, 2047, 4095, 8191]
theorem spec_l7DrawOf.tab10 : rtab .any (opsOf Tryz.f147 10) = spec_l7DrawOf.T10 := by kernel_rfl
theorem spec_l7DrawOf.bits10 : waitsOk spec_l7DrawOf.T10.2 spec_l7DrawOf.B10 = true := by kernel_rfl
theorem spec_l7DrawOf.calls (k : Nat) (g : Nat) (s0_0 : List Int) (s0_1 : Int) (s0_2 : Int) (a1_0 : Int) (a1_1 : Int) (a2 : ByteArray) (r1 : Int) (r2 : ByteArray) (r3 : List Int) (r4 : Int) (r5 : Int) (w0 w : World) (hI : IsS149 w0 w g s0_0 s0_1 s0_2) (hB : Below w0.heap.size w0 w) (h : spec_l7DrawOf.f k s0_0 s0_1 s0_2 a1_0 a1_1 a2 = some (r1, r2, r3, r4, r5)) :
  Calls Tryz.prog 147 #[.pointer (some ⟨g, 0, none⟩), .agg #[.int .i64 a1_0, .int .i64 a1_1], .string a2] w fun e w' => ∃ v2_ : Value, e = .returned (.agg #[.int .i64 r1, .string r2, v2_]) ∧ Kd.R (Kd.int .i64) 3 w' w.heap.size (fun _ => True) v2_ r3 ∧ IsS149 w0 w' g s0_0 r4 r5 ∧ Below w0.heap.size w0 w' ∧ KeepBut w w' g none := by
 have hu32 := Tryz.underlying32; have hu27 := Tryz.underlying27; have HI0 := Aside0.mk hI; have HK := Aside0.mk (KeepBut.refl w g none); have HL := Aside0.mk hB.size; clear hI; have HW0 := Aside0.mk hB.size; have HB := Aside0.mk hB; clear hB
 have H := h; unfold spec_l7DrawOf.f at H
 clear h; obtain ⟨t806, A4, H⟩ := oB H; (try dsimp only at H)
 by_cases c5 : a2.toList = ([] : List UInt8)
 ·
  rw [if_pos c5] at H
  have c5b0 : (a2.toList == ([] : List UInt8)) = true := beq_iff_eq.mpr c5; have c5b1 : (a2.toList != ([] : List UInt8)) = false := bne_eq_false_iff_eq.mpr c5; clear c5
  simp only [Option.some.injEq, Prod.mk.injEq] at H
  obtain ⟨rfl, rfl, rfl, rfl, rfl⟩ := H
  go_enter Tryz.func147, Tryz.ntmps147
  go_wp2_with (first | ((with_reducible refine gate_dst (N := 4) rfl ?_); (try (refine gate_guard (by rfl) ?_; dsimp only)); refine box_event ?hg (N := 4) ?hd (cs := #[.int .i64 a1_0, .int .i64 a1_1]) (t := 32) ?hr ?_; (case hd => rfl); (case hg => rfl); (case hr => first | (go_simp; done) | (go_simp; rfl)); intro gb804 hg w6 hbox hb; replace HB : Aside0 (Below w0.heap.size w0 _) := Aside0.mk (below_step y0_7 hb); have BK804 := Aside0.mk (hbox); have GW804 := bh hg HK; have GJ804 := gi GW804; have GE804 := Aside0.mk ((Nat.le_trans HW0.out (y0_13 : w.heap.size ≤ gb804) : w0.heap.size ≤ gb804)); have GI804 := gi GE804; replace HK := kb HK hb; have NB0_804 := Aside0.mk ((y0_2 : g ≠ gb804)); have NI0_804 := ni NB0_804; have NB804_0 := Aside0.mk ((y0_3 : gb804 ≠ g)); have NI804_0 := ni NB804_0; replace HI0 := Aside0.mk (IsS149.below y0_6 hb); clear hb hbox hg) | ((with_reducible refine gate_dst (N := 6) rfl ?_); (try (refine gate_guard (by rfl) ?_; dsimp only)); refine box_event ?hg (N := 6) ?hd (cs := #[.int .i64 0, .string (⟨#[]⟩ : ByteArray), .slice none 0 0]) (t := 27) ?hr ?_; (case hd => rfl); (case hg => rfl); (case hr => first | (go_simp; done) | (go_simp; rfl)); intro gb805 hg w7 hbox hb; replace HB : Aside0 (Below w0.heap.size w0 _) := Aside0.mk (below_step y0_5 hb); have BK805 := Aside0.mk (hbox); have GW805 := bh hg HK; have GJ805 := gi GW805; have GE805 := Aside0.mk ((Nat.le_trans HW0.out (y0_13 : w.heap.size ≤ gb805) : w0.heap.size ≤ gb805)); have GI805 := gi GE805; replace HK := kb HK hb; have NB804_805 := b1 BK804 hg; have NI804_805 := ni NB804_805; have NB805_804 := b2 BK804 hg; have NI805_804 := ni NB805_804; replace BK804 := bk BK804 hb; have NB0_805 := Aside0.mk ((y0_0 : g ≠ gb805)); have NI0_805 := ni NB0_805; have NB805_0 := Aside0.mk ((y0_1 : gb805 ≠ g)); have NI805_0 := ni NB805_0; replace HI0 := Aside0.mk (IsS149.below y0_4 hb); clear hb hbox hg) | ((with_reducible refine gate_callee (f := 113) rfl ?_); refine gB (some 11) Tryz.func113 #[.string a2] ?_; (with_reducible refine (spec_ViewOf.calls k a2 t806 _ A4.out).mono ?_); rintro e w8 ⟨rfl, hb⟩; refine ⟨_, rfl, ?_⟩; replace BK804 := bk BK804 hb; replace BK805 := bk BK805 hb; replace HK := kb HK hb; replace HB : Aside0 (Below w0.heap.size w0 _) := Aside0.mk (below_step y0_5 hb); replace HI0 := Aside0.mk (IsS149.below y0_4 hb); (try clear hb); (try clear hb2); (try clear hk); (try clear hi)) | ((with_reducible refine gate_dst (N := 7) rfl ?_); (try (refine gate_guard (by rfl) ?_; dsimp only)); refine box_event ?hg (N := 7) ?hd (cs := #[.int .i64 0, .string (⟨#[]⟩ : ByteArray), .slice none 0 0]) (t := 27) ?hr ?_; (case hd => rfl); (case hg => rfl); (case hr => first | (go_simp; done) | (go_simp; rfl)); intro gb807 hg w9 hbox hb; replace HB : Aside0 (Below w0.heap.size w0 _) := Aside0.mk (below_step y0_5 hb); have BK807 := Aside0.mk (hbox); have GW807 := bh hg HK; have GJ807 := gi GW807; have GE807 := Aside0.mk ((Nat.le_trans HW0.out (y0_13 : w.heap.size ≤ gb807) : w0.heap.size ≤ gb807)); have GI807 := gi GE807; replace HK := kb HK hb; have NB804_807 := b1 BK804 hg; have NI804_807 := ni NB804_807; have NB807_804 := b2 BK804 hg; have NI807_804 := ni NB807_804; replace BK804 := bk BK804 hb; have NB805_807 := b1 BK805 hg; have NI805_807 := ni NB805_807; have NB807_805 := b2 BK805 hg; have NI807_805 := ni NB807_805; replace BK805 := bk BK805 hb; have NB0_807 := Aside0.mk ((y0_0 : g ≠ gb807)); have NI0_807 := ni NB0_807; have NB807_0 := Aside0.mk ((y0_1 : gb807 ≠ g)); have NI807_0 := ni NB807_0; replace HI0 := Aside0.mk (IsS149.below y0_4 hb); clear hb hbox hg; have hnb10 := NB807_804.out; have hnc10 := NB804_807.out; have hnb11 := NB807_805.out; have hnc11 := NB805_807.out; have hnb12 := NB807_0.out; have hnc12 := NB0_807.out; obtain ⟨hcz13_0, hcz13_1, hcz13_2, hfz13_0, hfz13_1, hfz13_2⟩ := cs3 BK807; have hnb14 := NB805_804.out; have hnc14 := NB804_805.out; have hnb15 := NB805_0.out; have hnc15 := NB0_805.out; obtain ⟨hcz16_0, hcz16_1, hcz16_2, hfz16_0, hfz16_1, hfz16_2⟩ := cs3 BK805))
  refine bodyPost_ret (results_cell_row rfl _ _ gb805 27 #[.int .i64 t806, .string a2, .slice none 0 0] (0, 0) _ rfl (pI BK805) Tryz.underlying27 rfl (by kernel_rfl)) rfl ?_
  exact ⟨_, y0_12, y0_9, y0_4, y0_5, hI HK.out⟩
 rw [if_neg c5] at H
 have c5b0 : (a2.toList == ([] : List UInt8)) = false := beq_eq_false_iff_ne.mpr c5; have c5b1 : (a2.toList != ([] : List UInt8)) = true := bne_iff_ne.mpr c5; have H' := Aside0.mk H; clear H
 go_enter Tryz.func147, Tryz.ntmps147
 go_wp2_with (first | ((with_reducible refine gate_dst (N := 4) rfl ?_); (try (refine gate_guard (by rfl) ?_; dsimp only)); refine box_event ?hg (N := 4) ?hd (cs := #[.int .i64 a1_0, .int .i64 a1_1]) (t := 32) ?hr ?_; (case hd => rfl); (case hg => rfl); (case hr => first | (go_simp; done) | (go_simp; rfl)); intro gb804 hg w17 hbox hb; replace HB : Aside0 (Below w0.heap.size w0 _) := Aside0.mk (below_step y0_7 hb); have BK804 := Aside0.mk (hbox); have GW804 := bh hg HK; have GJ804 := gi GW804; have GE804 := Aside0.mk ((Nat.le_trans HW0.out (y0_13 : w.heap.size ≤ gb804) : w0.heap.size ≤ gb804)); have GI804 := gi GE804; replace HK := kb HK hb; have NB0_804 := Aside0.mk ((y0_2 : g ≠ gb804)); have NI0_804 := ni NB0_804; have NB804_0 := Aside0.mk ((y0_3 : gb804 ≠ g)); have NI804_0 := ni NB804_0; replace HI0 := Aside0.mk (IsS149.below y0_6 hb); clear hb hbox hg) | ((with_reducible refine gate_dst (N := 6) rfl ?_); (try (refine gate_guard (by rfl) ?_; dsimp only)); refine box_event ?hg (N := 6) ?hd (cs := #[.int .i64 0, .string (⟨#[]⟩ : ByteArray), .slice none 0 0]) (t := 27) ?hr ?_; (case hd => rfl); (case hg => rfl); (case hr => first | (go_simp; done) | (go_simp; rfl)); intro gb805 hg w18 hbox hb; replace HB : Aside0 (Below w0.heap.size w0 _) := Aside0.mk (below_step y0_5 hb); have BK805 := Aside0.mk (hbox); have GW805 := bh hg HK; have GJ805 := gi GW805; have GE805 := Aside0.mk ((Nat.le_trans HW0.out (y0_13 : w.heap.size ≤ gb805) : w0.heap.size ≤ gb805)); have GI805 := gi GE805; replace HK := kb HK hb; have NB804_805 := b1 BK804 hg; have NI804_805 := ni NB804_805; have NB805_804 := b2 BK804 hg; have NI805_804 := ni NB805_804; replace BK804 := bk BK804 hb; have NB0_805 := Aside0.mk ((y0_0 : g ≠ gb805)); have NI0_805 := ni NB0_805; have NB805_0 := Aside0.mk ((y0_1 : gb805 ≠ g)); have NI805_0 := ni NB805_0; replace HI0 := Aside0.mk (IsS149.below y0_4 hb); clear hb hbox hg) | ((with_reducible refine gate_callee (f := 113) rfl ?_); refine gB (some 11) Tryz.func113 #[.string a2] ?_; (with_reducible refine (spec_ViewOf.calls k a2 t806 _ A4.out).mono ?_); rintro e w19 ⟨rfl, hb⟩; refine ⟨_, rfl, ?_⟩; replace BK804 := bk BK804 hb; replace BK805 := bk BK805 hb; replace HK := kb HK hb; replace HB : Aside0 (Below w0.heap.size w0 _) := Aside0.mk (below_step y0_5 hb); replace HI0 := Aside0.mk (IsS149.below y0_4 hb); (try clear hb); (try clear hb2); (try clear hk); (try clear hi)) | ((with_reducible refine gate_dst (N := 7) rfl ?_); (try (refine gate_guard (by rfl) ?_; dsimp only)); refine box_event ?hg (N := 7) ?hd (cs := #[.int .i64 0, .string (⟨#[]⟩ : ByteArray), .slice none 0 0]) (t := 27) ?hr ?_; (case hd => rfl); (case hg => rfl); (case hr => first | (go_simp; done) | (go_simp; rfl)); intro gb807 hg w20 hbox hb; replace HB : Aside0 (Below w0.heap.size w0 _) := Aside0.mk (below_step y0_5 hb); have BK807 := Aside0.mk (hbox); have GW807 := bh hg HK; have GJ807 := gi GW807; have GE807 := Aside0.mk ((Nat.le_trans HW0.out (y0_13 : w.heap.size ≤ gb807) : w0.heap.size ≤ gb807)); have GI807 := gi GE807; replace HK := kb HK hb; have NB804_807 := b1 BK804 hg; have NI804_807 := ni NB804_807; have NB807_804 := b2 BK804 hg; have NI807_804 := ni NB807_804; replace BK804 := bk BK804 hb; have NB805_807 := b1 BK805 hg; have NI805_807 := ni NB805_807; have NB807_805 := b2 BK805 hg; have NI807_805 := ni NB807_805; replace BK805 := bk BK805 hb; have NB0_807 := Aside0.mk ((y0_0 : g ≠ gb807)); have NI0_807 := ni NB0_807; have NB807_0 := Aside0.mk ((y0_1 : gb807 ≠ g)); have NI807_0 := ni NB807_0; replace HI0 := Aside0.mk (IsS149.below y0_4 hb); clear hb hbox hg; have hnb21 := NB807_804.out; have hnc21 := NB804_807.out; have hnb22 := NB807_805.out; have hnc22 := NB805_807.out; have hnb23 := NB807_0.out; have hnc23 := NB0_807.out; obtain ⟨hcz24_0, hcz24_1, hcz24_2, hfz24_0, hfz24_1, hfz24_2⟩ := cs3 BK807))
 go_loopg [8] k (fun kq v8 w' => ∃ (x8_1 : Int) (x808002_1 : List Int) (u808002 : Value), v8 = .int .i64 x8_1 ∧ Aside0 (spec_l7DrawOf.l0 kq x8_1 s0_0 s0_1 s0_2 a1_0 a1_1 t806 a2 x808002_1 = some (r1, r2, r3, r4, r5)) ∧ Aside0 (kq ≤ k) ∧ Aside0 (Kd.R (Kd.int .i64) 3 w' w.heap.size (fun _ => True) u808002 x808002_1) ∧ Aside0 (w'.heap[gb804]? = some (.cells #[.int .i64 a1_0, .int .i64 a1_1] 32 (0, 0))) ∧ Aside0 (w'.heap[gb805]? = some (.cells #[.int .i64 0, .string (⟨#[]⟩ : ByteArray), (.slice none 0 0)] 27 (0, 0))) ∧ Aside0 (w'.heap[gb807]? = some (.cells #[.int .i64 t806, .string a2, u808002] 27 (0, 0))) ∧ Aside0 (IsS149 w0 w' g s0_0 s0_1 s0_2) ∧ Aside0 (KeepBut w w' g none) ∧ Aside0 (Below w0.heap.size w0 w'))
 case atStart => exact ⟨(0), (([] : List Int)), (.slice none 0 0), y0_17, H', ⟨Nat.le_refl _⟩, ⟨y0_9⟩, ⟨gI BK804.out⟩, ⟨gI BK805.out⟩, ⟨pI BK807⟩, ⟨y0_4⟩, ⟨hI HK.out⟩, ⟨y0_5⟩⟩
 case round =>
  clear H'
  try clear c1
  try clear c2
  try clear p2
  try clear c5
  try clear c5b0
  try clear c5b1
  try clear c10
  try clear c11
  try clear c12
  try clear c14
  try clear c15
  try clear c21
  try clear c22
  try clear c23
  try clear hcz13_0
  try clear hcz13_1
  try clear hcz13_2
  try clear hcz16_0
  try clear hcz16_1
  try clear hcz16_2
  try clear hcz24_0
  try clear hcz24_1
  try clear hcz24_2
  try clear hfz13_0
  try clear hfz13_1
  try clear hfz13_2
  try clear hfz16_0
  try clear hfz16_1
  try clear hfz16_2
  try clear hfz24_0
  try clear hfz24_1
  try clear hfz24_2
  obtain ⟨x8_1, x808002_1, u808002, rfl, HA, HK1, HO_808002, BK804, BK805, BK807, HI0, HK, HB⟩ := hrel; cases gk with
  | zero => exact absurd HA.out (by simp [spec_l7DrawOf.l0])
  | succ k1 =>
   have H := HA.out; clear HA
   simp only [spec_l7DrawOf.l0] at H
   by_cases c25 : x8_1 < a1_0
   ·
    rw [if_pos c25] at H
    have c25b0 : decide (x8_1 < a1_0) = true := decide_eq_true c25; clear c25
    by_cases c26 : x808002_1.length < 17592186044416
    rotate_left
    ·
     rw [if_neg c26] at H
     exact absurd H (by simp)
    rw [if_pos c26] at H
    have LMc26 := Aside0.mk c26; clear c26; obtain ⟨y808, hy808⟩ : ∃ y_ : List Int, y_ = (x808002_1 ++ [x8_1]) := ⟨_, rfl⟩
    replace H : (spec_l7DrawOf.l0 k1 (wrap64 (x8_1 + 1)) s0_0 s0_1 s0_2 a1_0 a1_1 t806 a2 y808) = some (r1, r2, r3, r4, r5) := by first | (rw [hy808]; with_reducible exact H) | (rw [hy808]; with_reducible exact (Option.bind_some _ _).symm.trans H) | (rw [hy808]; exact H) | exact H
    have Ny808 := Aside0.mk hy808; clear hy808; have H' := Aside0.mk H; clear H; have hnb27 := NB804_805.out; have hnc27 := NB805_804.out; have hnb28 := NB804_807.out; have hnc28 := NB807_804.out; have hnb29 := NB804_0.out; have hnc29 := NB0_804.out; have hcz30_0 := bc0 BK804.out; have hcz30_1 := bc1 BK804.out; have hfz30_0 := blk_frozen BK804.out 0; have hfz30_1 := blk_frozen BK804.out 1; have hnb31 := NB807_805.out; have hnc31 := NB805_807.out; have hnb32 := NB807_0.out; have hnc32 := NB0_807.out; have hcz33_0 := bc0 BK807.out; have hcz33_1 := bc1 BK807.out; have hcz33_2 := bc2 BK807.out; have hfz33_0 := blk_frozen BK807.out 0; have hfz33_1 := blk_frozen BK807.out 1; have hfz33_2 := blk_frozen BK807.out 2
    go_wp2_with (first | ((with_reducible refine gate_builtin (b := .append) (xs := #[.tmp 24, .tmp 26]) rfl ?_); (try (refine gate_guard (by rfl) ?_; dsimp only)); at_builtin; refine Kd.R_append (Kd.int .i64) w.heap.size rfl (.tmp 24) (.tmp 26) 25 3 (.int .i64 0) 8 rfl Tryz.underlying25 info3 rfl (by decide) (by omega) u808002 x808002_1 x8_1 [.int .i64 x8_1] (fun _ => True) (fun _ => False) rfl rfl ?aP (fun _ hk => hk.elim) ?aF ?aO (Below.refl _ _) ?aS ?aL ?_; (case aP => exact rfl); (case aF => exact (fun _ _ => trivial)); (case aO => exact (rI HO_808002.out)); (case aS => exact (keep_size (w := w) (g := g) (row := none) (hI HK.out))); (case aL => have := LMc26.out; omega); intro v809 w34 ho hb hg hat; rw [← Ny808.out] at ho; have n0_ := bn BK804 hg (Kd.R_ne HO_808002.out BK804.out (by decide)); have n1_ := bn BK805 hg (Kd.R_ne HO_808002.out BK805.out (by decide)); have n2_ := bn BK807 hg (Kd.R_ne HO_808002.out BK807.out (by decide)); have n3_ := Aside0.mk (IsS149.grown y0_4 hg (IsS149.own_ne HI0.out HO_808002.out (by decide))); have n4_ := Aside0.mk (below_weaken y0_5 HL.out hb); have n5_ := Aside0.mk (KeepBut.trans (hI HK.out) (KeepBut.of_grown hg g) (Kd.R_base2 HO_808002.out)); have n6_ := Aside0.mk (ho); clear BK804; clear BK805; clear BK807; clear HI0; clear HB; clear HK; clear HO_808002; have BK804 := n0_; have BK805 := n1_; have BK807 := n2_; have HI0 := n3_; have HB := n4_; have HK := n5_; have HO810 := n6_; clear n0_ n1_ n2_ n3_ n4_ n5_ n6_; clear ho hb hg hat; obtain ⟨Ao35, co35, eo35⟩ := Kd.R_slice HO810.out; subst eo35; obtain ⟨hcz36_0, hcz36_1, hcz36_2, hfz36_0, hfz36_1, hfz36_2⟩ := cs3 BK807))
    go_roundg k1
    case measure => have := HK1.out; omega
    case rel => exact ⟨(wrap64 (x8_1 + 1)), (y808), (.slice Ao35 y808.length co35), y0_17, H', ⟨y0_20⟩, ⟨by (with_reducible repeat (first | apply Kd.R_alloc | apply Kd.R_drewN | apply Kd.R_drew)); exact Kd.R_mono (Kd.R_far (p := ⟨gb807, 2, none⟩) (Kd.R_types HO810.out BK807.out (by decide)) (fun _ hk => hk.2) (.slice Ao35 y808.length co35)) (fun _ hk => trivial)⟩, ⟨gI BK804.out⟩, ⟨gI BK805.out⟩, ⟨pI BK807⟩, ⟨y0_4⟩, ⟨hI HK.out⟩, ⟨y0_5⟩⟩
   rw [if_neg c25] at H
   have c25b0 : decide (x8_1 < a1_0) = false := decide_eq_false c25; clear c25; obtain ⟨⟨t811, t812, t813⟩, A37, H⟩ := oB H; (try dsimp only at H)
   by_cases c38 : t811 = true
   ·
    subst c38
    rw [if_pos rfl] at H
    by_cases c39 : (x808002_1.length : Int) > 0
    ·
     rw [if_pos c39] at H
     have c39b0 : decide (0 < (x808002_1.length : Int)) = true := decide_eq_true c39
     have c39b1 : decide (0 < x808002_1.length) = true := decide_eq_true (by omega)
     clear c39; obtain ⟨⟨t814, t815, t816⟩, A40, H⟩ := oB H; (try dsimp only at H); obtain ⟨y817, hy817⟩ : ∃ y_ : List Int, y_ = (([] : List Int)) := ⟨_, rfl⟩
     replace H : (if 0 ≤ t814 then (if t814 ≤ (x808002_1.length : Int) then ((some (x808002_1.take (t814 : Int).toNat : List Int)).bind fun y820 => (if y817.length + y820.length < 17592186044416 then ((some (y817 ++ y820 : List Int)).bind fun y824 => (if 0 ≤ (wrap64 (t814 + 1)) then (if (wrap64 (t814 + 1)) ≤ (x808002_1.length : Int) then ((some (x808002_1.drop ((wrap64 (t814 + 1)) : Int).toNat : List Int)).bind fun y827 => (if y824.length + y827.length < 17592186044416 then (some (t806, a2, (y824 ++ y827), t815, t816)) else (none))) else (none)) else (none))) else (none))) else (none)) else (none)) = some (r1, r2, r3, r4, r5) := by first | (rw [hy817]; with_reducible exact H) | (rw [hy817]; with_reducible exact (Option.bind_some _ _).symm.trans H) | (rw [hy817]; exact H) | exact H
     have Ny817 := Aside0.mk hy817; clear hy817
     by_cases c41 : 0 ≤ t814
     rotate_left
     ·
      rw [if_neg c41] at H
      exact absurd H (by simp)
     rw [if_pos c41] at H
     have c41b0 := eq_true c41; have c41b1 : decide (0 ≤ t814) = true := decide_eq_true c41; clear c41
     by_cases c42 : t814 ≤ (x808002_1.length : Int)
     rotate_left
     ·
      rw [if_neg c42] at H
      exact absurd H (by simp)
     rw [if_pos c42] at H
     have c42b0 := eq_true c42; have c42b1 : decide (t814 ≤ (x808002_1.length : Int)) = true := decide_eq_true c42; clear c42; obtain ⟨y820, hy820⟩ : ∃ y_ : List Int, y_ = (x808002_1.take (t814 : Int).toNat) := ⟨_, rfl⟩
     replace H : (if y817.length + y820.length < 17592186044416 then ((some (y817 ++ y820 : List Int)).bind fun y824 => (if 0 ≤ (wrap64 (t814 + 1)) then (if (wrap64 (t814 + 1)) ≤ (x808002_1.length : Int) then ((some (x808002_1.drop ((wrap64 (t814 + 1)) : Int).toNat : List Int)).bind fun y827 => (if y824.length + y827.length < 17592186044416 then (some (t806, a2, (y824 ++ y827), t815, t816)) else (none))) else (none)) else (none))) else (none)) = some (r1, r2, r3, r4, r5) := by first | (rw [hy820]; with_reducible exact H) | (rw [hy820]; with_reducible exact (Option.bind_some _ _).symm.trans H) | (rw [hy820]; exact H) | exact H
     have Ny820 := Aside0.mk hy820; clear hy820
     by_cases c43 : y817.length + y820.length < 17592186044416
     rotate_left
     ·
      rw [if_neg c43] at H
      exact absurd H (by simp)
     rw [if_pos c43] at H
     have LMc43 := Aside0.mk c43; clear c43; obtain ⟨y824, hy824⟩ : ∃ y_ : List Int, y_ = (y817 ++ y820) := ⟨_, rfl⟩
     replace H : (if 0 ≤ (wrap64 (t814 + 1)) then (if (wrap64 (t814 + 1)) ≤ (x808002_1.length : Int) then ((some (x808002_1.drop ((wrap64 (t814 + 1)) : Int).toNat : List Int)).bind fun y827 => (if y824.length + y827.length < 17592186044416 then (some (t806, a2, (y824 ++ y827), t815, t816)) else (none))) else (none)) else (none)) = some (r1, r2, r3, r4, r5) := by first | (rw [hy824]; with_reducible exact H) | (rw [hy824]; with_reducible exact (Option.bind_some _ _).symm.trans H) | (rw [hy824]; exact H) | exact H
     have Ny824 := Aside0.mk hy824; clear hy824; obtain ⟨ji44, hji44⟩ : ∃ j_ : Int, (wrap64 (t814 + 1)) = j_ := ⟨_, rfl⟩
     replace H : (if 0 ≤ (ji44) then (if (ji44) ≤ (x808002_1.length : Int) then ((some (x808002_1.drop ((ji44) : Int).toNat : List Int)).bind fun y827 => (if y824.length + y827.length < 17592186044416 then (some (t806, a2, (y824 ++ y827), t815, t816)) else (none))) else (none)) else (none)) = some (r1, r2, r3, r4, r5) := by first | (rw [hji44] at H; exact H) | (simp only [hji44] at H ⊢; exact H)
     (try rw [hji44] at A37)
     (try rw [hji44] at A40)
     have hji44w : (IntKind.i64.wrap (t814 + 1)) = ji44 := (i64_w _).trans hji44
     by_cases c45 : 0 ≤ (ji44)
     rotate_left
     ·
      rw [if_neg c45] at H
      exact absurd H (by simp)
     rw [if_pos c45] at H
     have c45b0 := eq_true c45; have c45b1 : decide (0 ≤ (ji44)) = true := decide_eq_true c45; clear c45
     by_cases c46 : (ji44) ≤ (x808002_1.length : Int)
     rotate_left
     ·
      rw [if_neg c46] at H
      exact absurd H (by simp)
     rw [if_pos c46] at H
     have c46b0 := eq_true c46; have c46b1 : decide ((ji44) ≤ (x808002_1.length : Int)) = true := decide_eq_true c46; clear c46; obtain ⟨y827, hy827⟩ : ∃ y_ : List Int, y_ = (x808002_1.drop ((ji44) : Int).toNat) := ⟨_, rfl⟩
     replace H : (if y824.length + y827.length < 17592186044416 then (some (t806, a2, (y824 ++ y827), t815, t816)) else (none)) = some (r1, r2, r3, r4, r5) := by first | (rw [hy827]; with_reducible exact H) | (rw [hy827]; with_reducible exact (Option.bind_some _ _).symm.trans H) | (rw [hy827]; exact H) | exact H
     have Ny827 := Aside0.mk hy827; clear hy827
     by_cases c47 : y824.length + y827.length < 17592186044416
     rotate_left
     ·
      rw [if_neg c47] at H
      exact absurd H (by simp)
     rw [if_pos c47] at H
     have LMc47 := Aside0.mk c47; clear c47; obtain ⟨y831, hy831⟩ : ∃ y_ : List Int, y_ = (y824 ++ y827) := ⟨_, rfl⟩
     replace H : (some (t806, a2, y831, t815, t816)) = some (r1, r2, r3, r4, r5) := by first | (rw [hy831]; with_reducible exact H) | (rw [hy831]; with_reducible exact (Option.bind_some _ _).symm.trans H) | (rw [hy831]; exact H) | exact H
     have Ny831 := Aside0.mk hy831; clear hy831
     simp only [Option.some.injEq, Prod.mk.injEq] at H
     obtain ⟨rfl, rfl, rfl, rfl, rfl⟩ := H; have hnb48 := NB804_805.out; have hnc48 := NB805_804.out; have hnb49 := NB804_807.out; have hnc49 := NB807_804.out; have hnb50 := NB804_0.out; have hnc50 := NB0_804.out; have hcz51_0 := bc0 BK804.out; have hcz51_1 := bc1 BK804.out; have hfz51_0 := blk_frozen BK804.out 0; have hfz51_1 := blk_frozen BK804.out 1
     try go_wp2_with (first | ((with_reducible refine gate_callee (f := 93) rfl ?_); refine gB (some 30) Tryz.func93 #[.pointer (some ⟨g, 0, none⟩), .int .i64 2] ?_; (with_reducible refine (spec_l1Once.calls g s0_0 s0_1 s0_2 2 true t812 t813 w0 _ ?side1 ?side2 A37.out).mono ?_); (case side1 => repeat (first | (with_reducible first | exact HI0.out | apply IsS149.alloc | apply IsS149.drewN | apply IsS149.drew | apply IsS149.set_1 | apply IsS149.set_2 | refine IsS149.far ?_ NeI.out _) | exact HI0.out)); (case side2 => repeat (first | (with_reducible first | exact HB.out | apply below_alloc | apply pw_below_drewN | apply below_drew1 | refine below_set ?_ (IsS149.ge HI0.out) | refine below_set ?_ GeI.out) | exact HB.out)); rintro e w52 ⟨rfl, hi, hb, hk⟩; refine ⟨_, rfl, ?_⟩; replace HO_808002 := Aside0.mk (Kd.R_mono (Kd.R_keep (IsS149.apart (show IsS149 w0 _ g s0_0 s0_1 s0_2 from y0_4) (rI HO_808002.out) (by decide)) hk (fun _ h => h.2)) (fun _ h => h.1)); replace BK804 := bq BK804 hk NB804_0; replace BK805 := bq BK805 hk NB805_0; replace BK807 := bq BK807 hk NB807_0; replace HK := kt HK hk; replace HB := Aside0.mk (hb); replace HI0 := Aside0.mk (hi); (try clear hb); (try clear hb2); (try clear hk); (try clear hi); have hnb53 := NB807_805.out; have hnc53 := NB805_807.out; have hnb54 := NB807_0.out; have hnc54 := NB0_807.out; obtain ⟨hcz55_0, hcz55_1, hcz55_2, hfz55_0, hfz55_1, hfz55_2⟩ := cs3 BK807; obtain ⟨Ao56, co56, eo56⟩ := Kd.R_slice HO_808002.out; subst eo56) | ((with_reducible refine gate_callee (f := 97) rfl ?_); refine gB (some 41) Tryz.func97 #[.pointer (some ⟨g, 0, none⟩), .int .i64 (x808002_1.length : Int)] ?_; (with_reducible refine (spec_l1Below.calls g s0_0 t812 t813 (x808002_1.length : Int) t814 t815 t816 w0 _ ?side1 ?side2 A40.out).mono ?_); (case side1 => repeat (first | (with_reducible first | exact HI0.out | apply IsS149.alloc | apply IsS149.drewN | apply IsS149.drew | apply IsS149.set_1 | apply IsS149.set_2 | refine IsS149.far ?_ NeI.out _) | exact HI0.out)); (case side2 => repeat (first | (with_reducible first | exact HB.out | apply below_alloc | apply pw_below_drewN | apply below_drew1 | refine below_set ?_ (IsS149.ge HI0.out) | refine below_set ?_ GeI.out) | exact HB.out)); rintro e w57 ⟨rfl, hi, hb, hk⟩; refine ⟨_, rfl, ?_⟩; replace HO_808002 := Aside0.mk (Kd.R_mono (Kd.R_keep (IsS149.apart (show IsS149 w0 _ g s0_0 t812 t813 from y0_4) (rI HO_808002.out) (by decide)) hk (fun _ h => h.2)) (fun _ h => h.1)); replace BK804 := bq BK804 hk NB804_0; replace BK805 := bq BK805 hk NB805_0; replace BK807 := bq BK807 hk NB807_0; replace HK := kt HK hk; replace HB := Aside0.mk (hb); replace HI0 := Aside0.mk (hi); (try clear hb); (try clear hb2); (try clear hk); (try clear hi)))
     replace HO_808002 := Aside0.mk (Kd.R_drew HO_808002.out); replace BK804 := Aside0.mk (blk_drew BK804.out); replace BK805 := Aside0.mk (blk_drew BK805.out); replace BK807 := Aside0.mk (blk_drew BK807.out); replace HI0 := Aside0.mk (IsS149.drew HI0.out); replace HK := Aside0.mk (keep_drew HK.out); replace HB := Aside0.mk (below_drew1 HB.out); have q59 : (t814 : Int) ≤ ((x808002_1.length : Int) : Int) := of_decide_eq_true y0_16; obtain ⟨i059, hi059, _, hsz59, _⟩ := info_parts info3; have hroom59 : x808002_1.length ≤ co56 := (Kd.R_reads' HO_808002.out).2.1; have hC59 : Kd.C (Kd.int .i64) _ Ao56 x808002_1.length x808002_1 := (Kd.R_reads' HO_808002.out).2.2; have hcut59 := cut_to (P := Tryz.prog) 25 3 .i64 Tryz.underlying25 hi059 Ao56 x808002_1.length co56 t814 (of_decide_eq_true y0_16) q59 hroom59
     have hr59 := Kd.C_take (m := (t814 : Int).toNat) hC59 (by omega)
     have hy59 : y820.length = (t814 : Int).toNat := (by rw [Ny820.out, List.length_take]; omega)
     rw [← Ny820.out] at hr59
     rw [← hy59] at hcut59
     have HR823 := Aside0.mk hr59
     have HC823 := Aside0.mk (show y820.length ≤ co56 from by omega)
     clear hr59 hC59 hroom59 hi059 hsz59; have KY59 := Aside0.mk hy59; clear hy59
     have KL59 := Aside0.mk (show (t814 : Int).toNat ≤ x808002_1.length from by omega)
     replace q59 := eq_true q59; have q60 : ((ji44) : Int) ≤ ((x808002_1.length : Int) : Int) := of_decide_eq_true y0_16; obtain ⟨i060, hi060, _, hsz60, _⟩ := info_parts info3; have hroom60 : x808002_1.length ≤ co56 := (Kd.R_reads' HO_808002.out).2.1; have hC60 : Kd.C (Kd.int .i64) _ Ao56 x808002_1.length x808002_1 := (Kd.R_reads' HO_808002.out).2.2; have q060 : (0 : Int) ≤ ((ji44) : Int) := of_decide_eq_true y0_16; have hcut60 := cut_from (P := Tryz.prog) 25 3 .i64 Tryz.underlying25 hi060 1 hsz60 Ao56 x808002_1.length co56 (ji44) q060 q60
     have hr60 := Kd.C_drop (m := ((ji44) : Int).toNat) (c := co56) hC60 (by omega) hroom60
     obtain ⟨A60, hA60⟩ : ∃ A1, A1 = (if co56 = ((ji44) : Int).toNat then Ao56 else (Ao56 : Option Addr).map (·.add (((ji44) : Int).toNat * 1))) := ⟨_, rfl⟩
     obtain ⟨c60, hc60⟩ : ∃ c1, c1 = co56 - ((ji44) : Int).toNat := ⟨_, rfl⟩
     have hy60 : y827.length = x808002_1.length - ((ji44) : Int).toNat := (by rw [Ny827.out, List.length_drop] <;> omega)
     rw [show (x808002_1).drop ((ji44) : Int).toNat = y827 from Ny827.out.symm] at hr60
     replace hr60 : Kd.C (Kd.int .i64) _ A60 y827.length y827 := (by rw [hA60]; exact hr60)
     rw [← hy60, ← hA60, ← hc60] at hcut60
     have HR830 := Aside0.mk hr60
     have HC830 := Aside0.mk (show y827.length ≤ c60 from by rw [hy60, hc60]; exact Nat.sub_le_sub_right hroom60 _)
     clear hr60 hC60 hroom60 hi060 hsz60 hc60; have KY60 := Aside0.mk hy60; have KA60 := Aside0.mk hA60; clear hy60 hA60
     have KL60 := Aside0.mk (show ((ji44) : Int).toNat ≤ x808002_1.length from by omega)
     replace q60 := eq_true q60
     refine start_ (n := 14) (S := fun w' => w'.cell? ⟨gb807, 0, none⟩ = some (.int .i64 t806) ∧ w'.cell? ⟨gb807, 1, none⟩ = some (.string a2) ∧ w'.cell? ⟨gb807, 2, none⟩ = some (.slice Ao56 x808002_1.length co56)) (ds := [13]) #[false, false, false, false, false, false, false, false, false, false, false, false, false, false] (by kernel_rfl) rfl rfl ⟨bc0 BK807.out, bc1 BK807.out, bc2 BK807.out⟩ (fun hHeld => ?_); refine with_tabW spec_l7DrawOf.tab10 spec_l7DrawOf.bits10 (fun HT_ HW_ => ?_)
     generalize w57.drew = w58 at HO_808002 BK804 BK805 BK807 HI0 HK HB HR823 HR830 hHeld ⊢
     refine pA 1 (some 43) (bz 14 2) HT_ ?_
     refine pA 3 (some 45) (bz 14 10) HT_ ?_
     refine pA 6 (some 48) (bz 14 74) HT_ ?_
     refine pA 8 (some 50) (bz 14 330) HT_ ?_
     refine pA 9 (some 51) (bz 14 842) HT_ ?_
     refine tA 2 (some 44) (bz 14 846) HT_ HW_ hHeld ?_
     refine pA 4 (some 46) (bz 14 862) HT_ ?_
     refine tA 7 (some 49) (bz 14 990) HT_ HW_ hHeld ?_
     refine pA 10 (some 52) (bz 14 2014) HT_ ?_
     refine oA 0 (some 42) (bz 14 2015) HT_ (fun K hK => ?_)
     refine Kd.R_lit_step (Kd.int .i64) _ 3 ?hg (N := 42) ?hd (xs := ([] : List Int)) (inner := []) (ok := fun _ => True) (okp := fun _ => True) ?hr ?hp (fun _ hk => hk) trivial (Below.refl _ _) (Nat.le_refl _) (by simp) ?_; (case hd => rfl); (case hg => rfl); (case hr => first | (go_simp; done) | (go_simp; rfl)); (case hp => exact (Reps.none _ _))
     intro v818 w61 ho62 hb hg_ hnew_
     clear hg_ hnew_
     (first | rw [← Ny817.out] at ho62 | (simp only [Int.reduceToNat] at ho62; rw [← Ny817.out] at ho62))
     have HO819 := Aside0.mk (Kd.R_lower (Kd.R_new' ho62 (Kd.R_lt (rI HO_808002.out))) (keep_size (w := w) (g := g) (row := none) (hI HK.out))); replace HO_808002 := Aside0.mk (Kd.R_elder' (rI HO_808002.out) (Kd.R_base ho62) hb); replace BK804 := bk BK804 hb; replace BK805 := bk BK805 hb; replace BK807 := bk BK807 hb
     replace HR823 := Aside0.mk (Kd.C_below (by repeat (first | (with_reducible exact HR823.out) | (with_reducible refine Kd.C_alloc ?_ _) | (with_reducible refine Kd.C_drewN ?_ _) | (with_reducible refine Kd.C_drew ?_) | exact HR823.out)) hb)
     replace HR830 := Aside0.mk (Kd.C_below (by repeat (first | (with_reducible exact HR830.out) | (with_reducible refine Kd.C_alloc ?_ _) | (with_reducible refine Kd.C_drewN ?_ _) | (with_reducible refine Kd.C_drew ?_) | exact HR830.out)) hb)
     replace HK := kb HK hb; replace HB : Aside0 (Below w0.heap.size w0 _) := Aside0.mk (below_step y0_5 hb); replace HI0 := Aside0.mk (IsS149.below y0_4 hb); clear hb ho62
     refine hK.out _ _ ⟨bc0 BK807.out, bc1 BK807.out, bc2 BK807.out⟩ (fun hHeld => ?_)
     clear hK K
     refine nA (some 42) ?_
     refine oA 5 (some 47) (bz 14 2047) HT_ (fun K hK => ?_)
     refine Kd.R_append_rows_step (Kd.int .i64) w.heap.size (by rfl) (.tmp 42) (.tmp 46) 25 3 (.int .i64 0) 8 rfl Tryz.underlying25 info3 rfl (by decide) (by omega) v818 y817 y820 _ _ _ (fun k_ => some k_ ≠ (.slice Ao56 x808002_1.length co56 : Value).ownBlock) (fun _ => False) rfl rfl ?aO ?aR (fun _ _ h => h) (fun _ h => h.elim) ?aF (Below.refl _ _) ?aS ?aL ?_
     (case aR => repeat (first | exact (by repeat (first | (with_reducible exact HR823.out) | (with_reducible refine Kd.C_alloc ?_ _) | (with_reducible refine Kd.C_drewN ?_ _) | (with_reducible refine Kd.C_drew ?_) | exact HR823.out)) | (with_reducible refine Kd.C_alloc ?_ _) | (with_reducible refine Kd.C_drewN ?_ _) | (with_reducible refine Kd.C_drew ?_)))
     (case aF => exact (fun k_ hk => Kd.fresh' (Kd.R_lt (rI HO_808002.out)) k_ hk))
     (case aO => exact (rI (Kd.R_mono HO819.out (fun _ hk => hk.2))))
     (case aS => exact (keep_size (w := w) (g := g) (row := none) (hI HK.out)))
     (case aL => have := LMc43.out; omega)
     intro v825 w63 ho hb hg hat
     rw [← Ny824.out] at ho
     have n0_ := Aside0.mk (Kd.R_after (ok := (fun _ => True)) (rI HO_808002.out) hg hat)
     have n1_ := bn BK804 hg (Kd.R_ne HO819.out BK804.out (by decide))
     have n2_ := bn BK805 hg (Kd.R_ne HO819.out BK805.out (by decide))
     have n3_ := bn BK807 hg (Kd.R_ne HO819.out BK807.out (by decide))
     have n4_ := Aside0.mk (IsS149.grown y0_4 hg (IsS149.own_ne HI0.out HO819.out (by decide)))
     have n5_ := Aside0.mk (below_weaken y0_5 HL.out hb); have n6_ := Aside0.mk (KeepBut.trans (hI HK.out) (KeepBut.of_grown hg g) (Kd.R_base2 HO819.out))
     have n7_ := Aside0.mk ((show Kd.C (Kd.int .i64) w63 Ao56 y820.length y820 from by rw [Ny820.out]; exact Kd.C_take (m := (t814 : Int).toNat) ((Kd.R_reads' (Kd.R_after (ok := (fun _ => True)) (rI HO_808002.out) hg hat)).2.2) KL59.out))
     have n8_ := Aside0.mk ((show Kd.C (Kd.int .i64) w63 A60 y827.length y827 from by rw [Ny827.out, KA60.out]; exact Kd.C_drop (m := ((ji44) : Int).toNat) (c := co56) ((Kd.R_reads' (Kd.R_after (ok := (fun _ => True)) (rI HO_808002.out) hg hat)).2.2) KL60.out ((Kd.R_reads' (Kd.R_after (ok := (fun _ => True)) (rI HO_808002.out) hg hat)).2.1)))
     have n9_ := Aside0.mk (ho); clear HO_808002; clear BK804; clear BK805; clear BK807; clear HI0; clear HB; clear HK; clear HR823; clear HR830; clear HO819; have HO_808002 := n0_; have BK804 := n1_; have BK805 := n2_; have BK807 := n3_; have HI0 := n4_; have HB := n5_; have HK := n6_; have HR823 := n7_; have HR830 := n8_; have HO826 := n9_; clear n0_ n1_ n2_ n3_ n4_ n5_ n6_ n7_ n8_ n9_; clear ho hb hg hat
     refine hK.out _ _ ⟨bc0 BK807.out, bc1 BK807.out, bc2 BK807.out⟩ (fun hHeld => ?_)
     clear hK K
     refine nA (some 47) ?_
     refine oA 11 (some 53) (bz 14 4095) HT_ (fun K hK => ?_)
     refine Kd.R_append_rows_step (Kd.int .i64) w.heap.size (by rfl) (.tmp 47) (.tmp 52) 25 3 (.int .i64 0) 8 rfl Tryz.underlying25 info3 rfl (by decide) (by omega) v825 y824 y827 _ _ _ (fun k_ => some k_ ≠ (.slice Ao56 x808002_1.length co56 : Value).ownBlock) (fun _ => False) rfl rfl ?aO ?aR (fun _ _ h => h) (fun _ h => h.elim) ?aF (Below.refl _ _) ?aS ?aL ?_
     (case aR => repeat (first | exact (by repeat (first | (with_reducible exact HR830.out) | (with_reducible refine Kd.C_alloc ?_ _) | (with_reducible refine Kd.C_drewN ?_ _) | (with_reducible refine Kd.C_drew ?_) | exact HR830.out)) | (with_reducible refine Kd.C_alloc ?_ _) | (with_reducible refine Kd.C_drewN ?_ _) | (with_reducible refine Kd.C_drew ?_)))
     (case aF => exact (fun k_ hk => Kd.fresh' (Kd.R_lt (rI HO_808002.out)) k_ hk))
     (case aO => exact (rI HO826.out))
     (case aS => exact (keep_size (w := w) (g := g) (row := none) (hI HK.out)))
     (case aL => have := LMc47.out; omega)
     intro v832 w64 ho hb hg hat
     rw [← Ny831.out] at ho
     have n0_ := Aside0.mk (Kd.R_after (ok := (fun _ => True)) (rI HO_808002.out) hg hat)
     have n1_ := bn BK804 hg (Kd.R_ne HO826.out BK804.out (by decide))
     have n2_ := bn BK805 hg (Kd.R_ne HO826.out BK805.out (by decide))
     have n3_ := bn BK807 hg (Kd.R_ne HO826.out BK807.out (by decide))
     have n4_ := Aside0.mk (IsS149.grown y0_4 hg (IsS149.own_ne HI0.out HO826.out (by decide)))
     have n5_ := Aside0.mk (below_weaken y0_5 HL.out hb); have n6_ := Aside0.mk (KeepBut.trans (hI HK.out) (KeepBut.of_grown hg g) (Kd.R_base2 HO826.out))
     have n7_ := Aside0.mk ((show Kd.C (Kd.int .i64) w64 Ao56 y820.length y820 from by rw [Ny820.out]; exact Kd.C_take (m := (t814 : Int).toNat) ((Kd.R_reads' (Kd.R_after (ok := (fun _ => True)) (rI HO_808002.out) hg hat)).2.2) KL59.out))
     have n8_ := Aside0.mk ((show Kd.C (Kd.int .i64) w64 A60 y827.length y827 from by rw [Ny827.out, KA60.out]; exact Kd.C_drop (m := ((ji44) : Int).toNat) (c := co56) ((Kd.R_reads' (Kd.R_after (ok := (fun _ => True)) (rI HO_808002.out) hg hat)).2.2) KL60.out ((Kd.R_reads' (Kd.R_after (ok := (fun _ => True)) (rI HO_808002.out) hg hat)).2.1)))
     have n9_ := Aside0.mk (ho); clear HO_808002; clear BK804; clear BK805; clear BK807; clear HI0; clear HB; clear HK; clear HR823; clear HR830; clear HO826; have HO_808002 := n0_; have BK804 := n1_; have BK805 := n2_; have BK807 := n3_; have HI0 := n4_; have HB := n5_; have HK := n6_; have HR823 := n7_; have HR830 := n8_; have HO833 := n9_; clear n0_ n1_ n2_ n3_ n4_ n5_ n6_ n7_ n8_ n9_; clear ho hb hg hat; obtain ⟨Ao65, co65, eo65⟩ := Kd.R_slice HO833.out
     (first | subst eo65 | (injection eo65 with f1_ f2_ f3_; have f4_ := f1_.symm; have f5_ := f3_.symm; clear f1_ f2_ f3_; subst f4_; subst f5_))
     refine hK.out _ _ ⟨bc0 BK807.out, bc1 BK807.out, bc2 BK807.out⟩ (fun hHeld => ?_)
     clear hK K
     refine nA (some 53) ?_
     refine pA 12 (some 54) (bz 14 0x1fff) HT_ ?_
     refine last_ (i := 13) (N := none) #[true, true, true, true, true, true, true, true, true, true, true, true, true, true] rfl rfl (one_of HT_.out (by kernel_rfl)) (by decide) (fun K hK => ?_)
     have hs66 : w64.cell? ⟨gb807, 2, none⟩ = some (.slice Ao56 x808002_1.length co56) := bc2 BK807.out; have hfs66 := blk_frozen BK807.out 2; have hns66_0 := NB804_807.out; have hns66_1 := NB805_807.out; have hms66_0 := NB807_804.out; have hms66_1 := NB807_805.out
     refine skip_ (w1 := ?_) (by rfl) rfl ?_ ?_
     rotate_left
     ·
      go_simp
      rfl
     refine hK.out _ _ ?_
     clear hK K
     refine done_ (done_of HT_.out (by kernel_rfl)) ?_
     have hcz67_0 := bc0 BK807.out; have hcz67_1 := bc1 BK807.out; have hcz67_2 := bc2 BK807.out; have hfz67_0 := blk_frozen BK807.out 0; have hfz67_1 := blk_frozen BK807.out 1; have hfz67_2 := blk_frozen BK807.out 2; have hnb68 := NB805_0.out; have hnc68 := NB0_805.out; have hcz69_0 := bc0 BK805.out; have hcz69_1 := bc1 BK805.out; have hcz69_2 := bc2 BK805.out; have hfz69_0 := blk_frozen BK805.out 0; have hfz69_1 := blk_frozen BK805.out 1; have hfz69_2 := blk_frozen BK805.out 2
     try go_wp2
     refine bodyPost_ret (results_cell_row rfl _ _ gb805 27 #[.int .i64 t806, .string a2, .slice Ao65 y831.length co65] (0, 0) _ rfl (pI BK805) Tryz.underlying27 rfl (by kernel_rfl)) rfl ?_
     exact ⟨_, by first | rfl | (simp [errW_none, errW_some] <;> rfl) | (simp only [← hji44]; first | rfl | (simp [errW_none, errW_some] <;> rfl)) | (simp [*, errW_none, errW_some] <;> rfl), by (with_reducible repeat (first | apply Kd.R_alloc | apply Kd.R_drewN | apply Kd.R_drew)); exact Kd.R_mono (Kd.R_far (p := ⟨gb805, 2, none⟩) (Kd.R_far (p := ⟨gb805, 1, none⟩) (Kd.R_far (p := ⟨gb805, 0, none⟩) (Kd.R_far (p := ⟨gb807, 2, none⟩) (Kd.R_types (Kd.R_types HO833.out BK807.out (by decide)) BK805.out (by decide)) (fun _ hk => hk.1.2) (.slice Ao65 y831.length co65)) (fun _ hk => hk.2) (.int .i64 t806)) (fun _ hk => hk.2) (.string a2)) (fun _ hk => hk.2) (.slice Ao65 y831.length co65)) (fun _ hk => trivial), y0_4, y0_5, hI HK.out⟩
    rw [if_neg c39] at H
    have c39b0 : decide (0 < (x808002_1.length : Int)) = false := decide_eq_false c39
    have c39b1 : decide (0 < x808002_1.length) = false := decide_eq_false (by omega)
    clear c39
    simp only [Option.some.injEq, Prod.mk.injEq] at H
    obtain ⟨rfl, rfl, rfl, rfl, rfl⟩ := H; have hnb70 := NB804_805.out; have hnc70 := NB805_804.out; have hnb71 := NB804_807.out; have hnc71 := NB807_804.out; have hnb72 := NB804_0.out; have hnc72 := NB0_804.out; have hcz73_0 := bc0 BK804.out; have hcz73_1 := bc1 BK804.out; have hfz73_0 := blk_frozen BK804.out 0; have hfz73_1 := blk_frozen BK804.out 1
    go_wp2_with (first | ((with_reducible refine gate_callee (f := 93) rfl ?_); refine gB (some 30) Tryz.func93 #[.pointer (some ⟨g, 0, none⟩), .int .i64 2] ?_; (with_reducible refine (spec_l1Once.calls g s0_0 s0_1 s0_2 2 true t812 t813 w0 _ ?side1 ?side2 A37.out).mono ?_); (case side1 => repeat (first | (with_reducible first | exact HI0.out | apply IsS149.alloc | apply IsS149.drewN | apply IsS149.drew | apply IsS149.set_1 | apply IsS149.set_2 | refine IsS149.far ?_ NeI.out _) | exact HI0.out)); (case side2 => repeat (first | (with_reducible first | exact HB.out | apply below_alloc | apply pw_below_drewN | apply below_drew1 | refine below_set ?_ (IsS149.ge HI0.out) | refine below_set ?_ GeI.out) | exact HB.out)); rintro e w74 ⟨rfl, hi, hb, hk⟩; refine ⟨_, rfl, ?_⟩; replace HO_808002 := Aside0.mk (Kd.R_mono (Kd.R_keep (IsS149.apart (show IsS149 w0 _ g s0_0 s0_1 s0_2 from y0_4) (rI HO_808002.out) (by decide)) hk (fun _ h => h.2)) (fun _ h => h.1)); replace BK804 := bq BK804 hk NB804_0; replace BK805 := bq BK805 hk NB805_0; replace BK807 := bq BK807 hk NB807_0; replace HK := kt HK hk; replace HB := Aside0.mk (hb); replace HI0 := Aside0.mk (hi); (try clear hb); (try clear hb2); (try clear hk); (try clear hi); have hnb75 := NB807_805.out; have hnc75 := NB805_807.out; have hnb76 := NB807_0.out; have hnc76 := NB0_807.out; obtain ⟨hcz77_0, hcz77_1, hcz77_2, hfz77_0, hfz77_1, hfz77_2⟩ := cs3 BK807; obtain ⟨Ao78, co78, eo78⟩ := Kd.R_slice HO_808002.out; subst eo78; have hnb79 := NB805_0.out; have hnc79 := NB0_805.out; obtain ⟨hcz80_0, hcz80_1, hcz80_2, hfz80_0, hfz80_1, hfz80_2⟩ := cs3 BK805))
    refine bodyPost_ret (results_cell_row rfl _ _ gb805 27 #[.int .i64 t806, .string a2, .slice Ao78 x808002_1.length co78] (0, 0) _ rfl (pI BK805) Tryz.underlying27 rfl (by kernel_rfl)) rfl ?_
    exact ⟨_, y0_12, by (with_reducible repeat (first | apply Kd.R_alloc | apply Kd.R_drewN | apply Kd.R_drew)); exact Kd.R_mono (Kd.R_far (p := ⟨gb805, 2, none⟩) (Kd.R_far (p := ⟨gb805, 1, none⟩) (Kd.R_far (p := ⟨gb805, 0, none⟩) (Kd.R_types HO_808002.out BK805.out (by decide)) (fun _ hk => hk.2) (.int .i64 t806)) (fun _ hk => hk.2) (.string a2)) (fun _ hk => hk.2) (.slice Ao78 x808002_1.length co78)) (fun _ hk => trivial), y0_4, y0_5, hI HK.out⟩
   replace c38 := Bool.eq_false_iff.mpr c38; subst c38
   rw [if_neg Bool.false_ne_true] at H
   simp only [Option.some.injEq, Prod.mk.injEq] at H
   obtain ⟨rfl, rfl, rfl, rfl, rfl⟩ := H; have hnb81 := NB804_805.out; have hnc81 := NB805_804.out; have hnb82 := NB804_807.out; have hnc82 := NB807_804.out; have hnb83 := NB804_0.out; have hnc83 := NB0_804.out; have hcz84_0 := bc0 BK804.out; have hcz84_1 := bc1 BK804.out; have hfz84_0 := blk_frozen BK804.out 0; have hfz84_1 := blk_frozen BK804.out 1
   go_wp2_with (first | ((with_reducible refine gate_callee (f := 93) rfl ?_); refine gB (some 30) Tryz.func93 #[.pointer (some ⟨g, 0, none⟩), .int .i64 2] ?_; (with_reducible refine (spec_l1Once.calls g s0_0 s0_1 s0_2 2 false t812 t813 w0 _ ?side1 ?side2 A37.out).mono ?_); (case side1 => repeat (first | (with_reducible first | exact HI0.out | apply IsS149.alloc | apply IsS149.drewN | apply IsS149.drew | apply IsS149.set_1 | apply IsS149.set_2 | refine IsS149.far ?_ NeI.out _) | exact HI0.out)); (case side2 => repeat (first | (with_reducible first | exact HB.out | apply below_alloc | apply pw_below_drewN | apply below_drew1 | refine below_set ?_ (IsS149.ge HI0.out) | refine below_set ?_ GeI.out) | exact HB.out)); rintro e w85 ⟨rfl, hi, hb, hk⟩; refine ⟨_, rfl, ?_⟩; replace HO_808002 := Aside0.mk (Kd.R_mono (Kd.R_keep (IsS149.apart (show IsS149 w0 _ g s0_0 s0_1 s0_2 from y0_4) (rI HO_808002.out) (by decide)) hk (fun _ h => h.2)) (fun _ h => h.1)); replace BK804 := bq BK804 hk NB804_0; replace BK805 := bq BK805 hk NB805_0; replace BK807 := bq BK807 hk NB807_0; replace HK := kt HK hk; replace HB := Aside0.mk (hb); replace HI0 := Aside0.mk (hi); (try clear hb); (try clear hb2); (try clear hk); (try clear hi); have hnb86 := NB807_805.out; have hnc86 := NB805_807.out; have hnb87 := NB807_0.out; have hnc87 := NB0_807.out; obtain ⟨hcz88_0, hcz88_1, hcz88_2, hfz88_0, hfz88_1, hfz88_2⟩ := cs3 BK807; have hnb89 := NB805_0.out; have hnc89 := NB0_805.out; obtain ⟨hcz90_0, hcz90_1, hcz90_2, hfz90_0, hfz90_1, hfz90_2⟩ := cs3 BK805; obtain ⟨Ao91, co91, eo91⟩ := Kd.R_slice HO_808002.out; subst eo91))
   refine bodyPost_ret (results_cell_row rfl _ _ gb805 27 #[.int .i64 t806, .string a2, .slice Ao91 x808002_1.length co91] (0, 0) _ rfl (pI BK805) Tryz.underlying27 rfl (by kernel_rfl)) rfl ?_
   exact ⟨_, y0_12, by (with_reducible repeat (first | apply Kd.R_alloc | apply Kd.R_drewN | apply Kd.R_drew)); exact Kd.R_mono (Kd.R_far (p := ⟨gb805, 2, none⟩) (Kd.R_far (p := ⟨gb805, 1, none⟩) (Kd.R_far (p := ⟨gb805, 0, none⟩) (Kd.R_types HO_808002.out BK805.out (by decide)) (fun _ hk => hk.2) (.int .i64 t806)) (fun _ hk => hk.2) (.string a2)) (fun _ hk => hk.2) (.slice Ao91 x808002_1.length co91)) (fun _ hk => trivial), y0_4, y0_5, hI HK.out⟩
def spec_l7Draw.f (k : Nat) (s0_0 : List Int) (s0_1 : Int) (s0_2 : Int) (a1_0 : Int) (a1_1 : Int) : Option (Int × ByteArray × List Int × Int × Int) := (spec_l5DrawRight.f k s0_0 s0_1 s0_2).bind fun bt836 => ((spec_l7DrawOf.f k s0_0 bt836.2.1 bt836.2.2 a1_0 a1_1 bt836.1).bind fun bt839 => ((spec_l1Below.f s0_0 bt839.2.2.2.1 bt839.2.2.2.2 12).bind fun bt847 => (if bt847.1 = 0 then (some (wrap64 (bt839.1 + 1), bt839.2.1, bt839.2.2.1, bt847.2.1, bt847.2.2)) else (if bt847.1 = 1 then ((spec_l6DrawSet.f k s0_0 bt847.2.1 bt847.2.2 7).bind fun bt850 => (some (bt839.1, bt839.2.1, bt850.1, bt850.2.1, bt850.2.2))) else (if bt847.1 = 2 then ((spec_l5Draw.f k s0_0 bt847.2.1 bt847.2.2).bind fun bt855 => (some (bt839.1, bt855.1, bt839.2.2.1, bt855.2.1, bt855.2.2))) else (some (bt839.1, bt839.2.1, bt839.2.2.1, bt847.2.1, bt847.2.2)))))))
def spec_l7Draw.T1 : Bool × List (List Nat × List Nat) := (true, [([], []), ([], []), ([], []), ([2], [2]), ([0, 1, 3, 3], [0, 1, 3]), ([], []), ([5, 4, 4, 0, 1, 2, 3, 4, 5], [4, 5])])
def spec_l7Draw.B1 : List Nat := [0, 0, 0, 4, 15, 0, 63]
theorem spec_l7Draw.tab1 : rtab .any (opsOf Tryz.f98 1) = spec_l7Draw.T1 := by kernel_rfl
theorem spec_l7Draw.bits1 : waitsOk spec_l7Draw.T1.2 spec_l7Draw.B1 = true := by kernel_rfl
theorem spec_l7Draw.calls (k : Nat) (g : Nat) (s0_0 : List Int) (s0_1 : Int) (s0_2 : Int) (a1_0 : Int) (a1_1 : Int) (r1 : Int) (r2 : ByteArray) (r3 : List Int) (r4 : Int) (r5 : Int) (w0 w : World) (hI : IsS149 w0 w g s0_0 s0_1 s0_2) (hB : Below w0.heap.size w0 w) (h : spec_l7Draw.f k s0_0 s0_1 s0_2 a1_0 a1_1 = some (r1, r2, r3, r4, r5)) :
  Calls Tryz.prog 98 #[.pointer (some ⟨g, 0, none⟩), .agg #[.int .i64 a1_0, .int .i64 a1_1]] w fun e w' => ∃ v2_ : Value, e = .returned (.agg #[.int .i64 r1, .string r2, v2_]) ∧ Kd.R (Kd.int .i64) 3 w' w.heap.size (fun _ => True) v2_ r3 ∧ IsS149 w0 w' g s0_0 r4 r5 ∧ Below w0.heap.size w0 w' ∧ KeepBut w w' g none := by
 have hu32 := Tryz.underlying32; have hu27 := Tryz.underlying27; have HI0 := Aside0.mk hI; have HK := Aside0.mk (KeepBut.refl w g none); have HL := Aside0.mk hB.size; clear hI; have HW0 := Aside0.mk hB.size; have HB := Aside0.mk hB; clear hB
 have H := h; unfold spec_l7Draw.f at H
 clear h; obtain ⟨⟨t836, t837, t838⟩, A3, H⟩ := oB H; (try dsimp only at H); obtain ⟨⟨t839, t840, t841, t844, t845⟩, A4, H⟩ := oB H; (try dsimp only at H); obtain ⟨⟨t847, t848, t849⟩, A5, H⟩ := oB H; (try dsimp only at H); have i0_ := iB149 HI0; have i1_ : LB w0 w := ⟨HB.out⟩
 go_enter Tryz.func98, Tryz.ntmps98
 have H' := Aside0.mk H; clear H
 try go_wp2_with (first | ((with_reducible refine gd 3 ?_); refine bL 3 #[.int .i64 a1_0, .int .i64 a1_1] 32 ?_; intro gb834 w6 _ _ _) | ((with_reducible refine gd 4 ?_); refine bL 4 #[.int .i64 0, .string (⟨#[]⟩ : ByteArray), .slice none 0 0] 27 ?_; intro gb835 w7 _ _ _))
 refine sB [g] spec_l7Draw.tab1 spec_l7Draw.bits1 ?_; intro w8 _ HT_ HW_
 refine pA 0 (some 6) (bz 7 1) HT_ ?_
 refine tB 1 (some 7) (bz 7 3) HT_ HW_ ?_
 refine pA 2 (some 8) (bz 7 7) HT_ ?_
 refine join_ (σ := Option Addr × Nat × Nat) 1 (bz 7 63) (fun s_ => [(9, .string t836), (10, .agg #[.int .i64 t839, .string t840, .slice s_.1 t841.length s_.2.1]), (5, .pointer (some ⟨s_.2.2, 0, none⟩))]) (fun s_ w' => Aside0 (Kd.R (Kd.int .i64) 3 w' w8.heap.size (iv w8 w') (.slice s_.1 t841.length s_.2.1) t841) ∧ BkI (s_.2.2) w' #[.int .i64 0, .string (⟨#[]⟩ : ByteArray), .slice none 0 0] 27 ∧ BornI (s_.2.2) w8 ∧ StB g w' 149 ∧ Aside0 (IsS149 w0 w' g s0_0 t844 t845) ∧ KL w8 [g] w' ∧ LB w0 w' ∧ KS w g w') ?_ ?_
 rotate_left
 ·
  intro hCont
  refine o2 3 5 (some 9) (some 5) (bz 7 15) (bz 7 39) HT_ rfl rfl (kK Tryz.func101 (spec_l5DrawRight.calls (hI := iS149 HI0) (hB := UpW.out) (w := _) (h := A3.out)) ?_) (kB #[.int .i64 0, .string (⟨#[]⟩ : ByteArray), .slice none 0 0] 27 ?_)
  ·
   intro w9 _ _ _ HI10
   refine nA (some 9) ?_
   refine o2 4 5 (some 10) (some 5) (bz 7 31) (bz 7 47) HT_ rfl rfl (kK1 Tryz.func147 (spec_l7DrawOf.calls (hI := iS149 HI10) (hB := UpW.out) (w := _) (h := A4.out)) ?_) (kB #[.int .i64 0, .string (⟨#[]⟩ : ByteArray), .slice none 0 0] 27 ?_)
   ·
    intro Ao842 co842 w12 _ _ _ HI13 HO843
    refine nA (some 10) ?_
    refine o1 5 (some 5) (bz 7 63) HT_ rfl (kB #[.int .i64 0, .string (⟨#[]⟩ : ByteArray), .slice none 0 0] 27 ?_); intro gb846 w15 _ _ _
    refine nA (some 5) ?_
    exact hJ (hCont (Ao842, co842, gb846) _ ⟨⟨rJ HO843⟩, ⟨xB⟩, ⟨GeI.out⟩, iB149 ⟨iS149 HI13⟩, ⟨iS149 HI13⟩, ⟨UpL.out⟩, ⟨UpW.out⟩, ⟨UpB.out⟩⟩)
   intro gb846 w14 _ _ _
   refine nA (some 5) ?_
   refine o1 4 (some 10) (bz 7 63) HT_ rfl (kK1 Tryz.func147 (spec_l7DrawOf.calls (hI := iS149 HI10) (hB := UpW.out) (w := _) (h := A4.out)) ?_); intro Ao842 co842 w16 _ _ _ HI17 HO843
   refine nA (some 10) ?_
   exact hJ (hCont (Ao842, co842, gb846) _ ⟨⟨rJ HO843⟩, ⟨xB⟩, ⟨GeI.out⟩, iB149 ⟨iS149 HI17⟩, ⟨iS149 HI17⟩, ⟨UpL.out⟩, ⟨UpW.out⟩, ⟨UpB.out⟩⟩)
  intro gb846 w11 _ _ _
  refine nA (some 5) ?_
  refine o1 3 (some 9) (bz 7 47) HT_ rfl (kK Tryz.func101 (spec_l5DrawRight.calls (hI := iS149 HI0) (hB := UpW.out) (w := _) (h := A3.out)) ?_); intro w18 _ _ _ HI19
  refine nA (some 9) ?_
  refine o1 4 (some 10) (bz 7 63) HT_ rfl (kK1 Tryz.func147 (spec_l7DrawOf.calls (hI := iS149 HI19) (hB := UpW.out) (w := _) (h := A4.out)) ?_); intro Ao842 co842 w20 _ _ _ HI21 HO843
  refine nA (some 10) ?_
  exact hJ (hCont (Ao842, co842, gb846) _ ⟨⟨rJ HO843⟩, ⟨xB⟩, ⟨GeI.out⟩, iB149 ⟨iS149 HI21⟩, ⟨iS149 HI21⟩, ⟨UpL.out⟩, ⟨UpW.out⟩, ⟨UpB.out⟩⟩)
 rintro ⟨Ao842, co842, gb846⟩ w22 ⟨HO843, _, _, _, HI23, _, _, _⟩
 refine nP ?_
 refine o1 6 none (bz 7 127) HT_ rfl (kS ?_)
 refine done_ (done_of HT_.out (by kernel_rfl)) ?_
 go_upto_if 13 with (first | ((with_reducible refine gate_callee (f := 97) rfl ?_); refine gK (some 12) Tryz.func97 (spec_l1Below.calls (hI := iS149 HI23) (hB := UpW.out) (w := _) (h := A5.out)) ?_; intro w24 _ _ _ HI25))
 have H := H'.out; clear H'
 by_cases c26 : t847 = 0
 ·
  rw [if_pos c26] at H
  have c26b0 : (t847 == 0) = true := beq_iff_eq.mpr c26; have c26b1 : (t847 != 0) = false := bne_eq_false_iff_eq.mpr c26; clear c26
  (first | rw [c26b0] | (simp only [i64_w, i32_w]; rw [c26b0]) | skip)
  simp only [Option.some.injEq, Prod.mk.injEq] at H
  obtain ⟨rfl, rfl, rfl, rfl, rfl⟩ := H
  go_wp2
  refine bodyPost_ret (results_cell_row rfl _ _ gb835 27 #[.int .i64 (wrap64 (t839 + 1)), .string t840, .slice Ao842 t841.length co842] (0, 0) _ rfl xB Tryz.underlying27 rfl (by kernel_rfl)) rfl ?_
  exact ⟨_, y0_17, rR HO843, iS149 HI25, UpW.out, UpB.out⟩
 rw [if_neg c26] at H
 have c26b0 : (t847 == 0) = false := beq_eq_false_iff_ne.mpr c26; have c26b1 : (t847 != 0) = true := bne_iff_ne.mpr c26
 (first | rw [c26b0] | (simp only [i64_w, i32_w]; rw [c26b0]) | skip)
 by_cases c27 : t847 = 1
 ·
  rw [if_pos c27] at H
  have c27b0 : (t847 == 1) = true := beq_iff_eq.mpr c27; have c27b1 : (t847 != 1) = false := bne_eq_false_iff_eq.mpr c27; clear c27; obtain ⟨⟨t850, t853, t854⟩, A28, H⟩ := oB H; (try dsimp only at H)
  simp only [Option.some.injEq, Prod.mk.injEq] at H
  obtain ⟨rfl, rfl, rfl, rfl, rfl⟩ := H
  go_wp2_with (first | ((with_reducible refine gate_callee (f := 142) rfl ?_); refine gK1 (some 22) Tryz.func142 (spec_l6DrawSet.calls (hI := iS149 HI25) (hB := UpW.out) (w := _) (h := A28.out)) ?_; intro Ao851 co851 w29 _ _ _ HI30 HO852))
  refine bodyPost_ret (results_cell_row rfl _ _ gb835 27 #[.int .i64 t839, .string t840, .slice Ao851 t850.length co851] (0, 0) _ rfl xB Tryz.underlying27 rfl (by kernel_rfl)) rfl ?_
  exact ⟨_, y0_17, rR HO852, iS149 HI30, UpW.out, UpB.out⟩
 rw [if_neg c27] at H
 have c27b0 : (t847 == 1) = false := beq_eq_false_iff_ne.mpr c27; have c27b1 : (t847 != 1) = true := bne_iff_ne.mpr c27
 by_cases c31 : t847 = 2
 ·
  rw [if_pos c31] at H
  have c31b0 : (t847 == 2) = true := beq_iff_eq.mpr c31; have c31b1 : (t847 != 2) = false := bne_eq_false_iff_eq.mpr c31; clear c31; obtain ⟨⟨t855, t856, t857⟩, A32, H⟩ := oB H; (try dsimp only at H)
  simp only [Option.some.injEq, Prod.mk.injEq] at H
  obtain ⟨rfl, rfl, rfl, rfl, rfl⟩ := H
  go_wp2_with (first | ((with_reducible refine gate_callee (f := 143) rfl ?_); refine gK (some 27) Tryz.func143 (spec_l5Draw.calls (hI := iS149 HI25) (hB := UpW.out) (w := _) (h := A32.out)) ?_; intro w33 _ _ _ HI34))
  refine bodyPost_ret (results_cell_row rfl _ _ gb835 27 #[.int .i64 t839, .string t855, .slice Ao842 t841.length co842] (0, 0) _ rfl xB Tryz.underlying27 rfl (by kernel_rfl)) rfl ?_
  exact ⟨_, y0_17, rR HO843, iS149 HI34, UpW.out, UpB.out⟩
 rw [if_neg c31] at H
 have c31b0 : (t847 == 2) = false := beq_eq_false_iff_ne.mpr c31; have c31b1 : (t847 != 2) = true := bne_iff_ne.mpr c31
 simp only [Option.some.injEq, Prod.mk.injEq] at H
 obtain ⟨rfl, rfl, rfl, rfl, rfl⟩ := H
 go_wp2
 refine bodyPost_ret (results_cell_row rfl _ _ gb835 27 #[.int .i64 t839, .string t840, .slice Ao842 t841.length co842] (0, 0) _ rfl xB Tryz.underlying27 rfl (by kernel_rfl)) rfl ?_
 exact ⟨_, y0_17, rR HO843, iS149 HI25, UpW.out, UpB.out⟩
def spec_DrawPartQc.f (k : Nat) (l0 : List Int) : Option (Int × Int × Int × ByteArray × List Int) := (spec_l1New.f k l0).bind fun bt860 => ((spec_l7DrawConf.f bt860.1 bt860.2.1 bt860.2.2).bind fun bt864 => ((spec_l1Once.f bt860.1 bt864.2.2.1 bt864.2.2.2 2).bind fun bt869 => (if bt869.1 = true then ((spec_l7Draw.f k bt860.1 bt869.2.1 bt869.2.2 bt864.1 bt864.2.1).bind fun bt872 => (some (bt864.1, bt864.2.1, bt872.1, bt872.2.1, bt872.2.2.1))) else ((spec_l10Draw.f k bt860.1 bt869.2.1 bt869.2.2 bt864.1 bt864.2.1).bind fun bt880 => (some (bt864.1, bt864.2.1, bt880.1, bt880.2.1, bt880.2.2.1))))))
def spec_DrawPartQc.T5 : Bool × List (List Nat × List Nat) := (true, [([], []), ([], []), ([1], [1]), ([], []), ([3], [3]), ([], []), ([5], [5]), ([2, 4, 6], [2, 4, 6]), ([0, 0], [0]), ([7, 8, 0, 1, 2, 3, 4, 5, 6, 7, 8], [7])])
def spec_DrawPartQc.B5 : List Nat := [0, 0, 2, 0, 8, 0, 32, 126, 1, 511]
theorem spec_DrawPartQc.tab5 : rtab .any (opsOf Tryz.f32 5) = spec_DrawPartQc.T5 := by kernel_rfl
theorem spec_DrawPartQc.bits5 : waitsOk spec_DrawPartQc.T5.2 spec_DrawPartQc.B5 = true := by kernel_rfl
def spec_DrawPartQc.T6 : Bool × List (List Nat × List Nat) := (true, [([], []), ([], []), ([], []), ([1, 2], [1, 2]), ([0, 3, 0], [0]), ([3, 4, 0, 1, 2, 3, 4], [3])])
def spec_DrawPartQc.B6 : List Nat := [0, 0, 0, 6, 15, 31]
theorem spec_DrawPartQc.tab6 : rtab .any (opsOf Tryz.f32 6) = spec_DrawPartQc.T6 := by kernel_rfl
theorem spec_DrawPartQc.bits6 : waitsOk spec_DrawPartQc.T6.2 spec_DrawPartQc.B6 = true := by kernel_rfl
theorem spec_DrawPartQc.calls (k : Nat) (A0 : Option Addr) (c0 : Nat) (l0 : List Int) (r1 : Int) (r2 : Int) (r3 : Int) (r4 : ByteArray) (r5 : List Int) (w : World) (hr0 : Kd.C (Kd.int .u8) w A0 l0.length l0) (hc0 : l0.length ≤ c0) (h : spec_DrawPartQc.f k l0 = some (r1, r2, r3, r4, r5)) :
  Calls Tryz.prog 32 #[.slice A0 l0.length c0] w fun e w' => ∃ v4_ : Value, e = .returned (.tuple #[.agg #[.int .i64 r1, .int .i64 r2], .agg #[.int .i64 r3, .string r4, v4_]]) ∧ Kd.R (Kd.int .i64) 3 w' w.heap.size (fun _ => True) v4_ r5 ∧ Below w.heap.size w w' := by
 have hu32 := Tryz.underlying32; have hu48 := Tryz.underlying48; have hu27 := Tryz.underlying27; have HR0 := Aside0.mk hr0; have HC0 := Aside0.mk hc0; clear hr0 hc0; have HB := Aside0.mk (Below.refl w.heap.size w)
 have H := h; unfold spec_DrawPartQc.f at H
 clear h; obtain ⟨⟨t860, t861, t862⟩, A2, H⟩ := oB H; (try dsimp only at H); obtain ⟨⟨t864, t865, t866, t867⟩, A3, H⟩ := oB H; (try dsimp only at H); obtain ⟨⟨t869, t870, t871⟩, A4, H⟩ := oB H; (try dsimp only at H)
 go_enter Tryz.func32, Tryz.ntmps32
 have H' := Aside0.mk H; clear H
 go_upto_if 12 with (first | ((with_reducible refine gd 2 ?_); refine bL 2 #[.int .i64 0, .int .i64 0] 32 ?_; intro gb858 w5 _ _ _) | ((with_reducible refine gd 3 ?_); refine bL 3 #[.int .i64 0, .string (⟨#[]⟩ : ByteArray), .slice none 0 0] 48 ?_; intro gb859 w6 _ _ _) | ((with_reducible refine gate_callee (f := 90) rfl ?_); refine wL ?_; intro w7 _; refine gN (some 8) Tryz.func90 (spec_l1New.calls (hB := Below.refl _ _) (hr0 := pC HR0) (hc0 := HC0.out) (w := _) (h := A2.out)) ?_; intro g863 w8 _ _ _ HI9) | ((with_reducible refine gate_callee (f := 91) rfl ?_); refine gK (some 10) Tryz.func91 (spec_l7DrawConf.calls (hI := iS149 HI9) (hB := UpW.out) (w := _) (h := A3.out)) ?_; intro w10 _ _ _ HI11) | ((with_reducible refine gd 5 ?_); refine bL 5 #[.int .i64 0, .int .i64 0] 32 ?_; intro gb868 w12 _ _ _) | ((with_reducible refine gate_callee (f := 93) rfl ?_); refine gK (some 12) Tryz.func93 (spec_l1Once.calls (hI := iS149 HI11) (hB := UpW.out) (w := _) (h := A4.out)) ?_; intro w13 _ _ _ HI14))
 have H := H'.out; clear H'
 by_cases c15 : t869 = true
 ·
  subst c15
  rw [if_pos rfl] at H
  obtain ⟨⟨t872, t873, t874, t877, t878⟩, A16, H⟩ := oB H; (try dsimp only at H)
  simp only [Option.some.injEq, Prod.mk.injEq] at H
  obtain ⟨rfl, rfl, rfl, rfl, rfl⟩ := H
  try go_wp2_with (first | ((with_reducible refine gate_callee (f := 98) rfl ?_); refine gK1 (some 15) Tryz.func98 (spec_l7Draw.calls (hI := iS149 HI14) (hB := UpW.out) (w := _) (h := A16.out)) ?_; intro Ao875 co875 w17 _ _ _ HI18 HO876) | ((with_reducible refine gd 6 ?_); refine bL 6 #[.int .i64 0, .string (⟨#[]⟩ : ByteArray), .slice none 0 0] 27 ?_; intro gb879 w19 _ _ _))
  refine sB [gb858, gb859] spec_DrawPartQc.tab5 spec_DrawPartQc.bits5 ?_; intro w20 _ HT_ HW_
  refine tB 0 (some 16) (bz 10 1) HT_ HW_ ?_
  refine pA 1 (some 17) (bz 10 3) HT_ ?_
  refine tB 2 (some 18) (bz 10 7) HT_ HW_ ?_
  refine pA 3 (some 19) (bz 10 15) HT_ ?_
  refine tB 4 (some 20) (bz 10 31) HT_ HW_ ?_
  refine pA 5 (some 21) (bz 10 63) HT_ ?_
  refine tB 6 (some 22) (bz 10 127) HT_ HW_ ?_
  refine pA 7 (some 23) (bz 10 255) HT_ ?_
  refine o1 8 none (bz 10 511) HT_ rfl (kS ?_)
  refine o1 9 none (bz 10 1023) HT_ rfl (kS ?_)
  refine done_ (done_of HT_.out (by kernel_rfl)) ?_
  try go_wp2
  refine bodyPost_ret (results_cc rfl _ _ gb858 gb859 32 48 #[.int .i64 t864, .int .i64 t865] #[.int .i64 t872, .string t873, .slice Ao875 t874.length co875] (0, 0) (0, 0) _ _ rfl xB Tryz.underlying32 rfl (by kernel_rfl) rfl xB Tryz.underlying48 rfl (by kernel_rfl)) rfl ?_
  exact ⟨_, y0_17, rR HO876, UpW.out⟩
 replace c15 := Bool.eq_false_iff.mpr c15; subst c15
 rw [if_neg Bool.false_ne_true] at H
 obtain ⟨⟨t880, t881, t882, t885, t886⟩, A21, H⟩ := oB H; (try dsimp only at H)
 simp only [Option.some.injEq, Prod.mk.injEq] at H
 obtain ⟨rfl, rfl, rfl, rfl, rfl⟩ := H
 try go_wp2
 refine sB [g863, gb858, gb859] spec_DrawPartQc.tab6 spec_DrawPartQc.bits6 ?_; intro w22 _ HT_ HW_
 refine tB 0 (some 24) (bz 6 1) HT_ HW_ ?_
 refine pA 1 (some 25) (bz 6 3) HT_ ?_
 refine tB 2 (some 26) (bz 6 7) HT_ HW_ ?_
 refine o1 3 (some 27) (bz 6 15) HT_ rfl (kK1 Tryz.func92 (spec_l10Draw.calls (hI := iS149 HI14) (hB := UpW.out) (w := _) (h := A21.out)) ?_); intro Ao883 co883 w23 _ _ _ HI24 HO884
 refine nA (some 27) ?_
 refine o1 4 none (bz 6 31) HT_ rfl (kS ?_)
 refine o1 5 none (bz 6 63) HT_ rfl (kS ?_)
 refine done_ (done_of HT_.out (by kernel_rfl)) ?_
 try go_wp2
 refine bodyPost_ret (results_cc rfl _ _ gb858 gb859 32 48 #[.int .i64 t864, .int .i64 t865] #[.int .i64 t880, .string t881, .slice Ao883 t882.length co883] (0, 0) (0, 0) _ _ rfl xB Tryz.underlying32 rfl (by kernel_rfl) rfl xB Tryz.underlying48 rfl (by kernel_rfl)) rfl ?_
 exact ⟨_, y0_17, rR HO884, UpW.out⟩
end Go.Proofs.YtdmjhgogljhfkaaGreatDoor.PFnParts
