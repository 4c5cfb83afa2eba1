-- By a program of this session, out of the translation (the print of the kit, with turns of its own). Lean checks it.
import Derived.Test.YtagpeafaiofkjaaGreatDoorPFnQuorumsx0
import Derived.Test.YtagpeafaiofkjaaGreatDoorPFnQuorumsx2
import Derived.Test.YtagpeafaiofkjaaGreatDoorPFnQuorumsx4
namespace Go.Proofs.YtagpeafaiofkjaaGreatDoor.PFnQuorums
open Go.RowKit Go.Proofs.YtagpeafaiofkjaaGreatDoorW.PrintWords Go.Proofs.YtagpeafaiofkjaaGreatDoorW.PrintLast Go.Proofs.YtagpeafaiofkjaaGreatDoorW.PrintMore
attribute [local go_sem] max2_int min2_int max_two min_two max_three min_three max_four min_four   -- for this text's walks alone
attribute [local go_sem] cell_in frozen_in
set_option synthInstance.maxSize 1000000
set_option synthInstance.maxHeartbeats 2000000
set_option linter.unusedVariables false
set_option linter.unusedSimpArgs false

/-! ### spec_l7DrawOf: function 40 -/
def spec_l7DrawOf.l0 : Nat → Int → List Int → Int → Int → Int → Int → Int → ByteArray → List Int → Option (Int × ByteArray × List Int × Int × Int)
 | 0, _, _, _, _, _, _, _, _, _ => none
 | k + 1, x8, x1000, x1001, x1002, x225000, x225001, x228000, x228001, x228002 => if x8 < x225000 then (if x228002.length < 17592186044416 then (spec_l7DrawOf.l0 k (wrap64 (x8 + 1)) x1000 x1001 x1002 x225000 x225001 x228000 x228001 (x228002 ++ [x8])) else (none)) else ((spec_l1Once.f x1000 x1001 x1002 2).bind fun bt231 => (if bt231.1 = true then (if (x228002.length : Int) > 0 then ((spec_l1Below.f x1000 bt231.2.1 bt231.2.2 (x228002.length : Int)).bind fun bt234 => ((some (([] : List Int) : List Int)).bind fun y237 => (if 0 ≤ bt234.1 then (if bt234.1 ≤ (x228002.length : Int) then ((some (x228002.take (bt234.1 : Int).toNat : List Int)).bind fun y240 => (if y237.length + y240.length < 17592186044416 then ((some (y237 ++ y240 : List Int)).bind fun y244 => (if 0 ≤ (wrap64 (bt234.1 + 1)) then (if (wrap64 (bt234.1 + 1)) ≤ (x228002.length : Int) then ((some (x228002.drop ((wrap64 (bt234.1 + 1)) : Int).toNat : List Int)).bind fun y247 => (if y244.length + y247.length < 17592186044416 then (some (x228000, x228001, (y244 ++ y247), bt234.2.1, bt234.2.2)) else (none))) else (none)) else (none))) else (none))) else (none)) else (none)))) else (some (x228000, x228001, x228002, bt231.2.1, bt231.2.2))) else (some (x228000, x228001, x228002, bt231.2.1, bt231.2.2))))
def spec_l7DrawOf.f (k : Nat) (s0_0 : List Int) (s0_1 : Int) (s0_2 : Int) (a1_0 : Int) (a1_1 : Int) (a2 : ByteArray) : Option (Int × ByteArray × List Int × Int × Int) := (spec_ViewOf.f k a2).bind fun t226 => (if a2.toList = ([] : List UInt8) then (some (t226, a2, ([] : List Int), s0_1, s0_2)) else (spec_l7DrawOf.l0 k 0 s0_0 s0_1 s0_2 a1_0 a1_1 t226 a2 ([] : List Int)))
theorem spec_l7DrawOf.mono_l : ∀ k, (∀ y0 y1 y2 y3 y4 y5 y6 y7 y8, LeO (spec_l7DrawOf.l0 k y0 y1 y2 y3 y4 y5 y6 y7 y8) (spec_l7DrawOf.l0 (k + 1) y0 y1 y2 y3 y4 y5 y6 y7 y8))
 | 0 => fun _ _ _ _ _ _ _ _ _ r h => by simp [spec_l7DrawOf.l0] at h
 | k + 1 => by
  have ih0 := spec_l7DrawOf.mono_l k
  intro y0 y1 y2 y3 y4 y5 y6 y7 y8
  unfold spec_l7DrawOf.l0
  repeat' first | (with_reducible exact ih0 _ _ _ _ _ _ _ _ _) | (with_reducible exact spec_ViewOf.mono _ _) | (with_reducible exact LeO.refl _) | (with_reducible exact LeO.none _) | (with_reducible refine LeO.ite ?_ ?_) | (with_reducible refine LeO.bind ?_ (fun _ => ?_))
theorem spec_l7DrawOf.mono : ∀ a0 a1 a2 a3 a4 a5 k, LeO (spec_l7DrawOf.f k a0 a1 a2 a3 a4 a5) (spec_l7DrawOf.f (k + 1) a0 a1 a2 a3 a4 a5) := by
 intro a0 a1 a2 a3 a4 a5 k
 have ih0 := spec_l7DrawOf.mono_l k
 unfold spec_l7DrawOf.f
 repeat' first | (with_reducible exact ih0 _ _ _ _ _ _ _ _ _) | (with_reducible exact spec_ViewOf.mono _ _) | (with_reducible exact LeO.refl _) | (with_reducible exact LeO.none _) | (with_reducible refine LeO.ite ?_ ?_) | (with_reducible refine LeO.bind ?_ (fun _ => ?_))
def spec_l7DrawOf.T10 : Bool × List (List Nat × List Nat) := (true, [([], []), ([], []), ([1], [1]), ([], []), ([2, 3], [2, 3]), ([0, 4], [0, 4]), ([], []), ([6], [6]), ([], []), ([8], [8]), ([7, 9], [7, 9]), ([5, 10, 5], [5, 10]), ([0, 1, 2, 3, 4, 5, 6, 7, 8, 9, 10, 11], []), ([12, 11, 11, 0, 1, 2, 3, 4, 5, 6, 7, 8, 9, 10, 11], [11, 12])])
def spec_l7DrawOf.B10 : List Nat := [0, 0, 2, 0, 14, 31, 0, 64, 0, 256, 960, 2047, 4095, 8191]
theorem spec_l7DrawOf.tab10 : rtab .any (opsOf Tryz.f40 10) = spec_l7DrawOf.T10 := by kernel_rfl
theorem spec_l7DrawOf.bits10 : waitsOk spec_l7DrawOf.T10.2 spec_l7DrawOf.B10 = true := by kernel_rfl
set_option maxHeartbeats 8000000 in
set_option maxRecDepth 100000 in
theorem spec_l7DrawOf.calls (k : Nat) (g : Nat) (s0_0 : List Int) (s0_1 : Int) (s0_2 : Int) (a1_0 : Int) (a1_1 : Int) (a2 : ByteArray) (r1 : Int) (r2 : ByteArray) (r3 : List Int) (r4 : Int) (r5 : Int) (w0 w : World) (hI : IsS53 w0 w g s0_0 s0_1 s0_2) (hB : Below w0.heap.size w0 w) (h : spec_l7DrawOf.f k s0_0 s0_1 s0_2 a1_0 a1_1 a2 = some (r1, r2, r3, r4, r5)) :
  Calls Tryz.prog 40 #[.pointer (some ⟨g, 0, none⟩), .agg #[.int .i64 a1_0, .int .i64 a1_1], .string a2] w fun e w' => ∃ v2_ : Value, e = .returned (.agg #[.int .i64 r1, .string r2, v2_]) ∧ Kd.R (Kd.int .i64) 3 w' w.heap.size (fun _ => True) v2_ r3 ∧ IsS53 w0 w' g s0_0 r4 r5 ∧ Below w0.heap.size w0 w' ∧ KeepBut w w' g none := by
 have hu25 := Tryz.underlying25; have hu28 := Tryz.underlying28; have HI0 := Aside0.mk hI; have HK := Aside0.mk (KeepBut.refl w g none); have HL := Aside0.mk hB.size; clear hI; have HW0 := Aside0.mk hB.size; have HB := Aside0.mk hB; clear hB
 have H := h; unfold spec_l7DrawOf.f at H
 clear h; obtain ⟨t226, A4, H⟩ := oB H; (try dsimp only at H)
 by_cases c5 : a2.toList = ([] : List UInt8)
 ·
  rw [if_pos c5] at H
  have c5b0 : (a2.toList == ([] : List UInt8)) = true := beq_iff_eq.mpr c5; have c5b1 : (a2.toList != ([] : List UInt8)) = false := bne_eq_false_iff_eq.mpr c5; clear c5
  simp only [Option.some.injEq, Prod.mk.injEq] at H
  obtain ⟨rfl, rfl, rfl, rfl, rfl⟩ := H
  go_enter Tryz.func40, Tryz.ntmps40
  go_wp2_with (first | ((with_reducible refine gate_dst (N := 4) rfl ?_); (try (refine gate_guard (by rfl) ?_; dsimp only)); refine box_event ?hg (N := 4) ?hd (cs := #[.int .i64 a1_0, .int .i64 a1_1]) (t := 25) ?hr ?_; (case hd => rfl); (case hg => rfl); (case hr => first | (go_simp; done) | (go_simp; rfl)); intro gb224 hg w6 hbox hb; replace HB : Aside0 (Below w0.heap.size w0 _) := Aside0.mk (below_step y0_4 hb); have BK224 := Aside0.mk (hbox); have GW224 := bh hg HK; have GJ224 := gi GW224; have GE224 := Aside0.mk ((Nat.le_trans HW0.out (y0_12 : w.heap.size ≤ gb224) : w0.heap.size ≤ gb224)); have GI224 := gi GE224; replace HK := kb HK hb; have NB0_224 := Aside0.mk ((by rw [hg]; exact Nat.ne_of_lt (IsS53.lt (show IsS53 w0 _ g s0_0 s0_1 s0_2 from y0_5)) : g ≠ gb224)); have NI0_224 := ni NB0_224; have NB224_0 := Aside0.mk ((by rw [hg]; exact Nat.ne_of_gt (IsS53.lt (show IsS53 w0 _ g s0_0 s0_1 s0_2 from y0_5)) : gb224 ≠ g)); have NI224_0 := ni NB224_0; replace HI0 := Aside0.mk (IsS53.below y0_5 hb); clear hb hbox hg) | ((with_reducible refine gate_dst (N := 6) rfl ?_); (try (refine gate_guard (by rfl) ?_; dsimp only)); refine box_event ?hg (N := 6) ?hd (cs := #[.int .i64 0, .string (⟨#[]⟩ : ByteArray), .slice none 0 0]) (t := 28) ?hr ?_; (case hd => rfl); (case hg => rfl); (case hr => first | (go_simp; done) | (go_simp; rfl)); intro gb225 hg w7 hbox hb; replace HB : Aside0 (Below w0.heap.size w0 _) := Aside0.mk (below_step y0_2 hb); have BK225 := Aside0.mk (hbox); have GW225 := bh hg HK; have GJ225 := gi GW225; have GE225 := Aside0.mk ((Nat.le_trans HW0.out (y0_12 : w.heap.size ≤ gb225) : w0.heap.size ≤ gb225)); have GI225 := gi GE225; replace HK := kb HK hb; have NB224_225 := b1 BK224 hg; have NI224_225 := ni NB224_225; have NB225_224 := b2 BK224 hg; have NI225_224 := ni NB225_224; replace BK224 := bk BK224 hb; have NB0_225 := Aside0.mk ((y0_0 : g ≠ gb225)); have NI0_225 := ni NB0_225; have NB225_0 := Aside0.mk ((y0_1 : gb225 ≠ g)); have NI225_0 := ni NB225_0; replace HI0 := Aside0.mk (IsS53.below y0_3 hb); clear hb hbox hg) | ((with_reducible refine gate_callee (f := 30) rfl ?_); refine gB (some 11) Tryz.func30 #[.string a2] ?_; (with_reducible refine (spec_ViewOf.calls k a2 t226 _ A4.out).mono ?_); rintro e w8 ⟨rfl, hb⟩; refine ⟨_, rfl, ?_⟩; replace BK224 := bk BK224 hb; replace BK225 := bk BK225 hb; replace HK := kb HK hb; replace HB : Aside0 (Below w0.heap.size w0 _) := Aside0.mk (below_step y0_2 hb); replace HI0 := Aside0.mk (IsS53.below y0_3 hb); (try clear hb); (try clear hb2); (try clear hk); (try clear hi)) | ((with_reducible refine gate_dst (N := 7) rfl ?_); (try (refine gate_guard (by rfl) ?_; dsimp only)); refine box_event ?hg (N := 7) ?hd (cs := #[.int .i64 0, .string (⟨#[]⟩ : ByteArray), .slice none 0 0]) (t := 28) ?hr ?_; (case hd => rfl); (case hg => rfl); (case hr => first | (go_simp; done) | (go_simp; rfl)); intro gb227 hg w9 hbox hb; replace HB : Aside0 (Below w0.heap.size w0 _) := Aside0.mk (below_step y0_2 hb); have BK227 := Aside0.mk (hbox); have GW227 := bh hg HK; have GJ227 := gi GW227; have GE227 := Aside0.mk ((Nat.le_trans HW0.out (y0_12 : w.heap.size ≤ gb227) : w0.heap.size ≤ gb227)); have GI227 := gi GE227; replace HK := kb HK hb; have NB224_227 := b1 BK224 hg; have NI224_227 := ni NB224_227; have NB227_224 := b2 BK224 hg; have NI227_224 := ni NB227_224; replace BK224 := bk BK224 hb; have NB225_227 := b1 BK225 hg; have NI225_227 := ni NB225_227; have NB227_225 := b2 BK225 hg; have NI227_225 := ni NB227_225; replace BK225 := bk BK225 hb; have NB0_227 := Aside0.mk ((y0_0 : g ≠ gb227)); have NI0_227 := ni NB0_227; have NB227_0 := Aside0.mk ((y0_1 : gb227 ≠ g)); have NI227_0 := ni NB227_0; replace HI0 := Aside0.mk (IsS53.below y0_3 hb); clear hb hbox hg; have hnb10 := NB227_224.out; have hnc10 := NB224_227.out; have hnb11 := NB227_225.out; have hnc11 := NB225_227.out; have hnb12 := NB227_0.out; have hnc12 := NB0_227.out; obtain ⟨hcz13_0, hcz13_1, hcz13_2, hfz13_0, hfz13_1, hfz13_2⟩ := cs3 BK227; have hnb14 := NB225_224.out; have hnc14 := NB224_225.out; have hnb15 := NB225_0.out; have hnc15 := NB0_225.out; obtain ⟨hcz16_0, hcz16_1, hcz16_2, hfz16_0, hfz16_1, hfz16_2⟩ := cs3 BK225))
  refine bodyPost_ret (results_cell_row rfl _ _ gb225 28 #[.int .i64 t226, .string a2, .slice none 0 0] (0, 0) _ rfl (pI BK225) Tryz.underlying28 rfl (by kernel_rfl)) rfl ?_
  exact ⟨_, y0_11, y0_8, y0_3, y0_2, hI HK.out⟩
 rw [if_neg c5] at H
 have c5b0 : (a2.toList == ([] : List UInt8)) = false := beq_eq_false_iff_ne.mpr c5; have c5b1 : (a2.toList != ([] : List UInt8)) = true := bne_iff_ne.mpr c5; have H' := Aside0.mk H; clear H
 go_enter Tryz.func40, Tryz.ntmps40
 go_wp2_with (first | ((with_reducible refine gate_dst (N := 4) rfl ?_); (try (refine gate_guard (by rfl) ?_; dsimp only)); refine box_event ?hg (N := 4) ?hd (cs := #[.int .i64 a1_0, .int .i64 a1_1]) (t := 25) ?hr ?_; (case hd => rfl); (case hg => rfl); (case hr => first | (go_simp; done) | (go_simp; rfl)); intro gb224 hg w17 hbox hb; replace HB : Aside0 (Below w0.heap.size w0 _) := Aside0.mk (below_step y0_4 hb); have BK224 := Aside0.mk (hbox); have GW224 := bh hg HK; have GJ224 := gi GW224; have GE224 := Aside0.mk ((Nat.le_trans HW0.out (y0_12 : w.heap.size ≤ gb224) : w0.heap.size ≤ gb224)); have GI224 := gi GE224; replace HK := kb HK hb; have NB0_224 := Aside0.mk ((by rw [hg]; exact Nat.ne_of_lt (IsS53.lt (show IsS53 w0 _ g s0_0 s0_1 s0_2 from y0_5)) : g ≠ gb224)); have NI0_224 := ni NB0_224; have NB224_0 := Aside0.mk ((by rw [hg]; exact Nat.ne_of_gt (IsS53.lt (show IsS53 w0 _ g s0_0 s0_1 s0_2 from y0_5)) : gb224 ≠ g)); have NI224_0 := ni NB224_0; replace HI0 := Aside0.mk (IsS53.below y0_5 hb); clear hb hbox hg) | ((with_reducible refine gate_dst (N := 6) rfl ?_); (try (refine gate_guard (by rfl) ?_; dsimp only)); refine box_event ?hg (N := 6) ?hd (cs := #[.int .i64 0, .string (⟨#[]⟩ : ByteArray), .slice none 0 0]) (t := 28) ?hr ?_; (case hd => rfl); (case hg => rfl); (case hr => first | (go_simp; done) | (go_simp; rfl)); intro gb225 hg w18 hbox hb; replace HB : Aside0 (Below w0.heap.size w0 _) := Aside0.mk (below_step y0_2 hb); have BK225 := Aside0.mk (hbox); have GW225 := bh hg HK; have GJ225 := gi GW225; have GE225 := Aside0.mk ((Nat.le_trans HW0.out (y0_12 : w.heap.size ≤ gb225) : w0.heap.size ≤ gb225)); have GI225 := gi GE225; replace HK := kb HK hb; have NB224_225 := b1 BK224 hg; have NI224_225 := ni NB224_225; have NB225_224 := b2 BK224 hg; have NI225_224 := ni NB225_224; replace BK224 := bk BK224 hb; have NB0_225 := Aside0.mk ((y0_0 : g ≠ gb225)); have NI0_225 := ni NB0_225; have NB225_0 := Aside0.mk ((y0_1 : gb225 ≠ g)); have NI225_0 := ni NB225_0; replace HI0 := Aside0.mk (IsS53.below y0_3 hb); clear hb hbox hg) | ((with_reducible refine gate_callee (f := 30) rfl ?_); refine gB (some 11) Tryz.func30 #[.string a2] ?_; (with_reducible refine (spec_ViewOf.calls k a2 t226 _ A4.out).mono ?_); rintro e w19 ⟨rfl, hb⟩; refine ⟨_, rfl, ?_⟩; replace BK224 := bk BK224 hb; replace BK225 := bk BK225 hb; replace HK := kb HK hb; replace HB : Aside0 (Below w0.heap.size w0 _) := Aside0.mk (below_step y0_2 hb); replace HI0 := Aside0.mk (IsS53.below y0_3 hb); (try clear hb); (try clear hb2); (try clear hk); (try clear hi)) | ((with_reducible refine gate_dst (N := 7) rfl ?_); (try (refine gate_guard (by rfl) ?_; dsimp only)); refine box_event ?hg (N := 7) ?hd (cs := #[.int .i64 0, .string (⟨#[]⟩ : ByteArray), .slice none 0 0]) (t := 28) ?hr ?_; (case hd => rfl); (case hg => rfl); (case hr => first | (go_simp; done) | (go_simp; rfl)); intro gb227 hg w20 hbox hb; replace HB : Aside0 (Below w0.heap.size w0 _) := Aside0.mk (below_step y0_2 hb); have BK227 := Aside0.mk (hbox); have GW227 := bh hg HK; have GJ227 := gi GW227; have GE227 := Aside0.mk ((Nat.le_trans HW0.out (y0_12 : w.heap.size ≤ gb227) : w0.heap.size ≤ gb227)); have GI227 := gi GE227; replace HK := kb HK hb; have NB224_227 := b1 BK224 hg; have NI224_227 := ni NB224_227; have NB227_224 := b2 BK224 hg; have NI227_224 := ni NB227_224; replace BK224 := bk BK224 hb; have NB225_227 := b1 BK225 hg; have NI225_227 := ni NB225_227; have NB227_225 := b2 BK225 hg; have NI227_225 := ni NB227_225; replace BK225 := bk BK225 hb; have NB0_227 := Aside0.mk ((y0_0 : g ≠ gb227)); have NI0_227 := ni NB0_227; have NB227_0 := Aside0.mk ((y0_1 : gb227 ≠ g)); have NI227_0 := ni NB227_0; replace HI0 := Aside0.mk (IsS53.below y0_3 hb); clear hb hbox hg; have hnb21 := NB227_224.out; have hnc21 := NB224_227.out; have hnb22 := NB227_225.out; have hnc22 := NB225_227.out; have hnb23 := NB227_0.out; have hnc23 := NB0_227.out; obtain ⟨hcz24_0, hcz24_1, hcz24_2, hfz24_0, hfz24_1, hfz24_2⟩ := cs3 BK227))
 go_loopg [8] k (fun kq v8 w' => ∃ (x8_1 : Int) (x228002_1 : List Int) (u228002 : Value), v8 = .int .i64 x8_1 ∧ Aside0 (spec_l7DrawOf.l0 kq x8_1 s0_0 s0_1 s0_2 a1_0 a1_1 t226 a2 x228002_1 = some (r1, r2, r3, r4, r5)) ∧ Aside0 (kq ≤ k) ∧ Aside0 (Kd.R (Kd.int .i64) 3 w' w.heap.size (fun _ => True) u228002 x228002_1) ∧ Aside0 (w'.heap[gb224]? = some (.cells #[.int .i64 a1_0, .int .i64 a1_1] 25 (0, 0))) ∧ Aside0 (w'.heap[gb225]? = some (.cells #[.int .i64 0, .string (⟨#[]⟩ : ByteArray), (.slice none 0 0)] 28 (0, 0))) ∧ Aside0 (w'.heap[gb227]? = some (.cells #[.int .i64 t226, .string a2, u228002] 28 (0, 0))) ∧ Aside0 (IsS53 w0 w' g s0_0 s0_1 s0_2) ∧ Aside0 (KeepBut w w' g none) ∧ Aside0 (Below w0.heap.size w0 w'))
 case atStart => exact ⟨(0), (([] : List Int)), (.slice none 0 0), y0_15, H', ⟨Nat.le_refl _⟩, ⟨y0_8⟩, ⟨gI BK224.out⟩, ⟨gI BK225.out⟩, ⟨pI BK227⟩, ⟨y0_3⟩, ⟨hI HK.out⟩, ⟨y0_2⟩⟩
 case round =>
  clear H'
  try clear c1
  try clear c2
  try clear p2
  try clear c3
  try clear c4
  try clear c5
  try clear c5b0
  try clear c5b1
  try clear c10
  try clear c11
  try clear c12
  try clear c14
  try clear c15
  try clear c21
  try clear c22
  try clear c23
  try clear hcz13_0
  try clear hcz13_1
  try clear hcz13_2
  try clear hcz16_0
  try clear hcz16_1
  try clear hcz16_2
  try clear hcz24_0
  try clear hcz24_1
  try clear hcz24_2
  try clear hfz13_0
  try clear hfz13_1
  try clear hfz13_2
  try clear hfz16_0
  try clear hfz16_1
  try clear hfz16_2
  try clear hfz24_0
  try clear hfz24_1
  try clear hfz24_2
  obtain ⟨x8_1, x228002_1, u228002, rfl, HA, HK1, HO_228002, BK224, BK225, BK227, HI0, HK, HB⟩ := hrel; cases gk with
  | zero => exact absurd HA.out (by simp [spec_l7DrawOf.l0])
  | succ k1 =>
   have H := HA.out; clear HA
   simp only [spec_l7DrawOf.l0] at H
   by_cases c25 : x8_1 < a1_0
   ·
    rw [if_pos c25] at H
    have c25b0 : decide (x8_1 < a1_0) = true := decide_eq_true c25; clear c25
    by_cases c26 : x228002_1.length < 17592186044416
    rotate_left
    ·
     rw [if_neg c26] at H
     exact absurd H (by simp)
    rw [if_pos c26] at H
    have LMc26 := Aside0.mk c26; clear c26; obtain ⟨y228, hy228⟩ : ∃ y_ : List Int, y_ = (x228002_1 ++ [x8_1]) := ⟨_, rfl⟩
    replace H : (spec_l7DrawOf.l0 k1 (wrap64 (x8_1 + 1)) s0_0 s0_1 s0_2 a1_0 a1_1 t226 a2 y228) = some (r1, r2, r3, r4, r5) := by first | (rw [hy228]; with_reducible exact H) | (have H2_ := (Option.bind_some _ _).symm.trans H; rw [hy228]; with_reducible exact H2_) | (have H2_ := (Option.bind_some _ _).symm.trans H; with_reducible exact H2_) | with_reducible exact H | (rw [hy228]; exact H) | exact H
    have Ny228 := Aside0.mk hy228; clear hy228; have H' := Aside0.mk H; clear H; have hnb27 := NB224_225.out; have hnc27 := NB225_224.out; have hnb28 := NB224_227.out; have hnc28 := NB227_224.out; have hnb29 := NB224_0.out; have hnc29 := NB0_224.out; have hcz30_0 := bc0 BK224.out; have hcz30_1 := bc1 BK224.out; have hfz30_0 := blk_frozen BK224.out 0; have hfz30_1 := blk_frozen BK224.out 1; have hnb31 := NB227_225.out; have hnc31 := NB225_227.out; have hnb32 := NB227_0.out; have hnc32 := NB0_227.out; have hcz33_0 := bc0 BK227.out; have hcz33_1 := bc1 BK227.out; have hcz33_2 := bc2 BK227.out; have hfz33_0 := blk_frozen BK227.out 0; have hfz33_1 := blk_frozen BK227.out 1; have hfz33_2 := blk_frozen BK227.out 2
    go_wp2_with (first | ((with_reducible refine gate_builtin (b := .append) (xs := #[.tmp 24, .tmp 26]) rfl ?_); (try (refine gate_guard (by rfl) ?_; dsimp only)); at_builtin; refine Kd.R_append (Kd.int .i64) w.heap.size rfl (.tmp 24) (.tmp 26) 26 3 (.int .i64 0) 8 rfl Tryz.underlying26 info3 rfl (by decide) (by omega) u228002 x228002_1 x8_1 [.int .i64 x8_1] (fun _ => True) (fun _ => False) rfl rfl ?aP (fun _ hk => hk.elim) ?aF ?aO (Below.refl _ _) ?aS ?aL ?_; (case aP => exact rfl); (case aF => exact (fun _ _ => trivial)); (case aO => exact (rI HO_228002.out)); (case aS => exact (keep_size (w := w) (g := g) (row := none) (hI HK.out))); (case aL => have := LMc26.out; omega); intro v229 w34 ho hb hg hat; rw [← Ny228.out] at ho; have n0_ := bn BK224 hg (Kd.R_ne HO_228002.out BK224.out (by decide)); have n1_ := bn BK225 hg (Kd.R_ne HO_228002.out BK225.out (by decide)); have n2_ := bn BK227 hg (Kd.R_ne HO_228002.out BK227.out (by decide)); have n3_ := Aside0.mk (IsS53.grown y0_3 hg (IsS53.own_ne HI0.out HO_228002.out (by decide))); have n4_ := Aside0.mk (below_weaken y0_2 HL.out hb); have n5_ := Aside0.mk (KeepBut.trans (hI HK.out) (KeepBut.of_grown hg g) (Kd.R_base2 HO_228002.out)); have n6_ := Aside0.mk (ho); clear BK224; clear BK225; clear BK227; clear HI0; clear HB; clear HK; clear HO_228002; have BK224 := n0_; have BK225 := n1_; have BK227 := n2_; have HI0 := n3_; have HB := n4_; have HK := n5_; have HO230 := n6_; clear n0_ n1_ n2_ n3_ n4_ n5_ n6_; clear ho hb hg hat; obtain ⟨Ao35, co35, eo35⟩ := Kd.R_slice HO230.out; subst eo35; obtain ⟨hcz36_0, hcz36_1, hcz36_2, hfz36_0, hfz36_1, hfz36_2⟩ := cs3 BK227))
    go_roundg k1
    case measure => have := HK1.out; omega
    case rel => exact ⟨(wrap64 (x8_1 + 1)), (y228), (.slice Ao35 y228.length co35), y0_15, H', ⟨y0_17⟩, ⟨by (with_reducible repeat (first | apply Kd.R_alloc | apply Kd.R_drewN | apply Kd.R_drew)); exact Kd.R_mono (Kd.R_far (p := ⟨gb227, 2, none⟩) (Kd.R_types HO230.out BK227.out (by decide)) (fun _ hk => hk.2) (.slice Ao35 y228.length co35)) (fun _ hk => trivial)⟩, ⟨gI BK224.out⟩, ⟨gI BK225.out⟩, ⟨pI BK227⟩, ⟨y0_3⟩, ⟨hI HK.out⟩, ⟨y0_2⟩⟩
   rw [if_neg c25] at H
   have c25b0 : decide (x8_1 < a1_0) = false := decide_eq_false c25; clear c25; obtain ⟨⟨t231, t232, t233⟩, A37, H⟩ := oB H; (try dsimp only at H)
   by_cases c38 : t231 = true
   ·
    subst c38
    rw [if_pos rfl] at H
    by_cases c39 : (x228002_1.length : Int) > 0
    ·
     rw [if_pos c39] at H
     have c39b0 : decide (0 < (x228002_1.length : Int)) = true := decide_eq_true c39
     have c39b1 : decide (0 < x228002_1.length) = true := decide_eq_true (by omega)
     clear c39; obtain ⟨⟨t234, t235, t236⟩, A40, H⟩ := oB H; (try dsimp only at H); obtain ⟨y237, hy237⟩ : ∃ y_ : List Int, y_ = (([] : List Int)) := ⟨_, rfl⟩
     replace H : (if 0 ≤ t234 then (if t234 ≤ (x228002_1.length : Int) then ((some (x228002_1.take (t234 : Int).toNat : List Int)).bind fun y240 => (if y237.length + y240.length < 17592186044416 then ((some (y237 ++ y240 : List Int)).bind fun y244 => (if 0 ≤ (wrap64 (t234 + 1)) then (if (wrap64 (t234 + 1)) ≤ (x228002_1.length : Int) then ((some (x228002_1.drop ((wrap64 (t234 + 1)) : Int).toNat : List Int)).bind fun y247 => (if y244.length + y247.length < 17592186044416 then (some (t226, a2, (y244 ++ y247), t235, t236)) else (none))) else (none)) else (none))) else (none))) else (none)) else (none)) = some (r1, r2, r3, r4, r5) := by first | (rw [hy237]; with_reducible exact H) | (have H2_ := (Option.bind_some _ _).symm.trans H; rw [hy237]; with_reducible exact H2_) | (have H2_ := (Option.bind_some _ _).symm.trans H; with_reducible exact H2_) | with_reducible exact H | (rw [hy237]; exact H) | exact H
     have Ny237 := Aside0.mk hy237; clear hy237
     by_cases c41 : 0 ≤ t234
     rotate_left
     ·
      rw [if_neg c41] at H
      exact absurd H (by simp)
     rw [if_pos c41] at H
     have c41b0 := eq_true c41; have c41b1 : decide (0 ≤ t234) = true := decide_eq_true c41; clear c41
     by_cases c42 : t234 ≤ (x228002_1.length : Int)
     rotate_left
     ·
      rw [if_neg c42] at H
      exact absurd H (by simp)
     rw [if_pos c42] at H
     have c42b0 := eq_true c42; have c42b1 : decide (t234 ≤ (x228002_1.length : Int)) = true := decide_eq_true c42; clear c42; obtain ⟨y240, hy240⟩ : ∃ y_ : List Int, y_ = (x228002_1.take (t234 : Int).toNat) := ⟨_, rfl⟩
     replace H : (if y237.length + y240.length < 17592186044416 then ((some (y237 ++ y240 : List Int)).bind fun y244 => (if 0 ≤ (wrap64 (t234 + 1)) then (if (wrap64 (t234 + 1)) ≤ (x228002_1.length : Int) then ((some (x228002_1.drop ((wrap64 (t234 + 1)) : Int).toNat : List Int)).bind fun y247 => (if y244.length + y247.length < 17592186044416 then (some (t226, a2, (y244 ++ y247), t235, t236)) else (none))) else (none)) else (none))) else (none)) = some (r1, r2, r3, r4, r5) := by first | (rw [hy240]; with_reducible exact H) | (have H2_ := (Option.bind_some _ _).symm.trans H; rw [hy240]; with_reducible exact H2_) | (have H2_ := (Option.bind_some _ _).symm.trans H; with_reducible exact H2_) | with_reducible exact H | (rw [hy240]; exact H) | exact H
     have Ny240 := Aside0.mk hy240; clear hy240
     by_cases c43 : y237.length + y240.length < 17592186044416
     rotate_left
     ·
      rw [if_neg c43] at H
      exact absurd H (by simp)
     rw [if_pos c43] at H
     have LMc43 := Aside0.mk c43; clear c43; obtain ⟨y244, hy244⟩ : ∃ y_ : List Int, y_ = (y237 ++ y240) := ⟨_, rfl⟩
     replace H : (if 0 ≤ (wrap64 (t234 + 1)) then (if (wrap64 (t234 + 1)) ≤ (x228002_1.length : Int) then ((some (x228002_1.drop ((wrap64 (t234 + 1)) : Int).toNat : List Int)).bind fun y247 => (if y244.length + y247.length < 17592186044416 then (some (t226, a2, (y244 ++ y247), t235, t236)) else (none))) else (none)) else (none)) = some (r1, r2, r3, r4, r5) := by first | (rw [hy244]; with_reducible exact H) | (have H2_ := (Option.bind_some _ _).symm.trans H; rw [hy244]; with_reducible exact H2_) | (have H2_ := (Option.bind_some _ _).symm.trans H; with_reducible exact H2_) | with_reducible exact H | (rw [hy244]; exact H) | exact H
     have Ny244 := Aside0.mk hy244; clear hy244; obtain ⟨ji44, hji44⟩ : ∃ j_ : Int, (wrap64 (t234 + 1)) = j_ := ⟨_, rfl⟩
     replace H : (if 0 ≤ (ji44) then (if (ji44) ≤ (x228002_1.length : Int) then ((some (x228002_1.drop ((ji44) : Int).toNat : List Int)).bind fun y247 => (if y244.length + y247.length < 17592186044416 then (some (t226, a2, (y244 ++ y247), t235, t236)) else (none))) else (none)) else (none)) = some (r1, r2, r3, r4, r5) := by first | (rw [hji44] at H; exact H) | (simp only [hji44] at H ⊢; exact H)
     (try rw [hji44] at A37)
     (try rw [hji44] at A40)
     have hji44w : (IntKind.i64.wrap (t234 + 1)) = ji44 := (i64_w _).trans hji44
     by_cases c45 : 0 ≤ (ji44)
     rotate_left
     ·
      rw [if_neg c45] at H
      exact absurd H (by simp)
     rw [if_pos c45] at H
     have c45b0 := eq_true c45; have c45b1 : decide (0 ≤ (ji44)) = true := decide_eq_true c45; clear c45
     by_cases c46 : (ji44) ≤ (x228002_1.length : Int)
     rotate_left
     ·
      rw [if_neg c46] at H
      exact absurd H (by simp)
     rw [if_pos c46] at H
     have c46b0 := eq_true c46; have c46b1 : decide ((ji44) ≤ (x228002_1.length : Int)) = true := decide_eq_true c46; clear c46; obtain ⟨y247, hy247⟩ : ∃ y_ : List Int, y_ = (x228002_1.drop ((ji44) : Int).toNat) := ⟨_, rfl⟩
     replace H : (if y244.length + y247.length < 17592186044416 then (some (t226, a2, (y244 ++ y247), t235, t236)) else (none)) = some (r1, r2, r3, r4, r5) := by first | (rw [hy247]; with_reducible exact H) | (have H2_ := (Option.bind_some _ _).symm.trans H; rw [hy247]; with_reducible exact H2_) | (have H2_ := (Option.bind_some _ _).symm.trans H; with_reducible exact H2_) | with_reducible exact H | (rw [hy247]; exact H) | exact H
     have Ny247 := Aside0.mk hy247; clear hy247
     by_cases c47 : y244.length + y247.length < 17592186044416
     rotate_left
     ·
      rw [if_neg c47] at H
      exact absurd H (by simp)
     rw [if_pos c47] at H
     have LMc47 := Aside0.mk c47; clear c47; obtain ⟨y251, hy251⟩ : ∃ y_ : List Int, y_ = (y244 ++ y247) := ⟨_, rfl⟩
     replace H : (some (t226, a2, y251, t235, t236)) = some (r1, r2, r3, r4, r5) := by first | (rw [hy251]; with_reducible exact H) | (have H2_ := (Option.bind_some _ _).symm.trans H; rw [hy251]; with_reducible exact H2_) | (have H2_ := (Option.bind_some _ _).symm.trans H; with_reducible exact H2_) | with_reducible exact H | (rw [hy251]; exact H) | exact H
     have Ny251 := Aside0.mk hy251; clear hy251
     simp only [Option.some.injEq, Prod.mk.injEq] at H
     obtain ⟨rfl, rfl, rfl, rfl, rfl⟩ := H; have hnb48 := NB224_225.out; have hnc48 := NB225_224.out; have hnb49 := NB224_227.out; have hnc49 := NB227_224.out; have hnb50 := NB224_0.out; have hnc50 := NB0_224.out; have hcz51_0 := bc0 BK224.out; have hcz51_1 := bc1 BK224.out; have hfz51_0 := blk_frozen BK224.out 0; have hfz51_1 := blk_frozen BK224.out 1
     try go_wp2_with (first | ((with_reducible refine gate_callee (f := 24) rfl ?_); refine gB (some 30) Tryz.func24 #[.pointer (some ⟨g, 0, none⟩), .int .i64 2] ?_; (with_reducible refine (spec_l1Once.calls g s0_0 s0_1 s0_2 2 true t232 t233 w0 _ ?side1 ?side2 A37.out).mono ?_); (case side1 => repeat (first | (with_reducible first | exact HI0.out | apply IsS53.alloc | apply IsS53.drewN | apply IsS53.drew | apply IsS53.set_1 | apply IsS53.set_2 | refine IsS53.far ?_ NeI.out _) | exact HI0.out)); (case side2 => repeat (first | (with_reducible first | exact HB.out | apply below_alloc | apply pw_below_drewN | apply below_drew1 | refine below_set ?_ (IsS53.ge HI0.out) | refine below_set ?_ GeI.out) | exact HB.out)); rintro e w52 ⟨rfl, hi, hb, hk⟩; refine ⟨_, rfl, ?_⟩; replace HO_228002 := Aside0.mk (Kd.R_mono (Kd.R_keep (IsS53.apart (show IsS53 w0 _ g s0_0 s0_1 s0_2 from y0_3) (rI HO_228002.out) (by decide)) hk (fun _ h => h.2)) (fun _ h => h.1)); replace BK224 := bq BK224 hk NB224_0; replace BK225 := bq BK225 hk NB225_0; replace BK227 := bq BK227 hk NB227_0; replace HK := kt HK hk; replace HB := Aside0.mk (hb); replace HI0 := Aside0.mk (hi); (try clear hb); (try clear hb2); (try clear hk); (try clear hi); have hnb53 := NB227_225.out; have hnc53 := NB225_227.out; have hnb54 := NB227_0.out; have hnc54 := NB0_227.out; obtain ⟨hcz55_0, hcz55_1, hcz55_2, hfz55_0, hfz55_1, hfz55_2⟩ := cs3 BK227; obtain ⟨Ao56, co56, eo56⟩ := Kd.R_slice HO_228002.out; subst eo56) | ((with_reducible refine gate_callee (f := 39) rfl ?_); refine gB (some 41) Tryz.func39 #[.pointer (some ⟨g, 0, none⟩), .int .i64 (x228002_1.length : Int)] ?_; (with_reducible refine (spec_l1Below.calls g s0_0 t232 t233 (x228002_1.length : Int) t234 t235 t236 w0 _ ?side1 ?side2 A40.out).mono ?_); (case side1 => repeat (first | (with_reducible first | exact HI0.out | apply IsS53.alloc | apply IsS53.drewN | apply IsS53.drew | apply IsS53.set_1 | apply IsS53.set_2 | refine IsS53.far ?_ NeI.out _) | exact HI0.out)); (case side2 => repeat (first | (with_reducible first | exact HB.out | apply below_alloc | apply pw_below_drewN | apply below_drew1 | refine below_set ?_ (IsS53.ge HI0.out) | refine below_set ?_ GeI.out) | exact HB.out)); rintro e w57 ⟨rfl, hi, hb, hk⟩; refine ⟨_, rfl, ?_⟩; replace HO_228002 := Aside0.mk (Kd.R_mono (Kd.R_keep (IsS53.apart (show IsS53 w0 _ g s0_0 t232 t233 from y0_3) (rI HO_228002.out) (by decide)) hk (fun _ h => h.2)) (fun _ h => h.1)); replace BK224 := bq BK224 hk NB224_0; replace BK225 := bq BK225 hk NB225_0; replace BK227 := bq BK227 hk NB227_0; replace HK := kt HK hk; replace HB := Aside0.mk (hb); replace HI0 := Aside0.mk (hi); (try clear hb); (try clear hb2); (try clear hk); (try clear hi)))
     replace HO_228002 := Aside0.mk (Kd.R_drew HO_228002.out); replace BK224 := Aside0.mk (blk_drew BK224.out); replace BK225 := Aside0.mk (blk_drew BK225.out); replace BK227 := Aside0.mk (blk_drew BK227.out); replace HI0 := Aside0.mk (IsS53.drew HI0.out); replace HK := Aside0.mk (keep_drew HK.out); replace HB := Aside0.mk (below_drew1 HB.out); have q59 : (t234 : Int) ≤ ((x228002_1.length : Int) : Int) := of_decide_eq_true y0_14; obtain ⟨i059, hi059, _, hsz59, _⟩ := info_parts info3; have hroom59 : x228002_1.length ≤ co56 := (Kd.R_reads' HO_228002.out).2.1; have hC59 : Kd.C (Kd.int .i64) _ Ao56 x228002_1.length x228002_1 := (Kd.R_reads' HO_228002.out).2.2; have hcut59 := cut_to (P := Tryz.prog) 26 3 .i64 Tryz.underlying26 hi059 Ao56 x228002_1.length co56 t234 (of_decide_eq_true y0_14) q59 hroom59
     have hr59 := Kd.C_take (m := (t234 : Int).toNat) hC59 (by omega)
     have hy59 : y240.length = (t234 : Int).toNat := (by rw [Ny240.out, List.length_take]; omega)
     rw [← Ny240.out] at hr59
     rw [← hy59] at hcut59
     have HR243 := Aside0.mk hr59
     have HC243 := Aside0.mk (show y240.length ≤ co56 from by omega)
     clear hr59 hC59 hroom59 hi059 hsz59; have KY59 := Aside0.mk hy59; clear hy59
     have KL59 := Aside0.mk (show (t234 : Int).toNat ≤ x228002_1.length from by omega)
     replace q59 := eq_true q59; have q60 : ((ji44) : Int) ≤ ((x228002_1.length : Int) : Int) := of_decide_eq_true y0_14; obtain ⟨i060, hi060, _, hsz60, _⟩ := info_parts info3; have hroom60 : x228002_1.length ≤ co56 := (Kd.R_reads' HO_228002.out).2.1; have hC60 : Kd.C (Kd.int .i64) _ Ao56 x228002_1.length x228002_1 := (Kd.R_reads' HO_228002.out).2.2; have q060 : (0 : Int) ≤ ((ji44) : Int) := of_decide_eq_true y0_14; have hcut60 := cut_from (P := Tryz.prog) 26 3 .i64 Tryz.underlying26 hi060 1 hsz60 Ao56 x228002_1.length co56 (ji44) q060 q60
     have hr60 := Kd.C_drop (m := ((ji44) : Int).toNat) (c := co56) hC60 (by omega) hroom60
     obtain ⟨A60, hA60⟩ : ∃ A1, A1 = (if co56 = ((ji44) : Int).toNat then Ao56 else (Ao56 : Option Addr).map (·.add (((ji44) : Int).toNat * 1))) := ⟨_, rfl⟩
     obtain ⟨c60, hc60⟩ : ∃ c1, c1 = co56 - ((ji44) : Int).toNat := ⟨_, rfl⟩
     have hy60 : y247.length = x228002_1.length - ((ji44) : Int).toNat := (by rw [Ny247.out, List.length_drop] <;> omega)
     rw [show (x228002_1).drop ((ji44) : Int).toNat = y247 from Ny247.out.symm] at hr60
     replace hr60 : Kd.C (Kd.int .i64) _ A60 y247.length y247 := (by rw [hA60]; exact hr60)
     rw [← hy60, ← hA60, ← hc60] at hcut60
     have HR250 := Aside0.mk hr60
     have HC250 := Aside0.mk (show y247.length ≤ c60 from by rw [hy60, hc60]; exact Nat.sub_le_sub_right hroom60 _)
     clear hr60 hC60 hroom60 hi060 hsz60 hc60; have KY60 := Aside0.mk hy60; have KA60 := Aside0.mk hA60; clear hy60 hA60
     have KL60 := Aside0.mk (show ((ji44) : Int).toNat ≤ x228002_1.length from by omega)
     replace q60 := eq_true q60
     refine start_ (n := 14) (S := fun w' => w'.cell? ⟨gb227, 0, none⟩ = some (.int .i64 t226) ∧ w'.cell? ⟨gb227, 1, none⟩ = some (.string a2) ∧ w'.cell? ⟨gb227, 2, none⟩ = some (.slice Ao56 x228002_1.length co56)) (ds := [13]) #[false, false, false, false, false, false, false, false, false, false, false, false, false, false] (by kernel_rfl) rfl rfl ⟨bc0 BK227.out, bc1 BK227.out, bc2 BK227.out⟩ (fun hHeld => ?_); refine with_tabW spec_l7DrawOf.tab10 spec_l7DrawOf.bits10 (fun HT_ HW_ => ?_)
     generalize w57.drew = w58 at HO_228002 BK224 BK225 BK227 HI0 HK HB HR243 HR250 hHeld ⊢
     refine pA 1 (some 43) (bz 14 2) HT_ ?_
     refine pA 3 (some 45) (bz 14 10) HT_ ?_
     refine pA 6 (some 48) (bz 14 74) HT_ ?_
     refine pA 8 (some 50) (bz 14 330) HT_ ?_
     refine pA 9 (some 51) (bz 14 842) HT_ ?_
     refine tA 2 (some 44) (bz 14 846) HT_ HW_ hHeld ?_
     refine pA 4 (some 46) (bz 14 862) HT_ ?_
     refine tA 7 (some 49) (bz 14 990) HT_ HW_ hHeld ?_
     refine pA 10 (some 52) (bz 14 2014) HT_ ?_
     refine oA 0 (some 42) (bz 14 2015) HT_ (fun K hK => ?_)
     refine Kd.R_lit_step (Kd.int .i64) _ 3 ?hg (N := 42) ?hd (xs := ([] : List Int)) (inner := []) (ok := fun _ => True) (okp := fun _ => True) ?hr ?hp (fun _ hk => hk) trivial (Below.refl _ _) (Nat.le_refl _) (by simp) ?_; (case hd => rfl); (case hg => rfl); (case hr => first | (go_simp; done) | (go_simp; rfl)); (case hp => exact (Reps.none _ _))
     intro v238 w61 ho62 hb hg_ hnew_
     clear hg_ hnew_
     (first | rw [← Ny237.out] at ho62 | (simp only [Int.reduceToNat] at ho62; rw [← Ny237.out] at ho62))
     have HO239 := Aside0.mk (Kd.R_lower (Kd.R_new' ho62 (Kd.R_lt (rI HO_228002.out))) (keep_size (w := w) (g := g) (row := none) (hI HK.out))); replace HO_228002 := Aside0.mk (Kd.R_elder' (rI HO_228002.out) (Kd.R_base ho62) hb); replace BK224 := bk BK224 hb; replace BK225 := bk BK225 hb; replace BK227 := bk BK227 hb
     replace HR243 := Aside0.mk (Kd.C_below (by repeat (first | (with_reducible exact HR243.out) | (with_reducible refine Kd.C_alloc ?_ _) | (with_reducible refine Kd.C_drewN ?_ _) | (with_reducible refine Kd.C_drew ?_) | exact HR243.out)) hb)
     replace HR250 := Aside0.mk (Kd.C_below (by repeat (first | (with_reducible exact HR250.out) | (with_reducible refine Kd.C_alloc ?_ _) | (with_reducible refine Kd.C_drewN ?_ _) | (with_reducible refine Kd.C_drew ?_) | exact HR250.out)) hb)
     replace HK := kb HK hb; replace HB : Aside0 (Below w0.heap.size w0 _) := Aside0.mk (below_step y0_2 hb); replace HI0 := Aside0.mk (IsS53.below y0_3 hb); clear hb ho62
     refine hK.out _ _ ⟨bc0 BK227.out, bc1 BK227.out, bc2 BK227.out⟩ (fun hHeld => ?_)
     clear hK K
     refine nA (some 42) ?_
     refine oA 5 (some 47) (bz 14 2047) HT_ (fun K hK => ?_)
     refine Kd.R_append_rows_step (Kd.int .i64) w.heap.size (by rfl) (.tmp 42) (.tmp 46) 26 3 (.int .i64 0) 8 rfl Tryz.underlying26 info3 rfl (by decide) (by omega) v238 y237 y240 _ _ _ (fun k_ => some k_ ≠ (.slice Ao56 x228002_1.length co56 : Value).ownBlock) (fun _ => False) rfl rfl ?aO ?aR (fun _ _ h => h) (fun _ h => h.elim) ?aF (Below.refl _ _) ?aS ?aL ?_
     (case aR => repeat (first | exact (by repeat (first | (with_reducible exact HR243.out) | (with_reducible refine Kd.C_alloc ?_ _) | (with_reducible refine Kd.C_drewN ?_ _) | (with_reducible refine Kd.C_drew ?_) | exact HR243.out)) | (with_reducible refine Kd.C_alloc ?_ _) | (with_reducible refine Kd.C_drewN ?_ _) | (with_reducible refine Kd.C_drew ?_)))
     (case aF => exact (fun k_ hk => Kd.fresh' (Kd.R_lt (rI HO_228002.out)) k_ hk))
     (case aO => exact (rI (Kd.R_mono HO239.out (fun _ hk => hk.2))))
     (case aS => exact (keep_size (w := w) (g := g) (row := none) (hI HK.out)))
     (case aL => have := LMc43.out; omega)
     intro v245 w63 ho hb hg hat
     rw [← Ny244.out] at ho
     have n0_ := Aside0.mk (Kd.R_after (ok := (fun _ => True)) (rI HO_228002.out) hg hat)
     have n1_ := bn BK224 hg (Kd.R_ne HO239.out BK224.out (by decide))
     have n2_ := bn BK225 hg (Kd.R_ne HO239.out BK225.out (by decide))
     have n3_ := bn BK227 hg (Kd.R_ne HO239.out BK227.out (by decide))
     have n4_ := Aside0.mk (IsS53.grown y0_3 hg (IsS53.own_ne HI0.out HO239.out (by decide)))
     have n5_ := Aside0.mk (below_weaken y0_2 HL.out hb); have n6_ := Aside0.mk (KeepBut.trans (hI HK.out) (KeepBut.of_grown hg g) (Kd.R_base2 HO239.out))
     have n7_ := Aside0.mk ((show Kd.C (Kd.int .i64) w63 Ao56 y240.length y240 from by rw [Ny240.out]; exact Kd.C_take (m := (t234 : Int).toNat) ((Kd.R_reads' (Kd.R_after (ok := (fun _ => True)) (rI HO_228002.out) hg hat)).2.2) KL59.out))
     have n8_ := Aside0.mk ((show Kd.C (Kd.int .i64) w63 A60 y247.length y247 from by rw [Ny247.out, KA60.out]; exact Kd.C_drop (m := ((ji44) : Int).toNat) (c := co56) ((Kd.R_reads' (Kd.R_after (ok := (fun _ => True)) (rI HO_228002.out) hg hat)).2.2) KL60.out ((Kd.R_reads' (Kd.R_after (ok := (fun _ => True)) (rI HO_228002.out) hg hat)).2.1)))
     have n9_ := Aside0.mk (ho); clear HO_228002; clear BK224; clear BK225; clear BK227; clear HI0; clear HB; clear HK; clear HR243; clear HR250; clear HO239; have HO_228002 := n0_; have BK224 := n1_; have BK225 := n2_; have BK227 := n3_; have HI0 := n4_; have HB := n5_; have HK := n6_; have HR243 := n7_; have HR250 := n8_; have HO246 := n9_; clear n0_ n1_ n2_ n3_ n4_ n5_ n6_ n7_ n8_ n9_; clear ho hb hg hat
     refine hK.out _ _ ⟨bc0 BK227.out, bc1 BK227.out, bc2 BK227.out⟩ (fun hHeld => ?_)
     clear hK K
     refine nA (some 47) ?_
     refine oA 11 (some 53) (bz 14 4095) HT_ (fun K hK => ?_)
     refine Kd.R_append_rows_step (Kd.int .i64) w.heap.size (by rfl) (.tmp 47) (.tmp 52) 26 3 (.int .i64 0) 8 rfl Tryz.underlying26 info3 rfl (by decide) (by omega) v245 y244 y247 _ _ _ (fun k_ => some k_ ≠ (.slice Ao56 x228002_1.length co56 : Value).ownBlock) (fun _ => False) rfl rfl ?aO ?aR (fun _ _ h => h) (fun _ h => h.elim) ?aF (Below.refl _ _) ?aS ?aL ?_
     (case aR => repeat (first | exact (by repeat (first | (with_reducible exact HR250.out) | (with_reducible refine Kd.C_alloc ?_ _) | (with_reducible refine Kd.C_drewN ?_ _) | (with_reducible refine Kd.C_drew ?_) | exact HR250.out)) | (with_reducible refine Kd.C_alloc ?_ _) | (with_reducible refine Kd.C_drewN ?_ _) | (with_reducible refine Kd.C_drew ?_)))
     (case aF => exact (fun k_ hk => Kd.fresh' (Kd.R_lt (rI HO_228002.out)) k_ hk))
     (case aO => exact (rI HO246.out))
     (case aS => exact (keep_size (w := w) (g := g) (row := none) (hI HK.out)))
     (case aL => have := LMc47.out; omega)
     intro v252 w64 ho hb hg hat
     rw [← Ny251.out] at ho
     have n0_ := Aside0.mk (Kd.R_after (ok := (fun _ => True)) (rI HO_228002.out) hg hat)
     have n1_ := bn BK224 hg (Kd.R_ne HO246.out BK224.out (by decide))
     have n2_ := bn BK225 hg (Kd.R_ne HO246.out BK225.out (by decide))
     have n3_ := bn BK227 hg (Kd.R_ne HO246.out BK227.out (by decide))
     have n4_ := Aside0.mk (IsS53.grown y0_3 hg (IsS53.own_ne HI0.out HO246.out (by decide)))
     have n5_ := Aside0.mk (below_weaken y0_2 HL.out hb); have n6_ := Aside0.mk (KeepBut.trans (hI HK.out) (KeepBut.of_grown hg g) (Kd.R_base2 HO246.out))
     have n7_ := Aside0.mk ((show Kd.C (Kd.int .i64) w64 Ao56 y240.length y240 from by rw [Ny240.out]; exact Kd.C_take (m := (t234 : Int).toNat) ((Kd.R_reads' (Kd.R_after (ok := (fun _ => True)) (rI HO_228002.out) hg hat)).2.2) KL59.out))
     have n8_ := Aside0.mk ((show Kd.C (Kd.int .i64) w64 A60 y247.length y247 from by rw [Ny247.out, KA60.out]; exact Kd.C_drop (m := ((ji44) : Int).toNat) (c := co56) ((Kd.R_reads' (Kd.R_after (ok := (fun _ => True)) (rI HO_228002.out) hg hat)).2.2) KL60.out ((Kd.R_reads' (Kd.R_after (ok := (fun _ => True)) (rI HO_228002.out) hg hat)).2.1)))
     have n9_ := Aside0.mk (ho); clear HO_228002; clear BK224; clear BK225; clear BK227; clear HI0; clear HB; clear HK; clear HR243; clear HR250; clear HO246; have HO_228002 := n0_; have BK224 := n1_; have BK225 := n2_; have BK227 := n3_; have HI0 := n4_; have HB := n5_; have HK := n6_; have HR243 := n7_; have HR250 := n8_; have HO253 := n9_; clear n0_ n1_ n2_ n3_ n4_ n5_ n6_ n7_ n8_ n9_; clear ho hb hg hat; obtain ⟨Ao65, co65, eo65⟩ := Kd.R_slice HO253.out
     (first | subst eo65 | (injection eo65 with f1_ f2_ f3_; have f4_ := f1_.symm; have f5_ := f3_.symm; clear f1_ f2_ f3_; subst f4_; subst f5_))
     refine hK.out _ _ ⟨bc0 BK227.out, bc1 BK227.out, bc2 BK227.out⟩ (fun hHeld => ?_)
     clear hK K
     refine nA (some 53) ?_
     refine pA 12 (some 54) (bz 14 0x1fff) HT_ ?_
     refine last_ (i := 13) (N := none) #[true, true, true, true, true, true, true, true, true, true, true, true, true, true] rfl rfl (one_of HT_.out (by kernel_rfl)) (by decide) (fun K hK => ?_)
     have hs66 : w64.cell? ⟨gb227, 2, none⟩ = some (.slice Ao56 x228002_1.length co56) := bc2 BK227.out; have hfs66 := blk_frozen BK227.out 2; have hns66_0 := NB224_227.out; have hns66_1 := NB225_227.out; have hms66_0 := NB227_224.out; have hms66_1 := NB227_225.out
     refine skip_ (w1 := ?_) (by rfl) rfl ?_ ?_
     rotate_left
     ·
      go_simp
      rfl
     refine hK.out _ _ ?_
     clear hK K
     refine done_ (done_of HT_.out (by kernel_rfl)) ?_
     have hcz67_0 := bc0 BK227.out; have hcz67_1 := bc1 BK227.out; have hcz67_2 := bc2 BK227.out; have hfz67_0 := blk_frozen BK227.out 0; have hfz67_1 := blk_frozen BK227.out 1; have hfz67_2 := blk_frozen BK227.out 2; have hnb68 := NB225_0.out; have hnc68 := NB0_225.out; have hcz69_0 := bc0 BK225.out; have hcz69_1 := bc1 BK225.out; have hcz69_2 := bc2 BK225.out; have hfz69_0 := blk_frozen BK225.out 0; have hfz69_1 := blk_frozen BK225.out 1; have hfz69_2 := blk_frozen BK225.out 2
     try go_wp2
     refine bodyPost_ret (results_cell_row rfl _ _ gb225 28 #[.int .i64 t226, .string a2, .slice Ao65 y251.length co65] (0, 0) _ rfl (pI BK225) Tryz.underlying28 rfl (by kernel_rfl)) rfl ?_
     exact ⟨_, by first | rfl | (simp [errW_none, errW_some] <;> rfl) | (simp only [← hji44]; first | rfl | (simp [errW_none, errW_some] <;> rfl)) | (simp [*, errW_none, errW_some] <;> rfl), by (with_reducible repeat (first | apply Kd.R_alloc | apply Kd.R_drewN | apply Kd.R_drew)); exact Kd.R_mono (Kd.R_far (p := ⟨gb225, 2, none⟩) (Kd.R_far (p := ⟨gb225, 1, none⟩) (Kd.R_far (p := ⟨gb225, 0, none⟩) (Kd.R_far (p := ⟨gb227, 2, none⟩) (Kd.R_types (Kd.R_types HO253.out BK227.out (by decide)) BK225.out (by decide)) (fun _ hk => hk.1.2) (.slice Ao65 y251.length co65)) (fun _ hk => hk.2) (.int .i64 t226)) (fun _ hk => hk.2) (.string a2)) (fun _ hk => hk.2) (.slice Ao65 y251.length co65)) (fun _ hk => trivial), y0_3, y0_2, hI HK.out⟩
    rw [if_neg c39] at H
    have c39b0 : decide (0 < (x228002_1.length : Int)) = false := decide_eq_false c39
    have c39b1 : decide (0 < x228002_1.length) = false := decide_eq_false (by omega)
    clear c39
    simp only [Option.some.injEq, Prod.mk.injEq] at H
    obtain ⟨rfl, rfl, rfl, rfl, rfl⟩ := H; have hnb70 := NB224_225.out; have hnc70 := NB225_224.out; have hnb71 := NB224_227.out; have hnc71 := NB227_224.out; have hnb72 := NB224_0.out; have hnc72 := NB0_224.out; have hcz73_0 := bc0 BK224.out; have hcz73_1 := bc1 BK224.out; have hfz73_0 := blk_frozen BK224.out 0; have hfz73_1 := blk_frozen BK224.out 1
    go_wp2_with (first | ((with_reducible refine gate_callee (f := 24) rfl ?_); refine gB (some 30) Tryz.func24 #[.pointer (some ⟨g, 0, none⟩), .int .i64 2] ?_; (with_reducible refine (spec_l1Once.calls g s0_0 s0_1 s0_2 2 true t232 t233 w0 _ ?side1 ?side2 A37.out).mono ?_); (case side1 => repeat (first | (with_reducible first | exact HI0.out | apply IsS53.alloc | apply IsS53.drewN | apply IsS53.drew | apply IsS53.set_1 | apply IsS53.set_2 | refine IsS53.far ?_ NeI.out _) | exact HI0.out)); (case side2 => repeat (first | (with_reducible first | exact HB.out | apply below_alloc | apply pw_below_drewN | apply below_drew1 | refine below_set ?_ (IsS53.ge HI0.out) | refine below_set ?_ GeI.out) | exact HB.out)); rintro e w74 ⟨rfl, hi, hb, hk⟩; refine ⟨_, rfl, ?_⟩; replace HO_228002 := Aside0.mk (Kd.R_mono (Kd.R_keep (IsS53.apart (show IsS53 w0 _ g s0_0 s0_1 s0_2 from y0_3) (rI HO_228002.out) (by decide)) hk (fun _ h => h.2)) (fun _ h => h.1)); replace BK224 := bq BK224 hk NB224_0; replace BK225 := bq BK225 hk NB225_0; replace BK227 := bq BK227 hk NB227_0; replace HK := kt HK hk; replace HB := Aside0.mk (hb); replace HI0 := Aside0.mk (hi); (try clear hb); (try clear hb2); (try clear hk); (try clear hi); have hnb75 := NB227_225.out; have hnc75 := NB225_227.out; have hnb76 := NB227_0.out; have hnc76 := NB0_227.out; obtain ⟨hcz77_0, hcz77_1, hcz77_2, hfz77_0, hfz77_1, hfz77_2⟩ := cs3 BK227; obtain ⟨Ao78, co78, eo78⟩ := Kd.R_slice HO_228002.out; subst eo78; have hnb79 := NB225_0.out; have hnc79 := NB0_225.out; obtain ⟨hcz80_0, hcz80_1, hcz80_2, hfz80_0, hfz80_1, hfz80_2⟩ := cs3 BK225))
    refine bodyPost_ret (results_cell_row rfl _ _ gb225 28 #[.int .i64 t226, .string a2, .slice Ao78 x228002_1.length co78] (0, 0) _ rfl (pI BK225) Tryz.underlying28 rfl (by kernel_rfl)) rfl ?_
    exact ⟨_, y0_11, by (with_reducible repeat (first | apply Kd.R_alloc | apply Kd.R_drewN | apply Kd.R_drew)); exact Kd.R_mono (Kd.R_far (p := ⟨gb225, 2, none⟩) (Kd.R_far (p := ⟨gb225, 1, none⟩) (Kd.R_far (p := ⟨gb225, 0, none⟩) (Kd.R_types HO_228002.out BK225.out (by decide)) (fun _ hk => hk.2) (.int .i64 t226)) (fun _ hk => hk.2) (.string a2)) (fun _ hk => hk.2) (.slice Ao78 x228002_1.length co78)) (fun _ hk => trivial), y0_3, y0_2, hI HK.out⟩
   replace c38 := Bool.eq_false_iff.mpr c38; subst c38
   rw [if_neg (show ¬ (false = true) by decide)] at H
   simp only [Option.some.injEq, Prod.mk.injEq] at H
   obtain ⟨rfl, rfl, rfl, rfl, rfl⟩ := H; have hnb81 := NB224_225.out; have hnc81 := NB225_224.out; have hnb82 := NB224_227.out; have hnc82 := NB227_224.out; have hnb83 := NB224_0.out; have hnc83 := NB0_224.out; have hcz84_0 := bc0 BK224.out; have hcz84_1 := bc1 BK224.out; have hfz84_0 := blk_frozen BK224.out 0; have hfz84_1 := blk_frozen BK224.out 1
   go_wp2_with (first | ((with_reducible refine gate_callee (f := 24) rfl ?_); refine gB (some 30) Tryz.func24 #[.pointer (some ⟨g, 0, none⟩), .int .i64 2] ?_; (with_reducible refine (spec_l1Once.calls g s0_0 s0_1 s0_2 2 false t232 t233 w0 _ ?side1 ?side2 A37.out).mono ?_); (case side1 => repeat (first | (with_reducible first | exact HI0.out | apply IsS53.alloc | apply IsS53.drewN | apply IsS53.drew | apply IsS53.set_1 | apply IsS53.set_2 | refine IsS53.far ?_ NeI.out _) | exact HI0.out)); (case side2 => repeat (first | (with_reducible first | exact HB.out | apply below_alloc | apply pw_below_drewN | apply below_drew1 | refine below_set ?_ (IsS53.ge HI0.out) | refine below_set ?_ GeI.out) | exact HB.out)); rintro e w85 ⟨rfl, hi, hb, hk⟩; refine ⟨_, rfl, ?_⟩; replace HO_228002 := Aside0.mk (Kd.R_mono (Kd.R_keep (IsS53.apart (show IsS53 w0 _ g s0_0 s0_1 s0_2 from y0_3) (rI HO_228002.out) (by decide)) hk (fun _ h => h.2)) (fun _ h => h.1)); replace BK224 := bq BK224 hk NB224_0; replace BK225 := bq BK225 hk NB225_0; replace BK227 := bq BK227 hk NB227_0; replace HK := kt HK hk; replace HB := Aside0.mk (hb); replace HI0 := Aside0.mk (hi); (try clear hb); (try clear hb2); (try clear hk); (try clear hi); have hnb86 := NB227_225.out; have hnc86 := NB225_227.out; have hnb87 := NB227_0.out; have hnc87 := NB0_227.out; obtain ⟨hcz88_0, hcz88_1, hcz88_2, hfz88_0, hfz88_1, hfz88_2⟩ := cs3 BK227; have hnb89 := NB225_0.out; have hnc89 := NB0_225.out; obtain ⟨hcz90_0, hcz90_1, hcz90_2, hfz90_0, hfz90_1, hfz90_2⟩ := cs3 BK225; obtain ⟨Ao91, co91, eo91⟩ := Kd.R_slice HO_228002.out; subst eo91))
   refine bodyPost_ret (results_cell_row rfl _ _ gb225 28 #[.int .i64 t226, .string a2, .slice Ao91 x228002_1.length co91] (0, 0) _ rfl (pI BK225) Tryz.underlying28 rfl (by kernel_rfl)) rfl ?_
   exact ⟨_, y0_11, by (with_reducible repeat (first | apply Kd.R_alloc | apply Kd.R_drewN | apply Kd.R_drew)); exact Kd.R_mono (Kd.R_far (p := ⟨gb225, 2, none⟩) (Kd.R_far (p := ⟨gb225, 1, none⟩) (Kd.R_far (p := ⟨gb225, 0, none⟩) (Kd.R_types HO_228002.out BK225.out (by decide)) (fun _ hk => hk.2) (.int .i64 t226)) (fun _ hk => hk.2) (.string a2)) (fun _ hk => hk.2) (.slice Ao91 x228002_1.length co91)) (fun _ hk => trivial), y0_3, y0_2, hI HK.out⟩

/-! ### spec_l1PickInt: function 44 -/
def spec_l1PickInt.f (s0_0 : List Int) (s0_1 : Int) (s0_2 : Int) (l1 : List Int) : Option (Int × Int × Int) := (spec_l1Below.f s0_0 s0_1 s0_2 (l1.length : Int)).bind fun bt254 => (if 0 ≤ bt254.1 then (if bt254.1 < (l1.length : Int) then (some (rd l1 bt254.1, bt254.2.1, bt254.2.2)) else (none)) else (none))
set_option maxHeartbeats 8000000 in
set_option maxRecDepth 100000 in
theorem spec_l1PickInt.calls (g : Nat) (s0_0 : List Int) (s0_1 : Int) (s0_2 : Int) (A1 : Option Addr) (c1 : Nat) (l1 : List Int) (r1 : Int) (r2 : Int) (r3 : Int) (w0 w : World) (hI : IsS53 w0 w g s0_0 s0_1 s0_2) (hB : Below w0.heap.size w0 w) (hr1 : Kd.C (Kd.int .i64) w A1 l1.length l1) (hc1 : l1.length ≤ c1) (hf1 : ∀ ad, A1 = some ad → 0 < l1.length → ad.block ≠ g) (h : spec_l1PickInt.f s0_0 s0_1 s0_2 l1 = some (r1, r2, r3)) :
  Calls Tryz.prog 44 #[.pointer (some ⟨g, 0, none⟩), .slice A1 l1.length c1] w fun e w' => e = .returned (.int .i64 r1) ∧ IsS53 w0 w' g s0_0 r2 r3 ∧ Below w0.heap.size w0 w' ∧ KeepBut w w' g none := by
 have HR1 := Aside0.mk hr1; have HC1 := Aside0.mk hc1; clear hr1 hc1; have HI0 := Aside0.mk hI; have HK := Aside0.mk (KeepBut.refl w g none); have HL := Aside0.mk hB.size; clear hI; have HW0 := Aside0.mk hB.size; have HB := Aside0.mk hB; clear hB
 have H := h; unfold spec_l1PickInt.f at H
 clear h; obtain ⟨⟨t254, t255, t256⟩, A3, H⟩ := oB H; (try dsimp only at H)
 by_cases c4 : 0 ≤ t254
 ·
  rw [if_pos c4] at H
  have c4b0 : decide (0 ≤ t254) = true := decide_eq_true c4; clear c4
  by_cases c5 : t254 < (l1.length : Int)
  rotate_left
  ·
   rw [if_neg c5] at H
   exact absurd H (by simp)
  rw [if_pos c5] at H
  have c5b0 : decide (t254 < (l1.length : Int)) = true := decide_eq_true c5; clear c5
  simp only [Option.some.injEq, Prod.mk.injEq] at H
  obtain ⟨rfl, rfl, rfl⟩ := H
  go_enter Tryz.func44, Tryz.ntmps44
  go_wp2_with (first | ((with_reducible refine gate_callee (f := 39) rfl ?_); refine gB (some 9) Tryz.func39 #[.pointer (some ⟨g, 0, none⟩), .int .i64 (l1.length : Int)] ?_; (with_reducible refine (spec_l1Below.calls g s0_0 s0_1 s0_2 (l1.length : Int) t254 t255 t256 w0 _ ?side1 ?side2 A3.out).mono ?_); (case side1 => repeat (first | (with_reducible first | exact HI0.out | apply IsS53.alloc | apply IsS53.drewN | apply IsS53.drew | apply IsS53.set_1 | apply IsS53.set_2) | exact HI0.out)); (case side2 => repeat (first | (with_reducible first | exact HB.out | apply below_alloc | apply pw_below_drewN | apply below_drew1 | refine below_set ?_ (IsS53.ge HI0.out)) | exact HB.out)); rintro e w6 ⟨rfl, hi, hb, hk⟩; refine ⟨_, rfl, ?_⟩; replace HK := kt HK hk; replace HB := Aside0.mk (hb); replace HI0 := Aside0.mk (hi); (try clear hb); (try clear hb2); (try clear hk); (try clear hi); have p257 : 0 ≤ (t254 : Int) := of_decide_eq_true y0_14; have q257 : t254 < (l1.length : Int) := of_decide_eq_true y0_14; obtain ⟨ad257, e257, hx257_0⟩ := Kd.at_int HR1.out t254 p257 q257; cases e257; replace hx257_0 := keep_cell HK.out hx257_0 (by first | (rw [add_block]; exact hf1 _ rfl (by omega)) | exact hf1 _ rfl (by omega) | exact hf1 ad257 rfl (by omega)); replace p257 := eq_true p257; replace q257 := eq_true q257))
  go_ret
  exact ⟨y0_11, y0_5, y0_4, hI HK.out⟩
 rw [if_neg c4] at H
 exact absurd H (by simp)

/-! ### spec_l2DrawRight: function 50 -/
def spec_l2DrawRight.f (s0_0 : List Int) (s0_1 : Int) (s0_2 : Int) : Option (Int × Int × Int × Int × Int × Int) := (spec_l1Below.f s0_0 s0_1 s0_2 4).bind fun bt259 => ((spec_l1Below.f s0_0 bt259.2.1 bt259.2.2 4).bind fun bt262 => ((spec_l1PickInt.f s0_0 bt262.2.1 bt262.2.2 (([0, 5, 60, 100, 1000] : List Int))).bind fun bt268 => ((spec_l1Below.f s0_0 bt268.2.1 bt268.2.2 3).bind fun bt271 => (some (bt259.1, bt262.1, bt268.1, bt271.1, bt271.2.1, bt271.2.2)))))
set_option maxHeartbeats 8000000 in
set_option maxRecDepth 100000 in
theorem spec_l2DrawRight.calls (g : Nat) (s0_0 : List Int) (s0_1 : Int) (s0_2 : Int) (r1 : Int) (r2 : Int) (r3 : Int) (r4 : Int) (r5 : Int) (r6 : Int) (w0 w : World) (hI : IsS53 w0 w g s0_0 s0_1 s0_2) (hB : Below w0.heap.size w0 w) (h : spec_l2DrawRight.f s0_0 s0_1 s0_2 = some (r1, r2, r3, r4, r5, r6)) :
  Calls Tryz.prog 50 #[.pointer (some ⟨g, 0, none⟩)] w fun e w' => e = .returned (.agg #[.int .i64 r1, .int .i64 r2, .int .i64 r3, .int .i64 r4]) ∧ IsS53 w0 w' g s0_0 r5 r6 ∧ Below w0.heap.size w0 w' ∧ KeepBut w w' g none := by
 have hu68 := Tryz.underlying68; have HI0 := Aside0.mk hI; have HK := Aside0.mk (KeepBut.refl w g none); have HL := Aside0.mk hB.size; clear hI; have HW0 := Aside0.mk hB.size; have HB := Aside0.mk hB; clear hB
 have H := h; unfold spec_l2DrawRight.f at H
 clear h; obtain ⟨⟨t259, t260, t261⟩, A2, H⟩ := oB H; (try dsimp only at H); obtain ⟨⟨t262, t263, t264⟩, A3, H⟩ := oB H; (try dsimp only at H); obtain ⟨y265, hy265⟩ : ∃ y_ : List Int, y_ = (([0, 5, 60, 100, 1000] : List Int)) := ⟨_, rfl⟩
 replace H : ((spec_l1PickInt.f s0_0 t263 t264 y265).bind fun bt268 => ((spec_l1Below.f s0_0 bt268.2.1 bt268.2.2 3).bind fun bt271 => (some (t259, t262, bt268.1, bt271.1, bt271.2.1, bt271.2.2)))) = some (r1, r2, r3, r4, r5, r6) := by first | (rw [hy265]; with_reducible exact H) | (have H2_ := (Option.bind_some _ _).symm.trans H; rw [hy265]; with_reducible exact H2_) | (have H2_ := (Option.bind_some _ _).symm.trans H; with_reducible exact H2_) | with_reducible exact H | (rw [hy265]; exact H) | exact H
 have Ny265 := Aside0.mk hy265; clear hy265; obtain ⟨⟨t268, t269, t270⟩, A4, H⟩ := oB H; (try dsimp only at H); obtain ⟨⟨t271, t272, t273⟩, A5, H⟩ := oB H; (try dsimp only at H)
 simp only [Option.some.injEq, Prod.mk.injEq] at H
 obtain ⟨rfl, rfl, rfl, rfl, rfl, rfl⟩ := H; have i0_ := iB53 HI0; have i1_ : LB w0 w := ⟨HB.out⟩
 go_enter Tryz.func50, Tryz.ntmps50
 go_wp2_with (first | ((with_reducible refine gd 2 ?_); refine bL 2 #[.int .i64 0, .int .i64 0, .int .i64 0, .int .i64 0] 68 ?_; intro gb258 w6 _ _ _) | ((with_reducible refine gate_callee (f := 39) rfl ?_); refine gK (some 4) Tryz.func39 (spec_l1Below.calls (hI := iS53 HI0) (hB := UpW.out) (w := _) (h := A2.out)) ?_; intro w7 _ _ _ HI8) | ((with_reducible refine gate_callee (f := 39) rfl ?_); refine gK (some 6) Tryz.func39 (spec_l1Below.calls (hI := iS53 HI8) (hB := UpW.out) (w := _) (h := A3.out)) ?_; intro w9 _ _ _ HI10) | ((with_reducible refine gate_dst (N := 8) rfl ?_); refine lL 8 3 (Kd.int .i64) rfl Ny265 ?_; intro Ao266 co266 w11 _ HO267) | ((with_reducible refine gate_callee (f := 44) rfl ?_); refine gK (some 9) Tryz.func44 (spec_l1PickInt.calls (hI := iS53 HI10) (hB := UpW.out) (hr1 := rC HO267) (hc1 := rL HO267) (hf1 := fS HO267) (w := _) (h := A4.out)) ?_; intro w12 _ _ _ HI13) | ((with_reducible refine gate_callee (f := 39) rfl ?_); refine gK (some 11) Tryz.func39 (spec_l1Below.calls (hI := iS53 HI13) (hB := UpW.out) (w := _) (h := A5.out)) ?_; intro w14 _ _ _ HI15))
 refine bodyPost_ret (results_cell_row rfl _ _ gb258 68 #[.int .i64 t259, .int .i64 t262, .int .i64 t268, .int .i64 t271] (0, 0) _ rfl xB Tryz.underlying68 rfl (by kernel_rfl)) rfl ?_
 exact ⟨y0_15, iS53 HI15, UpW.out, UpB.out⟩

/-! ### spec_NameOk: function 29 -/
def spec_NameOk.f (k : Nat) (a0 : ByteArray) : Option (Bool) := (spec_Steps.f k a0).bind fun bt274 => (some bt274.2)
theorem spec_NameOk.mono : ∀ a0 k, LeO (spec_NameOk.f k a0) (spec_NameOk.f (k + 1) a0) := by
 intro a0 k
 unfold spec_NameOk.f
 repeat' first | (with_reducible exact spec_Steps.mono _ _) | (with_reducible exact LeO.refl _) | (with_reducible exact LeO.none _) | (with_reducible refine LeO.ite ?_ ?_) | (with_reducible refine LeO.bind ?_ (fun _ => ?_))
set_option maxHeartbeats 8000000 in
set_option maxRecDepth 100000 in
theorem spec_NameOk.calls (k : Nat) (a0 : ByteArray) (r : Bool) (w : World) (h : spec_NameOk.f k a0 = some r) :
  Calls Tryz.prog 29 #[.string a0] w fun e w' => e = .returned (.bool r) ∧ Below w.heap.size w w' := by
 have HB := Aside0.mk (Below.refl w.heap.size w)
 have H := h; unfold spec_NameOk.f at H
 clear h; obtain ⟨⟨t274, t275⟩, A2, H⟩ := oB H; (try dsimp only at H); obtain rfl := Option.some.inj H
 go_enter Tryz.func29, Tryz.ntmps29
 go_wp2_with (first | ((with_reducible refine gate_callee (f := 46) rfl ?_); refine gS1 (some 7) Tryz.func46 (spec_Steps.calls (w := _) (h := A2.out)) ?_; intro Ao276 co276 w3 _ HO277))
 go_ret
 exact ⟨y0_15, UpW.out⟩

end Go.Proofs.YtagpeafaiofkjaaGreatDoor.PFnQuorums
