-- By a program of this session, out of the translation (the print of the kit, with turns of its own). Lean checks it.
import Derived.Test.YtnpbopadajbopaaGreatDoorPFnSafex0
import Derived.Test.YtnpbopadajbopaaGreatDoorPFnSafex1
import Derived.Test.YtnpbopadajbopaaGreatDoorPFnSafex4
namespace Go.Proofs.YtnpbopadajbopaaGreatDoor.PFnSafe
open Go.RowKit Go.Proofs.YtnpbopadajbopaaGreatDoorW.PrintWords Go.Proofs.YtnpbopadajbopaaGreatDoorW.PrintLast Go.Proofs.YtnpbopadajbopaaGreatDoorW.PrintMore
attribute [local go_sem] max2_int min2_int max_two min_two max_three min_three max_four min_four   -- for this text's walks alone
attribute [local go_sem] cell_in frozen_in
set_option synthInstance.maxSize 1000000
set_option synthInstance.maxHeartbeats 2000000
set_option linter.unusedVariables false
set_option linter.unusedSimpArgs false

/-! ### spec_l7DrawOf: function 189 -/
def spec_l7DrawOf.l0 : Nat → Int → List Int → Int → Int → Int → Int → Int → ByteArray → List Int → Option (Int × ByteArray × List Int × Int × Int)
 | 0, _, _, _, _, _, _, _, _, _ => none
 | k + 1, x8, x1000, x1001, x1002, x311000, x311001, x314000, x314001, x314002 => if x8 < x311000 then (if x314002.length < 17592186044416 then (spec_l7DrawOf.l0 k (wrap64 (x8 + 1)) x1000 x1001 x1002 x311000 x311001 x314000 x314001 (x314002 ++ [x8])) else (none)) else ((spec_l1Once.f x1000 x1001 x1002 2).bind fun bt317 => (if bt317.1 = true then (if (x314002.length : Int) > 0 then ((spec_l1Below.f x1000 bt317.2.1 bt317.2.2 (x314002.length : Int)).bind fun bt320 => ((some (([] : List Int) : List Int)).bind fun y323 => (if 0 ≤ bt320.1 then (if bt320.1 ≤ (x314002.length : Int) then ((some (x314002.take (bt320.1 : Int).toNat : List Int)).bind fun y326 => (if y323.length + y326.length < 17592186044416 then ((some (y323 ++ y326 : List Int)).bind fun y330 => (if 0 ≤ (wrap64 (bt320.1 + 1)) then (if (wrap64 (bt320.1 + 1)) ≤ (x314002.length : Int) then ((some (x314002.drop ((wrap64 (bt320.1 + 1)) : Int).toNat : List Int)).bind fun y333 => (if y330.length + y333.length < 17592186044416 then (some (x314000, x314001, (y330 ++ y333), bt320.2.1, bt320.2.2)) else (none))) else (none)) else (none))) else (none))) else (none)) else (none)))) else (some (x314000, x314001, x314002, bt317.2.1, bt317.2.2))) else (some (x314000, x314001, x314002, bt317.2.1, bt317.2.2))))
def spec_l7DrawOf.f (k : Nat) (s0_0 : List Int) (s0_1 : Int) (s0_2 : Int) (a1_0 : Int) (a1_1 : Int) (a2 : ByteArray) : Option (Int × ByteArray × List Int × Int × Int) := (spec_ViewOf.f k a2).bind fun t312 => (if a2.toList = ([] : List UInt8) then (some (t312, a2, ([] : List Int), s0_1, s0_2)) else (spec_l7DrawOf.l0 k 0 s0_0 s0_1 s0_2 a1_0 a1_1 t312 a2 ([] : List Int)))
theorem spec_l7DrawOf.mono_l : ∀ k, (∀ y0 y1 y2 y3 y4 y5 y6 y7 y8, LeO (spec_l7DrawOf.l0 k y0 y1 y2 y3 y4 y5 y6 y7 y8) (spec_l7DrawOf.l0 (k + 1) y0 y1 y2 y3 y4 y5 y6 y7 y8))
 | 0 => fun _ _ _ _ _ _ _ _ _ r h => by simp [spec_l7DrawOf.l0] at h
 | k + 1 => by
  have ih0 := spec_l7DrawOf.mono_l k
  intro y0 y1 y2 y3 y4 y5 y6 y7 y8
  unfold spec_l7DrawOf.l0
  repeat' first | (with_reducible exact ih0 _ _ _ _ _ _ _ _ _) | (with_reducible exact spec_ViewOf.mono _ _) | (with_reducible exact LeO.refl _) | (with_reducible exact LeO.none _) | (with_reducible refine LeO.ite ?_ ?_) | (with_reducible refine LeO.bind ?_ (fun _ => ?_))
theorem spec_l7DrawOf.mono : ∀ a0 a1 a2 a3 a4 a5 k, LeO (spec_l7DrawOf.f k a0 a1 a2 a3 a4 a5) (spec_l7DrawOf.f (k + 1) a0 a1 a2 a3 a4 a5) := by
 intro a0 a1 a2 a3 a4 a5 k
 have ih0 := spec_l7DrawOf.mono_l k
 unfold spec_l7DrawOf.f
 repeat' first | (with_reducible exact ih0 _ _ _ _ _ _ _ _ _) | (with_reducible exact spec_ViewOf.mono _ _) | (with_reducible exact LeO.refl _) | (with_reducible exact LeO.none _) | (with_reducible refine LeO.ite ?_ ?_) | (with_reducible refine LeO.bind ?_ (fun _ => ?_))
def spec_l7DrawOf.T10 : Bool × List (List Nat × List Nat) := (true, [([], []), ([], []), ([1], [1]), ([], []), ([2, 3], [2, 3]), ([0, 4], [0, 4]), ([], []), ([6], [6]), ([], []), ([8], [8]), ([7, 9], [7, 9]), ([5, 10, 5], [5, 10]), ([0, 1, 2, 3, 4, 5, 6, 7, 8, 9, 10, 11], []), ([12, 11, 11, 0, 1, 2, 3, 4, 5, 6, 7, 8, 9, 10, 11], [11, 12])])
def spec_l7DrawOf.B10 : List Nat := [0, 0, 2, 0, 14, 31, 0, 64, 0, 256, 960, 2047, 4095, 8191]
theorem spec_l7DrawOf.tab10 : rtab .any (opsOf Tryz.f189 10) = spec_l7DrawOf.T10 := by kernel_rfl
theorem spec_l7DrawOf.bits10 : waitsOk spec_l7DrawOf.T10.2 spec_l7DrawOf.B10 = true := by kernel_rfl
set_option maxHeartbeats 8000000 in
set_option maxRecDepth 100000 in
theorem spec_l7DrawOf.calls (k : Nat) (g : Nat) (s0_0 : List Int) (s0_1 : Int) (s0_2 : Int) (a1_0 : Int) (a1_1 : Int) (a2 : ByteArray) (r1 : Int) (r2 : ByteArray) (r3 : List Int) (r4 : Int) (r5 : Int) (w0 w : World) (hI : IsS188 w0 w g s0_0 s0_1 s0_2) (hB : Below w0.heap.size w0 w) (h : spec_l7DrawOf.f k s0_0 s0_1 s0_2 a1_0 a1_1 a2 = some (r1, r2, r3, r4, r5)) :
  Calls Tryz.prog 189 #[.pointer (some ⟨g, 0, none⟩), .agg #[.int .i64 a1_0, .int .i64 a1_1], .string a2] w fun e w' => ∃ v2_ : Value, e = .returned (.agg #[.int .i64 r1, .string r2, v2_]) ∧ Kd.R (Kd.int .i64) 3 w' w.heap.size (fun _ => True) v2_ r3 ∧ IsS188 w0 w' g s0_0 r4 r5 ∧ Below w0.heap.size w0 w' ∧ KeepBut w w' g none := by
 have hu32 := Tryz.underlying32; have hu27 := Tryz.underlying27; have HI0 := Aside0.mk hI; have HK := Aside0.mk (KeepBut.refl w g none); have HL := Aside0.mk hB.size; clear hI; have HW0 := Aside0.mk hB.size; have HB := Aside0.mk hB; clear hB
 have H := h; unfold spec_l7DrawOf.f at H
 clear h; obtain ⟨t312, A4, H⟩ := oB H; (try dsimp only at H)
 by_cases c5 : a2.toList = ([] : List UInt8)
 ·
  rw [if_pos c5] at H
  have c5b0 : (a2.toList == ([] : List UInt8)) = true := beq_iff_eq.mpr c5; have c5b1 : (a2.toList != ([] : List UInt8)) = false := bne_eq_false_iff_eq.mpr c5; clear c5
  simp only [Option.some.injEq, Prod.mk.injEq] at H
  obtain ⟨rfl, rfl, rfl, rfl, rfl⟩ := H
  go_enter Tryz.func189, Tryz.ntmps189
  go_wp2_with (first | ((with_reducible refine gate_dst (N := 4) rfl ?_); (try (refine gate_guard (by rfl) ?_; dsimp only)); refine box_event ?hg (N := 4) ?hd (cs := #[.int .i64 a1_0, .int .i64 a1_1]) (t := 32) ?hr ?_; (case hd => rfl); (case hg => rfl); (case hr => first | (go_simp; done) | (go_simp; rfl)); intro gb310 hg w6 hbox hb; replace HB : Aside0 (Below w0.heap.size w0 _) := Aside0.mk (below_step y0_5 hb); have BK310 := Aside0.mk (hbox); have GW310 := bh hg HK; have GJ310 := gi GW310; have GE310 := Aside0.mk ((Nat.le_trans HW0.out (y0_13 : w.heap.size ≤ gb310) : w0.heap.size ≤ gb310)); have GI310 := gi GE310; replace HK := kb HK hb; have NB0_310 := Aside0.mk ((by rw [hg]; exact Nat.ne_of_lt (IsS188.lt (show IsS188 w0 _ g s0_0 s0_1 s0_2 from y0_4)) : g ≠ gb310)); have NI0_310 := ni NB0_310; have NB310_0 := Aside0.mk ((by rw [hg]; exact Nat.ne_of_gt (IsS188.lt (show IsS188 w0 _ g s0_0 s0_1 s0_2 from y0_4)) : gb310 ≠ g)); have NI310_0 := ni NB310_0; replace HI0 := Aside0.mk (IsS188.below y0_4 hb); clear hb hbox hg) | ((with_reducible refine gate_dst (N := 6) rfl ?_); (try (refine gate_guard (by rfl) ?_; dsimp only)); refine box_event ?hg (N := 6) ?hd (cs := #[.int .i64 0, .string (⟨#[]⟩ : ByteArray), .slice none 0 0]) (t := 27) ?hr ?_; (case hd => rfl); (case hg => rfl); (case hr => first | (go_simp; done) | (go_simp; rfl)); intro gb311 hg w7 hbox hb; replace HB : Aside0 (Below w0.heap.size w0 _) := Aside0.mk (below_step y0_3 hb); have BK311 := Aside0.mk (hbox); have GW311 := bh hg HK; have GJ311 := gi GW311; have GE311 := Aside0.mk ((Nat.le_trans HW0.out (y0_13 : w.heap.size ≤ gb311) : w0.heap.size ≤ gb311)); have GI311 := gi GE311; replace HK := kb HK hb; have NB310_311 := b1 BK310 hg; have NI310_311 := ni NB310_311; have NB311_310 := b2 BK310 hg; have NI311_310 := ni NB311_310; replace BK310 := bk BK310 hb; have NB0_311 := Aside0.mk ((y0_0 : g ≠ gb311)); have NI0_311 := ni NB0_311; have NB311_0 := Aside0.mk ((y0_1 : gb311 ≠ g)); have NI311_0 := ni NB311_0; replace HI0 := Aside0.mk (IsS188.below y0_2 hb); clear hb hbox hg) | ((with_reducible refine gate_callee (f := 127) rfl ?_); refine gB (some 11) Tryz.func127 #[.string a2] ?_; (with_reducible refine (spec_ViewOf.calls k a2 t312 _ A4.out).mono ?_); rintro e w8 ⟨rfl, hb⟩; refine ⟨_, rfl, ?_⟩; replace BK310 := bk BK310 hb; replace BK311 := bk BK311 hb; replace HK := kb HK hb; replace HB : Aside0 (Below w0.heap.size w0 _) := Aside0.mk (below_step y0_3 hb); replace HI0 := Aside0.mk (IsS188.below y0_2 hb); (try clear hb); (try clear hb2); (try clear hk); (try clear hi)) | ((with_reducible refine gate_dst (N := 7) rfl ?_); (try (refine gate_guard (by rfl) ?_; dsimp only)); refine box_event ?hg (N := 7) ?hd (cs := #[.int .i64 0, .string (⟨#[]⟩ : ByteArray), .slice none 0 0]) (t := 27) ?hr ?_; (case hd => rfl); (case hg => rfl); (case hr => first | (go_simp; done) | (go_simp; rfl)); intro gb313 hg w9 hbox hb; replace HB : Aside0 (Below w0.heap.size w0 _) := Aside0.mk (below_step y0_3 hb); have BK313 := Aside0.mk (hbox); have GW313 := bh hg HK; have GJ313 := gi GW313; have GE313 := Aside0.mk ((Nat.le_trans HW0.out (y0_13 : w.heap.size ≤ gb313) : w0.heap.size ≤ gb313)); have GI313 := gi GE313; replace HK := kb HK hb; have NB310_313 := b1 BK310 hg; have NI310_313 := ni NB310_313; have NB313_310 := b2 BK310 hg; have NI313_310 := ni NB313_310; replace BK310 := bk BK310 hb; have NB311_313 := b1 BK311 hg; have NI311_313 := ni NB311_313; have NB313_311 := b2 BK311 hg; have NI313_311 := ni NB313_311; replace BK311 := bk BK311 hb; have NB0_313 := Aside0.mk ((y0_0 : g ≠ gb313)); have NI0_313 := ni NB0_313; have NB313_0 := Aside0.mk ((y0_1 : gb313 ≠ g)); have NI313_0 := ni NB313_0; replace HI0 := Aside0.mk (IsS188.below y0_2 hb); clear hb hbox hg; have hnb10 := NB313_310.out; have hnc10 := NB310_313.out; have hnb11 := NB313_311.out; have hnc11 := NB311_313.out; have hnb12 := NB313_0.out; have hnc12 := NB0_313.out; obtain ⟨hcz13_0, hcz13_1, hcz13_2, hfz13_0, hfz13_1, hfz13_2⟩ := cs3 BK313; have hnb14 := NB311_310.out; have hnc14 := NB310_311.out; have hnb15 := NB311_0.out; have hnc15 := NB0_311.out; obtain ⟨hcz16_0, hcz16_1, hcz16_2, hfz16_0, hfz16_1, hfz16_2⟩ := cs3 BK311))
  refine bodyPost_ret (results_cell_row rfl _ _ gb311 27 #[.int .i64 t312, .string a2, .slice none 0 0] (0, 0) _ rfl (pI BK311) Tryz.underlying27 rfl (by kernel_rfl)) rfl ?_
  exact ⟨_, y0_11, y0_7, y0_2, y0_3, hI HK.out⟩
 rw [if_neg c5] at H
 have c5b0 : (a2.toList == ([] : List UInt8)) = false := beq_eq_false_iff_ne.mpr c5; have c5b1 : (a2.toList != ([] : List UInt8)) = true := bne_iff_ne.mpr c5; have H' := Aside0.mk H; clear H
 go_enter Tryz.func189, Tryz.ntmps189
 go_wp2_with (first | ((with_reducible refine gate_dst (N := 4) rfl ?_); (try (refine gate_guard (by rfl) ?_; dsimp only)); refine box_event ?hg (N := 4) ?hd (cs := #[.int .i64 a1_0, .int .i64 a1_1]) (t := 32) ?hr ?_; (case hd => rfl); (case hg => rfl); (case hr => first | (go_simp; done) | (go_simp; rfl)); intro gb310 hg w17 hbox hb; replace HB : Aside0 (Below w0.heap.size w0 _) := Aside0.mk (below_step y0_5 hb); have BK310 := Aside0.mk (hbox); have GW310 := bh hg HK; have GJ310 := gi GW310; have GE310 := Aside0.mk ((Nat.le_trans HW0.out (y0_13 : w.heap.size ≤ gb310) : w0.heap.size ≤ gb310)); have GI310 := gi GE310; replace HK := kb HK hb; have NB0_310 := Aside0.mk ((by rw [hg]; exact Nat.ne_of_lt (IsS188.lt (show IsS188 w0 _ g s0_0 s0_1 s0_2 from y0_4)) : g ≠ gb310)); have NI0_310 := ni NB0_310; have NB310_0 := Aside0.mk ((by rw [hg]; exact Nat.ne_of_gt (IsS188.lt (show IsS188 w0 _ g s0_0 s0_1 s0_2 from y0_4)) : gb310 ≠ g)); have NI310_0 := ni NB310_0; replace HI0 := Aside0.mk (IsS188.below y0_4 hb); clear hb hbox hg) | ((with_reducible refine gate_dst (N := 6) rfl ?_); (try (refine gate_guard (by rfl) ?_; dsimp only)); refine box_event ?hg (N := 6) ?hd (cs := #[.int .i64 0, .string (⟨#[]⟩ : ByteArray), .slice none 0 0]) (t := 27) ?hr ?_; (case hd => rfl); (case hg => rfl); (case hr => first | (go_simp; done) | (go_simp; rfl)); intro gb311 hg w18 hbox hb; replace HB : Aside0 (Below w0.heap.size w0 _) := Aside0.mk (below_step y0_3 hb); have BK311 := Aside0.mk (hbox); have GW311 := bh hg HK; have GJ311 := gi GW311; have GE311 := Aside0.mk ((Nat.le_trans HW0.out (y0_13 : w.heap.size ≤ gb311) : w0.heap.size ≤ gb311)); have GI311 := gi GE311; replace HK := kb HK hb; have NB310_311 := b1 BK310 hg; have NI310_311 := ni NB310_311; have NB311_310 := b2 BK310 hg; have NI311_310 := ni NB311_310; replace BK310 := bk BK310 hb; have NB0_311 := Aside0.mk ((y0_0 : g ≠ gb311)); have NI0_311 := ni NB0_311; have NB311_0 := Aside0.mk ((y0_1 : gb311 ≠ g)); have NI311_0 := ni NB311_0; replace HI0 := Aside0.mk (IsS188.below y0_2 hb); clear hb hbox hg) | ((with_reducible refine gate_callee (f := 127) rfl ?_); refine gB (some 11) Tryz.func127 #[.string a2] ?_; (with_reducible refine (spec_ViewOf.calls k a2 t312 _ A4.out).mono ?_); rintro e w19 ⟨rfl, hb⟩; refine ⟨_, rfl, ?_⟩; replace BK310 := bk BK310 hb; replace BK311 := bk BK311 hb; replace HK := kb HK hb; replace HB : Aside0 (Below w0.heap.size w0 _) := Aside0.mk (below_step y0_3 hb); replace HI0 := Aside0.mk (IsS188.below y0_2 hb); (try clear hb); (try clear hb2); (try clear hk); (try clear hi)) | ((with_reducible refine gate_dst (N := 7) rfl ?_); (try (refine gate_guard (by rfl) ?_; dsimp only)); refine box_event ?hg (N := 7) ?hd (cs := #[.int .i64 0, .string (⟨#[]⟩ : ByteArray), .slice none 0 0]) (t := 27) ?hr ?_; (case hd => rfl); (case hg => rfl); (case hr => first | (go_simp; done) | (go_simp; rfl)); intro gb313 hg w20 hbox hb; replace HB : Aside0 (Below w0.heap.size w0 _) := Aside0.mk (below_step y0_3 hb); have BK313 := Aside0.mk (hbox); have GW313 := bh hg HK; have GJ313 := gi GW313; have GE313 := Aside0.mk ((Nat.le_trans HW0.out (y0_13 : w.heap.size ≤ gb313) : w0.heap.size ≤ gb313)); have GI313 := gi GE313; replace HK := kb HK hb; have NB310_313 := b1 BK310 hg; have NI310_313 := ni NB310_313; have NB313_310 := b2 BK310 hg; have NI313_310 := ni NB313_310; replace BK310 := bk BK310 hb; have NB311_313 := b1 BK311 hg; have NI311_313 := ni NB311_313; have NB313_311 := b2 BK311 hg; have NI313_311 := ni NB313_311; replace BK311 := bk BK311 hb; have NB0_313 := Aside0.mk ((y0_0 : g ≠ gb313)); have NI0_313 := ni NB0_313; have NB313_0 := Aside0.mk ((y0_1 : gb313 ≠ g)); have NI313_0 := ni NB313_0; replace HI0 := Aside0.mk (IsS188.below y0_2 hb); clear hb hbox hg; have hnb21 := NB313_310.out; have hnc21 := NB310_313.out; have hnb22 := NB313_311.out; have hnc22 := NB311_313.out; have hnb23 := NB313_0.out; have hnc23 := NB0_313.out; obtain ⟨hcz24_0, hcz24_1, hcz24_2, hfz24_0, hfz24_1, hfz24_2⟩ := cs3 BK313))
 go_loopg [8] k (fun kq v8 w' => ∃ (x8_1 : Int) (x314002_1 : List Int) (u314002 : Value), v8 = .int .i64 x8_1 ∧ Aside0 (spec_l7DrawOf.l0 kq x8_1 s0_0 s0_1 s0_2 a1_0 a1_1 t312 a2 x314002_1 = some (r1, r2, r3, r4, r5)) ∧ Aside0 (kq ≤ k) ∧ Aside0 (Kd.R (Kd.int .i64) 3 w' w.heap.size (fun _ => True) u314002 x314002_1) ∧ Aside0 (w'.heap[gb310]? = some (.cells #[.int .i64 a1_0, .int .i64 a1_1] 32 (0, 0))) ∧ Aside0 (w'.heap[gb311]? = some (.cells #[.int .i64 0, .string (⟨#[]⟩ : ByteArray), (.slice none 0 0)] 27 (0, 0))) ∧ Aside0 (w'.heap[gb313]? = some (.cells #[.int .i64 t312, .string a2, u314002] 27 (0, 0))) ∧ Aside0 (IsS188 w0 w' g s0_0 s0_1 s0_2) ∧ Aside0 (KeepBut w w' g none) ∧ Aside0 (Below w0.heap.size w0 w'))
 case atStart => exact ⟨(0), (([] : List Int)), (.slice none 0 0), y0_16, H', ⟨Nat.le_refl _⟩, ⟨y0_7⟩, ⟨gI BK310.out⟩, ⟨gI BK311.out⟩, ⟨pI BK313⟩, ⟨y0_2⟩, ⟨hI HK.out⟩, ⟨y0_3⟩⟩
 case round =>
  clear H'
  try clear c1
  try clear c2
  try clear p2
  try clear c5
  try clear c5b0
  try clear c5b1
  try clear c10
  try clear c11
  try clear c12
  try clear c14
  try clear c15
  try clear c18
  try clear c21
  try clear c22
  try clear c23
  try clear hcz13_0
  try clear hcz13_1
  try clear hcz13_2
  try clear hcz16_0
  try clear hcz16_1
  try clear hcz16_2
  try clear hcz24_0
  try clear hcz24_1
  try clear hcz24_2
  try clear hfz13_0
  try clear hfz13_1
  try clear hfz13_2
  try clear hfz16_0
  try clear hfz16_1
  try clear hfz16_2
  try clear hfz24_0
  try clear hfz24_1
  try clear hfz24_2
  obtain ⟨x8_1, x314002_1, u314002, rfl, HA, HK1, HO_314002, BK310, BK311, BK313, HI0, HK, HB⟩ := hrel; cases gk with
  | zero => exact absurd HA.out (by simp [spec_l7DrawOf.l0])
  | succ k1 =>
   have H := HA.out; clear HA
   simp only [spec_l7DrawOf.l0] at H
   by_cases c25 : x8_1 < a1_0
   ·
    rw [if_pos c25] at H
    have c25b0 : decide (x8_1 < a1_0) = true := decide_eq_true c25; clear c25
    by_cases c26 : x314002_1.length < 17592186044416
    rotate_left
    ·
     rw [if_neg c26] at H
     exact absurd H (by simp)
    rw [if_pos c26] at H
    have LMc26 := Aside0.mk c26; clear c26; obtain ⟨y314, hy314⟩ : ∃ y_ : List Int, y_ = (x314002_1 ++ [x8_1]) := ⟨_, rfl⟩
    replace H : (spec_l7DrawOf.l0 k1 (wrap64 (x8_1 + 1)) s0_0 s0_1 s0_2 a1_0 a1_1 t312 a2 y314) = some (r1, r2, r3, r4, r5) := by first | (rw [hy314]; with_reducible exact H) | (have H2_ := (Option.bind_some _ _).symm.trans H; rw [hy314]; with_reducible exact H2_) | (have H2_ := (Option.bind_some _ _).symm.trans H; with_reducible exact H2_) | with_reducible exact H | (rw [hy314]; exact H) | exact H
    have Ny314 := Aside0.mk hy314; clear hy314; have H' := Aside0.mk H; clear H; have hnb27 := NB310_311.out; have hnc27 := NB311_310.out; have hnb28 := NB310_313.out; have hnc28 := NB313_310.out; have hnb29 := NB310_0.out; have hnc29 := NB0_310.out; have hcz30_0 := bc0 BK310.out; have hcz30_1 := bc1 BK310.out; have hfz30_0 := blk_frozen BK310.out 0; have hfz30_1 := blk_frozen BK310.out 1; have hnb31 := NB313_311.out; have hnc31 := NB311_313.out; have hnb32 := NB313_0.out; have hnc32 := NB0_313.out; have hcz33_0 := bc0 BK313.out; have hcz33_1 := bc1 BK313.out; have hcz33_2 := bc2 BK313.out; have hfz33_0 := blk_frozen BK313.out 0; have hfz33_1 := blk_frozen BK313.out 1; have hfz33_2 := blk_frozen BK313.out 2
    go_wp2_with (first | ((with_reducible refine gate_builtin (b := .append) (xs := #[.tmp 24, .tmp 26]) rfl ?_); (try (refine gate_guard (by rfl) ?_; dsimp only)); at_builtin; refine Kd.R_append (Kd.int .i64) w.heap.size rfl (.tmp 24) (.tmp 26) 25 3 (.int .i64 0) 8 rfl Tryz.underlying25 info3 rfl (by decide) (by omega) u314002 x314002_1 x8_1 [.int .i64 x8_1] (fun _ => True) (fun _ => False) rfl rfl ?aP (fun _ hk => hk.elim) ?aF ?aO (Below.refl _ _) ?aS ?aL ?_; (case aP => exact rfl); (case aF => exact (fun _ _ => trivial)); (case aO => exact (rI HO_314002.out)); (case aS => exact (keep_size (w := w) (g := g) (row := none) (hI HK.out))); (case aL => have := LMc26.out; omega); intro v315 w34 ho hb hg hat; rw [← Ny314.out] at ho; have n0_ := bn BK310 hg (Kd.R_ne HO_314002.out BK310.out (by decide)); have n1_ := bn BK311 hg (Kd.R_ne HO_314002.out BK311.out (by decide)); have n2_ := bn BK313 hg (Kd.R_ne HO_314002.out BK313.out (by decide)); have n3_ := Aside0.mk (IsS188.grown y0_2 hg (IsS188.own_ne HI0.out HO_314002.out (by decide))); have n4_ := Aside0.mk (below_weaken y0_3 HL.out hb); have n5_ := Aside0.mk (KeepBut.trans (hI HK.out) (KeepBut.of_grown hg g) (Kd.R_base2 HO_314002.out)); have n6_ := Aside0.mk (ho); clear BK310; clear BK311; clear BK313; clear HI0; clear HB; clear HK; clear HO_314002; have BK310 := n0_; have BK311 := n1_; have BK313 := n2_; have HI0 := n3_; have HB := n4_; have HK := n5_; have HO316 := n6_; clear n0_ n1_ n2_ n3_ n4_ n5_ n6_; clear ho hb hg hat; obtain ⟨Ao35, co35, eo35⟩ := Kd.R_slice HO316.out; subst eo35; obtain ⟨hcz36_0, hcz36_1, hcz36_2, hfz36_0, hfz36_1, hfz36_2⟩ := cs3 BK313))
    go_roundg k1
    case measure => have := HK1.out; omega
    case rel => exact ⟨(wrap64 (x8_1 + 1)), (y314), (.slice Ao35 y314.length co35), y0_16, H', ⟨y0_18⟩, ⟨by (with_reducible repeat (first | apply Kd.R_alloc | apply Kd.R_drewN | apply Kd.R_drew)); exact Kd.R_mono (Kd.R_far (p := ⟨gb313, 2, none⟩) (Kd.R_types HO316.out BK313.out (by decide)) (fun _ hk => hk.2) (.slice Ao35 y314.length co35)) (fun _ hk => trivial)⟩, ⟨gI BK310.out⟩, ⟨gI BK311.out⟩, ⟨pI BK313⟩, ⟨y0_2⟩, ⟨hI HK.out⟩, ⟨y0_3⟩⟩
   rw [if_neg c25] at H
   have c25b0 : decide (x8_1 < a1_0) = false := decide_eq_false c25; clear c25; obtain ⟨⟨t317, t318, t319⟩, A37, H⟩ := oB H; (try dsimp only at H)
   by_cases c38 : t317 = true
   ·
    subst c38
    rw [if_pos rfl] at H
    by_cases c39 : (x314002_1.length : Int) > 0
    ·
     rw [if_pos c39] at H
     have c39b0 : decide (0 < (x314002_1.length : Int)) = true := decide_eq_true c39
     have c39b1 : decide (0 < x314002_1.length) = true := decide_eq_true (by omega)
     clear c39; obtain ⟨⟨t320, t321, t322⟩, A40, H⟩ := oB H; (try dsimp only at H); obtain ⟨y323, hy323⟩ : ∃ y_ : List Int, y_ = (([] : List Int)) := ⟨_, rfl⟩
     replace H : (if 0 ≤ t320 then (if t320 ≤ (x314002_1.length : Int) then ((some (x314002_1.take (t320 : Int).toNat : List Int)).bind fun y326 => (if y323.length + y326.length < 17592186044416 then ((some (y323 ++ y326 : List Int)).bind fun y330 => (if 0 ≤ (wrap64 (t320 + 1)) then (if (wrap64 (t320 + 1)) ≤ (x314002_1.length : Int) then ((some (x314002_1.drop ((wrap64 (t320 + 1)) : Int).toNat : List Int)).bind fun y333 => (if y330.length + y333.length < 17592186044416 then (some (t312, a2, (y330 ++ y333), t321, t322)) else (none))) else (none)) else (none))) else (none))) else (none)) else (none)) = some (r1, r2, r3, r4, r5) := by first | (rw [hy323]; with_reducible exact H) | (have H2_ := (Option.bind_some _ _).symm.trans H; rw [hy323]; with_reducible exact H2_) | (have H2_ := (Option.bind_some _ _).symm.trans H; with_reducible exact H2_) | with_reducible exact H | (rw [hy323]; exact H) | exact H
     have Ny323 := Aside0.mk hy323; clear hy323
     by_cases c41 : 0 ≤ t320
     rotate_left
     ·
      rw [if_neg c41] at H
      exact absurd H (by simp)
     rw [if_pos c41] at H
     have c41b0 := eq_true c41; have c41b1 : decide (0 ≤ t320) = true := decide_eq_true c41; clear c41
     by_cases c42 : t320 ≤ (x314002_1.length : Int)
     rotate_left
     ·
      rw [if_neg c42] at H
      exact absurd H (by simp)
     rw [if_pos c42] at H
     have c42b0 := eq_true c42; have c42b1 : decide (t320 ≤ (x314002_1.length : Int)) = true := decide_eq_true c42; clear c42; obtain ⟨y326, hy326⟩ : ∃ y_ : List Int, y_ = (x314002_1.take (t320 : Int).toNat) := ⟨_, rfl⟩
     replace H : (if y323.length + y326.length < 17592186044416 then ((some (y323 ++ y326 : List Int)).bind fun y330 => (if 0 ≤ (wrap64 (t320 + 1)) then (if (wrap64 (t320 + 1)) ≤ (x314002_1.length : Int) then ((some (x314002_1.drop ((wrap64 (t320 + 1)) : Int).toNat : List Int)).bind fun y333 => (if y330.length + y333.length < 17592186044416 then (some (t312, a2, (y330 ++ y333), t321, t322)) else (none))) else (none)) else (none))) else (none)) = some (r1, r2, r3, r4, r5) := by first | (rw [hy326]; with_reducible exact H) | (have H2_ := (Option.bind_some _ _).symm.trans H; rw [hy326]; with_reducible exact H2_) | (have H2_ := (Option.bind_some _ _).symm.trans H; with_reducible exact H2_) | with_reducible exact H | (rw [hy326]; exact H) | exact H
     have Ny326 := Aside0.mk hy326; clear hy326
     by_cases c43 : y323.length + y326.length < 17592186044416
     rotate_left
     ·
      rw [if_neg c43] at H
      exact absurd H (by simp)
     rw [if_pos c43] at H
     have LMc43 := Aside0.mk c43; clear c43; obtain ⟨y330, hy330⟩ : ∃ y_ : List Int, y_ = (y323 ++ y326) := ⟨_, rfl⟩
     replace H : (if 0 ≤ (wrap64 (t320 + 1)) then (if (wrap64 (t320 + 1)) ≤ (x314002_1.length : Int) then ((some (x314002_1.drop ((wrap64 (t320 + 1)) : Int).toNat : List Int)).bind fun y333 => (if y330.length + y333.length < 17592186044416 then (some (t312, a2, (y330 ++ y333), t321, t322)) else (none))) else (none)) else (none)) = some (r1, r2, r3, r4, r5) := by first | (rw [hy330]; with_reducible exact H) | (have H2_ := (Option.bind_some _ _).symm.trans H; rw [hy330]; with_reducible exact H2_) | (have H2_ := (Option.bind_some _ _).symm.trans H; with_reducible exact H2_) | with_reducible exact H | (rw [hy330]; exact H) | exact H
     have Ny330 := Aside0.mk hy330; clear hy330; obtain ⟨ji44, hji44⟩ : ∃ j_ : Int, (wrap64 (t320 + 1)) = j_ := ⟨_, rfl⟩
     replace H : (if 0 ≤ (ji44) then (if (ji44) ≤ (x314002_1.length : Int) then ((some (x314002_1.drop ((ji44) : Int).toNat : List Int)).bind fun y333 => (if y330.length + y333.length < 17592186044416 then (some (t312, a2, (y330 ++ y333), t321, t322)) else (none))) else (none)) else (none)) = some (r1, r2, r3, r4, r5) := by first | (rw [hji44] at H; exact H) | (simp only [hji44] at H ⊢; exact H)
     (try rw [hji44] at A37)
     (try rw [hji44] at A40)
     have hji44w : (IntKind.i64.wrap (t320 + 1)) = ji44 := (i64_w _).trans hji44
     by_cases c45 : 0 ≤ (ji44)
     rotate_left
     ·
      rw [if_neg c45] at H
      exact absurd H (by simp)
     rw [if_pos c45] at H
     have c45b0 := eq_true c45; have c45b1 : decide (0 ≤ (ji44)) = true := decide_eq_true c45; clear c45
     by_cases c46 : (ji44) ≤ (x314002_1.length : Int)
     rotate_left
     ·
      rw [if_neg c46] at H
      exact absurd H (by simp)
     rw [if_pos c46] at H
     have c46b0 := eq_true c46; have c46b1 : decide ((ji44) ≤ (x314002_1.length : Int)) = true := decide_eq_true c46; clear c46; obtain ⟨y333, hy333⟩ : ∃ y_ : List Int, y_ = (x314002_1.drop ((ji44) : Int).toNat) := ⟨_, rfl⟩
     replace H : (if y330.length + y333.length < 17592186044416 then (some (t312, a2, (y330 ++ y333), t321, t322)) else (none)) = some (r1, r2, r3, r4, r5) := by first | (rw [hy333]; with_reducible exact H) | (have H2_ := (Option.bind_some _ _).symm.trans H; rw [hy333]; with_reducible exact H2_) | (have H2_ := (Option.bind_some _ _).symm.trans H; with_reducible exact H2_) | with_reducible exact H | (rw [hy333]; exact H) | exact H
     have Ny333 := Aside0.mk hy333; clear hy333
     by_cases c47 : y330.length + y333.length < 17592186044416
     rotate_left
     ·
      rw [if_neg c47] at H
      exact absurd H (by simp)
     rw [if_pos c47] at H
     have LMc47 := Aside0.mk c47; clear c47; obtain ⟨y337, hy337⟩ : ∃ y_ : List Int, y_ = (y330 ++ y333) := ⟨_, rfl⟩
     replace H : (some (t312, a2, y337, t321, t322)) = some (r1, r2, r3, r4, r5) := by first | (rw [hy337]; with_reducible exact H) | (have H2_ := (Option.bind_some _ _).symm.trans H; rw [hy337]; with_reducible exact H2_) | (have H2_ := (Option.bind_some _ _).symm.trans H; with_reducible exact H2_) | with_reducible exact H | (rw [hy337]; exact H) | exact H
     have Ny337 := Aside0.mk hy337; clear hy337
     simp only [Option.some.injEq, Prod.mk.injEq] at H
     obtain ⟨rfl, rfl, rfl, rfl, rfl⟩ := H; have hnb48 := NB310_311.out; have hnc48 := NB311_310.out; have hnb49 := NB310_313.out; have hnc49 := NB313_310.out; have hnb50 := NB310_0.out; have hnc50 := NB0_310.out; have hcz51_0 := bc0 BK310.out; have hcz51_1 := bc1 BK310.out; have hfz51_0 := blk_frozen BK310.out 0; have hfz51_1 := blk_frozen BK310.out 1
     try go_wp2_with (first | ((with_reducible refine gate_callee (f := 128) rfl ?_); refine gB (some 30) Tryz.func128 #[.pointer (some ⟨g, 0, none⟩), .int .i64 2] ?_; (with_reducible refine (spec_l1Once.calls g s0_0 s0_1 s0_2 2 true t318 t319 w0 _ ?side1 ?side2 A37.out).mono ?_); (case side1 => repeat (first | (with_reducible first | exact HI0.out | apply IsS188.alloc | apply IsS188.drewN | apply IsS188.drew | apply IsS188.set_1 | apply IsS188.set_2 | refine IsS188.far ?_ NeI.out _) | exact HI0.out)); (case side2 => repeat (first | (with_reducible first | exact HB.out | apply below_alloc | apply pw_below_drewN | apply below_drew1 | refine below_set ?_ (IsS188.ge HI0.out) | refine below_set ?_ GeI.out) | exact HB.out)); rintro e w52 ⟨rfl, hi, hb, hk⟩; refine ⟨_, rfl, ?_⟩; replace HO_314002 := Aside0.mk (Kd.R_mono (Kd.R_keep (IsS188.apart (show IsS188 w0 _ g s0_0 s0_1 s0_2 from y0_2) (rI HO_314002.out) (by decide)) hk (fun _ h => h.2)) (fun _ h => h.1)); replace BK310 := bq BK310 hk NB310_0; replace BK311 := bq BK311 hk NB311_0; replace BK313 := bq BK313 hk NB313_0; replace HK := kt HK hk; replace HB := Aside0.mk (hb); replace HI0 := Aside0.mk (hi); (try clear hb); (try clear hb2); (try clear hk); (try clear hi); have hnb53 := NB313_311.out; have hnc53 := NB311_313.out; have hnb54 := NB313_0.out; have hnc54 := NB0_313.out; obtain ⟨hcz55_0, hcz55_1, hcz55_2, hfz55_0, hfz55_1, hfz55_2⟩ := cs3 BK313; obtain ⟨Ao56, co56, eo56⟩ := Kd.R_slice HO_314002.out; subst eo56) | ((with_reducible refine gate_callee (f := 150) rfl ?_); refine gB (some 41) Tryz.func150 #[.pointer (some ⟨g, 0, none⟩), .int .i64 (x314002_1.length : Int)] ?_; (with_reducible refine (spec_l1Below.calls g s0_0 t318 t319 (x314002_1.length : Int) t320 t321 t322 w0 _ ?side1 ?side2 A40.out).mono ?_); (case side1 => repeat (first | (with_reducible first | exact HI0.out | apply IsS188.alloc | apply IsS188.drewN | apply IsS188.drew | apply IsS188.set_1 | apply IsS188.set_2 | refine IsS188.far ?_ NeI.out _) | exact HI0.out)); (case side2 => repeat (first | (with_reducible first | exact HB.out | apply below_alloc | apply pw_below_drewN | apply below_drew1 | refine below_set ?_ (IsS188.ge HI0.out) | refine below_set ?_ GeI.out) | exact HB.out)); rintro e w57 ⟨rfl, hi, hb, hk⟩; refine ⟨_, rfl, ?_⟩; replace HO_314002 := Aside0.mk (Kd.R_mono (Kd.R_keep (IsS188.apart (show IsS188 w0 _ g s0_0 t318 t319 from y0_2) (rI HO_314002.out) (by decide)) hk (fun _ h => h.2)) (fun _ h => h.1)); replace BK310 := bq BK310 hk NB310_0; replace BK311 := bq BK311 hk NB311_0; replace BK313 := bq BK313 hk NB313_0; replace HK := kt HK hk; replace HB := Aside0.mk (hb); replace HI0 := Aside0.mk (hi); (try clear hb); (try clear hb2); (try clear hk); (try clear hi)))
     replace HO_314002 := Aside0.mk (Kd.R_drew HO_314002.out); replace BK310 := Aside0.mk (blk_drew BK310.out); replace BK311 := Aside0.mk (blk_drew BK311.out); replace BK313 := Aside0.mk (blk_drew BK313.out); replace HI0 := Aside0.mk (IsS188.drew HI0.out); replace HK := Aside0.mk (keep_drew HK.out); replace HB := Aside0.mk (below_drew1 HB.out); have q59 : (t320 : Int) ≤ ((x314002_1.length : Int) : Int) := of_decide_eq_true y0_15; obtain ⟨i059, hi059, _, hsz59, _⟩ := info_parts info3; have hroom59 : x314002_1.length ≤ co56 := (Kd.R_reads' HO_314002.out).2.1; have hC59 : Kd.C (Kd.int .i64) _ Ao56 x314002_1.length x314002_1 := (Kd.R_reads' HO_314002.out).2.2; have hcut59 := cut_to (P := Tryz.prog) 25 3 .i64 Tryz.underlying25 hi059 Ao56 x314002_1.length co56 t320 (of_decide_eq_true y0_15) q59 hroom59
     have hr59 := Kd.C_take (m := (t320 : Int).toNat) hC59 (by omega)
     have hy59 : y326.length = (t320 : Int).toNat := (by rw [Ny326.out, List.length_take]; omega)
     rw [← Ny326.out] at hr59
     rw [← hy59] at hcut59
     have HR329 := Aside0.mk hr59
     have HC329 := Aside0.mk (show y326.length ≤ co56 from by omega)
     clear hr59 hC59 hroom59 hi059 hsz59; have KY59 := Aside0.mk hy59; clear hy59
     have KL59 := Aside0.mk (show (t320 : Int).toNat ≤ x314002_1.length from by omega)
     replace q59 := eq_true q59; have q60 : ((ji44) : Int) ≤ ((x314002_1.length : Int) : Int) := of_decide_eq_true y0_15; obtain ⟨i060, hi060, _, hsz60, _⟩ := info_parts info3; have hroom60 : x314002_1.length ≤ co56 := (Kd.R_reads' HO_314002.out).2.1; have hC60 : Kd.C (Kd.int .i64) _ Ao56 x314002_1.length x314002_1 := (Kd.R_reads' HO_314002.out).2.2; have q060 : (0 : Int) ≤ ((ji44) : Int) := of_decide_eq_true y0_15; have hcut60 := cut_from (P := Tryz.prog) 25 3 .i64 Tryz.underlying25 hi060 1 hsz60 Ao56 x314002_1.length co56 (ji44) q060 q60
     have hr60 := Kd.C_drop (m := ((ji44) : Int).toNat) (c := co56) hC60 (by omega) hroom60
     obtain ⟨A60, hA60⟩ : ∃ A1, A1 = (if co56 = ((ji44) : Int).toNat then Ao56 else (Ao56 : Option Addr).map (·.add (((ji44) : Int).toNat * 1))) := ⟨_, rfl⟩
     obtain ⟨c60, hc60⟩ : ∃ c1, c1 = co56 - ((ji44) : Int).toNat := ⟨_, rfl⟩
     have hy60 : y333.length = x314002_1.length - ((ji44) : Int).toNat := (by rw [Ny333.out, List.length_drop] <;> omega)
     rw [show (x314002_1).drop ((ji44) : Int).toNat = y333 from Ny333.out.symm] at hr60
     replace hr60 : Kd.C (Kd.int .i64) _ A60 y333.length y333 := (by rw [hA60]; exact hr60)
     rw [← hy60, ← hA60, ← hc60] at hcut60
     have HR336 := Aside0.mk hr60
     have HC336 := Aside0.mk (show y333.length ≤ c60 from by rw [hy60, hc60]; exact Nat.sub_le_sub_right hroom60 _)
     clear hr60 hC60 hroom60 hi060 hsz60 hc60; have KY60 := Aside0.mk hy60; have KA60 := Aside0.mk hA60; clear hy60 hA60
     have KL60 := Aside0.mk (show ((ji44) : Int).toNat ≤ x314002_1.length from by omega)
     replace q60 := eq_true q60
     refine start_ (n := 14) (S := fun w' => w'.cell? ⟨gb313, 0, none⟩ = some (.int .i64 t312) ∧ w'.cell? ⟨gb313, 1, none⟩ = some (.string a2) ∧ w'.cell? ⟨gb313, 2, none⟩ = some (.slice Ao56 x314002_1.length co56)) (ds := [13]) #[false, false, false, false, false, false, false, false, false, false, false, false, false, false] (by kernel_rfl) rfl rfl ⟨bc0 BK313.out, bc1 BK313.out, bc2 BK313.out⟩ (fun hHeld => ?_); refine with_tabW spec_l7DrawOf.tab10 spec_l7DrawOf.bits10 (fun HT_ HW_ => ?_)
     generalize w57.drew = w58 at HO_314002 BK310 BK311 BK313 HI0 HK HB HR329 HR336 hHeld ⊢
     refine pA 1 (some 43) (bz 14 2) HT_ ?_
     refine pA 3 (some 45) (bz 14 10) HT_ ?_
     refine pA 6 (some 48) (bz 14 74) HT_ ?_
     refine pA 8 (some 50) (bz 14 330) HT_ ?_
     refine pA 9 (some 51) (bz 14 842) HT_ ?_
     refine tA 2 (some 44) (bz 14 846) HT_ HW_ hHeld ?_
     refine pA 4 (some 46) (bz 14 862) HT_ ?_
     refine tA 7 (some 49) (bz 14 990) HT_ HW_ hHeld ?_
     refine pA 10 (some 52) (bz 14 2014) HT_ ?_
     refine oA 0 (some 42) (bz 14 2015) HT_ (fun K hK => ?_)
     refine Kd.R_lit_step (Kd.int .i64) _ 3 ?hg (N := 42) ?hd (xs := ([] : List Int)) (inner := []) (ok := fun _ => True) (okp := fun _ => True) ?hr ?hp (fun _ hk => hk) trivial (Below.refl _ _) (Nat.le_refl _) (by simp) ?_; (case hd => rfl); (case hg => rfl); (case hr => first | (go_simp; done) | (go_simp; rfl)); (case hp => exact (Reps.none _ _))
     intro v324 w61 ho62 hb hg_ hnew_
     clear hg_ hnew_
     (first | rw [← Ny323.out] at ho62 | (simp only [Int.reduceToNat] at ho62; rw [← Ny323.out] at ho62))
     have HO325 := Aside0.mk (Kd.R_lower (Kd.R_new' ho62 (Kd.R_lt (rI HO_314002.out))) (keep_size (w := w) (g := g) (row := none) (hI HK.out))); replace HO_314002 := Aside0.mk (Kd.R_elder' (rI HO_314002.out) (Kd.R_base ho62) hb); replace BK310 := bk BK310 hb; replace BK311 := bk BK311 hb; replace BK313 := bk BK313 hb
     replace HR329 := Aside0.mk (Kd.C_below (by repeat (first | (with_reducible exact HR329.out) | (with_reducible refine Kd.C_alloc ?_ _) | (with_reducible refine Kd.C_drewN ?_ _) | (with_reducible refine Kd.C_drew ?_) | exact HR329.out)) hb)
     replace HR336 := Aside0.mk (Kd.C_below (by repeat (first | (with_reducible exact HR336.out) | (with_reducible refine Kd.C_alloc ?_ _) | (with_reducible refine Kd.C_drewN ?_ _) | (with_reducible refine Kd.C_drew ?_) | exact HR336.out)) hb)
     replace HK := kb HK hb; replace HB : Aside0 (Below w0.heap.size w0 _) := Aside0.mk (below_step y0_3 hb); replace HI0 := Aside0.mk (IsS188.below y0_2 hb); clear hb ho62
     refine hK.out _ _ ⟨bc0 BK313.out, bc1 BK313.out, bc2 BK313.out⟩ (fun hHeld => ?_)
     clear hK K
     refine nA (some 42) ?_
     refine oA 5 (some 47) (bz 14 2047) HT_ (fun K hK => ?_)
     refine Kd.R_append_rows_step (Kd.int .i64) w.heap.size (by rfl) (.tmp 42) (.tmp 46) 25 3 (.int .i64 0) 8 rfl Tryz.underlying25 info3 rfl (by decide) (by omega) v324 y323 y326 _ _ _ (fun k_ => some k_ ≠ (.slice Ao56 x314002_1.length co56 : Value).ownBlock) (fun _ => False) rfl rfl ?aO ?aR (fun _ _ h => h) (fun _ h => h.elim) ?aF (Below.refl _ _) ?aS ?aL ?_
     (case aR => repeat (first | exact (by repeat (first | (with_reducible exact HR329.out) | (with_reducible refine Kd.C_alloc ?_ _) | (with_reducible refine Kd.C_drewN ?_ _) | (with_reducible refine Kd.C_drew ?_) | exact HR329.out)) | (with_reducible refine Kd.C_alloc ?_ _) | (with_reducible refine Kd.C_drewN ?_ _) | (with_reducible refine Kd.C_drew ?_)))
     (case aF => exact (fun k_ hk => Kd.fresh' (Kd.R_lt (rI HO_314002.out)) k_ hk))
     (case aO => exact (rI (Kd.R_mono HO325.out (fun _ hk => hk.2))))
     (case aS => exact (keep_size (w := w) (g := g) (row := none) (hI HK.out)))
     (case aL => have := LMc43.out; omega)
     intro v331 w63 ho hb hg hat
     rw [← Ny330.out] at ho
     have n0_ := Aside0.mk (Kd.R_after (ok := (fun _ => True)) (rI HO_314002.out) hg hat)
     have n1_ := bn BK310 hg (Kd.R_ne HO325.out BK310.out (by decide))
     have n2_ := bn BK311 hg (Kd.R_ne HO325.out BK311.out (by decide))
     have n3_ := bn BK313 hg (Kd.R_ne HO325.out BK313.out (by decide))
     have n4_ := Aside0.mk (IsS188.grown y0_2 hg (IsS188.own_ne HI0.out HO325.out (by decide)))
     have n5_ := Aside0.mk (below_weaken y0_3 HL.out hb); have n6_ := Aside0.mk (KeepBut.trans (hI HK.out) (KeepBut.of_grown hg g) (Kd.R_base2 HO325.out))
     have n7_ := Aside0.mk ((show Kd.C (Kd.int .i64) w63 Ao56 y326.length y326 from by rw [Ny326.out]; exact Kd.C_take (m := (t320 : Int).toNat) ((Kd.R_reads' (Kd.R_after (ok := (fun _ => True)) (rI HO_314002.out) hg hat)).2.2) KL59.out))
     have n8_ := Aside0.mk ((show Kd.C (Kd.int .i64) w63 A60 y333.length y333 from by rw [Ny333.out, KA60.out]; exact Kd.C_drop (m := ((ji44) : Int).toNat) (c := co56) ((Kd.R_reads' (Kd.R_after (ok := (fun _ => True)) (rI HO_314002.out) hg hat)).2.2) KL60.out ((Kd.R_reads' (Kd.R_after (ok := (fun _ => True)) (rI HO_314002.out) hg hat)).2.1)))
     have n9_ := Aside0.mk (ho); clear HO_314002; clear BK310; clear BK311; clear BK313; clear HI0; clear HB; clear HK; clear HR329; clear HR336; clear HO325; have HO_314002 := n0_; have BK310 := n1_; have BK311 := n2_; have BK313 := n3_; have HI0 := n4_; have HB := n5_; have HK := n6_; have HR329 := n7_; have HR336 := n8_; have HO332 := n9_; clear n0_ n1_ n2_ n3_ n4_ n5_ n6_ n7_ n8_ n9_; clear ho hb hg hat
     refine hK.out _ _ ⟨bc0 BK313.out, bc1 BK313.out, bc2 BK313.out⟩ (fun hHeld => ?_)
     clear hK K
     refine nA (some 47) ?_
     refine oA 11 (some 53) (bz 14 4095) HT_ (fun K hK => ?_)
     refine Kd.R_append_rows_step (Kd.int .i64) w.heap.size (by rfl) (.tmp 47) (.tmp 52) 25 3 (.int .i64 0) 8 rfl Tryz.underlying25 info3 rfl (by decide) (by omega) v331 y330 y333 _ _ _ (fun k_ => some k_ ≠ (.slice Ao56 x314002_1.length co56 : Value).ownBlock) (fun _ => False) rfl rfl ?aO ?aR (fun _ _ h => h) (fun _ h => h.elim) ?aF (Below.refl _ _) ?aS ?aL ?_
     (case aR => repeat (first | exact (by repeat (first | (with_reducible exact HR336.out) | (with_reducible refine Kd.C_alloc ?_ _) | (with_reducible refine Kd.C_drewN ?_ _) | (with_reducible refine Kd.C_drew ?_) | exact HR336.out)) | (with_reducible refine Kd.C_alloc ?_ _) | (with_reducible refine Kd.C_drewN ?_ _) | (with_reducible refine Kd.C_drew ?_)))
     (case aF => exact (fun k_ hk => Kd.fresh' (Kd.R_lt (rI HO_314002.out)) k_ hk))
     (case aO => exact (rI HO332.out))
     (case aS => exact (keep_size (w := w) (g := g) (row := none) (hI HK.out)))
     (case aL => have := LMc47.out; omega)
     intro v338 w64 ho hb hg hat
     rw [← Ny337.out] at ho
     have n0_ := Aside0.mk (Kd.R_after (ok := (fun _ => True)) (rI HO_314002.out) hg hat)
     have n1_ := bn BK310 hg (Kd.R_ne HO332.out BK310.out (by decide))
     have n2_ := bn BK311 hg (Kd.R_ne HO332.out BK311.out (by decide))
     have n3_ := bn BK313 hg (Kd.R_ne HO332.out BK313.out (by decide))
     have n4_ := Aside0.mk (IsS188.grown y0_2 hg (IsS188.own_ne HI0.out HO332.out (by decide)))
     have n5_ := Aside0.mk (below_weaken y0_3 HL.out hb); have n6_ := Aside0.mk (KeepBut.trans (hI HK.out) (KeepBut.of_grown hg g) (Kd.R_base2 HO332.out))
     have n7_ := Aside0.mk ((show Kd.C (Kd.int .i64) w64 Ao56 y326.length y326 from by rw [Ny326.out]; exact Kd.C_take (m := (t320 : Int).toNat) ((Kd.R_reads' (Kd.R_after (ok := (fun _ => True)) (rI HO_314002.out) hg hat)).2.2) KL59.out))
     have n8_ := Aside0.mk ((show Kd.C (Kd.int .i64) w64 A60 y333.length y333 from by rw [Ny333.out, KA60.out]; exact Kd.C_drop (m := ((ji44) : Int).toNat) (c := co56) ((Kd.R_reads' (Kd.R_after (ok := (fun _ => True)) (rI HO_314002.out) hg hat)).2.2) KL60.out ((Kd.R_reads' (Kd.R_after (ok := (fun _ => True)) (rI HO_314002.out) hg hat)).2.1)))
     have n9_ := Aside0.mk (ho); clear HO_314002; clear BK310; clear BK311; clear BK313; clear HI0; clear HB; clear HK; clear HR329; clear HR336; clear HO332; have HO_314002 := n0_; have BK310 := n1_; have BK311 := n2_; have BK313 := n3_; have HI0 := n4_; have HB := n5_; have HK := n6_; have HR329 := n7_; have HR336 := n8_; have HO339 := n9_; clear n0_ n1_ n2_ n3_ n4_ n5_ n6_ n7_ n8_ n9_; clear ho hb hg hat; obtain ⟨Ao65, co65, eo65⟩ := Kd.R_slice HO339.out
     (first | subst eo65 | (injection eo65 with f1_ f2_ f3_; have f4_ := f1_.symm; have f5_ := f3_.symm; clear f1_ f2_ f3_; subst f4_; subst f5_))
     refine hK.out _ _ ⟨bc0 BK313.out, bc1 BK313.out, bc2 BK313.out⟩ (fun hHeld => ?_)
     clear hK K
     refine nA (some 53) ?_
     refine pA 12 (some 54) (bz 14 0x1fff) HT_ ?_
     refine last_ (i := 13) (N := none) #[true, true, true, true, true, true, true, true, true, true, true, true, true, true] rfl rfl (one_of HT_.out (by kernel_rfl)) (by decide) (fun K hK => ?_)
     have hs66 : w64.cell? ⟨gb313, 2, none⟩ = some (.slice Ao56 x314002_1.length co56) := bc2 BK313.out; have hfs66 := blk_frozen BK313.out 2; have hns66_0 := NB310_313.out; have hns66_1 := NB311_313.out; have hms66_0 := NB313_310.out; have hms66_1 := NB313_311.out
     refine skip_ (w1 := ?_) (by rfl) rfl ?_ ?_
     rotate_left
     ·
      go_simp
      rfl
     refine hK.out _ _ ?_
     clear hK K
     refine done_ (done_of HT_.out (by kernel_rfl)) ?_
     have hcz67_0 := bc0 BK313.out; have hcz67_1 := bc1 BK313.out; have hcz67_2 := bc2 BK313.out; have hfz67_0 := blk_frozen BK313.out 0; have hfz67_1 := blk_frozen BK313.out 1; have hfz67_2 := blk_frozen BK313.out 2; have hnb68 := NB311_0.out; have hnc68 := NB0_311.out; have hcz69_0 := bc0 BK311.out; have hcz69_1 := bc1 BK311.out; have hcz69_2 := bc2 BK311.out; have hfz69_0 := blk_frozen BK311.out 0; have hfz69_1 := blk_frozen BK311.out 1; have hfz69_2 := blk_frozen BK311.out 2
     try go_wp2
     refine bodyPost_ret (results_cell_row rfl _ _ gb311 27 #[.int .i64 t312, .string a2, .slice Ao65 y337.length co65] (0, 0) _ rfl (pI BK311) Tryz.underlying27 rfl (by kernel_rfl)) rfl ?_
     exact ⟨_, by first | rfl | (simp [errW_none, errW_some] <;> rfl) | (simp only [← hji44]; first | rfl | (simp [errW_none, errW_some] <;> rfl)) | (simp [*, errW_none, errW_some] <;> rfl), by (with_reducible repeat (first | apply Kd.R_alloc | apply Kd.R_drewN | apply Kd.R_drew)); exact Kd.R_mono (Kd.R_far (p := ⟨gb311, 2, none⟩) (Kd.R_far (p := ⟨gb311, 1, none⟩) (Kd.R_far (p := ⟨gb311, 0, none⟩) (Kd.R_far (p := ⟨gb313, 2, none⟩) (Kd.R_types (Kd.R_types HO339.out BK313.out (by decide)) BK311.out (by decide)) (fun _ hk => hk.1.2) (.slice Ao65 y337.length co65)) (fun _ hk => hk.2) (.int .i64 t312)) (fun _ hk => hk.2) (.string a2)) (fun _ hk => hk.2) (.slice Ao65 y337.length co65)) (fun _ hk => trivial), y0_2, y0_3, hI HK.out⟩
    rw [if_neg c39] at H
    have c39b0 : decide (0 < (x314002_1.length : Int)) = false := decide_eq_false c39
    have c39b1 : decide (0 < x314002_1.length) = false := decide_eq_false (by omega)
    clear c39
    simp only [Option.some.injEq, Prod.mk.injEq] at H
    obtain ⟨rfl, rfl, rfl, rfl, rfl⟩ := H; have hnb70 := NB310_311.out; have hnc70 := NB311_310.out; have hnb71 := NB310_313.out; have hnc71 := NB313_310.out; have hnb72 := NB310_0.out; have hnc72 := NB0_310.out; have hcz73_0 := bc0 BK310.out; have hcz73_1 := bc1 BK310.out; have hfz73_0 := blk_frozen BK310.out 0; have hfz73_1 := blk_frozen BK310.out 1
    go_wp2_with (first | ((with_reducible refine gate_callee (f := 128) rfl ?_); refine gB (some 30) Tryz.func128 #[.pointer (some ⟨g, 0, none⟩), .int .i64 2] ?_; (with_reducible refine (spec_l1Once.calls g s0_0 s0_1 s0_2 2 true t318 t319 w0 _ ?side1 ?side2 A37.out).mono ?_); (case side1 => repeat (first | (with_reducible first | exact HI0.out | apply IsS188.alloc | apply IsS188.drewN | apply IsS188.drew | apply IsS188.set_1 | apply IsS188.set_2 | refine IsS188.far ?_ NeI.out _) | exact HI0.out)); (case side2 => repeat (first | (with_reducible first | exact HB.out | apply below_alloc | apply pw_below_drewN | apply below_drew1 | refine below_set ?_ (IsS188.ge HI0.out) | refine below_set ?_ GeI.out) | exact HB.out)); rintro e w74 ⟨rfl, hi, hb, hk⟩; refine ⟨_, rfl, ?_⟩; replace HO_314002 := Aside0.mk (Kd.R_mono (Kd.R_keep (IsS188.apart (show IsS188 w0 _ g s0_0 s0_1 s0_2 from y0_2) (rI HO_314002.out) (by decide)) hk (fun _ h => h.2)) (fun _ h => h.1)); replace BK310 := bq BK310 hk NB310_0; replace BK311 := bq BK311 hk NB311_0; replace BK313 := bq BK313 hk NB313_0; replace HK := kt HK hk; replace HB := Aside0.mk (hb); replace HI0 := Aside0.mk (hi); (try clear hb); (try clear hb2); (try clear hk); (try clear hi); have hnb75 := NB313_311.out; have hnc75 := NB311_313.out; have hnb76 := NB313_0.out; have hnc76 := NB0_313.out; obtain ⟨hcz77_0, hcz77_1, hcz77_2, hfz77_0, hfz77_1, hfz77_2⟩ := cs3 BK313; obtain ⟨Ao78, co78, eo78⟩ := Kd.R_slice HO_314002.out; subst eo78; have hnb79 := NB311_0.out; have hnc79 := NB0_311.out; obtain ⟨hcz80_0, hcz80_1, hcz80_2, hfz80_0, hfz80_1, hfz80_2⟩ := cs3 BK311))
    refine bodyPost_ret (results_cell_row rfl _ _ gb311 27 #[.int .i64 t312, .string a2, .slice Ao78 x314002_1.length co78] (0, 0) _ rfl (pI BK311) Tryz.underlying27 rfl (by kernel_rfl)) rfl ?_
    exact ⟨_, y0_11, by (with_reducible repeat (first | apply Kd.R_alloc | apply Kd.R_drewN | apply Kd.R_drew)); exact Kd.R_mono (Kd.R_far (p := ⟨gb311, 2, none⟩) (Kd.R_far (p := ⟨gb311, 1, none⟩) (Kd.R_far (p := ⟨gb311, 0, none⟩) (Kd.R_types HO_314002.out BK311.out (by decide)) (fun _ hk => hk.2) (.int .i64 t312)) (fun _ hk => hk.2) (.string a2)) (fun _ hk => hk.2) (.slice Ao78 x314002_1.length co78)) (fun _ hk => trivial), y0_2, y0_3, hI HK.out⟩
   replace c38 := Bool.eq_false_iff.mpr c38; subst c38
   rw [if_neg (show ¬ (false = true) by decide)] at H
   simp only [Option.some.injEq, Prod.mk.injEq] at H
   obtain ⟨rfl, rfl, rfl, rfl, rfl⟩ := H; have hnb81 := NB310_311.out; have hnc81 := NB311_310.out; have hnb82 := NB310_313.out; have hnc82 := NB313_310.out; have hnb83 := NB310_0.out; have hnc83 := NB0_310.out; have hcz84_0 := bc0 BK310.out; have hcz84_1 := bc1 BK310.out; have hfz84_0 := blk_frozen BK310.out 0; have hfz84_1 := blk_frozen BK310.out 1
   go_wp2_with (first | ((with_reducible refine gate_callee (f := 128) rfl ?_); refine gB (some 30) Tryz.func128 #[.pointer (some ⟨g, 0, none⟩), .int .i64 2] ?_; (with_reducible refine (spec_l1Once.calls g s0_0 s0_1 s0_2 2 false t318 t319 w0 _ ?side1 ?side2 A37.out).mono ?_); (case side1 => repeat (first | (with_reducible first | exact HI0.out | apply IsS188.alloc | apply IsS188.drewN | apply IsS188.drew | apply IsS188.set_1 | apply IsS188.set_2 | refine IsS188.far ?_ NeI.out _) | exact HI0.out)); (case side2 => repeat (first | (with_reducible first | exact HB.out | apply below_alloc | apply pw_below_drewN | apply below_drew1 | refine below_set ?_ (IsS188.ge HI0.out) | refine below_set ?_ GeI.out) | exact HB.out)); rintro e w85 ⟨rfl, hi, hb, hk⟩; refine ⟨_, rfl, ?_⟩; replace HO_314002 := Aside0.mk (Kd.R_mono (Kd.R_keep (IsS188.apart (show IsS188 w0 _ g s0_0 s0_1 s0_2 from y0_2) (rI HO_314002.out) (by decide)) hk (fun _ h => h.2)) (fun _ h => h.1)); replace BK310 := bq BK310 hk NB310_0; replace BK311 := bq BK311 hk NB311_0; replace BK313 := bq BK313 hk NB313_0; replace HK := kt HK hk; replace HB := Aside0.mk (hb); replace HI0 := Aside0.mk (hi); (try clear hb); (try clear hb2); (try clear hk); (try clear hi); have hnb86 := NB313_311.out; have hnc86 := NB311_313.out; have hnb87 := NB313_0.out; have hnc87 := NB0_313.out; obtain ⟨hcz88_0, hcz88_1, hcz88_2, hfz88_0, hfz88_1, hfz88_2⟩ := cs3 BK313; have hnb89 := NB311_0.out; have hnc89 := NB0_311.out; obtain ⟨hcz90_0, hcz90_1, hcz90_2, hfz90_0, hfz90_1, hfz90_2⟩ := cs3 BK311; obtain ⟨Ao91, co91, eo91⟩ := Kd.R_slice HO_314002.out; subst eo91))
   refine bodyPost_ret (results_cell_row rfl _ _ gb311 27 #[.int .i64 t312, .string a2, .slice Ao91 x314002_1.length co91] (0, 0) _ rfl (pI BK311) Tryz.underlying27 rfl (by kernel_rfl)) rfl ?_
   exact ⟨_, y0_11, by (with_reducible repeat (first | apply Kd.R_alloc | apply Kd.R_drewN | apply Kd.R_drew)); exact Kd.R_mono (Kd.R_far (p := ⟨gb311, 2, none⟩) (Kd.R_far (p := ⟨gb311, 1, none⟩) (Kd.R_far (p := ⟨gb311, 0, none⟩) (Kd.R_types HO_314002.out BK311.out (by decide)) (fun _ hk => hk.2) (.int .i64 t312)) (fun _ hk => hk.2) (.string a2)) (fun _ hk => hk.2) (.slice Ao91 x314002_1.length co91)) (fun _ hk => trivial), y0_2, y0_3, hI HK.out⟩

/-! ### spec_SetHas: function 233 -/
def spec_SetHas.l0 : Nat → List Int → Int → Int → Option (Bool)
 | 0, _, _, _ => none
 | k + 1, x0, x1, x5 => if x5 < (x0.length : Int) then (if 0 ≤ x5 then (if (rd x0 x5) = x1 then (some true) else (spec_SetHas.l0 k x0 x1 (wrap64 (x5 + 1)))) else (none)) else (some false)
def spec_SetHas.f (k : Nat) (l0 : List Int) (a1 : Int) : Option (Bool) := spec_SetHas.l0 k l0 a1 0
theorem spec_SetHas.mono_l : ∀ k, (∀ y0 y1 y2, LeO (spec_SetHas.l0 k y0 y1 y2) (spec_SetHas.l0 (k + 1) y0 y1 y2))
 | 0 => fun _ _ _ r h => by simp [spec_SetHas.l0] at h
 | k + 1 => by
  have ih0 := spec_SetHas.mono_l k
  intro y0 y1 y2
  unfold spec_SetHas.l0
  repeat' first | (with_reducible exact ih0 _ _ _) | (with_reducible exact LeO.refl _) | (with_reducible exact LeO.none _) | (with_reducible refine LeO.ite ?_ ?_) | (with_reducible refine LeO.bind ?_ (fun _ => ?_))
theorem spec_SetHas.mono : ∀ a0 a1 k, LeO (spec_SetHas.f k a0 a1) (spec_SetHas.f (k + 1) a0 a1) := by
 intro a0 a1 k
 have ih0 := spec_SetHas.mono_l k
 unfold spec_SetHas.f
 repeat' first | (with_reducible exact ih0 _ _ _) | (with_reducible exact LeO.refl _) | (with_reducible exact LeO.none _) | (with_reducible refine LeO.ite ?_ ?_) | (with_reducible refine LeO.bind ?_ (fun _ => ?_))
set_option maxHeartbeats 8000000 in
set_option maxRecDepth 100000 in
theorem spec_SetHas.calls (k : Nat) (A0 : Option Addr) (c0 : Nat) (l0 : List Int) (a1 : Int) (r : Bool) (w : World) (hr0 : Kd.C (Kd.int .i64) w A0 l0.length l0) (hc0 : l0.length ≤ c0) (h : spec_SetHas.f k l0 a1 = some r) :
  Calls Tryz.prog 233 #[.slice A0 l0.length c0, .int .i64 a1] w fun e w' => e = .returned (.bool r) ∧ Drawn0 w w' := by
 have HR0 := Aside0.mk hr0; have HC0 := Aside0.mk hc0; clear hr0 hc0; have H := h; unfold spec_SetHas.f at H; clear h; have H' := Aside0.mk H; clear H
 go_enter Tryz.func233, Tryz.ntmps233
 go_wp2
 go_loopg [5] k (fun kq v5 w' => ∃ (x5_1 : Int), v5 = .int .i64 x5_1 ∧ Aside0 (spec_SetHas.l0 kq l0 a1 x5_1 = some r) ∧ Aside0 (kq ≤ k) ∧ Drawn0 w w')
 case atStart => exact ⟨(0), y0_16, H', ⟨Nat.le_refl _⟩, y0_14⟩
 case round =>
  clear H'
  try clear c2
  try clear p2
  obtain ⟨x5_1, rfl, HA, HK1, ⟨m1, rfl⟩⟩ := hrel; cases gk with
  | zero => exact absurd HA.out (by simp [spec_SetHas.l0])
  | succ k1 =>
   have H := HA.out; clear HA
   simp only [spec_SetHas.l0] at H
   by_cases c3 : x5_1 < (l0.length : Int)
   ·
    rw [if_pos c3] at H
    have c3b0 : decide (x5_1 < (l0.length : Int)) = true := decide_eq_true c3; clear c3
    by_cases c4 : 0 ≤ x5_1
    rotate_left
    ·
     rw [if_neg c4] at H
     exact absurd H (by simp)
    rw [if_pos c4] at H
    have c4b0 : decide (0 ≤ x5_1) = true := decide_eq_true c4; clear c4
    by_cases c5 : (rd l0 x5_1) = a1
    ·
     rw [if_pos c5] at H
     have c5b0 : ((rd l0 x5_1) == a1) = true := beq_iff_eq.mpr c5; have c5b1 : ((rd l0 x5_1) != a1) = false := bne_eq_false_iff_eq.mpr c5; clear c5; obtain rfl := Option.some.inj H; have p340 : 0 ≤ (x5_1 : Int) := of_decide_eq_true y0_15; have q340 : x5_1 < (l0.length : Int) := of_decide_eq_true y0_15; obtain ⟨ad340, e340, hx340_0⟩ := Kd.at_int HR0.out x5_1 p340 q340; cases e340; replace p340 := eq_true p340; replace q340 := eq_true q340
     go_wp2
     go_ret
     exact ⟨y0_16, y0_14⟩
    rw [if_neg c5] at H
    have c5b0 : ((rd l0 x5_1) == a1) = false := beq_eq_false_iff_ne.mpr c5; have c5b1 : ((rd l0 x5_1) != a1) = true := bne_iff_ne.mpr c5; have H' := Aside0.mk H; clear H; have p340 : 0 ≤ (x5_1 : Int) := of_decide_eq_true y0_15; have q340 : x5_1 < (l0.length : Int) := of_decide_eq_true y0_15; obtain ⟨ad340, e340, hx340_0⟩ := Kd.at_int HR0.out x5_1 p340 q340; cases e340; replace p340 := eq_true p340; replace q340 := eq_true q340
    go_wp2
    go_roundg k1
    case measure => have := HK1.out; omega
    case rel => exact ⟨(wrap64 (x5_1 + 1)), y0_16, H', ⟨y0_18⟩, y0_14⟩
   rw [if_neg c3] at H
   have c3b0 : decide (x5_1 < (l0.length : Int)) = false := decide_eq_false c3; clear c3; obtain rfl := Option.some.inj H
   go_wp2
   go_ret
   exact ⟨y0_16, y0_14⟩

end Go.Proofs.YtnpbopadajbopaaGreatDoor.PFnSafe
