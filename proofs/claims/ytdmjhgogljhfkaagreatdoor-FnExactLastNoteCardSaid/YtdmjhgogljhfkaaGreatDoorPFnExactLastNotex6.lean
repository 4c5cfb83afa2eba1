-- By a program of this session, out of the translation (the print of the kit, with turns of its own). Lean checks it.
import Derived.Test.YtdmjhgogljhfkaaGreatDoorPFnExactLastNotex0
import Derived.Test.YtdmjhgogljhfkaaGreatDoorPFnExactLastNotex1
import Derived.Test.YtdmjhgogljhfkaaGreatDoorPFnExactLastNotex5
namespace Go.Proofs.YtdmjhgogljhfkaaGreatDoor.PFnExactLastNote
open Go.RowKit Go.Proofs.YtdmjhgogljhfkaaGreatDoorW.PrintWords Go.Proofs.YtdmjhgogljhfkaaGreatDoorW.PrintLast Go.Proofs.YtdmjhgogljhfkaaGreatDoorW.PrintMore
attribute [local go_sem] max2_int min2_int max_two min_two max_three min_three max_four min_four   -- for this text's walks alone
attribute [local go_sem] cell_in frozen_in
set_option synthInstance.maxSize 1000000
set_option synthInstance.maxHeartbeats 2000000
set_option linter.unusedVariables false
set_option linter.unusedSimpArgs false

/-! ### spec_LastNote: function 7 -/
mutual
def spec_LastNote.l0 : Nat → List Int → Int → Int → Int → Int → Int → Int → ByteArray → List Int → ByteArray → Option (Int × Int × Int × ByteArray × List Int × ByteArray × Int)
 | 0, _, _, _, _, _, _, _, _, _, _ => none
 | k + 1, x1, x7, x280000, x280001, x290000, x290001, x290002, x290003, x290004, x290005 => (spec_GetNum.f k x1 x7).bind fun bt290 => (if bt290.2.2 = true then (if bt290.1 ≥ (wrap64 ((x1.length : Int) - bt290.2.1)) then (spec_LastNote.j1 k x1 x7 bt290.1 bt290.2.1 true x280000 x280001 x290000 x290001 x290002 x290003 x290004 x290005) else (if 0 ≤ (wrap64 (bt290.2.1 + bt290.1)) then (if (wrap64 (bt290.2.1 + bt290.1)) < (x1.length : Int) then (spec_LastNote.j1 k x1 x7 bt290.1 bt290.2.1 ((rd x1 (wrap64 (bt290.2.1 + bt290.1))) != 10) x280000 x280001 x290000 x290001 x290002 x290003 x290004 x290005) else (none)) else (none))) else (spec_LastNote.j1 k x1 x7 bt290.1 bt290.2.1 true x280000 x280001 x290000 x290001 x290002 x290003 x290004 x290005))
def spec_LastNote.j1 : Nat → List Int → Int → Int → Int → Bool → Int → Int → Int → Int → Int → ByteArray → List Int → ByteArray → Option (Int × Int × Int × ByteArray × List Int × ByteArray × Int)
 | 0, _, _, _, _, _, _, _, _, _, _, _, _, _ => none
 | k + 1, x1, x7, x8, x9, x39, x280000, x280001, x290000, x290001, x290002, x290003, x290004, x290005 => if x39 = true then (some (x290000, x290001, x290002, x290003, x290004, x290005, x7)) else (if 0 ≤ x9 then (if x9 ≤ (wrap64 (x9 + x8)) then (if (wrap64 (x9 + x8)) ≤ (x1.length : Int) then ((spec_SafeOf.f k x280000 x280001 ((x1.take ((wrap64 (x9 + x8)) : Int).toNat).drop (x9 : Int).toNat)).bind fun bt295 => (if bt295.2.2.2.2.2.2 = true then (spec_LastNote.l0 k x1 (wrap64 ((wrap64 (x9 + x8)) + 1)) x280000 x280001 bt295.1 bt295.2.1 bt295.2.2.1 bt295.2.2.2.1 bt295.2.2.2.2.1 bt295.2.2.2.2.2.1) else (some (x290000, x290001, x290002, x290003, x290004, x290005, x7)))) else (none)) else (none)) else (none))
end
def spec_LastNote.f (k : Nat) (a0_0 : Int) (a0_1 : Int) (l1 : List Int) : Option (Int × Int × Int × ByteArray × List Int × ByteArray × Int) := (spec_SafeNew.f).bind fun bt281 => (spec_LastNote.l0 k l1 0 a0_0 a0_1 bt281.1 bt281.2.1 bt281.2.2.1 bt281.2.2.2.1 bt281.2.2.2.2.1 bt281.2.2.2.2.2)
theorem spec_LastNote.mono_l : ∀ k, (∀ y0 y1 y2 y3 y4 y5 y6 y7 y8 y9, LeO (spec_LastNote.l0 k y0 y1 y2 y3 y4 y5 y6 y7 y8 y9) (spec_LastNote.l0 (k + 1) y0 y1 y2 y3 y4 y5 y6 y7 y8 y9)) ∧ (∀ y0 y1 y2 y3 y4 y5 y6 y7 y8 y9 y10 y11 y12, LeO (spec_LastNote.j1 k y0 y1 y2 y3 y4 y5 y6 y7 y8 y9 y10 y11 y12) (spec_LastNote.j1 (k + 1) y0 y1 y2 y3 y4 y5 y6 y7 y8 y9 y10 y11 y12))
 | 0 => ⟨fun _ _ _ _ _ _ _ _ _ _ r h => by simp [spec_LastNote.l0] at h, fun _ _ _ _ _ _ _ _ _ _ _ _ _ r h => by simp [spec_LastNote.j1] at h⟩
 | k + 1 => by
  obtain ⟨ih0, ih1⟩ := spec_LastNote.mono_l k
  refine ⟨?_, ?_⟩
  ·
   intro y0 y1 y2 y3 y4 y5 y6 y7 y8 y9
   unfold spec_LastNote.l0
   repeat' first | (with_reducible exact ih0 _ _ _ _ _ _ _ _ _ _) | (with_reducible exact ih1 _ _ _ _ _ _ _ _ _ _ _ _ _) | (with_reducible exact spec_GetNum.mono _ _ _) | (with_reducible exact spec_SafeOf.mono _ _ _ _) | (with_reducible exact LeO.refl _) | (with_reducible exact LeO.none _) | (with_reducible refine LeO.ite ?_ ?_) | (with_reducible refine LeO.bind ?_ (fun _ => ?_))
  intro y0 y1 y2 y3 y4 y5 y6 y7 y8 y9 y10 y11 y12
  unfold spec_LastNote.j1
  repeat' first | (with_reducible exact ih0 _ _ _ _ _ _ _ _ _ _) | (with_reducible exact ih1 _ _ _ _ _ _ _ _ _ _ _ _ _) | (with_reducible exact spec_GetNum.mono _ _ _) | (with_reducible exact spec_SafeOf.mono _ _ _ _) | (with_reducible exact LeO.refl _) | (with_reducible exact LeO.none _) | (with_reducible refine LeO.ite ?_ ?_) | (with_reducible refine LeO.bind ?_ (fun _ => ?_))
theorem spec_LastNote.mono : ∀ a0 a1 a2 k, LeO (spec_LastNote.f k a0 a1 a2) (spec_LastNote.f (k + 1) a0 a1 a2) := by
 intro a0 a1 a2 k
 obtain ⟨ih0, ih1⟩ := spec_LastNote.mono_l k
 unfold spec_LastNote.f
 repeat' first | (with_reducible exact ih0 _ _ _ _ _ _ _ _ _ _) | (with_reducible exact ih1 _ _ _ _ _ _ _ _ _ _ _ _ _) | (with_reducible exact spec_GetNum.mono _ _ _) | (with_reducible exact spec_SafeOf.mono _ _ _ _) | (with_reducible exact LeO.refl _) | (with_reducible exact LeO.none _) | (with_reducible refine LeO.ite ?_ ?_) | (with_reducible refine LeO.bind ?_ (fun _ => ?_))
def spec_LastNote.T6 : Bool × List (List Nat × List Nat) := (true, [([], []), ([], []), ([], []), ([], []), ([], []), ([3, 4], [3, 4]), ([1, 2, 5], [1, 2, 5]), ([0, 6], [0, 6]), ([7], [7]), ([8], [8]), ([8], [8]), ([], []), ([11, 9, 7, 0, 1, 2, 3, 4, 5, 6, 7, 8, 9, 11], [9, 11]), ([10, 12, 0, 1, 2, 3, 4, 5, 6, 7, 8, 9, 10, 11, 12], [10])])
def spec_LastNote.B6 : List Nat := [0, 0, 0, 0, 0, 24, 62, 127, 255, 511, 511, 0, 3071, 8191]
theorem spec_LastNote.tab6 : rtab .any (opsOf Tryz.f7 6) = spec_LastNote.T6 := by kernel_rfl
theorem spec_LastNote.bits6 : waitsOk spec_LastNote.T6.2 spec_LastNote.B6 = true := by kernel_rfl
set_option maxHeartbeats 8000000 in
set_option maxRecDepth 100000 in
theorem spec_LastNote.calls (k : Nat) (a0_0 : Int) (a0_1 : Int) (A1 : Option Addr) (c1 : Nat) (l1 : List Int) (r1 : Int) (r2 : Int) (r3 : Int) (r4 : ByteArray) (r5 : List Int) (r6 : ByteArray) (r7 : Int) (w : World) (hr1 : Kd.C (Kd.int .u8) w A1 l1.length l1) (hc1 : l1.length ≤ c1) (h : spec_LastNote.f k a0_0 a0_1 l1 = some (r1, r2, r3, r4, r5, r6, r7)) :
  Calls Tryz.prog 7 #[.agg #[.int .i64 a0_0, .int .i64 a0_1], .slice A1 l1.length c1] w fun e w' => ∃ v4_ : Value, e = .returned (.tuple #[.agg #[.int .i64 r1, .int .i64 r2, .int .i64 r3, .string r4, v4_, .string r6], .int .i64 r7]) ∧ Kd.R (Kd.int .i64) 3 w' w.heap.size (fun _ => True) v4_ r5 ∧ Below w.heap.size w w' := by
 have hu32 := Tryz.underlying32; have hu29 := Tryz.underlying29; have HR1 := Aside0.mk hr1; have HC1 := Aside0.mk hc1; clear hr1 hc1; have HB := Aside0.mk (Below.refl w.heap.size w)
 have H := h; unfold spec_LastNote.f at H
 clear h; obtain ⟨⟨t281, t282, t283, t284, t285, t288⟩, A3, H⟩ := oB H; (try dsimp only at H); have H' := Aside0.mk H; clear H
 go_enter Tryz.func7, Tryz.ntmps7
 go_wp2_with (first | ((with_reducible refine gate_dst (N := 2) rfl ?_); (try (refine gate_guard (by rfl) ?_; dsimp only)); refine box_event ?hg (N := 2) ?hd (cs := #[.int .i64 a0_0, .int .i64 a0_1]) (t := 32) ?hr ?_; (case hd => rfl); (case hg => rfl); (case hr => first | (go_simp; done) | (go_simp; rfl)); intro gb279 hg w4 hbox hb; have BK279 := Aside0.mk (hbox); have GW279 := bg hg HB; have GJ279 := gi GW279; have GE279 := GW279; replace HB := bs HB hb; clear hb hbox hg) | ((with_reducible refine gate_dst (N := 4) rfl ?_); (try (refine gate_guard (by rfl) ?_; dsimp only)); refine box_event ?hg (N := 4) ?hd (cs := #[.int .i64 0, .int .i64 0, .int .i64 0, .string (⟨#[]⟩ : ByteArray), .slice none 0 0, .string (⟨#[]⟩ : ByteArray)]) (t := 29) ?hr ?_; (case hd => rfl); (case hg => rfl); (case hr => first | (go_simp; done) | (go_simp; rfl)); intro gb280 hg w5 hbox hb; have BK280 := Aside0.mk (hbox); have GW280 := bg hg HB; have GJ280 := gi GW280; have GE280 := GW280; replace HB := bs HB hb; have NB279_280 := b1 BK279 hg; have NI279_280 := ni NB279_280; have NB280_279 := b2 BK279 hg; have NI280_279 := ni NB280_279; replace BK279 := bk BK279 hb; clear hb hbox hg) | ((with_reducible refine gate_callee (f := 71) rfl ?_); refine gB (some 13) Tryz.func71 #[] ?_; (with_reducible refine (spec_SafeNew.calls  t281 t282 t283 t284 t285 t288 _ A3.out).mono ?_); rintro e w6 ⟨v286, rfl, ho0, hb⟩; refine ⟨_, rfl, ?_⟩; have HO287 := Aside0.mk (Kd.R_lower ho0 (below_size (bI HB.out))); replace BK279 := bk BK279 hb; replace BK280 := bk BK280 hb; replace HB := bs HB hb; (try clear hb); (try clear ho0)) | ((with_reducible refine gate_dst (N := 6) rfl ?_); (try (refine gate_guard (by rfl) ?_; dsimp only)); refine box_event ?hg (N := 6) ?hd (cs := #[.int .i64 0, .int .i64 0, .int .i64 0, .string (⟨#[]⟩ : ByteArray), .slice none 0 0, .string (⟨#[]⟩ : ByteArray)]) (t := 29) ?hr ?_; (case hd => rfl); (case hg => rfl); (case hr => first | (go_simp; done) | (go_simp; rfl)); intro gb289 hg w7 hbox hb; replace HO287 := rb HO287 hb; have BK289 := Aside0.mk (hbox); have GW289 := bg hg HB; have GJ289 := gi GW289; have GE289 := GW289; replace HB := bs HB hb; have NB279_289 := b1 BK279 hg; have NI279_289 := ni NB279_289; have NB289_279 := b2 BK279 hg; have NI289_279 := ni NB289_279; replace BK279 := bk BK279 hb; have NB280_289 := b1 BK280 hg; have NI280_289 := ni NB280_289; have NB289_280 := b2 BK280 hg; have NI289_280 := ni NB289_280; replace BK280 := bk BK280 hb; clear hb hbox hg; have hnb8 := NB289_279.out; have hnc8 := NB279_289.out; have hnb9 := NB289_280.out; have hnc9 := NB280_289.out; have hcz10_0 := bc0 BK289.out; have hcz10_1 := bc1 BK289.out; have hcz10_2 := bc2 BK289.out; have hcz10_3 := bc3 BK289.out; have hcz10_4 := bc4 BK289.out; have hcz10_5 := bc5 BK289.out; have hfz10_0 := blk_frozen BK289.out 0; have hfz10_1 := blk_frozen BK289.out 1; have hfz10_2 := blk_frozen BK289.out 2; have hfz10_3 := blk_frozen BK289.out 3; have hfz10_4 := blk_frozen BK289.out 4; have hfz10_5 := blk_frozen BK289.out 5; obtain ⟨Ao11, co11, eo11⟩ := Kd.R_slice HO287.out; subst eo11))
 go_loopg [7] k (fun kq v7 w' => ∃ (x7_1 : Int) (x281000_1 : Int) (x281001_1 : Int) (x281002_1 : Int) (x281003_1 : ByteArray) (x281005_1 : ByteArray) (x290000_1 : Int) (x290001_1 : Int) (x290002_1 : Int) (x290003_1 : ByteArray) (x290004_1 : List Int) (x290005_1 : ByteArray) (u290004 : Value), v7 = .int .i64 x7_1 ∧ Aside0 (spec_LastNote.l0 kq l1 x7_1 a0_0 a0_1 x290000_1 x290001_1 x290002_1 x290003_1 x290004_1 x290005_1 = some (r1, r2, r3, r4, r5, r6, r7)) ∧ Aside0 (kq ≤ k) ∧ Aside0 (Kd.R (Kd.int .i64) 3 w' w.heap.size (fun _ => True) u290004 x290004_1) ∧ Aside0 (w'.heap[gb279]? = some (.cells #[.int .i64 a0_0, .int .i64 a0_1] 32 (0, 0))) ∧ Aside0 (w'.heap[gb280]? = some (.cells #[.int .i64 x281000_1, .int .i64 x281001_1, .int .i64 x281002_1, .string x281003_1, (.slice none 0 0), .string x281005_1] 29 (0, 0))) ∧ Aside0 (w'.heap[gb289]? = some (.cells #[.int .i64 x290000_1, .int .i64 x290001_1, .int .i64 x290002_1, .string x290003_1, u290004, .string x290005_1] 29 (0, 0))) ∧ Aside0 (Below w.heap.size w w'))
 case atStart => exact ⟨(0), (0), (0), (0), ((⟨#[]⟩ : ByteArray)), ((⟨#[]⟩ : ByteArray)), (t281), (t282), (t283), (t284), (t285), (t288), (.slice Ao11 t285.length co11), y0_17, H', ⟨Nat.le_refl _⟩, ⟨by (with_reducible repeat (first | apply Kd.R_alloc | apply Kd.R_drewN | apply Kd.R_drew)); exact Kd.R_mono (Kd.R_far (p := ⟨gb289, 5, none⟩) (Kd.R_far (p := ⟨gb289, 4, none⟩) (Kd.R_far (p := ⟨gb289, 3, none⟩) (Kd.R_far (p := ⟨gb289, 2, none⟩) (Kd.R_far (p := ⟨gb289, 1, none⟩) (Kd.R_far (p := ⟨gb289, 0, none⟩) (Kd.R_types HO287.out BK289.out (by decide)) (fun _ hk => hk.2) (.int .i64 t281)) (fun _ hk => hk.2) (.int .i64 t282)) (fun _ hk => hk.2) (.int .i64 t283)) (fun _ hk => hk.2) (.string t284)) (fun _ hk => hk.2) (.slice Ao11 t285.length co11)) (fun _ hk => hk.2) (.string t288)) (fun _ hk => trivial)⟩, ⟨gI BK279.out⟩, ⟨gI BK280.out⟩, ⟨pI BK289⟩, ⟨bI HB.out⟩⟩
 case round =>
  clear H'
  try clear c1
  try clear p2
  try clear c7
  try clear c8
  try clear c9
  try clear hcz10_0
  try clear hcz10_1
  try clear hcz10_2
  try clear hcz10_3
  try clear hcz10_4
  try clear hcz10_5
  try clear hfz10_0
  try clear hfz10_1
  try clear hfz10_2
  try clear hfz10_3
  try clear hfz10_4
  try clear hfz10_5
  obtain ⟨x7_1, x281000_1, x281001_1, x281002_1, x281003_1, x281005_1, x290000_1, x290001_1, x290002_1, x290003_1, x290004_1, x290005_1, u290004, rfl, HA, HK1, HO_290004, BK279, BK280, BK289, HB⟩ := hrel; cases gk with
  | zero => exact absurd HA.out (by simp [spec_LastNote.l0])
  | succ k1 =>
   have H := HA.out; clear HA
   simp only [spec_LastNote.l0] at H
   obtain ⟨⟨t290, t291, t292⟩, A12, H⟩ := oB H; (try dsimp only at H); have HC13 := Aside0.mk H; clear H
   go_upto_region 4 with (first | ((with_reducible refine gate_callee (f := 72) rfl ?_); refine gB (some 17) Tryz.func72 #[.slice A1 l1.length c1, .int .i64 x7_1] ?_; (with_reducible refine (spec_GetNum.calls k1 _ _ l1 x7_1 t290 t291 t292 _ ?side1 ?side2 A12.out).mono ?_); (case side1 => exact ch HR1 HB); (case side2 => exact HC1.out); rintro e w' ⟨rfl, ⟨nd, rfl⟩⟩; refine ⟨_, rfl, ?_⟩))
   (try simp only [Act.put, List.setIfInBounds_toArray, List.set_cons_zero, List.set_cons_succ])
   go_cut [39] (fun v39 wc => ∃ (kq : Nat) (x39_12 : Bool), v39 = .bool x39_12 ∧ Aside0 (spec_LastNote.j1 kq l1 x7_1 t290 t291 x39_12 a0_0 a0_1 x290000_1 x290001_1 x290002_1 x290003_1 x290004_1 x290005_1 = some (r1, r2, r3, r4, r5, r6, r7)) ∧ Aside0 (kq ≤ k1) ∧ Aside0 (Kd.R (Kd.int .i64) 3 wc w.heap.size (fun _ => True) u290004 x290004_1) ∧ Aside0 (wc.heap[gb279]? = some (.cells #[.int .i64 a0_0, .int .i64 a0_1] 32 (0, 0))) ∧ Aside0 (wc.heap[gb280]? = some (.cells #[.int .i64 x281000_1, .int .i64 x281001_1, .int .i64 x281002_1, .string x281003_1, (.slice none 0 0), .string x281005_1] 29 (0, 0))) ∧ Aside0 (wc.heap[gb289]? = some (.cells #[.int .i64 x290000_1, .int .i64 x290001_1, .int .i64 x290002_1, .string x290003_1, u290004, .string x290005_1] 29 (0, 0))) ∧ Aside0 (Below w.heap.size w wc))
   case first =>
    have H := HC13.out; clear HC13
    by_cases c14 : t292 = true
    ·
     subst c14
     rw [if_pos rfl] at H
     by_cases c15 : t290 ≥ (wrap64 ((l1.length : Int) - t291))
     ·
      rw [if_pos c15] at H
      have c15b0 : decide ((wrap64 ((l1.length : Int) - t291)) ≤ t290) = true := decide_eq_true c15; clear c15
      (first | rw [c15b0] | (simp only [i64_w, i32_w]; rw [c15b0]) | skip)
      have H' := Aside0.mk H; clear H
      go_wp2
      go_meet
      case rel => exact ⟨_, (true), y0_17, H', ⟨y0_15⟩, ⟨y0_7⟩, ⟨gI BK279.out⟩, ⟨gI BK280.out⟩, ⟨gI BK289.out⟩, ⟨bI HB.out⟩⟩
     rw [if_neg c15] at H
     have c15b0 : decide ((wrap64 ((l1.length : Int) - t291)) ≤ t290) = false := decide_eq_false c15; clear c15
     (first | rw [c15b0] | (simp only [i64_w, i32_w]; rw [c15b0]) | skip)
     obtain ⟨ji16, hji16⟩ : ∃ j_ : Int, (wrap64 (t291 + t290)) = j_ := ⟨_, rfl⟩
     replace H : (if 0 ≤ (ji16) then (if (ji16) < (l1.length : Int) then (spec_LastNote.j1 k1 l1 x7_1 t290 t291 ((rd l1 (ji16)) != 10) a0_0 a0_1 x290000_1 x290001_1 x290002_1 x290003_1 x290004_1 x290005_1) else (none)) else (none)) = some (r1, r2, r3, r4, r5, r6, r7) := by first | (rw [hji16] at H; exact H) | (simp only [hji16] at H ⊢; exact H)
     have hji16w : (IntKind.i64.wrap (t291 + t290)) = ji16 := (i64_w _).trans hji16
     by_cases c17 : 0 ≤ (ji16)
     rotate_left
     ·
      rw [if_neg c17] at H
      exact absurd H (by simp)
     rw [if_pos c17] at H
     have c17b0 : decide (0 ≤ (ji16)) = true := decide_eq_true c17; clear c17
     by_cases c18 : (ji16) < (l1.length : Int)
     rotate_left
     ·
      rw [if_neg c18] at H
      exact absurd H (by simp)
     rw [if_pos c18] at H
     have c18b0 : decide ((ji16) < (l1.length : Int)) = true := decide_eq_true c18; clear c18; have H' := Aside0.mk H; clear H; have p293 : 0 ≤ ((ji16) : Int) := of_decide_eq_true y0_16; have q293 : (ji16) < (l1.length : Int) := of_decide_eq_true y0_16; obtain ⟨ad293, e293, hx293_0⟩ := Kd.at_int HR1.out (ji16) p293 q293; cases e293; replace hx293_0 := bx HB hx293_0; replace p293 := eq_true p293; replace q293 := eq_true q293
     go_wp2
     go_meet
     case rel => exact ⟨_, (((rd l1 (ji16)) != 10)), (by first | rfl | (simp; done) | (simp only [← hji16] <;> (first | rfl | simp)) | (simp [*]; done)), H', ⟨y0_15⟩, ⟨y0_7⟩, ⟨gI BK279.out⟩, ⟨gI BK280.out⟩, ⟨gI BK289.out⟩, ⟨bI HB.out⟩⟩
    replace c14 := Bool.eq_false_iff.mpr c14; subst c14
    rw [if_neg (show ¬ (false = true) by decide)] at H
    have H' := Aside0.mk H; clear H
    go_wp2
    go_meet
    case rel => exact ⟨_, (true), y0_17, H', ⟨y0_15⟩, ⟨y0_7⟩, ⟨gI BK279.out⟩, ⟨gI BK280.out⟩, ⟨gI BK289.out⟩, ⟨bI HB.out⟩⟩
   case rest =>
    clear HC13
    try clear c1
    try clear p2
    try clear q2
    try clear hx2
    try clear p6
    try clear c7
    try clear c8
    try clear c9
    try clear c14
    try clear c15
    try clear c15b0
    try clear c17
    try clear c17b0
    try clear c18
    try clear c18b0
    try clear hcz10_0
    try clear hcz10_1
    try clear hcz10_2
    try clear hcz10_3
    try clear hcz10_4
    try clear hcz10_5
    try clear hfz10_0
    try clear hfz10_1
    try clear hfz10_2
    try clear hfz10_3
    try clear hfz10_4
    try clear hfz10_5
    try clear hx293_0
    try clear p2
    try clear p293
    try clear q293
    obtain ⟨kq, x39_12, rfl, HA, HJ12, HO_290004, BK279, BK280, BK289, HB⟩ := hcut; cases kq with
    | zero => exact absurd HA.out (by simp [spec_LastNote.j1])
    | succ kj12 =>
     have H := HA.out; clear HA
     simp only [spec_LastNote.j1] at H
     by_cases c19 : x39_12 = true
     ·
      subst c19
      rw [if_pos rfl] at H
      simp only [Option.some.injEq, Prod.mk.injEq] at H
      obtain ⟨rfl, rfl, rfl, rfl, rfl, rfl, rfl⟩ := H; have hnb20 := NB289_279.out; have hnc20 := NB279_289.out; have hnb21 := NB289_280.out; have hnc21 := NB280_289.out; have hcz22_0 := bc0 BK289.out; have hcz22_1 := bc1 BK289.out; have hcz22_2 := bc2 BK289.out; have hcz22_3 := bc3 BK289.out; have hcz22_4 := bc4 BK289.out; have hcz22_5 := bc5 BK289.out; have hfz22_0 := blk_frozen BK289.out 0; have hfz22_1 := blk_frozen BK289.out 1; have hfz22_2 := blk_frozen BK289.out 2; have hfz22_3 := blk_frozen BK289.out 3; have hfz22_4 := blk_frozen BK289.out 4; have hfz22_5 := blk_frozen BK289.out 5; have hnb23 := NB280_279.out; have hnc23 := NB279_280.out; have hcz24_0 := bc0 BK280.out; have hcz24_1 := bc1 BK280.out; have hcz24_2 := bc2 BK280.out; have hcz24_3 := bc3 BK280.out; have hcz24_4 := bc4 BK280.out; have hcz24_5 := bc5 BK280.out; have hfz24_0 := blk_frozen BK280.out 0; have hfz24_1 := blk_frozen BK280.out 1; have hfz24_2 := blk_frozen BK280.out 2; have hfz24_3 := blk_frozen BK280.out 3; have hfz24_4 := blk_frozen BK280.out 4; have hfz24_5 := blk_frozen BK280.out 5; obtain ⟨Ao25, co25, eo25⟩ := Kd.R_slice HO_290004.out; subst eo25
      go_wp2
      refine bodyPost_ret (results_ct rfl _ _ gb280 29 #[.int .i64 x290000_1, .int .i64 x290001_1, .int .i64 x290002_1, .string x290003_1, .slice Ao25 x290004_1.length co25, .string x290005_1] (0, 0) _ rfl (pI BK280) Tryz.underlying29 rfl (by kernel_rfl)) rfl ?_
      exact ⟨_, y0_11, by (with_reducible repeat (first | apply Kd.R_alloc | apply Kd.R_drewN | apply Kd.R_drew)); exact Kd.R_mono (Kd.R_far (p := ⟨gb280, 5, none⟩) (Kd.R_far (p := ⟨gb280, 4, none⟩) (Kd.R_far (p := ⟨gb280, 3, none⟩) (Kd.R_far (p := ⟨gb280, 2, none⟩) (Kd.R_far (p := ⟨gb280, 1, none⟩) (Kd.R_far (p := ⟨gb280, 0, none⟩) (Kd.R_types HO_290004.out BK280.out (by decide)) (fun _ hk => hk.2) (.int .i64 x290000_1)) (fun _ hk => hk.2) (.int .i64 x290001_1)) (fun _ hk => hk.2) (.int .i64 x290002_1)) (fun _ hk => hk.2) (.string x290003_1)) (fun _ hk => hk.2) (.slice Ao25 x290004_1.length co25)) (fun _ hk => hk.2) (.string x290005_1)) (fun _ hk => trivial), bI HB.out⟩
     replace c19 := Bool.eq_false_iff.mpr c19; subst c19
     rw [if_neg (show ¬ (false = true) by decide)] at H
     by_cases c26 : 0 ≤ t291
     ·
      rw [if_pos c26] at H
      have c26b0 := eq_true c26; have c26b1 : decide (0 ≤ t291) = true := decide_eq_true c26; clear c26
      by_cases c27 : t291 ≤ (wrap64 (t291 + t290))
      rotate_left
      ·
       rw [if_neg c27] at H
       exact absurd H (by simp)
      rw [if_pos c27] at H
      have c27b0 := eq_true c27; have c27b1 : decide (t291 ≤ (wrap64 (t291 + t290))) = true := decide_eq_true c27
      by_cases c28 : (wrap64 (t291 + t290)) ≤ (l1.length : Int)
      rotate_left
      ·
       rw [if_neg c28] at H
       exact absurd H (by simp)
      rw [if_pos c28] at H
      have c28b0 := eq_true c28; have c28b1 : decide ((wrap64 (t291 + t290)) ≤ (l1.length : Int)) = true := decide_eq_true c28; obtain ⟨⟨t295, t296, t297, t298, t299, t302, t303⟩, A29, H⟩ := oB H; (try dsimp only at H)
      by_cases c30 : t303 = true
      ·
       subst c30
       rw [if_pos rfl] at H
       have H' := Aside0.mk H; clear H
       try go_wp2
       replace HO_290004 := Aside0.mk (Kd.R_drew HO_290004.out); replace BK279 := Aside0.mk (blk_drew BK279.out); replace BK280 := Aside0.mk (blk_drew BK280.out); replace BK289 := Aside0.mk (blk_drew BK289.out); replace HB := Aside0.mk (below_drew1 HB.out); obtain ⟨i032, hi032, _, hsz32, _⟩ := info_parts info5; obtain ⟨A32, hcut32, hA32, hC32⟩ := print_mid_of (P := Tryz.prog) (Value.int .u8) 0 24 5 .i64 .i64 Tryz.underlying24 hi032 hsz32 A1 c1 l1 t291 (wrap64 (t291 + t290)) (of_decide_eq_true y0_16) y0_12 (of_decide_eq_true y0_16) HC1.out
       have HR294 := Aside0.mk (Kd.C_of_reads (h1 := fun _ => rfl) (hA32 _ (Kd.reads_of_C HR1.out)))
       have HC294 := Aside0.mk hC32; clear hA32 hC32 hi032 hsz32
       refine start_ (n := 14) (S := fun w' => w'.cell? ⟨gb279, 0, none⟩ = some (.int .i64 a0_0) ∧ w'.cell? ⟨gb279, 1, none⟩ = some (.int .i64 a0_1)) (ds := []) #[false, false, false, false, false, false, false, false, false, false, false, false, false, false] (by kernel_rfl) rfl rfl ⟨bc0 BK279.out, bc1 BK279.out⟩ (fun hHeld => ?_); refine with_tabW spec_LastNote.tab6 spec_LastNote.bits6 (fun HT_ HW_ => ?_)
       generalize wc.drew = w31 at HO_290004 BK279 BK280 BK289 HB HR294 hHeld ⊢
       refine pA 1 (some 44) (bz 14 2) HT_ ?_
       refine pA 2 (some 45) (bz 14 6) HT_ ?_
       refine pA 3 (some 46) (bz 14 14) HT_ ?_
       refine pA 4 (some 47) (bz 14 30) HT_ ?_
       refine pA 5 (some 48) (bz 14 62) HT_ ?_
       refine pA 6 (some 49) (bz 14 126) HT_ ?_
       refine tA 0 (some 43) (bz 14 127) HT_ HW_ hHeld ?_
       refine join_ (σ := Value × Nat) 2 #[true, true, true, true, true, true, true, true, true, true, true, true, false, false] (fun s_ => [(50, .tuple #[.agg #[.int .i64 t295, .int .i64 t296, .int .i64 t297, .string t298, s_.1, .string t302], .bool true]), (11, .pointer (some ⟨s_.2, 0, none⟩)), (42, .tuple #[.agg #[.int .i64 t295, .int .i64 t296, .int .i64 t297, .string t298, s_.1, .string t302], .bool true]), (51, .agg #[.int .i64 t295, .int .i64 t296, .int .i64 t297, .string t298, s_.1, .string t302]), (52, .bool true)]) (fun s_ w' => (w'.cell? ⟨gb279, 0, none⟩ = some (.int .i64 a0_0) ∧ w'.cell? ⟨gb279, 1, none⟩ = some (.int .i64 a0_1)) ∧ (Kd.R (Kd.int .i64) 3 w' w.heap.size (fun k_ => some k_ ≠ (u290004 : Value).ownBlock) s_.1 t299) ∧ (Kd.R (Kd.int .i64) 3 w' w.heap.size (fun k_ => some k_ ≠ (s_.1 : Value).ownBlock) u290004 x290004_1) ∧ (w'.heap[gb279]? = some (.cells #[.int .i64 a0_0, .int .i64 a0_1] 32 (0, 0))) ∧ (w'.heap[gb280]? = some (.cells #[.int .i64 x281000_1, .int .i64 x281001_1, .int .i64 x281002_1, .string x281003_1, .slice none 0 0, .string x281005_1] 29 (0, 0))) ∧ (w'.heap[gb289]? = some (.cells #[.int .i64 x290000_1, .int .i64 x290001_1, .int .i64 x290002_1, .string x290003_1, u290004, .string x290005_1] 29 (0, 0))) ∧ (w'.heap[s_.2]? = some (.cells #[.int .i64 0, .int .i64 0, .int .i64 0, .string (⟨#[]⟩ : ByteArray), .slice none 0 0, .string (⟨#[]⟩ : ByteArray)] 29 (0, 0))) ∧ (w.heap.size ≤ s_.2) ∧ (w.heap.size ≤ s_.2) ∧ (gb279 ≠ s_.2) ∧ (s_.2 ≠ gb279) ∧ (gb280 ≠ s_.2) ∧ (s_.2 ≠ gb280) ∧ (gb289 ≠ s_.2) ∧ (s_.2 ≠ gb289) ∧ (Below w.heap.size w w')) ?_ ?_
       rotate_left
       ·
        intro hCont
        refine two_ (i := 7) (j := 11) (Ni := some 50) (Nj := some 11) #[true, true, true, true, true, true, true, true, false, false, false, false, false, false] #[true, true, true, true, true, true, true, false, false, false, false, true, false, false] rfl rfl rfl rfl (two_of HT_.out (by kernel_rfl)) (by decide) (by decide) (fun K hK => ?_) (fun K hK => ?_)
        ·
         skip
         refine goes_ Tryz.func58 (by kernel_rfl) rfl #[.agg #[.int .i64 a0_0, .int .i64 a0_1], .slice A32 ((l1.take ((wrap64 (t291 + t290)) : Int).toNat).drop (t291 : Int).toNat).length (c1 - t291.toNat)] (by rfl) rfl rfl y0_0 ?_
         with_reducible refine (spec_SafeOf.calls kj12 a0_0 a0_1 _ _ ((l1.take ((wrap64 (t291 + t290)) : Int).toNat).drop (t291 : Int).toNat) t295 t296 t297 t298 t299 t302 true _ ?side1 ?side2 A29.out).mono ?_
         (case side1 => exact ch HR294 HB)
         (case side2 => exact HC294.out)
         rintro e w33 ⟨v300, rfl, ho0, hb⟩
         refine ⟨_, rfl, ?_⟩
         have HO301 := Aside0.mk (Kd.R_lower (Kd.R_new' ho0 (Kd.R_lt (rI HO_290004.out))) (below_size (bI HB.out))); replace HO_290004 := Aside0.mk (Kd.R_elder' (rI HO_290004.out) (Kd.R_base ho0) hb); replace BK279 := bk BK279 hb; replace BK280 := bk BK280 hb; replace BK289 := bk BK289 hb; replace HB := bs HB hb
         (try clear hb)
         (try clear hb2)
         (try clear hk)
         (try clear hi)
         (try clear ho0)
         refine hK.out _ _ ⟨bc0 BK279.out, bc1 BK279.out⟩ (fun hHeld => ?_)
         clear hK K
         refine nA (some 50) ?_
         refine pA 8 (some 42) (bz 14 511) HT_ ?_
         refine pA 9 (some 51) (bz 14 1023) HT_ ?_
         refine pA 10 (some 52) (bz 14 2047) HT_ ?_
         refine oA 11 (some 11) (bz 14 4095) HT_ (fun K hK => ?_)
         refine box_step ?hg (N := 11) ?hd (cs := #[.int .i64 0, .int .i64 0, .int .i64 0, .string (⟨#[]⟩ : ByteArray), .slice none 0 0, .string (⟨#[]⟩ : ByteArray)]) (t := 29) ?hr ?_; (case hd => rfl); (case hg => rfl); (case hr => first | (go_simp; done) | (go_simp; rfl))
         intro gb304 hg w34 hbox hb
         replace HO_290004 := rb HO_290004 hb; replace HO301 := rb HO301 hb; have BK304 := Aside0.mk (hbox); have GW304 := bg hg HB; have GJ304 := gi GW304; have GE304 := bg hg HB; have GI304 := gi GE304; replace HB := bs HB hb; have NB279_304 := b1 BK279 hg; have NI279_304 := ni NB279_304; have NB304_279 := b2 BK279 hg; have NI304_279 := ni NB304_279; replace BK279 := bk BK279 hb; have NB280_304 := b1 BK280 hg; have NI280_304 := ni NB280_304; have NB304_280 := b2 BK280 hg; have NI304_280 := ni NB304_280; replace BK280 := bk BK280 hb; have NB289_304 := b1 BK289 hg; have NI289_304 := ni NB289_304; have NB304_289 := b2 BK289 hg; have NI304_289 := ni NB304_289; replace BK289 := bk BK289 hb; clear hb hbox hg
         refine hK.out _ _ ⟨bc0 BK279.out, bc1 BK279.out⟩ (fun hHeld => ?_)
         clear hK K
         refine nA (some 11) ?_
         exact norm_ y0_10 (hCont (v300, gb304) _ ⟨hHeld, (rI (Kd.R_mono HO301.out (fun _ hk => hk.2))), (rI (Kd.R_mono HO_290004.out (fun _ hk => hk.2))), (kI BK279.out), (kI BK280.out), (kI BK289.out), (kI BK304.out), GW304.out, GE304.out, NB279_304.out, NB304_279.out, NB280_304.out, NB304_280.out, NB289_304.out, NB304_289.out, (bI HB.out)⟩)
        skip
        refine box_step ?hg (N := 11) ?hd (cs := #[.int .i64 0, .int .i64 0, .int .i64 0, .string (⟨#[]⟩ : ByteArray), .slice none 0 0, .string (⟨#[]⟩ : ByteArray)]) (t := 29) ?hr ?_; (case hd => rfl); (case hg => rfl); (case hr => first | (go_simp; done) | (go_simp; rfl))
        intro gb304 hg w33 hbox hb
        replace HO_290004 := rb HO_290004 hb; have BK304 := Aside0.mk (hbox); have GW304 := bg hg HB; have GJ304 := gi GW304; have GE304 := bg hg HB; have GI304 := gi GE304; replace HB := bs HB hb; have NB279_304 := b1 BK279 hg; have NI279_304 := ni NB279_304; have NB304_279 := b2 BK279 hg; have NI304_279 := ni NB304_279; replace BK279 := bk BK279 hb; have NB280_304 := b1 BK280 hg; have NI280_304 := ni NB280_304; have NB304_280 := b2 BK280 hg; have NI304_280 := ni NB304_280; replace BK280 := bk BK280 hb; have NB289_304 := b1 BK289 hg; have NI289_304 := ni NB289_304; have NB304_289 := b2 BK289 hg; have NI304_289 := ni NB304_289; replace BK289 := bk BK289 hb; clear hb hbox hg
        refine hK.out _ _ ⟨bc0 BK279.out, bc1 BK279.out⟩ (fun hHeld => ?_)
        clear hK K
        refine nA (some 11) ?_
        refine oA 7 (some 50) (bz 14 2303) HT_ (fun K hK => ?_)
        refine goes_ Tryz.func58 (by kernel_rfl) rfl #[.agg #[.int .i64 a0_0, .int .i64 a0_1], .slice A32 ((l1.take ((wrap64 (t291 + t290)) : Int).toNat).drop (t291 : Int).toNat).length (c1 - t291.toNat)] (by rfl) rfl rfl y0_0 ?_
        with_reducible refine (spec_SafeOf.calls kj12 a0_0 a0_1 _ _ ((l1.take ((wrap64 (t291 + t290)) : Int).toNat).drop (t291 : Int).toNat) t295 t296 t297 t298 t299 t302 true _ ?side1 ?side2 A29.out).mono ?_
        (case side1 => exact ch HR294 HB)
        (case side2 => exact HC294.out)
        rintro e w34 ⟨v300, rfl, ho0, hb⟩
        refine ⟨_, rfl, ?_⟩
        have HO301 := Aside0.mk (Kd.R_lower (Kd.R_new' ho0 (Kd.R_lt (rI HO_290004.out))) (below_size (bI HB.out))); replace HO_290004 := Aside0.mk (Kd.R_elder' (rI HO_290004.out) (Kd.R_base ho0) hb); replace BK279 := bk BK279 hb; replace BK280 := bk BK280 hb; replace BK289 := bk BK289 hb; replace BK304 := bk BK304 hb; replace HB := bs HB hb
        (try clear hb)
        (try clear hb2)
        (try clear hk)
        (try clear hi)
        (try clear ho0)
        refine hK.out _ _ ⟨bc0 BK279.out, bc1 BK279.out⟩ (fun hHeld => ?_)
        clear hK K
        refine nA (some 50) ?_
        refine pA 8 (some 42) (bz 14 2559) HT_ ?_
        refine pA 9 (some 51) (bz 14 3071) HT_ ?_
        refine pA 10 (some 52) (bz 14 4095) HT_ ?_
        exact norm_ y0_10 (hCont (v300, gb304) _ ⟨hHeld, (rI (Kd.R_mono HO301.out (fun _ hk => hk.2))), (rI (Kd.R_mono HO_290004.out (fun _ hk => hk.2))), (kI BK279.out), (kI BK280.out), (kI BK289.out), (kI BK304.out), GW304.out, GE304.out, NB279_304.out, NB304_279.out, NB280_304.out, NB304_280.out, NB289_304.out, NB304_289.out, (bI HB.out)⟩)
       rintro ⟨v300, gb304⟩ w35 ⟨hS_, h0_, h1_, h2_, h3_, h4_, h5_, h6_, h7_, h8_, h9_, h10_, h11_, h12_, h13_, h14_⟩
       try dsimp only at h0_ h1_ h2_ h3_ h4_ h5_ h6_ h7_ h8_ h9_ h10_ h11_ h12_ h13_ h14_
       have n0_ := Aside0.mk h0_; have n1_ := Aside0.mk h1_; have n2_ := Aside0.mk h2_; have n3_ := Aside0.mk h3_; have n4_ := Aside0.mk h4_; have n5_ := Aside0.mk h5_; have n6_ := Aside0.mk h6_; have n7_ := Aside0.mk h7_; have n8_ := Aside0.mk h8_; have n9_ := Aside0.mk h9_; have n10_ := Aside0.mk h10_; have n11_ := Aside0.mk h11_; have n12_ := Aside0.mk h12_; have n13_ := Aside0.mk h13_; have n14_ := Aside0.mk h14_; clear HO_290004; clear BK279; clear BK280; clear BK289; clear HB; clear h0_ h1_ h2_ h3_ h4_ h5_ h6_ h7_ h8_ h9_ h10_ h11_ h12_ h13_ h14_; have HO301 := n0_; have HO_290004 := n1_; have BK279 := n2_; have BK280 := n3_; have BK289 := n4_; have BK304 := n5_; have GW304 := n6_; have GJ304 := gi GW304; have GE304 := n7_; have GI304 := gi GE304; have NB279_304 := n8_; have NI279_304 := ni NB279_304; have NB304_279 := n9_; have NI304_279 := ni NB304_279; have NB280_304 := n10_; have NI280_304 := ni NB280_304; have NB304_280 := n11_; have NI304_280 := ni NB304_280; have NB289_304 := n12_; have NI289_304 := ni NB289_304; have NB304_289 := n13_; have NI304_289 := ni NB304_289; have HB := n14_; clear n0_ n1_ n2_ n3_ n4_ n5_ n6_ n7_ n8_ n9_ n10_ n11_ n12_ n13_ n14_; have hHeld : w35.cell? ⟨gb279, 0, none⟩ = some (.int .i64 a0_0) ∧ w35.cell? ⟨gb279, 1, none⟩ = some (.int .i64 a0_1) := hS_; obtain ⟨Ao40, co40, eo40⟩ := Kd.R_slice HO301.out
       (first | subst eo40 | (injection eo40 with f1_ f2_ f3_; have f4_ := f1_.symm; have f5_ := f3_.symm; clear f1_ f2_ f3_; subst f4_; subst f5_))
       refine norm_ (a' := ?_) ?_ ?_
       rotate_left
       ·
        simp only [putAll, Act.put, List.setIfInBounds_toArray, List.set_cons_zero, List.set_cons_succ]
        rfl
       refine oA 12 none (bz 14 0x1fff) HT_ (fun K hK => ?_)
       have hs36 : w35.cell? ⟨gb304, 0, none⟩ = some (.int .i64 0) := bc0 BK304.out; have hfs36 := blk_frozen BK304.out 0; have hns36_0 := NB279_304.out; have hns36_1 := NB280_304.out; have hns36_2 := NB289_304.out; have hms36_0 := NB304_279.out; have hms36_1 := NB304_280.out; have hms36_2 := NB304_289.out; have hs37 : w35.cell? ⟨gb304, 1, none⟩ = some (.int .i64 0) := bc1 BK304.out; have hfs37 := blk_frozen BK304.out 1; have hns37_0 := NB279_304.out; have hns37_1 := NB280_304.out; have hns37_2 := NB289_304.out; have hms37_0 := NB304_279.out; have hms37_1 := NB304_280.out; have hms37_2 := NB304_289.out; have hs38 : w35.cell? ⟨gb304, 2, none⟩ = some (.int .i64 0) := bc2 BK304.out; have hfs38 := blk_frozen BK304.out 2; have hns38_0 := NB279_304.out; have hns38_1 := NB280_304.out; have hns38_2 := NB289_304.out; have hms38_0 := NB304_279.out; have hms38_1 := NB304_280.out; have hms38_2 := NB304_289.out; have hs39 : w35.cell? ⟨gb304, 3, none⟩ = some (.string (⟨#[]⟩ : ByteArray)) := bc3 BK304.out; have hfs39 := blk_frozen BK304.out 3; have hns39_0 := NB279_304.out; have hns39_1 := NB280_304.out; have hns39_2 := NB289_304.out; have hms39_0 := NB304_279.out; have hms39_1 := NB304_280.out; have hms39_2 := NB304_289.out; have hs41 : w35.cell? ⟨gb304, 4, none⟩ = some (.slice none 0 0) := bc4 BK304.out; have hfs41 := blk_frozen BK304.out 4; have hns41_0 := NB279_304.out; have hns41_1 := NB280_304.out; have hns41_2 := NB289_304.out; have hms41_0 := NB304_279.out; have hms41_1 := NB304_280.out
       have hms41_2 := NB304_289.out; have hs42 : w35.cell? ⟨gb304, 5, none⟩ = some (.string (⟨#[]⟩ : ByteArray)) := bc5 BK304.out; have hfs42 := blk_frozen BK304.out 5; have hns42_0 := NB279_304.out; have hns42_1 := NB280_304.out; have hns42_2 := NB289_304.out; have hms42_0 := NB304_279.out; have hms42_1 := NB304_280.out; have hms42_2 := NB304_289.out
       refine skip_ (w1 := ?_) (by rfl) rfl ?_ ?_
       rotate_left
       ·
        go_simp
        rfl
       refine hK.out _ _ ⟨((cell_far (p := ⟨gb304, _, none⟩) NB279_304.out _).trans (((cell_far (p := ⟨gb304, _, none⟩) NB279_304.out _).trans (((cell_far (p := ⟨gb304, _, none⟩) NB279_304.out _).trans (((cell_far (p := ⟨gb304, _, none⟩) NB279_304.out _).trans (((cell_far (p := ⟨gb304, _, none⟩) NB279_304.out _).trans (((cell_far (p := ⟨gb304, _, none⟩) NB279_304.out _).trans (hHeld.1)))))))))))), ((cell_far (p := ⟨gb304, _, none⟩) NB279_304.out _).trans (((cell_far (p := ⟨gb304, _, none⟩) NB279_304.out _).trans (((cell_far (p := ⟨gb304, _, none⟩) NB279_304.out _).trans (((cell_far (p := ⟨gb304, _, none⟩) NB279_304.out _).trans (((cell_far (p := ⟨gb304, _, none⟩) NB279_304.out _).trans (((cell_far (p := ⟨gb304, _, none⟩) NB279_304.out _).trans (hHeld.2))))))))))))⟩ (fun hHeld => ?_)
       clear hK K
       refine pA 13 (some 12) (bz 14 0x3fff) HT_ ?_
       refine done_ (done_of HT_.out (by kernel_rfl)) ?_
       have hnb43 := NB304_279.out; have hnc43 := NB279_304.out; have hnb44 := NB304_280.out; have hnc44 := NB280_304.out; have hnb45 := NB304_289.out; have hnc45 := NB289_304.out; have hcz46_0 := bc0 BK304.out; have hcz46_1 := bc1 BK304.out; have hcz46_2 := bc2 BK304.out; have hcz46_3 := bc3 BK304.out; have hcz46_4 := bc4 BK304.out; have hcz46_5 := bc5 BK304.out; have hfz46_0 := blk_frozen BK304.out 0; have hfz46_1 := blk_frozen BK304.out 1; have hfz46_2 := blk_frozen BK304.out 2; have hfz46_3 := blk_frozen BK304.out 3; have hfz46_4 := blk_frozen BK304.out 4; have hfz46_5 := blk_frozen BK304.out 5; have hnb47 := NB289_279.out; have hnc47 := NB279_289.out; have hnb48 := NB289_280.out; have hnc48 := NB280_289.out; have hcz49_0 := bc0 BK289.out; have hcz49_1 := bc1 BK289.out; have hcz49_2 := bc2 BK289.out; have hcz49_3 := bc3 BK289.out; have hcz49_4 := bc4 BK289.out; have hcz49_5 := bc5 BK289.out; have hfz49_0 := blk_frozen BK289.out 0; have hfz49_1 := blk_frozen BK289.out 1; have hfz49_2 := blk_frozen BK289.out 2; have hfz49_3 := blk_frozen BK289.out 3; have hfz49_4 := blk_frozen BK289.out 4; have hfz49_5 := blk_frozen BK289.out 5
       try go_wp2
       go_roundg kj12
       case measure => have := HK1.out; have := HJ12.out; omega
       case rel => exact ⟨(wrap64 ((wrap64 (t291 + t290)) + 1)), (x281000_1), (x281001_1), (x281002_1), (x281003_1), (x281005_1), (t295), (t296), (t297), (t298), (t299), (t302), (.slice Ao40 t299.length co40), y0_17, H', ⟨by have := HK1.out; have := HJ12.out; omega⟩, ⟨by (with_reducible repeat (first | apply Kd.R_alloc | apply Kd.R_drewN | apply Kd.R_drew)); exact Kd.R_mono (Kd.R_far (p := ⟨gb289, 5, none⟩) (Kd.R_far (p := ⟨gb289, 4, none⟩) (Kd.R_far (p := ⟨gb289, 3, none⟩) (Kd.R_far (p := ⟨gb289, 2, none⟩) (Kd.R_far (p := ⟨gb289, 1, none⟩) (Kd.R_far (p := ⟨gb289, 0, none⟩) (Kd.R_far (p := ⟨gb304, 5, none⟩) (Kd.R_far (p := ⟨gb304, 4, none⟩) (Kd.R_far (p := ⟨gb304, 3, none⟩) (Kd.R_far (p := ⟨gb304, 2, none⟩) (Kd.R_far (p := ⟨gb304, 1, none⟩) (Kd.R_far (p := ⟨gb304, 0, none⟩) (Kd.R_types (Kd.R_types HO301.out BK304.out (by decide)) BK289.out (by decide)) (fun _ hk => hk.1.2) (.int .i64 t295)) (fun _ hk => hk.1.2) (.int .i64 t296)) (fun _ hk => hk.1.2) (.int .i64 t297)) (fun _ hk => hk.1.2) (.string t298)) (fun _ hk => hk.1.2) (.slice Ao40 t299.length co40)) (fun _ hk => hk.1.2) (.string t302)) (fun _ hk => hk.2) (.int .i64 t295)) (fun _ hk => hk.2) (.int .i64 t296)) (fun _ hk => hk.2) (.int .i64 t297)) (fun _ hk => hk.2) (.string t298)) (fun _ hk => hk.2) (.slice Ao40 t299.length co40)) (fun _ hk => hk.2) (.string t302)) (fun _ hk => trivial)⟩, ⟨gI BK279.out⟩, ⟨gI BK280.out⟩, ⟨pI BK289⟩, ⟨bI HB.out⟩⟩
      replace c30 := Bool.eq_false_iff.mpr c30; subst c30
      rw [if_neg (show ¬ (false = true) by decide)] at H
      simp only [Option.some.injEq, Prod.mk.injEq] at H
      obtain ⟨rfl, rfl, rfl, rfl, rfl, rfl, rfl⟩ := H
      try go_wp2
      replace HO_290004 := Aside0.mk (Kd.R_drew HO_290004.out); replace BK279 := Aside0.mk (blk_drew BK279.out); replace BK280 := Aside0.mk (blk_drew BK280.out); replace BK289 := Aside0.mk (blk_drew BK289.out); replace HB := Aside0.mk (below_drew1 HB.out); obtain ⟨i051, hi051, _, hsz51, _⟩ := info_parts info5; obtain ⟨A51, hcut51, hA51, hC51⟩ := print_mid_of (P := Tryz.prog) (Value.int .u8) 0 24 5 .i64 .i64 Tryz.underlying24 hi051 hsz51 A1 c1 l1 t291 (wrap64 (t291 + t290)) (of_decide_eq_true y0_16) y0_12 (of_decide_eq_true y0_16) HC1.out
      have HR294 := Aside0.mk (Kd.C_of_reads (h1 := fun _ => rfl) (hA51 _ (Kd.reads_of_C HR1.out)))
      have HC294 := Aside0.mk hC51; clear hA51 hC51 hi051 hsz51
      refine start_ (n := 14) (S := fun w' => w'.cell? ⟨gb279, 0, none⟩ = some (.int .i64 a0_0) ∧ w'.cell? ⟨gb279, 1, none⟩ = some (.int .i64 a0_1)) (ds := []) #[false, false, false, false, false, false, false, false, false, false, false, false, false, false] (by kernel_rfl) rfl rfl ⟨bc0 BK279.out, bc1 BK279.out⟩ (fun hHeld => ?_); refine with_tabW spec_LastNote.tab6 spec_LastNote.bits6 (fun HT_ HW_ => ?_)
      generalize wc.drew = w50 at HO_290004 BK279 BK280 BK289 HB HR294 hHeld ⊢
      refine pA 1 (some 44) (bz 14 2) HT_ ?_
      refine pA 2 (some 45) (bz 14 6) HT_ ?_
      refine pA 3 (some 46) (bz 14 14) HT_ ?_
      refine pA 4 (some 47) (bz 14 30) HT_ ?_
      refine pA 5 (some 48) (bz 14 62) HT_ ?_
      refine pA 6 (some 49) (bz 14 126) HT_ ?_
      refine tA 0 (some 43) (bz 14 127) HT_ HW_ hHeld ?_
      refine join_ (σ := Value × Nat) 2 #[true, true, true, true, true, true, true, true, true, true, true, true, false, false] (fun s_ => [(50, .tuple #[.agg #[.int .i64 t295, .int .i64 t296, .int .i64 t297, .string t298, s_.1, .string t302], .bool false]), (11, .pointer (some ⟨s_.2, 0, none⟩)), (42, .tuple #[.agg #[.int .i64 t295, .int .i64 t296, .int .i64 t297, .string t298, s_.1, .string t302], .bool false]), (51, .agg #[.int .i64 t295, .int .i64 t296, .int .i64 t297, .string t298, s_.1, .string t302]), (52, .bool false)]) (fun s_ w' => (w'.cell? ⟨gb279, 0, none⟩ = some (.int .i64 a0_0) ∧ w'.cell? ⟨gb279, 1, none⟩ = some (.int .i64 a0_1)) ∧ (Kd.R (Kd.int .i64) 3 w' w.heap.size (fun k_ => some k_ ≠ (u290004 : Value).ownBlock) s_.1 t299) ∧ (Kd.R (Kd.int .i64) 3 w' w.heap.size (fun k_ => some k_ ≠ (s_.1 : Value).ownBlock) u290004 x290004_1) ∧ (w'.heap[gb279]? = some (.cells #[.int .i64 a0_0, .int .i64 a0_1] 32 (0, 0))) ∧ (w'.heap[gb280]? = some (.cells #[.int .i64 x281000_1, .int .i64 x281001_1, .int .i64 x281002_1, .string x281003_1, .slice none 0 0, .string x281005_1] 29 (0, 0))) ∧ (w'.heap[gb289]? = some (.cells #[.int .i64 x290000_1, .int .i64 x290001_1, .int .i64 x290002_1, .string x290003_1, u290004, .string x290005_1] 29 (0, 0))) ∧ (w'.heap[s_.2]? = some (.cells #[.int .i64 0, .int .i64 0, .int .i64 0, .string (⟨#[]⟩ : ByteArray), .slice none 0 0, .string (⟨#[]⟩ : ByteArray)] 29 (0, 0))) ∧ (w.heap.size ≤ s_.2) ∧ (w.heap.size ≤ s_.2) ∧ (gb279 ≠ s_.2) ∧ (s_.2 ≠ gb279) ∧ (gb280 ≠ s_.2) ∧ (s_.2 ≠ gb280) ∧ (gb289 ≠ s_.2) ∧ (s_.2 ≠ gb289) ∧ (Below w.heap.size w w')) ?_ ?_
      rotate_left
      ·
       intro hCont
       refine two_ (i := 7) (j := 11) (Ni := some 50) (Nj := some 11) #[true, true, true, true, true, true, true, true, false, false, false, false, false, false] #[true, true, true, true, true, true, true, false, false, false, false, true, false, false] rfl rfl rfl rfl (two_of HT_.out (by kernel_rfl)) (by decide) (by decide) (fun K hK => ?_) (fun K hK => ?_)
       ·
        skip
        refine goes_ Tryz.func58 (by kernel_rfl) rfl #[.agg #[.int .i64 a0_0, .int .i64 a0_1], .slice A51 ((l1.take ((wrap64 (t291 + t290)) : Int).toNat).drop (t291 : Int).toNat).length (c1 - t291.toNat)] (by rfl) rfl rfl y0_0 ?_
        with_reducible refine (spec_SafeOf.calls kj12 a0_0 a0_1 _ _ ((l1.take ((wrap64 (t291 + t290)) : Int).toNat).drop (t291 : Int).toNat) t295 t296 t297 t298 t299 t302 false _ ?side1 ?side2 A29.out).mono ?_
        (case side1 => exact ch HR294 HB)
        (case side2 => exact HC294.out)
        rintro e w52 ⟨v300, rfl, ho0, hb⟩
        refine ⟨_, rfl, ?_⟩
        have HO301 := Aside0.mk (Kd.R_lower (Kd.R_new' ho0 (Kd.R_lt (rI HO_290004.out))) (below_size (bI HB.out))); replace HO_290004 := Aside0.mk (Kd.R_elder' (rI HO_290004.out) (Kd.R_base ho0) hb); replace BK279 := bk BK279 hb; replace BK280 := bk BK280 hb; replace BK289 := bk BK289 hb; replace HB := bs HB hb
        (try clear hb)
        (try clear hb2)
        (try clear hk)
        (try clear hi)
        (try clear ho0)
        refine hK.out _ _ ⟨bc0 BK279.out, bc1 BK279.out⟩ (fun hHeld => ?_)
        clear hK K
        refine nA (some 50) ?_
        refine pA 8 (some 42) (bz 14 511) HT_ ?_
        refine pA 9 (some 51) (bz 14 1023) HT_ ?_
        refine pA 10 (some 52) (bz 14 2047) HT_ ?_
        refine oA 11 (some 11) (bz 14 4095) HT_ (fun K hK => ?_)
        refine box_step ?hg (N := 11) ?hd (cs := #[.int .i64 0, .int .i64 0, .int .i64 0, .string (⟨#[]⟩ : ByteArray), .slice none 0 0, .string (⟨#[]⟩ : ByteArray)]) (t := 29) ?hr ?_; (case hd => rfl); (case hg => rfl); (case hr => first | (go_simp; done) | (go_simp; rfl))
        intro gb304 hg w53 hbox hb
        replace HO_290004 := rb HO_290004 hb; replace HO301 := rb HO301 hb; have BK304 := Aside0.mk (hbox); have GW304 := bg hg HB; have GJ304 := gi GW304; have GE304 := bg hg HB; have GI304 := gi GE304; replace HB := bs HB hb; have NB279_304 := b1 BK279 hg; have NI279_304 := ni NB279_304; have NB304_279 := b2 BK279 hg; have NI304_279 := ni NB304_279; replace BK279 := bk BK279 hb; have NB280_304 := b1 BK280 hg; have NI280_304 := ni NB280_304; have NB304_280 := b2 BK280 hg; have NI304_280 := ni NB304_280; replace BK280 := bk BK280 hb; have NB289_304 := b1 BK289 hg; have NI289_304 := ni NB289_304; have NB304_289 := b2 BK289 hg; have NI304_289 := ni NB304_289; replace BK289 := bk BK289 hb; clear hb hbox hg
        refine hK.out _ _ ⟨bc0 BK279.out, bc1 BK279.out⟩ (fun hHeld => ?_)
        clear hK K
        refine nA (some 11) ?_
        exact norm_ y0_10 (hCont (v300, gb304) _ ⟨hHeld, (rI (Kd.R_mono HO301.out (fun _ hk => hk.2))), (rI (Kd.R_mono HO_290004.out (fun _ hk => hk.2))), (kI BK279.out), (kI BK280.out), (kI BK289.out), (kI BK304.out), GW304.out, GE304.out, NB279_304.out, NB304_279.out, NB280_304.out, NB304_280.out, NB289_304.out, NB304_289.out, (bI HB.out)⟩)
       skip
       refine box_step ?hg (N := 11) ?hd (cs := #[.int .i64 0, .int .i64 0, .int .i64 0, .string (⟨#[]⟩ : ByteArray), .slice none 0 0, .string (⟨#[]⟩ : ByteArray)]) (t := 29) ?hr ?_; (case hd => rfl); (case hg => rfl); (case hr => first | (go_simp; done) | (go_simp; rfl))
       intro gb304 hg w52 hbox hb
       replace HO_290004 := rb HO_290004 hb; have BK304 := Aside0.mk (hbox); have GW304 := bg hg HB; have GJ304 := gi GW304; have GE304 := bg hg HB; have GI304 := gi GE304; replace HB := bs HB hb; have NB279_304 := b1 BK279 hg; have NI279_304 := ni NB279_304; have NB304_279 := b2 BK279 hg; have NI304_279 := ni NB304_279; replace BK279 := bk BK279 hb; have NB280_304 := b1 BK280 hg; have NI280_304 := ni NB280_304; have NB304_280 := b2 BK280 hg; have NI304_280 := ni NB304_280; replace BK280 := bk BK280 hb; have NB289_304 := b1 BK289 hg; have NI289_304 := ni NB289_304; have NB304_289 := b2 BK289 hg; have NI304_289 := ni NB304_289; replace BK289 := bk BK289 hb; clear hb hbox hg
       refine hK.out _ _ ⟨bc0 BK279.out, bc1 BK279.out⟩ (fun hHeld => ?_)
       clear hK K
       refine nA (some 11) ?_
       refine oA 7 (some 50) (bz 14 2303) HT_ (fun K hK => ?_)
       refine goes_ Tryz.func58 (by kernel_rfl) rfl #[.agg #[.int .i64 a0_0, .int .i64 a0_1], .slice A51 ((l1.take ((wrap64 (t291 + t290)) : Int).toNat).drop (t291 : Int).toNat).length (c1 - t291.toNat)] (by rfl) rfl rfl y0_0 ?_
       with_reducible refine (spec_SafeOf.calls kj12 a0_0 a0_1 _ _ ((l1.take ((wrap64 (t291 + t290)) : Int).toNat).drop (t291 : Int).toNat) t295 t296 t297 t298 t299 t302 false _ ?side1 ?side2 A29.out).mono ?_
       (case side1 => exact ch HR294 HB)
       (case side2 => exact HC294.out)
       rintro e w53 ⟨v300, rfl, ho0, hb⟩
       refine ⟨_, rfl, ?_⟩
       have HO301 := Aside0.mk (Kd.R_lower (Kd.R_new' ho0 (Kd.R_lt (rI HO_290004.out))) (below_size (bI HB.out))); replace HO_290004 := Aside0.mk (Kd.R_elder' (rI HO_290004.out) (Kd.R_base ho0) hb); replace BK279 := bk BK279 hb; replace BK280 := bk BK280 hb; replace BK289 := bk BK289 hb; replace BK304 := bk BK304 hb; replace HB := bs HB hb
       (try clear hb)
       (try clear hb2)
       (try clear hk)
       (try clear hi)
       (try clear ho0)
       refine hK.out _ _ ⟨bc0 BK279.out, bc1 BK279.out⟩ (fun hHeld => ?_)
       clear hK K
       refine nA (some 50) ?_
       refine pA 8 (some 42) (bz 14 2559) HT_ ?_
       refine pA 9 (some 51) (bz 14 3071) HT_ ?_
       refine pA 10 (some 52) (bz 14 4095) HT_ ?_
       exact norm_ y0_10 (hCont (v300, gb304) _ ⟨hHeld, (rI (Kd.R_mono HO301.out (fun _ hk => hk.2))), (rI (Kd.R_mono HO_290004.out (fun _ hk => hk.2))), (kI BK279.out), (kI BK280.out), (kI BK289.out), (kI BK304.out), GW304.out, GE304.out, NB279_304.out, NB304_279.out, NB280_304.out, NB304_280.out, NB289_304.out, NB304_289.out, (bI HB.out)⟩)
      rintro ⟨v300, gb304⟩ w54 ⟨hS_, h0_, h1_, h2_, h3_, h4_, h5_, h6_, h7_, h8_, h9_, h10_, h11_, h12_, h13_, h14_⟩
      try dsimp only at h0_ h1_ h2_ h3_ h4_ h5_ h6_ h7_ h8_ h9_ h10_ h11_ h12_ h13_ h14_
      have n0_ := Aside0.mk h0_; have n1_ := Aside0.mk h1_; have n2_ := Aside0.mk h2_; have n3_ := Aside0.mk h3_; have n4_ := Aside0.mk h4_; have n5_ := Aside0.mk h5_; have n6_ := Aside0.mk h6_; have n7_ := Aside0.mk h7_; have n8_ := Aside0.mk h8_; have n9_ := Aside0.mk h9_; have n10_ := Aside0.mk h10_; have n11_ := Aside0.mk h11_; have n12_ := Aside0.mk h12_; have n13_ := Aside0.mk h13_; have n14_ := Aside0.mk h14_; clear HO_290004; clear BK279; clear BK280; clear BK289; clear HB; clear h0_ h1_ h2_ h3_ h4_ h5_ h6_ h7_ h8_ h9_ h10_ h11_ h12_ h13_ h14_; have HO301 := n0_; have HO_290004 := n1_; have BK279 := n2_; have BK280 := n3_; have BK289 := n4_; have BK304 := n5_; have GW304 := n6_; have GJ304 := gi GW304; have GE304 := n7_; have GI304 := gi GE304; have NB279_304 := n8_; have NI279_304 := ni NB279_304; have NB304_279 := n9_; have NI304_279 := ni NB304_279; have NB280_304 := n10_; have NI280_304 := ni NB280_304; have NB304_280 := n11_; have NI304_280 := ni NB304_280; have NB289_304 := n12_; have NI289_304 := ni NB289_304; have NB304_289 := n13_; have NI304_289 := ni NB304_289; have HB := n14_; clear n0_ n1_ n2_ n3_ n4_ n5_ n6_ n7_ n8_ n9_ n10_ n11_ n12_ n13_ n14_; have hHeld : w54.cell? ⟨gb279, 0, none⟩ = some (.int .i64 a0_0) ∧ w54.cell? ⟨gb279, 1, none⟩ = some (.int .i64 a0_1) := hS_; obtain ⟨Ao59, co59, eo59⟩ := Kd.R_slice HO301.out
      (first | subst eo59 | (injection eo59 with f1_ f2_ f3_; have f4_ := f1_.symm; have f5_ := f3_.symm; clear f1_ f2_ f3_; subst f4_; subst f5_))
      refine norm_ (a' := ?_) ?_ ?_
      rotate_left
      ·
       simp only [putAll, Act.put, List.setIfInBounds_toArray, List.set_cons_zero, List.set_cons_succ]
       rfl
      refine oA 12 none (bz 14 0x1fff) HT_ (fun K hK => ?_)
      have hs55 : w54.cell? ⟨gb304, 0, none⟩ = some (.int .i64 0) := bc0 BK304.out; have hfs55 := blk_frozen BK304.out 0; have hns55_0 := NB279_304.out; have hns55_1 := NB280_304.out; have hns55_2 := NB289_304.out; have hms55_0 := NB304_279.out; have hms55_1 := NB304_280.out; have hms55_2 := NB304_289.out; have hs56 : w54.cell? ⟨gb304, 1, none⟩ = some (.int .i64 0) := bc1 BK304.out; have hfs56 := blk_frozen BK304.out 1; have hns56_0 := NB279_304.out; have hns56_1 := NB280_304.out; have hns56_2 := NB289_304.out; have hms56_0 := NB304_279.out; have hms56_1 := NB304_280.out; have hms56_2 := NB304_289.out; have hs57 : w54.cell? ⟨gb304, 2, none⟩ = some (.int .i64 0) := bc2 BK304.out; have hfs57 := blk_frozen BK304.out 2; have hns57_0 := NB279_304.out; have hns57_1 := NB280_304.out; have hns57_2 := NB289_304.out; have hms57_0 := NB304_279.out; have hms57_1 := NB304_280.out; have hms57_2 := NB304_289.out; have hs58 : w54.cell? ⟨gb304, 3, none⟩ = some (.string (⟨#[]⟩ : ByteArray)) := bc3 BK304.out; have hfs58 := blk_frozen BK304.out 3; have hns58_0 := NB279_304.out; have hns58_1 := NB280_304.out; have hns58_2 := NB289_304.out; have hms58_0 := NB304_279.out; have hms58_1 := NB304_280.out; have hms58_2 := NB304_289.out; have hs60 : w54.cell? ⟨gb304, 4, none⟩ = some (.slice none 0 0) := bc4 BK304.out; have hfs60 := blk_frozen BK304.out 4; have hns60_0 := NB279_304.out; have hns60_1 := NB280_304.out; have hns60_2 := NB289_304.out; have hms60_0 := NB304_279.out; have hms60_1 := NB304_280.out
      have hms60_2 := NB304_289.out; have hs61 : w54.cell? ⟨gb304, 5, none⟩ = some (.string (⟨#[]⟩ : ByteArray)) := bc5 BK304.out; have hfs61 := blk_frozen BK304.out 5; have hns61_0 := NB279_304.out; have hns61_1 := NB280_304.out; have hns61_2 := NB289_304.out; have hms61_0 := NB304_279.out; have hms61_1 := NB304_280.out; have hms61_2 := NB304_289.out
      refine skip_ (w1 := ?_) (by rfl) rfl ?_ ?_
      rotate_left
      ·
       go_simp
       rfl
      refine hK.out _ _ ⟨((cell_far (p := ⟨gb304, _, none⟩) NB279_304.out _).trans (((cell_far (p := ⟨gb304, _, none⟩) NB279_304.out _).trans (((cell_far (p := ⟨gb304, _, none⟩) NB279_304.out _).trans (((cell_far (p := ⟨gb304, _, none⟩) NB279_304.out _).trans (((cell_far (p := ⟨gb304, _, none⟩) NB279_304.out _).trans (((cell_far (p := ⟨gb304, _, none⟩) NB279_304.out _).trans (hHeld.1)))))))))))), ((cell_far (p := ⟨gb304, _, none⟩) NB279_304.out _).trans (((cell_far (p := ⟨gb304, _, none⟩) NB279_304.out _).trans (((cell_far (p := ⟨gb304, _, none⟩) NB279_304.out _).trans (((cell_far (p := ⟨gb304, _, none⟩) NB279_304.out _).trans (((cell_far (p := ⟨gb304, _, none⟩) NB279_304.out _).trans (((cell_far (p := ⟨gb304, _, none⟩) NB279_304.out _).trans (hHeld.2))))))))))))⟩ (fun hHeld => ?_)
      clear hK K
      refine pA 13 (some 12) (bz 14 0x3fff) HT_ ?_
      refine done_ (done_of HT_.out (by kernel_rfl)) ?_
      have hnb62 := NB289_279.out; have hnc62 := NB279_289.out; have hnb63 := NB289_280.out; have hnc63 := NB280_289.out; have hnb64 := NB289_304.out; have hnc64 := NB304_289.out; have hcz65_0 := bc0 BK289.out; have hcz65_1 := bc1 BK289.out; have hcz65_2 := bc2 BK289.out; have hcz65_3 := bc3 BK289.out; have hcz65_4 := bc4 BK289.out; have hcz65_5 := bc5 BK289.out; have hfz65_0 := blk_frozen BK289.out 0; have hfz65_1 := blk_frozen BK289.out 1; have hfz65_2 := blk_frozen BK289.out 2; have hfz65_3 := blk_frozen BK289.out 3; have hfz65_4 := blk_frozen BK289.out 4; have hfz65_5 := blk_frozen BK289.out 5; have hnb66 := NB280_279.out; have hnc66 := NB279_280.out; have hnb67 := NB280_304.out; have hnc67 := NB304_280.out; have hcz68_0 := bc0 BK280.out; have hcz68_1 := bc1 BK280.out; have hcz68_2 := bc2 BK280.out; have hcz68_3 := bc3 BK280.out; have hcz68_4 := bc4 BK280.out; have hcz68_5 := bc5 BK280.out; have hfz68_0 := blk_frozen BK280.out 0; have hfz68_1 := blk_frozen BK280.out 1; have hfz68_2 := blk_frozen BK280.out 2; have hfz68_3 := blk_frozen BK280.out 3; have hfz68_4 := blk_frozen BK280.out 4; have hfz68_5 := blk_frozen BK280.out 5; obtain ⟨Ao69, co69, eo69⟩ := Kd.R_slice HO_290004.out; subst eo69
      try go_wp2
      refine bodyPost_ret (results_ct rfl _ _ gb280 29 #[.int .i64 x290000_1, .int .i64 x290001_1, .int .i64 x290002_1, .string x290003_1, .slice Ao69 x290004_1.length co69, .string x290005_1] (0, 0) _ rfl (pI BK280) Tryz.underlying29 rfl (by kernel_rfl)) rfl ?_
      exact ⟨_, y0_11, by (with_reducible repeat (first | apply Kd.R_alloc | apply Kd.R_drewN | apply Kd.R_drew)); exact Kd.R_mono (Kd.R_far (p := ⟨gb280, 5, none⟩) (Kd.R_far (p := ⟨gb280, 4, none⟩) (Kd.R_far (p := ⟨gb280, 3, none⟩) (Kd.R_far (p := ⟨gb280, 2, none⟩) (Kd.R_far (p := ⟨gb280, 1, none⟩) (Kd.R_far (p := ⟨gb280, 0, none⟩) (Kd.R_far (p := ⟨gb304, 5, none⟩) (Kd.R_far (p := ⟨gb304, 4, none⟩) (Kd.R_far (p := ⟨gb304, 3, none⟩) (Kd.R_far (p := ⟨gb304, 2, none⟩) (Kd.R_far (p := ⟨gb304, 1, none⟩) (Kd.R_far (p := ⟨gb304, 0, none⟩) (Kd.R_types (Kd.R_types HO_290004.out BK304.out (by decide)) BK280.out (by decide)) (fun _ hk => hk.1.2) (.int .i64 t295)) (fun _ hk => hk.1.2) (.int .i64 t296)) (fun _ hk => hk.1.2) (.int .i64 t297)) (fun _ hk => hk.1.2) (.string t298)) (fun _ hk => hk.1.2) (.slice Ao59 t299.length co59)) (fun _ hk => hk.1.2) (.string t302)) (fun _ hk => hk.2) (.int .i64 x290000_1)) (fun _ hk => hk.2) (.int .i64 x290001_1)) (fun _ hk => hk.2) (.int .i64 x290002_1)) (fun _ hk => hk.2) (.string x290003_1)) (fun _ hk => hk.2) (.slice Ao69 x290004_1.length co69)) (fun _ hk => hk.2) (.string x290005_1)) (fun _ hk => trivial), bI HB.out⟩
     rw [if_neg c26] at H
     exact absurd H (by simp)

end Go.Proofs.YtdmjhgogljhfkaaGreatDoor.PFnExactLastNote
