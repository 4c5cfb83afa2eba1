-- By a program of this session, out of the translation (the print of the kit, with turns of its own). Lean checks it.
import Derived.Test.YtemjmefacifdeaaPFnDropsBelowx0
import Derived.Test.YtemjmefacifdeaaPFnDropsBelowx1
import Derived.Test.YtemjmefacifdeaaPFnDropsBelowx4
import Derived.Test.YtemjmefacifdeaaPFnDropsBelowx8
import Derived.Test.YtemjmefacifdeaaPFnDropsBelowx9
namespace Go.Proofs.Ytemjmefacifdeaa.PFnDropsBelow
open Go.RowKit Go.Proofs.YtemjmefacifdeaaW.PrintWords Go.Proofs.YtemjmefacifdeaaW.PrintLast Go.Proofs.YtemjmefacifdeaaW.PrintMore
attribute [local go_sem] max2_int min2_int max_two min_two max_three min_three max_four min_four   -- for this text's walks alone
set_option linter.unusedVariables false
set_option linter.unusedSimpArgs false

/-! ### spec_l10DrawRight: function 56 -/
mutual
def spec_l10DrawRight.j0 : Nat → Bool → List Int → Int → Int → Int → Int → Int → ByteArray → Option (Int × ByteArray × List Int × Int × Int)
 | 0, _, _, _, _, _, _, _, _ => none
 | k + 1, x19, x1000, x1001, x1002, x424000, x424001, x430000, x430001 => if x19 = true then ((spec_l1Below.f x1000 x1001 x1002 4).bind fun bt433 => (spec_l10DrawRight.j1 k x1000 bt433.2.1 bt433.2.2 x424000 x424001 (wrap64 (1 + bt433.1)) (⟨#[]⟩ : ByteArray))) else (spec_l10DrawRight.j1 k x1000 x1001 x1002 x424000 x424001 x430000 x430001)
def spec_l10DrawRight.j1 : Nat → List Int → Int → Int → Int → Int → Int → ByteArray → Option (Int × ByteArray × List Int × Int × Int)
 | 0, _, _, _, _, _, _, _ => none
 | k + 1, x1000, x1001, x1002, x424000, x424001, x430000, x430001 => spec_l10DrawRight.l0 k 0 x1000 x1001 x1002 x424000 x424001 x430000 x430001 ([] : List Int)
def spec_l10DrawRight.l0 : Nat → Int → List Int → Int → Int → Int → Int → Int → ByteArray → List Int → Option (Int × ByteArray × List Int × Int × Int)
 | 0, _, _, _, _, _, _, _, _, _ => none
 | k + 1, x7, x1000, x1001, x1002, x424000, x424001, x430000, x430001, x430002 => (spec_l1Below.f x1000 x1001 x1002 7).bind fun bt436 => (if x7 < (wrap64 (1 + bt436.1)) then ((spec_l1Max.f x424000 4).bind fun t439 => ((spec_l1Below.f x1000 bt436.2.1 bt436.2.2 t439).bind fun bt440 => ((spec_SetAdd.f k x430002 bt440.1).bind fun t443 => (spec_l10DrawRight.l0 k (wrap64 (x7 + 1)) x1000 bt440.2.1 bt440.2.2 x424000 x424001 x430000 x430001 t443)))) else (some (x430000, x430001, x430002, bt436.2.1, bt436.2.2)))
end
def spec_l10DrawRight.f (k : Nat) (s0_0 : List Int) (s0_1 : Int) (s0_2 : Int) (a1_0 : Int) (a1_1 : Int) : Option (Int × ByteArray × List Int × Int × Int) := (spec_l5DrawRight.f k s0_0 s0_1 s0_2).bind fun bt425 => ((spec_ViewOf.f k bt425.1).bind fun t428 => ((spec_l1Once.f s0_0 bt425.2.1 bt425.2.2 4).bind fun bt430 => (if bt430.1 = true then (spec_l10DrawRight.j0 k true s0_0 bt430.2.1 bt430.2.2 a1_0 a1_1 t428 bt425.1) else (spec_l10DrawRight.j0 k (bt425.1.toList == ([] : List UInt8)) s0_0 bt430.2.1 bt430.2.2 a1_0 a1_1 t428 bt425.1))))
theorem spec_l10DrawRight.mono_l : ∀ k, (∀ y0 y1 y2 y3 y4 y5 y6 y7, LeO (spec_l10DrawRight.j0 k y0 y1 y2 y3 y4 y5 y6 y7) (spec_l10DrawRight.j0 (k + 1) y0 y1 y2 y3 y4 y5 y6 y7)) ∧ (∀ y0 y1 y2 y3 y4 y5 y6, LeO (spec_l10DrawRight.j1 k y0 y1 y2 y3 y4 y5 y6) (spec_l10DrawRight.j1 (k + 1) y0 y1 y2 y3 y4 y5 y6)) ∧ (∀ y0 y1 y2 y3 y4 y5 y6 y7 y8, LeO (spec_l10DrawRight.l0 k y0 y1 y2 y3 y4 y5 y6 y7 y8) (spec_l10DrawRight.l0 (k + 1) y0 y1 y2 y3 y4 y5 y6 y7 y8))
 | 0 => ⟨fun _ _ _ _ _ _ _ _ r h => by simp [spec_l10DrawRight.j0] at h, fun _ _ _ _ _ _ _ r h => by simp [spec_l10DrawRight.j1] at h, fun _ _ _ _ _ _ _ _ _ r h => by simp [spec_l10DrawRight.l0] at h⟩
 | k + 1 => by
  obtain ⟨ih0, ih1, ih2⟩ := spec_l10DrawRight.mono_l k
  refine ⟨?_, ?_, ?_⟩
  ·
   intro y0 y1 y2 y3 y4 y5 y6 y7
   unfold spec_l10DrawRight.j0
   repeat' first | (with_reducible exact ih0 _ _ _ _ _ _ _ _) | (with_reducible exact ih1 _ _ _ _ _ _ _) | (with_reducible exact ih2 _ _ _ _ _ _ _ _ _) | (with_reducible exact spec_SetAdd.mono _ _ _) | (with_reducible exact spec_ViewOf.mono _ _) | (with_reducible exact spec_l5DrawRight.mono _ _ _ _) | (with_reducible exact LeO.refl _) | (with_reducible exact LeO.none _) | (with_reducible refine LeO.ite ?_ ?_) | (with_reducible refine LeO.bind ?_ (fun _ => ?_))
  ·
   intro y0 y1 y2 y3 y4 y5 y6
   unfold spec_l10DrawRight.j1
   repeat' first | (with_reducible exact ih0 _ _ _ _ _ _ _ _) | (with_reducible exact ih1 _ _ _ _ _ _ _) | (with_reducible exact ih2 _ _ _ _ _ _ _ _ _) | (with_reducible exact spec_SetAdd.mono _ _ _) | (with_reducible exact spec_ViewOf.mono _ _) | (with_reducible exact spec_l5DrawRight.mono _ _ _ _) | (with_reducible exact LeO.refl _) | (with_reducible exact LeO.none _) | (with_reducible refine LeO.ite ?_ ?_) | (with_reducible refine LeO.bind ?_ (fun _ => ?_))
  intro y0 y1 y2 y3 y4 y5 y6 y7 y8
  unfold spec_l10DrawRight.l0
  repeat' first | (with_reducible exact ih0 _ _ _ _ _ _ _ _) | (with_reducible exact ih1 _ _ _ _ _ _ _) | (with_reducible exact ih2 _ _ _ _ _ _ _ _ _) | (with_reducible exact spec_SetAdd.mono _ _ _) | (with_reducible exact spec_ViewOf.mono _ _) | (with_reducible exact spec_l5DrawRight.mono _ _ _ _) | (with_reducible exact LeO.refl _) | (with_reducible exact LeO.none _) | (with_reducible refine LeO.ite ?_ ?_) | (with_reducible refine LeO.bind ?_ (fun _ => ?_))
theorem spec_l10DrawRight.mono : ∀ a0 a1 a2 a3 a4 k, LeO (spec_l10DrawRight.f k a0 a1 a2 a3 a4) (spec_l10DrawRight.f (k + 1) a0 a1 a2 a3 a4) := by
 intro a0 a1 a2 a3 a4 k
 obtain ⟨ih0, ih1, ih2⟩ := spec_l10DrawRight.mono_l k
 unfold spec_l10DrawRight.f
 repeat' first | (with_reducible exact ih0 _ _ _ _ _ _ _ _) | (with_reducible exact ih1 _ _ _ _ _ _ _) | (with_reducible exact ih2 _ _ _ _ _ _ _ _ _) | (with_reducible exact spec_SetAdd.mono _ _ _) | (with_reducible exact spec_ViewOf.mono _ _) | (with_reducible exact spec_l5DrawRight.mono _ _ _ _) | (with_reducible exact LeO.refl _) | (with_reducible exact LeO.none _) | (with_reducible refine LeO.ite ?_ ?_) | (with_reducible refine LeO.bind ?_ (fun _ => ?_))
def spec_l10DrawRight.T8 : Bool × List (List Nat × List Nat) := (true, [([], []), ([0], [0]), ([], []), ([], []), ([3], [3]), ([4], [4]), ([2, 5, 5], [2, 5]), ([1, 6, 6], [1, 6]), ([0, 1, 2, 3, 4, 5, 6, 7], []), ([8, 7, 7, 0, 1, 2, 3, 4, 5, 6, 7], [7, 8])])
def spec_l10DrawRight.B8 : List Nat := [0, 1, 0, 0, 8, 24, 60, 127, 255, 511]
theorem spec_l10DrawRight.tab8 : rtab .any (opsOf Try.f56 8) = spec_l10DrawRight.T8 := by kernel_rfl
theorem spec_l10DrawRight.bits8 : waitsOk spec_l10DrawRight.T8.2 spec_l10DrawRight.B8 = true := by kernel_rfl
set_option maxHeartbeats 8000000 in
set_option maxRecDepth 100000 in
theorem spec_l10DrawRight.calls (k : Nat) (g : Nat) (s0_0 : List Int) (s0_1 : Int) (s0_2 : Int) (a1_0 : Int) (a1_1 : Int) (r1 : Int) (r2 : ByteArray) (r3 : List Int) (r4 : Int) (r5 : Int) (w0 w : World) (hI : IsS68 w0 w g s0_0 s0_1 s0_2) (hB : Below w0.heap.size w0 w) (h : spec_l10DrawRight.f k s0_0 s0_1 s0_2 a1_0 a1_1 = some (r1, r2, r3, r4, r5)) :
  Calls Try.prog 56 #[.pointer (some ⟨g, 0, none⟩), .agg #[.int .i64 a1_0, .int .i64 a1_1]] w fun e w' => ∃ v2_ : Value, e = .returned (.agg #[.int .i64 r1, .string r2, v2_]) ∧ Kd.R (Kd.int .i64) 3 w' w.heap.size (fun _ => True) v2_ r3 ∧ IsS68 w0 w' g s0_0 r4 r5 ∧ Below w0.heap.size w0 w' ∧ KeepBut w w' g none := by
 have hu36 := Try.underlying36; have hu26 := Try.underlying26; have HI0 := Aside0.mk hI; have HK := Aside0.mk (KeepBut.refl w g none); have HL := Aside0.mk hB.size; clear hI; have HW0 := Aside0.mk hB.size; have HB := Aside0.mk hB; clear hB
 have H : ((spec_l5DrawRight.f k s0_0 s0_1 s0_2).bind fun bt425 => ((spec_ViewOf.f k bt425.1).bind fun t428 => ((spec_l1Once.f s0_0 bt425.2.1 bt425.2.2 4).bind fun bt430 => (if bt430.1 = true then (spec_l10DrawRight.j0 k true s0_0 bt430.2.1 bt430.2.2 a1_0 a1_1 t428 bt425.1) else (spec_l10DrawRight.j0 k (bt425.1.toList == ([] : List UInt8)) s0_0 bt430.2.1 bt430.2.2 a1_0 a1_1 t428 bt425.1))))) = some (r1, r2, r3, r4, r5) := h
 clear h; obtain ⟨⟨t425, t426, t427⟩, A30, H⟩ := Option.bind_eq_some_iff.mp H
 try dsimp only at H
 have A3 := Aside0.mk A30; clear A30; obtain ⟨t428, A40, H⟩ := Option.bind_eq_some_iff.mp H
 try dsimp only at H
 have A4 := Aside0.mk A40; clear A40; have HC5 := Aside0.mk H; clear H
 go_enter Try.func56, Try.ntmps56
 go_upto_region 3 with (first | ((with_reducible refine gd 3 ?_); refine bA 3 #[.int .i64 a1_0, .int .i64 a1_1] 36 ?_; intro gb423 hg w6 hbox hb; replace HB := Aside0.mk (below_step y0_8 hb); have BK423 := Aside0.mk (hbox); have GW423 := bh hg HK; have GJ423 := gi GW423; have GE423 := Aside0.mk ((Nat.le_trans HW0.out (y0_17 : w.heap.size ≤ gb423) : w0.heap.size ≤ gb423)); have GI423 := gi GE423; replace HK := kb HK hb; have NB0_423 := Aside0.mk ((y0_4 : g ≠ gb423)); have NI0_423 := ni NB0_423; have NB423_0 := Aside0.mk ((y0_5 : gb423 ≠ g)); have NI423_0 := ni NB423_0; replace HI0 := Aside0.mk (IsS68.below y0_9 hb); clear hb hbox hg) | ((with_reducible refine gd 4 ?_); refine bA 4 #[.int .i64 0, .string (⟨#[]⟩ : ByteArray), .slice none 0 0] 26 ?_; intro gb424 hg w7 hbox hb; replace HB := Aside0.mk (below_step y0_6 hb); have BK424 := Aside0.mk (hbox); have GW424 := bh hg HK; have GJ424 := gi GW424; have GE424 := Aside0.mk ((Nat.le_trans HW0.out (y0_17 : w.heap.size ≤ gb424) : w0.heap.size ≤ gb424)); have GI424 := gi GE424; replace HK := kb HK hb; have NB423_424 := b1 BK423 hg; have NI423_424 := ni NB423_424; have NB424_423 := b2 BK423 hg; have NI424_423 := ni NB424_423; replace BK423 := bk BK423 hb; have NB0_424 := Aside0.mk ((y0_0 : g ≠ gb424)); have NI0_424 := ni NB0_424; have NB424_0 := Aside0.mk ((y0_1 : gb424 ≠ g)); have NI424_0 := ni NB424_0; replace HI0 := Aside0.mk (IsS68.below y0_7 hb); clear hb hbox hg) | ((with_reducible refine gate_callee (f := 67) rfl ?_); refine gB (some 9) Try.func67 #[.pointer (some ⟨g, 0, none⟩)] ?_; (with_reducible refine (spec_l5DrawRight.calls k g s0_0 s0_1 s0_2 t425 t426 t427 w0 _ ?side1 ?side2 A3.out).mono ?_); (case side1 => repeat (first | (with_reducible first | exact HI0.out | apply IsS68.alloc | apply IsS68.drewN | apply IsS68.drew | apply IsS68.set_1 | apply IsS68.set_2 | refine IsS68.far ?_ NeI.out _) | exact HI0.out)); (case side2 => repeat (first | (with_reducible first | exact HB.out | apply below_alloc | apply pw_below_drewN | apply below_drew1 | refine below_set ?_ (IsS68.ge HI0.out) | refine below_set ?_ GeI.out) | exact HB.out)); rintro e w8 ⟨rfl, hi, hb, hk⟩; refine ⟨_, rfl, ?_⟩; replace BK423 := bq BK423 hk NB423_0; replace BK424 := bq BK424 hk NB424_0; replace HK := kt HK hk; replace HB := Aside0.mk (hb); replace HI0 := Aside0.mk (hi); (try clear hb); (try clear hb2); (try clear hk); (try clear hi)) | ((with_reducible refine gate_callee (f := 68) rfl ?_); refine gB (some 11) Try.func68 #[.string t425] ?_; (with_reducible refine (spec_ViewOf.calls k t425 t428 _ A4.out).mono ?_); rintro e w9 ⟨rfl, hb⟩; refine ⟨_, rfl, ?_⟩; replace BK423 := bk BK423 hb; replace BK424 := bk BK424 hb; replace HK := kb HK hb; replace HB := Aside0.mk (below_step y0_6 hb); replace HI0 := Aside0.mk (IsS68.below y0_7 hb); (try clear hb); (try clear hb2); (try clear hk); (try clear hi)) | ((with_reducible refine gd 6 ?_); refine bA 6 #[.int .i64 0, .string (⟨#[]⟩ : ByteArray), .slice none 0 0] 26 ?_; intro gb429 hg w10 hbox hb; replace HB := Aside0.mk (below_step y0_6 hb); have BK429 := Aside0.mk (hbox); have GW429 := bh hg HK; have GJ429 := gi GW429; have GE429 := Aside0.mk ((Nat.le_trans HW0.out (y0_17 : w.heap.size ≤ gb429) : w0.heap.size ≤ gb429)); have GI429 := gi GE429; replace HK := kb HK hb; have NB423_429 := b1 BK423 hg; have NI423_429 := ni NB423_429; have NB429_423 := b2 BK423 hg; have NI429_423 := ni NB429_423; replace BK423 := bk BK423 hb; have NB424_429 := b1 BK424 hg; have NI424_429 := ni NB424_429; have NB429_424 := b2 BK424 hg; have NI429_424 := ni NB429_424; replace BK424 := bk BK424 hb; have NB0_429 := Aside0.mk ((by rw [hg]; exact Nat.ne_of_lt (IsS68.lt (show IsS68 w0 _ g s0_0 t426 t427 from y0_7)) : g ≠ gb429)); have NI0_429 := ni NB0_429; have NB429_0 := Aside0.mk ((by rw [hg]; exact Nat.ne_of_gt (IsS68.lt (show IsS68 w0 _ g s0_0 t426 t427 from y0_7)) : gb429 ≠ g)); have NI429_0 := ni NB429_0; replace HI0 := Aside0.mk (IsS68.below y0_7 hb); clear hb hbox hg; have hnb11 := NB429_423.out; have hnc11 := NB423_429.out; have hnb12 := NB429_424.out; have hnc12 := NB424_429.out; have hnb13 := NB429_0.out; have hnc13 := NB0_429.out; obtain ⟨hcz14_0, hcz14_1, hcz14_2, hfz14_0, hfz14_1, hfz14_2⟩ := cs3 BK429))
 (try simp only [Act.put, List.setIfInBounds_toArray, List.set_cons_zero, List.set_cons_succ])
 go_cut [19] (fun v19 wc => ∃ (kq : Nat) (x19_4 : Bool) (x1001_4 : Int) (x1002_4 : Int), v19 = .bool x19_4 ∧ Aside0 (spec_l10DrawRight.j0 kq x19_4 s0_0 x1001_4 x1002_4 a1_0 a1_1 t428 t425 = some (r1, r2, r3, r4, r5)) ∧ Aside0 (kq ≤ k) ∧ Aside0 (wc.heap[gb423]? = some (.cells #[.int .i64 a1_0, .int .i64 a1_1] 36 (0, 0))) ∧ Aside0 (wc.heap[gb424]? = some (.cells #[.int .i64 0, .string (⟨#[]⟩ : ByteArray), (.slice none 0 0)] 26 (0, 0))) ∧ Aside0 (wc.heap[gb429]? = some (.cells #[.int .i64 t428, .string t425, (.slice none 0 0)] 26 (0, 0))) ∧ Aside0 (IsS68 w0 wc g s0_0 x1001_4 x1002_4) ∧ Aside0 (KeepBut w wc g none) ∧ Aside0 (Below w0.heap.size w0 wc))
 case first =>
  have H := HC5.out; clear HC5; obtain ⟨⟨t430, t431, t432⟩, A150, H⟩ := Option.bind_eq_some_iff.mp H
  try dsimp only at H
  have A15 := Aside0.mk A150; clear A150
  by_cases c16 : t430 = true
  ·
   subst c16
   rw [if_pos rfl] at H
   have H' := Aside0.mk H; clear H
   go_wp2_with (first | ((with_reducible refine gate_callee (f := 57) rfl ?_); refine gB (some 15) Try.func57 #[.pointer (some ⟨g, 0, none⟩), .int .i64 4] ?_; (with_reducible refine (spec_l1Once.calls g s0_0 t426 t427 4 true t431 t432 w0 _ ?side1 ?side2 A15.out).mono ?_); (case side1 => repeat (first | (with_reducible first | exact HI0.out | apply IsS68.alloc | apply IsS68.drewN | apply IsS68.drew | apply IsS68.set_1 | apply IsS68.set_2 | refine IsS68.far ?_ NeI.out _) | exact HI0.out)); (case side2 => repeat (first | (with_reducible first | exact HB.out | apply below_alloc | apply pw_below_drewN | apply below_drew1 | refine below_set ?_ (IsS68.ge HI0.out) | refine below_set ?_ GeI.out) | exact HB.out)); rintro e w17 ⟨rfl, hi, hb, hk⟩; refine ⟨_, rfl, ?_⟩; replace BK423 := Aside0.mk (KeepBut.blk hk (g' := gb423) (o := .cells #[.int .i64 a1_0, .int .i64 a1_1] 36 (0, 0)) (gI BK423.out) NB423_0.out (by simp)); replace BK424 := Aside0.mk (KeepBut.blk hk (g' := gb424) (o := .cells #[.int .i64 0, .string (⟨#[]⟩ : ByteArray), .slice none 0 0] 26 (0, 0)) (gI BK424.out) NB424_0.out (by simp)); replace BK429 := Aside0.mk (KeepBut.blk hk (g' := gb429) (o := .cells #[.int .i64 t428, .string t425, .slice none 0 0] 26 (0, 0)) (pI BK429) NB429_0.out (by simp)); replace HK := kt HK hk; replace HB := Aside0.mk (hb); replace HI0 := Aside0.mk (hi); (try clear hb); (try clear hb2); (try clear hk); (try clear hi)))
   go_meet
   case rel => exact ⟨_, (true), (t431), (t432), y0_21, H', ⟨y0_22⟩, ⟨gI BK423.out⟩, ⟨gI BK424.out⟩, ⟨gI BK429.out⟩, ⟨y0_7⟩, ⟨hI HK.out⟩, ⟨y0_6⟩⟩
  replace c16 := Bool.eq_false_iff.mpr c16; subst c16
  rw [if_neg (show ¬ (false = true) by decide)] at H
  have H' := Aside0.mk H; clear H
  go_wp2_with (first | ((with_reducible refine gate_callee (f := 57) rfl ?_); refine gB (some 15) Try.func57 #[.pointer (some ⟨g, 0, none⟩), .int .i64 4] ?_; (with_reducible refine (spec_l1Once.calls g s0_0 t426 t427 4 false t431 t432 w0 _ ?side1 ?side2 A15.out).mono ?_); (case side1 => repeat (first | (with_reducible first | exact HI0.out | apply IsS68.alloc | apply IsS68.drewN | apply IsS68.drew | apply IsS68.set_1 | apply IsS68.set_2 | refine IsS68.far ?_ NeI.out _) | exact HI0.out)); (case side2 => repeat (first | (with_reducible first | exact HB.out | apply below_alloc | apply pw_below_drewN | apply below_drew1 | refine below_set ?_ (IsS68.ge HI0.out) | refine below_set ?_ GeI.out) | exact HB.out)); rintro e w18 ⟨rfl, hi, hb, hk⟩; refine ⟨_, rfl, ?_⟩; replace BK423 := Aside0.mk (KeepBut.blk hk (g' := gb423) (o := .cells #[.int .i64 a1_0, .int .i64 a1_1] 36 (0, 0)) (gI BK423.out) NB423_0.out (by simp)); replace BK424 := Aside0.mk (KeepBut.blk hk (g' := gb424) (o := .cells #[.int .i64 0, .string (⟨#[]⟩ : ByteArray), .slice none 0 0] 26 (0, 0)) (gI BK424.out) NB424_0.out (by simp)); replace BK429 := Aside0.mk (KeepBut.blk hk (g' := gb429) (o := .cells #[.int .i64 t428, .string t425, .slice none 0 0] 26 (0, 0)) (pI BK429) NB429_0.out (by simp)); replace HK := kt HK hk; replace HB := Aside0.mk (hb); replace HI0 := Aside0.mk (hi); (try clear hb); (try clear hb2); (try clear hk); (try clear hi)))
  go_meet
  case rel => exact ⟨_, ((t425.toList == ([] : List UInt8))), (t431), (t432), y0_21, H', ⟨y0_22⟩, ⟨gI BK423.out⟩, ⟨gI BK424.out⟩, ⟨gI BK429.out⟩, ⟨y0_7⟩, ⟨hI HK.out⟩, ⟨y0_6⟩⟩
 case rest =>
  clear HC5
  try clear c1
  try clear p2
  try clear c5
  try clear c6
  try clear c11
  try clear c12
  try clear c13
  try clear c16
  try clear hcz14_0
  try clear hcz14_1
  try clear hcz14_2
  try clear hfz14_0
  try clear hfz14_1
  try clear hfz14_2
  obtain ⟨kq, x19_4, x1001_4, x1002_4, rfl, HA, HJ4, BK423, BK424, BK429, HI0, HK, HB⟩ := hcut; cases kq with
  | zero => exact absurd HA.out (by simp [spec_l10DrawRight.j0])
  | succ kj4 =>
   have H := HA.out; clear HA
   simp only [spec_l10DrawRight.j0] at H
   have HC19 := Aside0.mk H; clear H
   go_upto_if 19 with (fail)
   go_cut [] (fun wc => ∃ (kq : Nat) (x1001_18 : Int) (x1002_18 : Int) (x430000_18 : Int) (x430001_18 : ByteArray), Aside0 (spec_l10DrawRight.j1 kq s0_0 x1001_18 x1002_18 a1_0 a1_1 x430000_18 x430001_18 = some (r1, r2, r3, r4, r5)) ∧ Aside0 (kq ≤ kj4) ∧ Aside0 (wc.heap[gb423]? = some (.cells #[.int .i64 a1_0, .int .i64 a1_1] 36 (0, 0))) ∧ Aside0 (wc.heap[gb424]? = some (.cells #[.int .i64 0, .string (⟨#[]⟩ : ByteArray), (.slice none 0 0)] 26 (0, 0))) ∧ Aside0 (wc.heap[gb429]? = some (.cells #[.int .i64 x430000_18, .string x430001_18, (.slice none 0 0)] 26 (0, 0))) ∧ Aside0 (IsS68 w0 wc g s0_0 x1001_18 x1002_18) ∧ Aside0 (KeepBut w wc g none) ∧ Aside0 (Below w0.heap.size w0 wc))
   case first =>
    have H := HC19.out; clear HC19
    by_cases c20 : x19_4 = true
    ·
     subst c20
     rw [if_pos rfl] at H
     obtain ⟨⟨t433, t434, t435⟩, A210, H⟩ := Option.bind_eq_some_iff.mp H
     try dsimp only at H
     have A21 := Aside0.mk A210; clear A210; have H' := Aside0.mk H; clear H
     go_wp2_with (first | ((with_reducible refine gate_callee (f := 44) rfl ?_); refine gB (some 21) Try.func44 #[.pointer (some ⟨g, 0, none⟩), .int .i64 4] ?_; (with_reducible refine (spec_l1Below.calls g s0_0 x1001_4 x1002_4 4 t433 t434 t435 w0 _ ?side1 ?side2 A21.out).mono ?_); (case side1 => repeat (first | (with_reducible first | exact HI0.out | apply IsS68.alloc | apply IsS68.drewN | apply IsS68.drew | apply IsS68.set_1 | apply IsS68.set_2 | refine IsS68.far ?_ NeI.out _) | exact HI0.out)); (case side2 => repeat (first | (with_reducible first | exact HB.out | apply below_alloc | apply pw_below_drewN | apply below_drew1 | refine below_set ?_ (IsS68.ge HI0.out) | refine below_set ?_ GeI.out) | exact HB.out)); rintro e w22 ⟨rfl, hi, hb, hk⟩; refine ⟨_, rfl, ?_⟩; replace BK423 := bq BK423 hk NB423_0; replace BK424 := bq BK424 hk NB424_0; replace BK429 := bq BK429 hk NB429_0; replace HK := kt HK hk; replace HB := Aside0.mk (hb); replace HI0 := Aside0.mk (hi); (try clear hb); (try clear hb2); (try clear hk); (try clear hi); have hnb23 := NB429_423.out; have hnc23 := NB423_429.out; have hnb24 := NB429_424.out; have hnc24 := NB424_429.out; have hnb25 := NB429_0.out; have hnc25 := NB0_429.out; obtain ⟨hcz26_0, hcz26_1, hcz26_2, hfz26_0, hfz26_1, hfz26_2⟩ := cs3 BK429))
     go_meet
     case rel => exact ⟨_, (t434), (t435), (wrap64 (1 + t433)), ((⟨#[]⟩ : ByteArray)), H', ⟨by have := HJ4.out; first | omega | exact Nat.le_refl _⟩, ⟨gI BK423.out⟩, ⟨gI BK424.out⟩, ⟨pI BK429⟩, ⟨y0_7⟩, ⟨hI HK.out⟩, ⟨y0_6⟩⟩
    replace c20 := Bool.eq_false_iff.mpr c20; subst c20
    rw [if_neg (show ¬ (false = true) by decide)] at H
    have H' := Aside0.mk H; clear H
    go_wp2
    go_meet
    case rel => exact ⟨_, (x1001_4), (x1002_4), (t428), (t425), H', ⟨by have := HJ4.out; first | omega | exact Nat.le_refl _⟩, ⟨gI BK423.out⟩, ⟨gI BK424.out⟩, ⟨gI BK429.out⟩, ⟨y0_7⟩, ⟨hI HK.out⟩, ⟨y0_6⟩⟩
   case rest =>
    clear HC19
    try clear c1
    try clear c2
    try clear p2
    try clear c4
    try clear c5
    try clear c6
    try clear p6
    try clear c11
    try clear c12
    try clear c13
    try clear c16
    try clear c20
    try clear c23
    try clear c24
    try clear c25
    try clear hcz14_0
    try clear hcz14_1
    try clear hcz14_2
    try clear hcz26_0
    try clear hcz26_1
    try clear hcz26_2
    try clear hfz14_0
    try clear hfz14_1
    try clear hfz14_2
    try clear hfz26_0
    try clear hfz26_1
    try clear hfz26_2
    try clear p2
    obtain ⟨kq, x1001_18, x1002_18, x430000_18, x430001_18, HA, HJ18, BK423, BK424, BK429, HI0, HK, HB⟩ := hcut; cases kq with
    | zero => exact absurd HA.out (by simp [spec_l10DrawRight.j1])
    | succ kj18 =>
     have H := HA.out; clear HA
     simp only [spec_l10DrawRight.j1] at H
     have H' := Aside0.mk H; clear H
     go_wp2
     go_loopg [7] kj18 (fun kq v7 w' => ∃ (x7_3 : Int) (x1001_3 : Int) (x1002_3 : Int) (x430002_3 : List Int) (u430002 : Value), v7 = .int .i64 x7_3 ∧ Aside0 (spec_l10DrawRight.l0 kq x7_3 s0_0 x1001_3 x1002_3 a1_0 a1_1 x430000_18 x430001_18 x430002_3 = some (r1, r2, r3, r4, r5)) ∧ Aside0 (kq ≤ kj18) ∧ Aside0 (Kd.R (Kd.int .i64) 3 w' w.heap.size (fun _ => True) u430002 x430002_3) ∧ Aside0 (w'.heap[gb423]? = some (.cells #[.int .i64 a1_0, .int .i64 a1_1] 36 (0, 0))) ∧ Aside0 (w'.heap[gb424]? = some (.cells #[.int .i64 0, .string (⟨#[]⟩ : ByteArray), (.slice none 0 0)] 26 (0, 0))) ∧ Aside0 (w'.heap[gb429]? = some (.cells #[.int .i64 x430000_18, .string x430001_18, u430002] 26 (0, 0))) ∧ Aside0 (IsS68 w0 w' g s0_0 x1001_3 x1002_3) ∧ Aside0 (KeepBut w w' g none) ∧ Aside0 (Below w0.heap.size w0 w'))
     case atStart => exact ⟨(0), (x1001_18), (x1002_18), (([] : List Int)), (.slice none 0 0), y0_21, H', ⟨Nat.le_refl _⟩, ⟨y0_11⟩, ⟨gI BK423.out⟩, ⟨gI BK424.out⟩, ⟨gI BK429.out⟩, ⟨y0_7⟩, ⟨hI HK.out⟩, ⟨y0_6⟩⟩
     case round =>
      clear H'
      try clear c1
      try clear c2
      try clear p2
      try clear c4
      try clear c5
      try clear c6
      try clear p6
      try clear c11
      try clear c12
      try clear c13
      try clear c16
      try clear c20
      try clear c23
      try clear c24
      try clear c25
      try clear hcz14_0
      try clear hcz14_1
      try clear hcz14_2
      try clear hcz26_0
      try clear hcz26_1
      try clear hcz26_2
      try clear hfz14_0
      try clear hfz14_1
      try clear hfz14_2
      try clear hfz26_0
      try clear hfz26_1
      try clear hfz26_2
      try clear p2
      try clear p6
      obtain ⟨x7_3, x1001_3, x1002_3, x430002_3, u430002, rfl, HA, HK3, HO_430002, BK423, BK424, BK429, HI0, HK, HB⟩ := hrel; cases gk with
      | zero => exact absurd HA.out (by simp [spec_l10DrawRight.l0])
      | succ k3 =>
       have H := HA.out; clear HA
       simp only [spec_l10DrawRight.l0] at H
       obtain ⟨⟨t436, t437, t438⟩, A270, H⟩ := Option.bind_eq_some_iff.mp H
       try dsimp only at H
       have A27 := Aside0.mk A270; clear A270
       by_cases c28 : x7_3 < (wrap64 (1 + t436))
       ·
        rw [if_pos c28] at H
        have c28b0 : decide (x7_3 < (wrap64 (1 + t436))) = true := decide_eq_true c28; clear c28; obtain ⟨t439, A290, H⟩ := Option.bind_eq_some_iff.mp H
        try dsimp only at H
        have A29 := Aside0.mk A290; clear A290; obtain ⟨⟨t440, t441, t442⟩, A300, H⟩ := Option.bind_eq_some_iff.mp H
        try dsimp only at H
        have A30 := Aside0.mk A300; clear A300; obtain ⟨t443, A310, H⟩ := Option.bind_eq_some_iff.mp H
        try dsimp only at H
        have A31 := Aside0.mk A310; clear A310; have H' := Aside0.mk H; clear H
        try go_wp2_with (first | ((with_reducible refine gate_callee (f := 44) rfl ?_); refine gB (some 26) Try.func44 #[.pointer (some ⟨g, 0, none⟩), .int .i64 7] ?_; (with_reducible refine (spec_l1Below.calls g s0_0 x1001_3 x1002_3 7 t436 t437 t438 w0 _ ?side1 ?side2 A27.out).mono ?_); (case side1 => repeat (first | (with_reducible first | exact HI0.out | apply IsS68.alloc | apply IsS68.drewN | apply IsS68.drew | apply IsS68.set_1 | apply IsS68.set_2 | refine IsS68.far ?_ NeI.out _) | exact HI0.out)); (case side2 => repeat (first | (with_reducible first | exact HB.out | apply below_alloc | apply pw_below_drewN | apply below_drew1 | refine below_set ?_ (IsS68.ge HI0.out) | refine below_set ?_ GeI.out) | exact HB.out)); rintro e w32 ⟨rfl, hi, hb, hk⟩; refine ⟨_, rfl, ?_⟩; replace HO_430002 := Aside0.mk (Kd.R_mono (Kd.R_keep (IsS68.apart (show IsS68 w0 _ g s0_0 x1001_3 x1002_3 from y0_7) (rI HO_430002.out) (by decide)) hk (fun _ h => h.2)) (fun _ h => h.1)); replace BK423 := bq BK423 hk NB423_0; replace BK424 := bq BK424 hk NB424_0; replace BK429 := bq BK429 hk NB429_0; replace HK := kt HK hk; replace HB := Aside0.mk (hb); replace HI0 := Aside0.mk (hi); (try clear hb); (try clear hb2); (try clear hk); (try clear hi)))
        replace HO_430002 := Aside0.mk (Kd.R_drew HO_430002.out); replace BK423 := Aside0.mk (blk_drew BK423.out); replace BK424 := Aside0.mk (blk_drew BK424.out); replace BK429 := Aside0.mk (blk_drew BK429.out); replace HI0 := Aside0.mk (IsS68.drew HI0.out); replace HK := Aside0.mk (keep_drew HK.out); replace HB := Aside0.mk (below_drew1 HB.out)
        refine start_ (n := 10) (S := fun w' => w'.cell? ⟨gb429, 0, none⟩ = some (.int .i64 x430000_18) ∧ w'.cell? ⟨gb429, 1, none⟩ = some (.string x430001_18) ∧ w'.cell? ⟨gb429, 2, none⟩ = some (u430002) ∧ w'.cell? ⟨gb423, 0, none⟩ = some (.int .i64 a1_0) ∧ w'.cell? ⟨gb423, 1, none⟩ = some (.int .i64 a1_1)) (ds := [9]) #[false, false, false, false, false, false, false, false, false, false] (by kernel_rfl) rfl rfl ⟨bc0 BK429.out, bc1 BK429.out, bc2 BK429.out, bc0 BK423.out, bc1 BK423.out⟩ (fun hHeld => ?_); refine with_tabW spec_l10DrawRight.tab8 spec_l10DrawRight.bits8 (fun HT_ HW_ => ?_)
        generalize w32.drew = w33 at HO_430002 BK423 BK424 BK429 HI0 HK HB hHeld ⊢
        refine pA 0 (some 31) (bz 10 1) HT_ ?_
        refine pA 2 (some 33) (bz 10 5) HT_ ?_
        refine pA 3 (some 34) (bz 10 13) HT_ ?_
        refine tA 1 (some 32) (bz 10 15) HT_ HW_ hHeld ?_
        refine tA 4 (some 35) (bz 10 31) HT_ HW_ hHeld ?_
        refine oA 5 (some 36) (bz 10 63) HT_ (fun K hK => ?_)
        refine gA Try.func69 #[.int .i64 a1_0, .int .i64 4] ?_
        with_reducible refine (spec_l1Max.calls a1_0 4 t439 _ A29.out).mono ?_
        rintro e w' ⟨rfl, ⟨nd, rfl⟩⟩
        refine ⟨_, rfl, ?_⟩
        refine hK.out _ _ ⟨bc0 BK429.out, bc1 BK429.out, bc2 BK429.out, bc0 BK423.out, bc1 BK423.out⟩ (fun hHeld => ?_)
        clear hK K
        refine nA (some 36) ?_
        refine oA 6 (some 37) (bz 10 127) HT_ (fun K hK => ?_)
        refine gA Try.func44 #[.pointer (some ⟨g, 0, none⟩), .int .i64 t439] ?_
        with_reducible refine (spec_l1Below.calls g s0_0 t437 t438 t439 t440 t441 t442 w0 _ ?side1 ?side2 A30.out).mono ?_
        (case side1 => repeat (first | (with_reducible first | exact HI0.out | apply IsS68.alloc | apply IsS68.drewN | apply IsS68.drew | apply IsS68.set_1 | apply IsS68.set_2 | refine IsS68.far ?_ NeI.out _) | exact HI0.out))
        (case side2 => repeat (first | (with_reducible first | exact HB.out | apply below_alloc | apply pw_below_drewN | apply below_drew1 | refine below_set ?_ (IsS68.ge HI0.out) | refine below_set ?_ GeI.out) | exact HB.out))
        rintro e w34 ⟨rfl, hi, hb, hk⟩
        refine ⟨_, rfl, ?_⟩
        replace HO_430002 := Aside0.mk (Kd.R_mono (Kd.R_keep (IsS68.apart (show IsS68 w0 _ g s0_0 t437 t438 from y0_7) (rI HO_430002.out) (by decide)) hk (fun _ h => h.2)) (fun _ h => h.1))
        replace BK423 := bq BK423 hk NB423_0; replace BK424 := bq BK424 hk NB424_0; replace BK429 := bq BK429 hk NB429_0; replace HK := kt HK hk; replace HB := Aside0.mk (hb); replace HI0 := Aside0.mk (hi)
        (try clear hb)
        (try clear hb2)
        (try clear hk)
        (try clear hi)
        obtain ⟨Ao35, co35, eo35⟩ := Kd.R_slice HO_430002.out
        (first | subst eo35 | (injection eo35 with f1_ f2_ f3_; have f4_ := f1_.symm; have f5_ := f3_.symm; clear f1_ f2_ f3_; subst f4_; subst f5_))
        refine hK.out _ _ ⟨bc0 BK429.out, bc1 BK429.out, bc2 BK429.out, bc0 BK423.out, bc1 BK423.out⟩ (fun hHeld => ?_)
        clear hK K
        refine nA (some 37) ?_
        refine oA 7 (some 38) (bz 10 255) HT_ (fun K hK => ?_)
        refine gA Try.func48 #[.slice Ao35 x430002_3.length co35, .int .i64 t440] ?_
        with_reducible refine (spec_SetAdd.calls k3 _ _ x430002_3 t440 t443 _ ?side1 ?side2 A31.out).mono ?_
        (case side1 => repeat (first | exact (Kd.R_reads' HO_430002.out).2.2 | (with_reducible refine Kd.C_alloc ?_ _) | (with_reducible refine Kd.C_drewN ?_ _) | (with_reducible refine Kd.C_drew ?_)))
        (case side2 => exact (Kd.R_reads' HO_430002.out).2.1)
        rintro e w36 ⟨v444, rfl, ho0, hb⟩
        refine ⟨_, rfl, ?_⟩
        have HO445 := Aside0.mk (Kd.R_lower (Kd.R_new' ho0 (Kd.R_lt (rI HO_430002.out))) (keep_size (w := w) (g := g) (row := none) (hI HK.out))); replace HO_430002 := Aside0.mk (Kd.R_elder' (rI HO_430002.out) (Kd.R_base ho0) hb); replace BK423 := bk BK423 hb; replace BK424 := bk BK424 hb; replace BK429 := bk BK429 hb; replace HK := kb HK hb; replace HB := Aside0.mk (below_step y0_6 hb); replace HI0 := Aside0.mk (IsS68.below y0_7 hb)
        (try clear hb)
        (try clear hb2)
        (try clear hk)
        (try clear hi)
        (try clear ho0)
        obtain ⟨Ao37, co37, eo37⟩ := Kd.R_slice HO445.out
        (first | subst eo37 | (injection eo37 with f1_ f2_ f3_; have f4_ := f1_.symm; have f5_ := f3_.symm; clear f1_ f2_ f3_; subst f4_; subst f5_))
        refine hK.out _ _ ⟨bc0 BK429.out, bc1 BK429.out, bc2 BK429.out, bc0 BK423.out, bc1 BK423.out⟩ (fun hHeld => ?_)
        clear hK K
        refine nA (some 38) ?_
        refine pA 8 (some 39) (bz 10 511) HT_ ?_
        refine last_ (i := 9) (N := none) #[true, true, true, true, true, true, true, true, true, true] rfl rfl (one_of HT_.out (by kernel_rfl)) (by decide) (fun K hK => ?_)
        have hs38 : w36.cell? ⟨gb429, 2, none⟩ = some (.slice Ao35 x430002_3.length co35) := bc2 BK429.out; have hfs38 := blk_frozen BK429.out 2; have hns38_0 := NB423_429.out; have hns38_1 := NB424_429.out; have hms38_0 := NB429_423.out; have hms38_1 := NB429_424.out
        refine skip_ (w1 := ?_) (by rfl) rfl ?_ ?_
        rotate_left
        ·
         go_simp
         rfl
        refine hK.out _ _ ?_
        clear hK K
        refine done_ (done_of HT_.out (by kernel_rfl)) ?_
        try go_wp2
        go_roundg k3
        case measure => have := HJ4.out; have := HJ18.out; have := HK3.out; omega
        case rel => exact ⟨(wrap64 (x7_3 + 1)), (t441), (t442), (t443), (.slice Ao37 t443.length co37), y0_21, H', ⟨by have := HJ4.out; have := HJ18.out; have := HK3.out; omega⟩, ⟨by (with_reducible repeat (first | apply Kd.R_alloc | apply Kd.R_drewN | apply Kd.R_drew)); exact Kd.R_mono (Kd.R_far (p := ⟨gb429, 2, none⟩) (Kd.R_types HO445.out BK429.out (by decide)) (fun _ hk => hk.2) (.slice Ao37 t443.length co37)) (fun _ hk => trivial)⟩, ⟨gI BK423.out⟩, ⟨gI BK424.out⟩, ⟨pI BK429⟩, ⟨y0_7⟩, ⟨hI HK.out⟩, ⟨y0_6⟩⟩
       rw [if_neg c28] at H
       have c28b0 : decide (x7_3 < (wrap64 (1 + t436))) = false := decide_eq_false c28; clear c28
       simp only [Option.some.injEq, Prod.mk.injEq] at H
       obtain ⟨rfl, rfl, rfl, rfl, rfl⟩ := H
       go_wp2_with (first | ((with_reducible refine gate_callee (f := 44) rfl ?_); refine gB (some 26) Try.func44 #[.pointer (some ⟨g, 0, none⟩), .int .i64 7] ?_; (with_reducible refine (spec_l1Below.calls g s0_0 x1001_3 x1002_3 7 t436 t437 t438 w0 _ ?side1 ?side2 A27.out).mono ?_); (case side1 => repeat (first | (with_reducible first | exact HI0.out | apply IsS68.alloc | apply IsS68.drewN | apply IsS68.drew | apply IsS68.set_1 | apply IsS68.set_2 | refine IsS68.far ?_ NeI.out _) | exact HI0.out)); (case side2 => repeat (first | (with_reducible first | exact HB.out | apply below_alloc | apply pw_below_drewN | apply below_drew1 | refine below_set ?_ (IsS68.ge HI0.out) | refine below_set ?_ GeI.out) | exact HB.out)); rintro e w39 ⟨rfl, hi, hb, hk⟩; refine ⟨_, rfl, ?_⟩; replace HO_430002 := Aside0.mk (Kd.R_mono (Kd.R_keep (IsS68.apart (show IsS68 w0 _ g s0_0 x1001_3 x1002_3 from y0_7) (rI HO_430002.out) (by decide)) hk (fun _ h => h.2)) (fun _ h => h.1)); replace BK423 := bq BK423 hk NB423_0; replace BK424 := bq BK424 hk NB424_0; replace BK429 := bq BK429 hk NB429_0; replace HK := kt HK hk; replace HB := Aside0.mk (hb); replace HI0 := Aside0.mk (hi); (try clear hb); (try clear hb2); (try clear hk); (try clear hi); have hnb40 := NB429_423.out; have hnc40 := NB423_429.out; have hnb41 := NB429_424.out; have hnc41 := NB424_429.out; have hnb42 := NB429_0.out; have hnc42 := NB0_429.out; obtain ⟨hcz43_0, hcz43_1, hcz43_2, hfz43_0, hfz43_1, hfz43_2⟩ := cs3 BK429; have hnb44 := NB424_423.out; have hnc44 := NB423_424.out; have hnb45 := NB424_0.out; have hnc45 := NB0_424.out; obtain ⟨hcz46_0, hcz46_1, hcz46_2, hfz46_0, hfz46_1, hfz46_2⟩ := cs3 BK424; obtain ⟨Ao47, co47, eo47⟩ := Kd.R_slice HO_430002.out; subst eo47))
       refine bodyPost_ret (results_cell_row rfl _ _ gb424 26 #[.int .i64 x430000_18, .string x430001_18, .slice Ao47 x430002_3.length co47] (0, 0) _ rfl (pI BK424) Try.underlying26 rfl (by kernel_rfl)) rfl ?_
       exact ⟨_, y0_16, by (with_reducible repeat (first | apply Kd.R_alloc | apply Kd.R_drewN | apply Kd.R_drew)); exact Kd.R_mono (Kd.R_far (p := ⟨gb424, 2, none⟩) (Kd.R_far (p := ⟨gb424, 1, none⟩) (Kd.R_far (p := ⟨gb424, 0, none⟩) (Kd.R_types HO_430002.out BK424.out (by decide)) (fun _ hk => hk.2) (.int .i64 x430000_18)) (fun _ hk => hk.2) (.string x430001_18)) (fun _ hk => hk.2) (.slice Ao47 x430002_3.length co47)) (fun _ hk => trivial), y0_7, y0_6, hI HK.out⟩

/-! ### spec_l6DrawSet: function 70 -/
def spec_l6DrawSet.l0 : Nat → Int → List Int → Int → List Int → Int → Int → Option (List Int × Int × Int)
 | 0, _, _, _, _, _, _ => none
 | k + 1, x1, x5, x6, x1000, x1001, x1002 => (spec_l1Below.f x1000 x1001 x1002 8).bind fun bt449 => (if x6 < bt449.1 then ((spec_l1Below.f x1000 bt449.2.1 bt449.2.2 x1).bind fun bt452 => ((spec_SetAdd.f k x5 bt452.1).bind fun t455 => (spec_l6DrawSet.l0 k x1 t455 (wrap64 (x6 + 1)) x1000 bt452.2.1 bt452.2.2))) else ((spec_l1Once.f x1000 bt449.2.1 bt449.2.2 12).bind fun bt458 => (if bt458.1 = true then ((spec_l1PickInt.f x1000 bt458.2.1 bt458.2.2 (([(-1), 0, 3, 9] : List Int))).bind fun bt464 => (if x5.length < 17592186044416 then (some ((x5 ++ [bt464.1]), bt464.2.1, bt464.2.2)) else (none))) else (some (x5, bt458.2.1, bt458.2.2)))))
def spec_l6DrawSet.f (k : Nat) (s0_0 : List Int) (s0_1 : Int) (s0_2 : Int) (a1 : Int) : Option (List Int × Int × Int) := spec_l6DrawSet.l0 k a1 (([] : List Int)) 0 s0_0 s0_1 s0_2
theorem spec_l6DrawSet.mono_l : ∀ k, (∀ y0 y1 y2 y3 y4 y5, LeO (spec_l6DrawSet.l0 k y0 y1 y2 y3 y4 y5) (spec_l6DrawSet.l0 (k + 1) y0 y1 y2 y3 y4 y5))
 | 0 => fun _ _ _ _ _ _ r h => by simp [spec_l6DrawSet.l0] at h
 | k + 1 => by
  have ih0 := spec_l6DrawSet.mono_l k
  intro y0 y1 y2 y3 y4 y5
  unfold spec_l6DrawSet.l0
  repeat' first | (with_reducible exact ih0 _ _ _ _ _ _) | (with_reducible exact spec_SetAdd.mono _ _ _) | (with_reducible exact LeO.refl _) | (with_reducible exact LeO.none _) | (with_reducible refine LeO.ite ?_ ?_) | (with_reducible refine LeO.bind ?_ (fun _ => ?_))
theorem spec_l6DrawSet.mono : ∀ a0 a1 a2 a3 k, LeO (spec_l6DrawSet.f k a0 a1 a2 a3) (spec_l6DrawSet.f (k + 1) a0 a1 a2 a3) := by
 intro a0 a1 a2 a3 k
 have ih0 := spec_l6DrawSet.mono_l k
 unfold spec_l6DrawSet.f
 repeat' first | (with_reducible exact ih0 _ _ _ _ _ _) | (with_reducible exact spec_SetAdd.mono _ _ _) | (with_reducible exact LeO.refl _) | (with_reducible exact LeO.none _) | (with_reducible refine LeO.ite ?_ ?_) | (with_reducible refine LeO.bind ?_ (fun _ => ?_))
set_option maxHeartbeats 8000000 in
set_option maxRecDepth 100000 in
theorem spec_l6DrawSet.calls (k : Nat) (g : Nat) (s0_0 : List Int) (s0_1 : Int) (s0_2 : Int) (a1 : Int) (r1 : List Int) (r2 : Int) (r3 : Int) (w0 w : World) (hI : IsS68 w0 w g s0_0 s0_1 s0_2) (hB : Below w0.heap.size w0 w) (h : spec_l6DrawSet.f k s0_0 s0_1 s0_2 a1 = some (r1, r2, r3)) :
  Calls Try.prog 70 #[.pointer (some ⟨g, 0, none⟩), .int .i64 a1] w fun e w' => ∃ v0_ : Value, e = .returned (v0_) ∧ Kd.R (Kd.int .i64) 3 w' w.heap.size (fun _ => True) v0_ r1 ∧ IsS68 w0 w' g s0_0 r2 r3 ∧ Below w0.heap.size w0 w' ∧ KeepBut w w' g none := by
 have HI0 := Aside0.mk hI; have HK := Aside0.mk (KeepBut.refl w g none); have HL := Aside0.mk hB.size; clear hI; have HW0 := Aside0.mk hB.size; have HB := Aside0.mk hB; clear hB; have H : (spec_l6DrawSet.l0 k a1 (([] : List Int)) 0 s0_0 s0_1 s0_2) = some (r1, r2, r3) := h; clear h; obtain ⟨y446, hy446⟩ : ∃ y_ : List Int, y_ = (([] : List Int)) := ⟨_, rfl⟩
 replace H : (spec_l6DrawSet.l0 k a1 y446 0 s0_0 s0_1 s0_2) = some (r1, r2, r3) := by first | (rw [hy446]; with_reducible exact H) | (have H2_ := (Option.bind_some _ _).symm.trans H; rw [hy446]; with_reducible exact H2_) | (have H2_ := (Option.bind_some _ _).symm.trans H; with_reducible exact H2_) | with_reducible exact H | (rw [hy446]; exact H) | exact H
 have Ny446 := Aside0.mk hy446; clear hy446; have H' := Aside0.mk H; clear H
 go_enter Try.func70, Try.ntmps70
 go_wp2_with (first | ((with_reducible refine gate_dst (N := 7) rfl ?_); refine Kd.R_lit (Kd.int .i64) _ 3 ?hg (N := 7) ?hd (xs := ([] : List Int)) (inner := []) (ok := fun _ => True) (okp := fun _ => True) ?hr ?hp (fun _ hk => hk) trivial (Below.refl _ _) (Nat.le_refl _) (by simp) ?_; (case hd => rfl); (case hg => rfl); (case hr => first | (go_simp; done) | (go_simp; rfl)); (case hp => exact (Reps.none _ _)); intro v447 w3 ho4 hb hg_ hnew_; clear hg_ hnew_; (first | rw [← Ny446.out] at ho4 | (simp only [Int.reduceToNat] at ho4; rw [← Ny446.out] at ho4)); have HO448 := Aside0.mk (Kd.R_lower ho4 (keep_size (w := w) (g := g) (row := none) (hI HK.out))); replace HK := kb HK hb; replace HB := Aside0.mk (below_step y0_8 hb); replace HI0 := Aside0.mk (IsS68.below y0_9 hb); clear hb ho4))
 go_loopg [5, 6] k (fun kq v5 v6 w' => ∃ (x5_1 : List Int) (x6_1 : Int) (x1001_1 : Int) (x1002_1 : Int), v6 = .int .i64 x6_1 ∧ Aside0 (spec_l6DrawSet.l0 kq a1 x5_1 x6_1 s0_0 x1001_1 x1002_1 = some (r1, r2, r3)) ∧ Aside0 (kq ≤ k) ∧ Aside0 (Kd.R (Kd.int .i64) 3 w' w.heap.size (fun _ => True) v5 x5_1) ∧ Aside0 (IsS68 w0 w' g s0_0 x1001_1 x1002_1) ∧ Aside0 (KeepBut w w' g none) ∧ Aside0 (Below w0.heap.size w0 w'))
 case atStart => exact ⟨(y446), (0), (s0_1), (s0_2), y0_21, H', ⟨Nat.le_refl _⟩, ⟨by (with_reducible repeat (first | apply Kd.R_alloc | apply Kd.R_drewN | apply Kd.R_drew)); exact HO448.out⟩, ⟨y0_9⟩, ⟨hI HK.out⟩, ⟨y0_8⟩⟩
 case round =>
  clear H'
  try clear p2
  obtain ⟨x5_1, x6_1, x1001_1, x1002_1, rfl, HA, HK1, HO_5, HI0, HK, HB⟩ := hrel; cases gk with
  | zero => exact absurd HA.out (by simp [spec_l6DrawSet.l0])
  | succ k1 =>
   have H := HA.out; clear HA
   simp only [spec_l6DrawSet.l0] at H
   obtain ⟨⟨t449, t450, t451⟩, A50, H⟩ := Option.bind_eq_some_iff.mp H
   try dsimp only at H
   have A5 := Aside0.mk A50; clear A50
   by_cases c6 : x6_1 < t449
   ·
    rw [if_pos c6] at H
    have c6b0 : decide (x6_1 < t449) = true := decide_eq_true c6; clear c6; obtain ⟨⟨t452, t453, t454⟩, A70, H⟩ := Option.bind_eq_some_iff.mp H
    try dsimp only at H
    have A7 := Aside0.mk A70; clear A70; obtain ⟨t455, A80, H⟩ := Option.bind_eq_some_iff.mp H
    try dsimp only at H
    have A8 := Aside0.mk A80; clear A80; have H' := Aside0.mk H; clear H
    go_wp2_with (first | ((with_reducible refine gate_callee (f := 44) rfl ?_); refine gB (some 10) Try.func44 #[.pointer (some ⟨g, 0, none⟩), .int .i64 8] ?_; (with_reducible refine (spec_l1Below.calls g s0_0 x1001_1 x1002_1 8 t449 t450 t451 w0 _ ?side1 ?side2 A5.out).mono ?_); (case side1 => repeat (first | (with_reducible first | exact HI0.out | apply IsS68.alloc | apply IsS68.drewN | apply IsS68.drew | apply IsS68.set_1 | apply IsS68.set_2) | exact HI0.out)); (case side2 => repeat (first | (with_reducible first | exact HB.out | apply below_alloc | apply pw_below_drewN | apply below_drew1 | refine below_set ?_ (IsS68.ge HI0.out)) | exact HB.out)); rintro e w9 ⟨rfl, hi, hb, hk⟩; refine ⟨_, rfl, ?_⟩; replace HO_5 := Aside0.mk (Kd.R_mono (Kd.R_keep (IsS68.apart (show IsS68 w0 _ g s0_0 x1001_1 x1002_1 from y0_9) (rI HO_5.out) (by decide)) hk (fun _ h => h.2)) (fun _ h => h.1)); replace HK := kt HK hk; replace HB := Aside0.mk (hb); replace HI0 := Aside0.mk (hi); (try clear hb); (try clear hb2); (try clear hk); (try clear hi)) | ((with_reducible refine gate_callee (f := 44) rfl ?_); refine gB (some 17) Try.func44 #[.pointer (some ⟨g, 0, none⟩), .int .i64 a1] ?_; (with_reducible refine (spec_l1Below.calls g s0_0 t450 t451 a1 t452 t453 t454 w0 _ ?side1 ?side2 A7.out).mono ?_); (case side1 => repeat (first | (with_reducible first | exact HI0.out | apply IsS68.alloc | apply IsS68.drewN | apply IsS68.drew | apply IsS68.set_1 | apply IsS68.set_2) | exact HI0.out)); (case side2 => repeat (first | (with_reducible first | exact HB.out | apply below_alloc | apply pw_below_drewN | apply below_drew1 | refine below_set ?_ (IsS68.ge HI0.out)) | exact HB.out)); rintro e w10 ⟨rfl, hi, hb, hk⟩; refine ⟨_, rfl, ?_⟩; replace HO_5 := Aside0.mk (Kd.R_mono (Kd.R_keep (IsS68.apart (show IsS68 w0 _ g s0_0 t450 t451 from y0_9) (rI HO_5.out) (by decide)) hk (fun _ h => h.2)) (fun _ h => h.1)); replace HK := kt HK hk; replace HB := Aside0.mk (hb); replace HI0 := Aside0.mk (hi); (try clear hb); (try clear hb2); (try clear hk); (try clear hi); obtain ⟨Ao11, co11, eo11⟩ := Kd.R_slice HO_5.out; subst eo11) | ((with_reducible refine gate_callee (f := 48) rfl ?_); refine gB (some 18) Try.func48 #[.slice Ao11 x5_1.length co11, .int .i64 t452] ?_; (with_reducible refine (spec_SetAdd.calls k1 _ _ x5_1 t452 t455 _ ?side1 ?side2 A8.out).mono ?_); (case side1 => repeat (first | exact (Kd.R_reads' HO_5.out).2.2 | (with_reducible refine Kd.C_alloc ?_ _) | (with_reducible refine Kd.C_drewN ?_ _) | (with_reducible refine Kd.C_drew ?_))); (case side2 => exact (Kd.R_reads' HO_5.out).2.1); rintro e w12 ⟨v456, rfl, ho0, hb⟩; refine ⟨_, rfl, ?_⟩; have HO457 := Aside0.mk (Kd.R_lower (Kd.R_new' ho0 (Kd.R_lt (rI HO_5.out))) (keep_size (w := w) (g := g) (row := none) (hI HK.out))); replace HO_5 := Aside0.mk (Kd.R_elder' (rI HO_5.out) (Kd.R_base ho0) hb); replace HK := kb HK hb; replace HB := Aside0.mk (below_step y0_8 hb); replace HI0 := Aside0.mk (IsS68.below y0_9 hb); (try clear hb); (try clear hk); (try clear hi)))
    go_roundg k1
    case measure => have := HK1.out; omega
    case rel => exact ⟨(t455), (wrap64 (x6_1 + 1)), (t453), (t454), y0_21, H', ⟨y0_25⟩, ⟨by (with_reducible repeat (first | apply Kd.R_alloc | apply Kd.R_drewN | apply Kd.R_drew)); exact Kd.R_mono HO457.out (fun _ hk => trivial)⟩, ⟨y0_9⟩, ⟨hI HK.out⟩, ⟨y0_8⟩⟩
   rw [if_neg c6] at H
   have c6b0 : decide (x6_1 < t449) = false := decide_eq_false c6; clear c6; obtain ⟨⟨t458, t459, t460⟩, A130, H⟩ := Option.bind_eq_some_iff.mp H
   try dsimp only at H
   have A13 := Aside0.mk A130; clear A130
   by_cases c14 : t458 = true
   ·
    subst c14
    rw [if_pos rfl] at H
    obtain ⟨y461, hy461⟩ : ∃ y_ : List Int, y_ = (([(-1), 0, 3, 9] : List Int)) := ⟨_, rfl⟩
    replace H : ((spec_l1PickInt.f s0_0 t459 t460 y461).bind fun bt464 => (if x5_1.length < 17592186044416 then (some ((x5_1 ++ [bt464.1]), bt464.2.1, bt464.2.2)) else (none))) = some (r1, r2, r3) := by first | (rw [hy461]; with_reducible exact H) | (have H2_ := (Option.bind_some _ _).symm.trans H; rw [hy461]; with_reducible exact H2_) | (have H2_ := (Option.bind_some _ _).symm.trans H; with_reducible exact H2_) | with_reducible exact H | (rw [hy461]; exact H) | exact H
    have Ny461 := Aside0.mk hy461; clear hy461; obtain ⟨⟨t464, t465, t466⟩, A150, H⟩ := Option.bind_eq_some_iff.mp H
    try dsimp only at H
    have A15 := Aside0.mk A150; clear A150
    by_cases c16 : x5_1.length < 17592186044416
    rotate_left
    ·
     rw [if_neg c16] at H
     exact absurd H (by simp)
    rw [if_pos c16] at H
    have LMc16 := Aside0.mk c16; clear c16; obtain ⟨y467, hy467⟩ : ∃ y_ : List Int, y_ = (x5_1 ++ [t464]) := ⟨_, rfl⟩
    replace H : (some (y467, t465, t466)) = some (r1, r2, r3) := by first | (rw [hy467]; with_reducible exact H) | (have H2_ := (Option.bind_some _ _).symm.trans H; rw [hy467]; with_reducible exact H2_) | (have H2_ := (Option.bind_some _ _).symm.trans H; with_reducible exact H2_) | with_reducible exact H | (rw [hy467]; exact H) | exact H
    have Ny467 := Aside0.mk hy467; clear hy467
    simp only [Option.some.injEq, Prod.mk.injEq] at H
    obtain ⟨rfl, rfl, rfl⟩ := H
    go_wp2_with (first | ((with_reducible refine gate_callee (f := 44) rfl ?_); refine gB (some 10) Try.func44 #[.pointer (some ⟨g, 0, none⟩), .int .i64 8] ?_; (with_reducible refine (spec_l1Below.calls g s0_0 x1001_1 x1002_1 8 t449 t450 t451 w0 _ ?side1 ?side2 A5.out).mono ?_); (case side1 => repeat (first | (with_reducible first | exact HI0.out | apply IsS68.alloc | apply IsS68.drewN | apply IsS68.drew | apply IsS68.set_1 | apply IsS68.set_2) | exact HI0.out)); (case side2 => repeat (first | (with_reducible first | exact HB.out | apply below_alloc | apply pw_below_drewN | apply below_drew1 | refine below_set ?_ (IsS68.ge HI0.out)) | exact HB.out)); rintro e w17 ⟨rfl, hi, hb, hk⟩; refine ⟨_, rfl, ?_⟩; replace HO_5 := Aside0.mk (Kd.R_mono (Kd.R_keep (IsS68.apart (show IsS68 w0 _ g s0_0 x1001_1 x1002_1 from y0_9) (rI HO_5.out) (by decide)) hk (fun _ h => h.2)) (fun _ h => h.1)); replace HK := kt HK hk; replace HB := Aside0.mk (hb); replace HI0 := Aside0.mk (hi); (try clear hb); (try clear hb2); (try clear hk); (try clear hi)) | ((with_reducible refine gate_callee (f := 57) rfl ?_); refine gB (some 20) Try.func57 #[.pointer (some ⟨g, 0, none⟩), .int .i64 12] ?_; (with_reducible refine (spec_l1Once.calls g s0_0 t450 t451 12 true t459 t460 w0 _ ?side1 ?side2 A13.out).mono ?_); (case side1 => repeat (first | (with_reducible first | exact HI0.out | apply IsS68.alloc | apply IsS68.drewN | apply IsS68.drew | apply IsS68.set_1 | apply IsS68.set_2) | exact HI0.out)); (case side2 => repeat (first | (with_reducible first | exact HB.out | apply below_alloc | apply pw_below_drewN | apply below_drew1 | refine below_set ?_ (IsS68.ge HI0.out)) | exact HB.out)); rintro e w18 ⟨rfl, hi, hb, hk⟩; refine ⟨_, rfl, ?_⟩; replace HO_5 := Aside0.mk (Kd.R_mono (Kd.R_keep (IsS68.apart (show IsS68 w0 _ g s0_0 t450 t451 from y0_9) (rI HO_5.out) (by decide)) hk (fun _ h => h.2)) (fun _ h => h.1)); replace HK := kt HK hk; replace HB := Aside0.mk (hb); replace HI0 := Aside0.mk (hi); (try clear hb); (try clear hb2); (try clear hk); (try clear hi)) | ((with_reducible refine gate_dst (N := 23) rfl ?_); refine Kd.R_lit (Kd.int .i64) _ 3 ?hg (N := 23) ?hd (xs := ([(-1), 0, 3, 9] : List Int)) (inner := [.int .i64 (-1), .int .i64 0, .int .i64 3, .int .i64 9]) (ok := fun _ => True) (okp := fun _ => True) ?hr ?hp (fun _ hk => hk) trivial (Below.refl _ _) (Nat.le_refl _) (by simp) ?_; (case hd => rfl); (case hg => rfl); (case hr => first | (go_simp; done) | (go_simp; rfl)); (case hp => exact (Reps.one (show Kd.M (Kd.int .i64) _ _ _ (-1) [.int .i64 (-1)] from rfl) (Reps.one (show Kd.M (Kd.int .i64) _ _ _ 0 [.int .i64 0] from rfl) (Reps.one (show Kd.M (Kd.int .i64) _ _ _ 3 [.int .i64 3] from rfl) (Reps.one (show Kd.M (Kd.int .i64) _ _ _ 9 [.int .i64 9] from rfl) (Reps.none _ _)))))); intro v462 w19 ho20 hb hg_ hnew_; clear hg_ hnew_; (first | rw [← Ny461.out] at ho20 | (simp only [Int.reduceToNat] at ho20; rw [← Ny461.out] at ho20)); have HO463 := Aside0.mk (Kd.R_lower (Kd.R_new' ho20 (Kd.R_lt (rI HO_5.out))) (keep_size (w := w) (g := g) (row := none) (hI HK.out))); replace HO_5 := Aside0.mk (Kd.R_elder' (rI HO_5.out) (Kd.R_base ho20) hb); replace HK := kb HK hb; replace HB := Aside0.mk (below_step y0_8 hb); replace HI0 := Aside0.mk (IsS68.below y0_9 hb); clear hb ho20; obtain ⟨Ao21, co21, eo21⟩ := Kd.R_slice HO463.out; subst eo21) | ((with_reducible refine gate_callee (f := 50) rfl ?_); refine gB (some 24) Try.func50 #[.pointer (some ⟨g, 0, none⟩), .slice Ao21 y461.length co21] ?_; (with_reducible refine (spec_l1PickInt.calls g s0_0 t459 t460 _ _ y461 t464 t465 t466 w0 _ ?side1 ?side2 ?side3 ?side4 ?side5 A15.out).mono ?_); (case side1 => repeat (first | (with_reducible first | exact HI0.out | apply IsS68.alloc | apply IsS68.drewN | apply IsS68.drew | apply IsS68.set_1 | apply IsS68.set_2) | exact HI0.out)); (case side2 => repeat (first | (with_reducible first | exact HB.out | apply below_alloc | apply pw_below_drewN | apply below_drew1 | refine below_set ?_ (IsS68.ge HI0.out)) | exact HB.out)); (case side3 => repeat (first | exact (Kd.R_reads' HO463.out).2.2 | (with_reducible refine Kd.C_alloc ?_ _) | (with_reducible refine Kd.C_drewN ?_ _) | (with_reducible refine Kd.C_drew ?_))); (case side4 => exact (Kd.R_reads' HO463.out).2.1); (case side5 => exact far_slice (IsS68.own_ne HI0.out HO463.out (by decide))); rintro e w22 ⟨rfl, hi, hb, hk⟩; refine ⟨_, rfl, ?_⟩; replace HO_5 := Aside0.mk (Kd.R_mono (Kd.R_keep (IsS68.apart (show IsS68 w0 _ g s0_0 t459 t460 from y0_9) (rI HO_5.out) (by decide)) hk (fun _ h => h.2)) (fun _ h => h.1)); replace HO463 := Aside0.mk (Kd.R_mono (Kd.R_keep (IsS68.apart (show IsS68 w0 _ g s0_0 t459 t460 from y0_9) (rI HO463.out) (by decide)) hk (fun _ h => h.2)) (fun _ h => h.1)); replace HK := kt HK hk; replace HB := Aside0.mk (hb); replace HI0 := Aside0.mk (hi); (try clear hb); (try clear hb2); (try clear hk); (try clear hi)) | ((with_reducible refine gate_builtin (b := .append) (xs := #[.tmp 21, .tmp 25]) rfl ?_); at_builtin; refine Kd.R_append (Kd.int .i64) w.heap.size rfl (.tmp 21) (.tmp 25) 22 3 (.int .i64 0) 8 rfl Try.underlying22 info3 rfl (by decide) (by omega) u5 x5_1 t464 [.int .i64 t464] (fun k_ => some k_ ≠ (.slice Ao21 y461.length co21 : Value).ownBlock) (fun _ => False) rfl rfl ?aP (fun _ hk => hk.elim) ?aF ?aO (Below.refl _ _) ?aS ?aL ?_; (case aP => exact rfl); (case aF => exact (fun k_ hk => Kd.fresh' (Kd.R_lt (rI HO463.out)) k_ hk)); (case aO => exact (rI (Kd.R_mono HO_5.out (fun _ hk => hk.2)))); (case aS => exact (keep_size (w := w) (g := g) (row := none) (hI HK.out))); (case aL => have := LMc16.out; omega); intro v468 w23 ho hb hg hat; rw [← Ny467.out] at ho; have n0_ := Aside0.mk (IsS68.grown y0_9 hg (IsS68.own_ne HI0.out HO_5.out (by decide))); have n1_ := Aside0.mk (Kd.R_after (ok := (fun _ => True)) (rI HO463.out) hg hat); have n2_ := Aside0.mk (below_weaken y0_8 HL.out hb); have n3_ := Aside0.mk (KeepBut.trans (hI HK.out) (KeepBut.of_grown hg g) (Kd.R_base2 HO_5.out)); have n4_ := Aside0.mk (ho); clear HI0; clear HO463; clear HB; clear HK; clear HO_5; have HI0 := n0_; have HO463 := n1_; have HB := n2_; have HK := n3_; have HO469 := n4_; clear n0_ n1_ n2_ n3_ n4_; clear ho hb hg hat))
    go_ret
    exact ⟨_, y0_16, by (with_reducible repeat (first | apply Kd.R_alloc | apply Kd.R_drewN | apply Kd.R_drew)); exact Kd.R_mono HO469.out (fun _ hk => trivial), y0_9, y0_8, hI HK.out⟩
   replace c14 := Bool.eq_false_iff.mpr c14; subst c14
   rw [if_neg (show ¬ (false = true) by decide)] at H
   simp only [Option.some.injEq, Prod.mk.injEq] at H
   obtain ⟨rfl, rfl, rfl⟩ := H
   go_wp2_with (first | ((with_reducible refine gate_callee (f := 44) rfl ?_); refine gB (some 10) Try.func44 #[.pointer (some ⟨g, 0, none⟩), .int .i64 8] ?_; (with_reducible refine (spec_l1Below.calls g s0_0 x1001_1 x1002_1 8 t449 t450 t451 w0 _ ?side1 ?side2 A5.out).mono ?_); (case side1 => repeat (first | (with_reducible first | exact HI0.out | apply IsS68.alloc | apply IsS68.drewN | apply IsS68.drew | apply IsS68.set_1 | apply IsS68.set_2) | exact HI0.out)); (case side2 => repeat (first | (with_reducible first | exact HB.out | apply below_alloc | apply pw_below_drewN | apply below_drew1 | refine below_set ?_ (IsS68.ge HI0.out)) | exact HB.out)); rintro e w24 ⟨rfl, hi, hb, hk⟩; refine ⟨_, rfl, ?_⟩; replace HO_5 := Aside0.mk (Kd.R_mono (Kd.R_keep (IsS68.apart (show IsS68 w0 _ g s0_0 x1001_1 x1002_1 from y0_9) (rI HO_5.out) (by decide)) hk (fun _ h => h.2)) (fun _ h => h.1)); replace HK := kt HK hk; replace HB := Aside0.mk (hb); replace HI0 := Aside0.mk (hi); (try clear hb); (try clear hb2); (try clear hk); (try clear hi)) | ((with_reducible refine gate_callee (f := 57) rfl ?_); refine gB (some 20) Try.func57 #[.pointer (some ⟨g, 0, none⟩), .int .i64 12] ?_; (with_reducible refine (spec_l1Once.calls g s0_0 t450 t451 12 false t459 t460 w0 _ ?side1 ?side2 A13.out).mono ?_); (case side1 => repeat (first | (with_reducible first | exact HI0.out | apply IsS68.alloc | apply IsS68.drewN | apply IsS68.drew | apply IsS68.set_1 | apply IsS68.set_2) | exact HI0.out)); (case side2 => repeat (first | (with_reducible first | exact HB.out | apply below_alloc | apply pw_below_drewN | apply below_drew1 | refine below_set ?_ (IsS68.ge HI0.out)) | exact HB.out)); rintro e w25 ⟨rfl, hi, hb, hk⟩; refine ⟨_, rfl, ?_⟩; replace HO_5 := Aside0.mk (Kd.R_mono (Kd.R_keep (IsS68.apart (show IsS68 w0 _ g s0_0 t450 t451 from y0_9) (rI HO_5.out) (by decide)) hk (fun _ h => h.2)) (fun _ h => h.1)); replace HK := kt HK hk; replace HB := Aside0.mk (hb); replace HI0 := Aside0.mk (hi); (try clear hb); (try clear hb2); (try clear hk); (try clear hi)))
   go_ret
   exact ⟨_, y0_16, y0_13, y0_9, y0_8, hI HK.out⟩

/-! ### spec_l1Pick: function 86 -/
def spec_l1Pick.f (s0_0 : List Int) (s0_1 : Int) (s0_2 : Int) (l1 : List ByteArray) : Option (ByteArray × Int × Int) := (spec_l1Below.f s0_0 s0_1 s0_2 (l1.length : Int)).bind fun bt470 => (if 0 ≤ bt470.1 then (if bt470.1 < (l1.length : Int) then (some (rdOf ByteArray.empty l1 bt470.1, bt470.2.1, bt470.2.2)) else (none)) else (none))
set_option maxHeartbeats 8000000 in
set_option maxRecDepth 100000 in
theorem spec_l1Pick.calls (g : Nat) (s0_0 : List Int) (s0_1 : Int) (s0_2 : Int) (A1 : Option Addr) (c1 : Nat) (l1 : List ByteArray) (r1 : ByteArray) (r2 : Int) (r3 : Int) (w0 w : World) (hI : IsS68 w0 w g s0_0 s0_1 s0_2) (hB : Below w0.heap.size w0 w) (hr1 : Kd.C Kd.string w A1 l1.length l1) (hc1 : l1.length ≤ c1) (hf1 : ∀ ad, A1 = some ad → 0 < l1.length → ad.block ≠ g) (h : spec_l1Pick.f s0_0 s0_1 s0_2 l1 = some (r1, r2, r3)) :
  Calls Try.prog 86 #[.pointer (some ⟨g, 0, none⟩), .slice A1 l1.length c1] w fun e w' => e = .returned (.string r1) ∧ IsS68 w0 w' g s0_0 r2 r3 ∧ Below w0.heap.size w0 w' ∧ KeepBut w w' g none := by
 have HR1 := Aside0.mk hr1; have HC1 := Aside0.mk hc1; clear hr1 hc1; have HI0 := Aside0.mk hI; have HK := Aside0.mk (KeepBut.refl w g none); have HL := Aside0.mk hB.size; clear hI; have HW0 := Aside0.mk hB.size; have HB := Aside0.mk hB; clear hB
 have H : ((spec_l1Below.f s0_0 s0_1 s0_2 (l1.length : Int)).bind fun bt470 => (if 0 ≤ bt470.1 then (if bt470.1 < (l1.length : Int) then (some (rdOf ByteArray.empty l1 bt470.1, bt470.2.1, bt470.2.2)) else (none)) else (none))) = some (r1, r2, r3) := h
 clear h; obtain ⟨⟨t470, t471, t472⟩, A30, H⟩ := Option.bind_eq_some_iff.mp H
 try dsimp only at H
 have A3 := Aside0.mk A30; clear A30
 by_cases c4 : 0 ≤ t470
 ·
  rw [if_pos c4] at H
  have c4b0 : decide (0 ≤ t470) = true := decide_eq_true c4; clear c4
  by_cases c5 : t470 < (l1.length : Int)
  rotate_left
  ·
   rw [if_neg c5] at H
   exact absurd H (by simp)
  rw [if_pos c5] at H
  have c5b0 : decide (t470 < (l1.length : Int)) = true := decide_eq_true c5; clear c5
  simp only [Option.some.injEq, Prod.mk.injEq] at H
  obtain ⟨rfl, rfl, rfl⟩ := H
  go_enter Try.func86, Try.ntmps86
  go_wp2_with (first | ((with_reducible refine gate_callee (f := 44) rfl ?_); refine gB (some 9) Try.func44 #[.pointer (some ⟨g, 0, none⟩), .int .i64 (l1.length : Int)] ?_; (with_reducible refine (spec_l1Below.calls g s0_0 s0_1 s0_2 (l1.length : Int) t470 t471 t472 w0 _ ?side1 ?side2 A3.out).mono ?_); (case side1 => repeat (first | (with_reducible first | exact HI0.out | apply IsS68.alloc | apply IsS68.drewN | apply IsS68.drew | apply IsS68.set_1 | apply IsS68.set_2) | exact HI0.out)); (case side2 => repeat (first | (with_reducible first | exact HB.out | apply below_alloc | apply pw_below_drewN | apply below_drew1 | refine below_set ?_ (IsS68.ge HI0.out)) | exact HB.out)); rintro e w6 ⟨rfl, hi, hb, hk⟩; refine ⟨_, rfl, ?_⟩; replace HK := kt HK hk; replace HB := Aside0.mk (hb); replace HI0 := Aside0.mk (hi); (try clear hb); (try clear hb2); (try clear hk); (try clear hi); have p473 : 0 ≤ (t470 : Int) := of_decide_eq_true y0_20; have q473 : t470 < (l1.length : Int) := of_decide_eq_true y0_20; obtain ⟨ad473, e473, hx473_0⟩ := Kd.at_string HR1.out t470 p473 q473; cases e473; replace hx473_0 := keep_cell HK.out hx473_0 (by first | (rw [add_block]; exact hf1 _ rfl (by omega)) | exact hf1 _ rfl (by omega) | exact hf1 ad473 rfl (by omega)); replace p473 := eq_true p473; replace q473 := eq_true q473))
  go_ret
  exact ⟨y0_16, y0_9, y0_8, hI HK.out⟩
 rw [if_neg c4] at H
 exact absurd H (by simp)

end Go.Proofs.Ytemjmefacifdeaa.PFnDropsBelow
