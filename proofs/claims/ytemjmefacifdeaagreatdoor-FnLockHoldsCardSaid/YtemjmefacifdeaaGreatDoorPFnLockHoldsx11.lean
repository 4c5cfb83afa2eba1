-- By a program of this session, out of the translation (the print of the kit, with turns of its own). Lean checks it.
import Derived.Test.YtemjmefacifdeaaGreatDoorPFnLockHoldsx0
import Derived.Test.YtemjmefacifdeaaGreatDoorPFnLockHoldsx1
import Derived.Test.YtemjmefacifdeaaGreatDoorPFnLockHoldsx4
import Derived.Test.YtemjmefacifdeaaGreatDoorPFnLockHoldsx5
import Derived.Test.YtemjmefacifdeaaGreatDoorPFnLockHoldsx10
namespace Go.Proofs.YtemjmefacifdeaaGreatDoor.PFnLockHolds
open Go.RowKit Go.Proofs.YtemjmefacifdeaaGreatDoorW.PrintWords Go.Proofs.YtemjmefacifdeaaGreatDoorW.PrintLast Go.Proofs.YtemjmefacifdeaaGreatDoorW.PrintMore
attribute [local go_sem] max2_int min2_int max_two min_two max_three min_three max_four min_four   -- for this text's walks alone
attribute [local go_sem] cell_in frozen_in
set_option synthInstance.maxSize 1000000
set_option synthInstance.maxHeartbeats 2000000
set_option linter.unusedVariables false
set_option linter.unusedSimpArgs false

/-! ### spec_l8DrawRight: function 118 -/
def spec_l8DrawRight.l0 : Nat → List (S99) → Int → List Int → Int → Int → Int → Int → Int → ByteArray → List Int → Option (ByteArray × Int × ByteArray × List Int × Int × Int)
 | 0, _, _, _, _, _, _, _, _, _, _ => none
 | k + 1, x6, x7, x1000, x1001, x1002, x555000, x555001, x567000, x567001, x567002 => (spec_l1Below.f x1000 x1001 x1002 3).bind fun bt570 => (if x7 < bt570.1 then ((spec_l2DrawRight.f x1000 bt570.2.1 bt570.2.2).bind fun bt573 => (if x6.length < 4398046511104 then (spec_l8DrawRight.l0 k (x6 ++ [(⟨bt573.1, bt573.2.1, bt573.2.2.1, bt573.2.2.2.1⟩ : S99)]) (wrap64 (x7 + 1)) x1000 bt573.2.2.2.2.1 bt573.2.2.2.2.2 x555000 x555001 x567000 x567001 x567002) else (none))) else ((spec_l1Below.f x1000 bt570.2.1 bt570.2.2 4).bind fun bt582 => ((spec_BlockNew.f k x555000 x555001 x567000 x567001 x567002 (wrap64 ((wrap64 (x567000 + 1)) + (wrap64 (Int.tdiv bt582.1 3)))) x6).bind fun bt585 => (some (bt585.1, bt585.2.1, bt585.2.2.1, bt585.2.2.2.1, bt582.2.1, bt582.2.2)))))
def spec_l8DrawRight.f (k : Nat) (s0_0 : List Int) (s0_1 : Int) (s0_2 : Int) (a1_0 : Int) (a1_1 : Int) : Option (ByteArray × Int × ByteArray × List Int × Int × Int) := (spec_l5DrawRight.f k s0_0 s0_1 s0_2).bind fun bt556 => ((spec_l7DrawOf.f k s0_0 bt556.2.1 bt556.2.2 a1_0 a1_1 bt556.1).bind fun bt559 => (spec_l8DrawRight.l0 k (([] : List (S99))) 0 s0_0 bt559.2.2.2.1 bt559.2.2.2.2 a1_0 a1_1 bt559.1 bt559.2.1 bt559.2.2.1))
theorem spec_l8DrawRight.mono_l : ∀ k, (∀ y0 y1 y2 y3 y4 y5 y6 y7 y8 y9, LeO (spec_l8DrawRight.l0 k y0 y1 y2 y3 y4 y5 y6 y7 y8 y9) (spec_l8DrawRight.l0 (k + 1) y0 y1 y2 y3 y4 y5 y6 y7 y8 y9))
 | 0 => fun _ _ _ _ _ _ _ _ _ _ r h => by simp [spec_l8DrawRight.l0] at h
 | k + 1 => by
  have ih0 := spec_l8DrawRight.mono_l k
  intro y0 y1 y2 y3 y4 y5 y6 y7 y8 y9
  unfold spec_l8DrawRight.l0
  repeat' first | (with_reducible exact ih0 _ _ _ _ _ _ _ _ _ _) | (with_reducible exact spec_BlockNew.mono _ _ _ _ _ _ _ _) | (with_reducible exact spec_l5DrawRight.mono _ _ _ _) | (with_reducible exact spec_l7DrawOf.mono _ _ _ _ _ _ _) | (with_reducible exact LeO.refl _) | (with_reducible exact LeO.none _) | (with_reducible refine LeO.ite ?_ ?_) | (with_reducible refine LeO.bind ?_ (fun _ => ?_))
theorem spec_l8DrawRight.mono : ∀ a0 a1 a2 a3 a4 k, LeO (spec_l8DrawRight.f k a0 a1 a2 a3 a4) (spec_l8DrawRight.f (k + 1) a0 a1 a2 a3 a4) := by
 intro a0 a1 a2 a3 a4 k
 have ih0 := spec_l8DrawRight.mono_l k
 unfold spec_l8DrawRight.f
 repeat' first | (with_reducible exact ih0 _ _ _ _ _ _ _ _ _ _) | (with_reducible exact spec_BlockNew.mono _ _ _ _ _ _ _ _) | (with_reducible exact spec_l5DrawRight.mono _ _ _ _) | (with_reducible exact spec_l7DrawOf.mono _ _ _ _ _ _ _) | (with_reducible exact LeO.refl _) | (with_reducible exact LeO.none _) | (with_reducible refine LeO.ite ?_ ?_) | (with_reducible refine LeO.bind ?_ (fun _ => ?_))
def spec_l8DrawRight.T7 : Bool × List (List Nat × List Nat) := (true, [([], []), ([], []), ([], []), ([2], [2]), ([3], [3]), ([], []), ([5], [5]), ([6], [6]), ([4, 7], [4, 7]), ([], []), ([0, 1, 8, 9, 6], [0, 1, 8, 9]), ([10], [10]), ([11], [11]), ([11], [11]), ([], []), ([14, 12, 10, 0, 1, 2, 3, 4, 5, 6, 7, 8, 9, 10, 11, 12, 14], [12, 14]), ([13, 15, 0, 1, 2, 3, 4, 5, 6, 7, 8, 9, 10, 11, 12, 13, 14, 15], [13])])
def spec_l8DrawRight.B7 : List Nat := [0, 0, 0, 4, 12, 0, 32, 96, 252, 0, 1023, 2047, 4095, 4095, 0, 24575, 65535]
theorem spec_l8DrawRight.tab7 : rtab .any (opsOf Tryz.f118 7) = spec_l8DrawRight.T7 := by kernel_rfl
theorem spec_l8DrawRight.bits7 : waitsOk spec_l8DrawRight.T7.2 spec_l8DrawRight.B7 = true := by kernel_rfl
set_option maxHeartbeats 8000000 in
set_option maxRecDepth 100000 in
theorem spec_l8DrawRight.calls (k : Nat) (g : Nat) (s0_0 : List Int) (s0_1 : Int) (s0_2 : Int) (a1_0 : Int) (a1_1 : Int) (r1 : ByteArray) (r2 : Int) (r3 : ByteArray) (r4 : List Int) (r5 : Int) (r6 : Int) (w0 w : World) (hI : IsS124 w0 w g s0_0 s0_1 s0_2) (hB : Below w0.heap.size w0 w) (h : spec_l8DrawRight.f k s0_0 s0_1 s0_2 a1_0 a1_1 = some (r1, r2, r3, r4, r5, r6)) :
  Calls Tryz.prog 118 #[.pointer (some ⟨g, 0, none⟩), .agg #[.int .i64 a1_0, .int .i64 a1_1]] w fun e w' => ∃ v3_ : Value, e = .returned (.agg #[.string r1, .int .i64 r2, .string r3, v3_]) ∧ Kd.R (Kd.int .i64) 3 w' w.heap.size (fun _ => True) v3_ r4 ∧ IsS124 w0 w' g s0_0 r5 r6 ∧ Below w0.heap.size w0 w' ∧ KeepBut w w' g none := by
 have hu38 := Tryz.underlying38; have hu42 := Tryz.underlying42; have hu33 := Tryz.underlying33; have HI0 := Aside0.mk hI; have HK := Aside0.mk (KeepBut.refl w g none); have HL := Aside0.mk hB.size; clear hI; have HW0 := Aside0.mk hB.size; have HB := Aside0.mk hB; clear hB
 have H : ((spec_l5DrawRight.f k s0_0 s0_1 s0_2).bind fun bt556 => ((spec_l7DrawOf.f k s0_0 bt556.2.1 bt556.2.2 a1_0 a1_1 bt556.1).bind fun bt559 => (spec_l8DrawRight.l0 k (([] : List (S99))) 0 s0_0 bt559.2.2.2.1 bt559.2.2.2.2 a1_0 a1_1 bt559.1 bt559.2.1 bt559.2.2.1))) = some (r1, r2, r3, r4, r5, r6) := h
 clear h; obtain ⟨⟨t556, t557, t558⟩, A30, H⟩ := Option.bind_eq_some_iff.mp H
 try dsimp only at H
 have A3 := Aside0.mk A30; clear A30; obtain ⟨⟨t559, t560, t561, t564, t565⟩, A40, H⟩ := Option.bind_eq_some_iff.mp H
 try dsimp only at H
 have A4 := Aside0.mk A40; clear A40; obtain ⟨y567, hy567⟩ : ∃ y_ : List (S99), y_ = (([] : List (S99))) := ⟨_, rfl⟩
 replace H : (spec_l8DrawRight.l0 k y567 0 s0_0 t564 t565 a1_0 a1_1 t559 t560 t561) = some (r1, r2, r3, r4, r5, r6) := by first | (rw [hy567]; with_reducible exact H) | (have H2_ := (Option.bind_some _ _).symm.trans H; rw [hy567]; with_reducible exact H2_) | (have H2_ := (Option.bind_some _ _).symm.trans H; with_reducible exact H2_) | with_reducible exact H | (rw [hy567]; exact H) | exact H
 have Ny567 := Aside0.mk hy567; clear hy567; have H' := Aside0.mk H; clear H
 go_enter Tryz.func118, Tryz.ntmps118
 try go_wp2_with (first | ((with_reducible refine gd 3 ?_); refine bA 3 #[.int .i64 a1_0, .int .i64 a1_1] 38 ?_; intro gb554 hg w5 hbox hb; replace HB : Aside0 (Below w0.heap.size w0 _) := Aside0.mk (below_step y0_7 hb); have BK554 := Aside0.mk (hbox); have GW554 := bh hg HK; have GJ554 := gi GW554; have GE554 := Aside0.mk ((Nat.le_trans HW0.out (y0_15 : w.heap.size ≤ gb554) : w0.heap.size ≤ gb554)); have GI554 := gi GE554; replace HK := kb HK hb; have NB0_554 := Aside0.mk ((y0_2 : g ≠ gb554)); have NI0_554 := ni NB0_554; have NB554_0 := Aside0.mk ((y0_3 : gb554 ≠ g)); have NI554_0 := ni NB554_0; replace HI0 := Aside0.mk (IsS124.below y0_6 hb); clear hb hbox hg) | ((with_reducible refine gd 4 ?_); refine bA 4 #[.string (⟨#[]⟩ : ByteArray), .int .i64 0, .string (⟨#[]⟩ : ByteArray), .slice none 0 0] 42 ?_; intro gb555 hg w6 hbox hb; replace HB : Aside0 (Below w0.heap.size w0 _) := Aside0.mk (below_step y0_5 hb); have BK555 := Aside0.mk (hbox); have GW555 := bh hg HK; have GJ555 := gi GW555; have GE555 := Aside0.mk ((Nat.le_trans HW0.out (y0_15 : w.heap.size ≤ gb555) : w0.heap.size ≤ gb555)); have GI555 := gi GE555; replace HK := kb HK hb; have NB554_555 := b1 BK554 hg; have NI554_555 := ni NB554_555; have NB555_554 := b2 BK554 hg; have NI555_554 := ni NB555_554; replace BK554 := bk BK554 hb; have NB0_555 := Aside0.mk ((y0_0 : g ≠ gb555)); have NI0_555 := ni NB0_555; have NB555_0 := Aside0.mk ((y0_1 : gb555 ≠ g)); have NI555_0 := ni NB555_0; replace HI0 := Aside0.mk (IsS124.below y0_4 hb); clear hb hbox hg))
 replace BK554 := Aside0.mk (blk_drew BK554.out); replace BK555 := Aside0.mk (blk_drew BK555.out); replace HI0 := Aside0.mk (IsS124.drew HI0.out); replace HK := Aside0.mk (keep_drew HK.out); replace HB := Aside0.mk (below_drew1 HB.out)
 refine start_ (n := 7) (S := fun w' => w'.cell? ⟨gb554, 0, none⟩ = some (.int .i64 a1_0) ∧ w'.cell? ⟨gb554, 1, none⟩ = some (.int .i64 a1_1)) (ds := []) #[false, false, false, false, false, false, false] (by kernel_rfl) rfl rfl ⟨bc0 BK554.out, bc1 BK554.out⟩ (fun hHeld => ?_)
 generalize w6.drew = w7 at BK554 BK555 HI0 HK HB hHeld ⊢
 refine pure_ (i := 0) (N := some 10) (v := ?_) (a' := ?_) #[true, false, false, false, false, false, false] rfl rfl (by kernel_rfl) (fun _ _ _ h => h) (Or.inl ⟨by rfl, ?_⟩) ?_ ?_
 rotate_left
 ·
  intro w'
  go_simp
  with_reducible rfl
 rotate_left
 ·
  simp only [Act.put, List.setIfInBounds_toArray, List.set_cons_zero, List.set_cons_succ, i64_w, i32_w]
  rfl
 refine pure_ (i := 2) (N := some 12) (v := ?_) (a' := ?_) #[true, false, true, false, false, false, false] rfl rfl (by kernel_rfl) (fun _ _ _ h => h) (Or.inl ⟨by rfl, ?_⟩) ?_ ?_
 rotate_left
 ·
  intro w'
  go_simp
  with_reducible rfl
 rotate_left
 ·
  simp only [Act.put, List.setIfInBounds_toArray, List.set_cons_zero, List.set_cons_succ, i64_w, i32_w]
  rfl
 refine take_ (i := 1) (N := some 11) (v := ?_) (a' := ?_) #[true, true, true, false, false, false, false] rfl rfl (by kernel_rfl) (fun _ _ _ h => h) (Or.inl ⟨by rfl, ?_⟩) hHeld ?_ ?_
 rotate_left
 ·
  rintro w' ⟨s0, s1⟩
  go_simp
  with_reducible rfl
 rotate_left
 ·
  simp only [Act.put, List.setIfInBounds_toArray, List.set_cons_zero, List.set_cons_succ, i64_w, i32_w]
  rfl
 refine join_ (σ := Value × Nat) 1 #[true, true, true, true, true, true, false] (fun s_ => [(13, .string t556), (14, .agg #[.int .i64 t559, .string t560, s_.1]), (5, .pointer (some ⟨s_.2, 0, none⟩))]) (fun s_ w' => (w'.cell? ⟨gb554, 0, none⟩ = some (.int .i64 a1_0) ∧ w'.cell? ⟨gb554, 1, none⟩ = some (.int .i64 a1_1)) ∧ (Kd.R (Kd.int .i64) 3 w' w.heap.size (fun _ => True) s_.1 t561) ∧ (w'.heap[gb554]? = some (.cells #[.int .i64 a1_0, .int .i64 a1_1] 38 (0, 0))) ∧ (w'.heap[gb555]? = some (.cells #[.string (⟨#[]⟩ : ByteArray), .int .i64 0, .string (⟨#[]⟩ : ByteArray), .slice none 0 0] 42 (0, 0))) ∧ (w'.heap[s_.2]? = some (.cells #[.int .i64 0, .string (⟨#[]⟩ : ByteArray), .slice none 0 0] 33 (0, 0))) ∧ (w.heap.size ≤ s_.2) ∧ (w0.heap.size ≤ s_.2) ∧ (g ≠ s_.2) ∧ (s_.2 ≠ g) ∧ (gb554 ≠ s_.2) ∧ (s_.2 ≠ gb554) ∧ (gb555 ≠ s_.2) ∧ (s_.2 ≠ gb555) ∧ (IsS124 w0 w' g s0_0 t564 t565) ∧ (KeepBut w w' g none) ∧ (Below w0.heap.size w0 w')) ?_ ?_
 rotate_left
 ·
  intro hCont
  refine two_ (i := 3) (j := 5) (Ni := some 13) (Nj := some 5) #[true, true, true, true, false, false, false] #[true, true, true, false, false, true, false] rfl rfl rfl rfl (by kernel_rfl) (by decide) (by decide) (fun K hK => ?_) (fun K hK => ?_)
  ·
   skip
   refine gA Tryz.func124 #[.pointer (some ⟨g, 0, none⟩)] ?_
   with_reducible refine (spec_l5DrawRight.calls k g s0_0 s0_1 s0_2 t556 t557 t558 w0 _ ?side1 ?side2 A3.out).mono ?_
   (case side1 => repeat (first | (with_reducible first | exact HI0.out | apply IsS124.alloc | apply IsS124.drewN | apply IsS124.drew | apply IsS124.set_1 | apply IsS124.set_2 | refine IsS124.far ?_ NeI.out _) | exact HI0.out))
   (case side2 => repeat (first | (with_reducible first | exact HB.out | apply below_alloc | apply pw_below_drewN | apply below_drew1 | refine below_set ?_ (IsS124.ge HI0.out) | refine below_set ?_ GeI.out) | exact HB.out))
   rintro e w8 ⟨rfl, hi, hb, hk⟩
   refine ⟨_, rfl, ?_⟩
   replace BK554 := bq BK554 hk NB554_0; replace BK555 := bq BK555 hk NB555_0; replace HK := kt HK hk; replace HB := Aside0.mk (hb); replace HI0 := Aside0.mk (hi)
   (try clear hb)
   (try clear hb2)
   (try clear hk)
   (try clear hi)
   refine hK.out _ _ ⟨bc0 BK554.out, bc1 BK554.out⟩ (fun hHeld => ?_)
   clear hK K
   refine nA (some 13) ?_
   refine two_ (i := 4) (j := 5) (Ni := some 14) (Nj := some 5) #[true, true, true, true, true, false, false] #[true, true, true, true, false, true, false] rfl rfl rfl rfl (by kernel_rfl) (by decide) (by decide) (fun K hK => ?_) (fun K hK => ?_)
   ·
    skip
    refine gA Tryz.func123 #[.pointer (some ⟨g, 0, none⟩), .agg #[.int .i64 a1_0, .int .i64 a1_1], .string t556] ?_
    with_reducible refine (spec_l7DrawOf.calls k g s0_0 t557 t558 a1_0 a1_1 t556 t559 t560 t561 t564 t565 w0 _ ?side1 ?side2 A4.out).mono ?_
    (case side1 => repeat (first | (with_reducible first | exact HI0.out | apply IsS124.alloc | apply IsS124.drewN | apply IsS124.drew | apply IsS124.set_1 | apply IsS124.set_2 | refine IsS124.far ?_ NeI.out _) | exact HI0.out))
    (case side2 => repeat (first | (with_reducible first | exact HB.out | apply below_alloc | apply pw_below_drewN | apply below_drew1 | refine below_set ?_ (IsS124.ge HI0.out) | refine below_set ?_ GeI.out) | exact HB.out))
    rintro e w9 ⟨v562, rfl, ho0, hi, hb, hk⟩
    refine ⟨_, rfl, ?_⟩
    replace BK554 := bq BK554 hk NB554_0; replace BK555 := bq BK555 hk NB555_0; have HO563 := Aside0.mk (Kd.R_lower ho0 (keep_size (w := w) (g := g) (row := none) (hI HK.out))); replace HK := kt HK hk; replace HB := Aside0.mk (hb); replace HI0 := Aside0.mk (hi)
    (try clear hb)
    (try clear hb2)
    (try clear hk)
    (try clear hi)
    (try clear ho0)
    refine hK.out _ _ ⟨bc0 BK554.out, bc1 BK554.out⟩ (fun hHeld => ?_)
    clear hK K
    refine nA (some 14) ?_
    refine one_ (i := 5) (N := some 5) #[true, true, true, true, true, true, false] rfl rfl (by kernel_rfl) (by decide) (fun K hK => ?_)
    refine box_step ?hg (N := 5) ?hd (cs := #[.int .i64 0, .string (⟨#[]⟩ : ByteArray), .slice none 0 0]) (t := 33) ?hr ?_; (case hd => rfl); (case hg => rfl); (case hr => first | (go_simp; done) | (go_simp; rfl))
    intro gb566 hg w10 hbox hb
    replace HO563 := rb HO563 hb; replace HB : Aside0 (Below w0.heap.size w0 _) := Aside0.mk (below_step y0_5 hb); have BK566 := Aside0.mk (hbox); have GW566 := bh hg HK; have GJ566 := gi GW566; have GE566 := Aside0.mk ((Nat.le_trans HW0.out (y0_15 : w.heap.size ≤ gb566) : w0.heap.size ≤ gb566)); have GI566 := gi GE566; replace HK := kb HK hb; have NB554_566 := b1 BK554 hg; have NI554_566 := ni NB554_566; have NB566_554 := b2 BK554 hg; have NI566_554 := ni NB566_554; replace BK554 := bk BK554 hb; have NB555_566 := b1 BK555 hg; have NI555_566 := ni NB555_566; have NB566_555 := b2 BK555 hg; have NI566_555 := ni NB566_555; replace BK555 := bk BK555 hb
    have NB0_566 := Aside0.mk ((by rw [hg]; exact Nat.ne_of_lt (IsS124.lt (show IsS124 w0 _ g s0_0 t564 t565 from y0_4)) : g ≠ gb566))
    have NI0_566 := ni NB0_566
    have NB566_0 := Aside0.mk ((by rw [hg]; exact Nat.ne_of_gt (IsS124.lt (show IsS124 w0 _ g s0_0 t564 t565 from y0_4)) : gb566 ≠ g))
    have NI566_0 := ni NB566_0; replace HI0 := Aside0.mk (IsS124.below y0_4 hb); clear hb hbox hg
    refine hK.out _ _ ⟨bc0 BK554.out, bc1 BK554.out⟩ (fun hHeld => ?_)
    clear hK K
    refine nA (some 5) ?_
    exact norm_ y0_13 (hCont (v562, gb566) _ ⟨hHeld, (rI HO563.out), (kI BK554.out), (kI BK555.out), (kI BK566.out), GW566.out, GE566.out, NB0_566.out, NB566_0.out, NB554_566.out, NB566_554.out, NB555_566.out, NB566_555.out, y0_4, (hI HK.out), y0_5⟩)
   skip
   refine box_step ?hg (N := 5) ?hd (cs := #[.int .i64 0, .string (⟨#[]⟩ : ByteArray), .slice none 0 0]) (t := 33) ?hr ?_; (case hd => rfl); (case hg => rfl); (case hr => first | (go_simp; done) | (go_simp; rfl))
   intro gb566 hg w9 hbox hb
   replace HB : Aside0 (Below w0.heap.size w0 _) := Aside0.mk (below_step y0_5 hb); have BK566 := Aside0.mk (hbox); have GW566 := bh hg HK; have GJ566 := gi GW566; have GE566 := Aside0.mk ((Nat.le_trans HW0.out (y0_15 : w.heap.size ≤ gb566) : w0.heap.size ≤ gb566)); have GI566 := gi GE566; replace HK := kb HK hb; have NB554_566 := b1 BK554 hg; have NI554_566 := ni NB554_566; have NB566_554 := b2 BK554 hg; have NI566_554 := ni NB566_554; replace BK554 := bk BK554 hb; have NB555_566 := b1 BK555 hg; have NI555_566 := ni NB555_566; have NB566_555 := b2 BK555 hg; have NI566_555 := ni NB566_555; replace BK555 := bk BK555 hb
   have NB0_566 := Aside0.mk ((by rw [hg]; exact Nat.ne_of_lt (IsS124.lt (show IsS124 w0 _ g s0_0 t557 t558 from y0_4)) : g ≠ gb566))
   have NI0_566 := ni NB0_566
   have NB566_0 := Aside0.mk ((by rw [hg]; exact Nat.ne_of_gt (IsS124.lt (show IsS124 w0 _ g s0_0 t557 t558 from y0_4)) : gb566 ≠ g))
   have NI566_0 := ni NB566_0; replace HI0 := Aside0.mk (IsS124.below y0_4 hb); clear hb hbox hg
   refine hK.out _ _ ⟨bc0 BK554.out, bc1 BK554.out⟩ (fun hHeld => ?_)
   clear hK K
   refine nA (some 5) ?_
   refine one_ (i := 4) (N := some 14) #[true, true, true, true, true, true, false] rfl rfl (by kernel_rfl) (by decide) (fun K hK => ?_)
   refine gA Tryz.func123 #[.pointer (some ⟨g, 0, none⟩), .agg #[.int .i64 a1_0, .int .i64 a1_1], .string t556] ?_
   with_reducible refine (spec_l7DrawOf.calls k g s0_0 t557 t558 a1_0 a1_1 t556 t559 t560 t561 t564 t565 w0 _ ?side1 ?side2 A4.out).mono ?_
   (case side1 => repeat (first | (with_reducible first | exact HI0.out | apply IsS124.alloc | apply IsS124.drewN | apply IsS124.drew | apply IsS124.set_1 | apply IsS124.set_2 | refine IsS124.far ?_ NeI.out _) | exact HI0.out))
   (case side2 => repeat (first | (with_reducible first | exact HB.out | apply below_alloc | apply pw_below_drewN | apply below_drew1 | refine below_set ?_ (IsS124.ge HI0.out) | refine below_set ?_ GeI.out) | exact HB.out))
   rintro e w10 ⟨v562, rfl, ho0, hi, hb, hk⟩
   refine ⟨_, rfl, ?_⟩
   replace BK554 := bq BK554 hk NB554_0; replace BK555 := bq BK555 hk NB555_0; replace BK566 := bq BK566 hk NB566_0; have HO563 := Aside0.mk (Kd.R_lower ho0 (keep_size (w := w) (g := g) (row := none) (hI HK.out))); replace HK := kt HK hk; replace HB := Aside0.mk (hb); replace HI0 := Aside0.mk (hi)
   (try clear hb)
   (try clear hb2)
   (try clear hk)
   (try clear hi)
   (try clear ho0)
   refine hK.out _ _ ⟨bc0 BK554.out, bc1 BK554.out⟩ (fun hHeld => ?_)
   clear hK K
   refine nA (some 14) ?_
   exact norm_ y0_13 (hCont (v562, gb566) _ ⟨hHeld, (rI HO563.out), (kI BK554.out), (kI BK555.out), (kI BK566.out), GW566.out, GE566.out, NB0_566.out, NB566_0.out, NB554_566.out, NB566_554.out, NB555_566.out, NB566_555.out, y0_4, (hI HK.out), y0_5⟩)
  skip
  refine box_step ?hg (N := 5) ?hd (cs := #[.int .i64 0, .string (⟨#[]⟩ : ByteArray), .slice none 0 0]) (t := 33) ?hr ?_; (case hd => rfl); (case hg => rfl); (case hr => first | (go_simp; done) | (go_simp; rfl))
  intro gb566 hg w8 hbox hb
  replace HB : Aside0 (Below w0.heap.size w0 _) := Aside0.mk (below_step y0_5 hb); have BK566 := Aside0.mk (hbox); have GW566 := bh hg HK; have GJ566 := gi GW566; have GE566 := Aside0.mk ((Nat.le_trans HW0.out (y0_15 : w.heap.size ≤ gb566) : w0.heap.size ≤ gb566)); have GI566 := gi GE566; replace HK := kb HK hb; have NB554_566 := b1 BK554 hg; have NI554_566 := ni NB554_566; have NB566_554 := b2 BK554 hg; have NI566_554 := ni NB566_554; replace BK554 := bk BK554 hb; have NB555_566 := b1 BK555 hg; have NI555_566 := ni NB555_566; have NB566_555 := b2 BK555 hg; have NI566_555 := ni NB566_555; replace BK555 := bk BK555 hb; have NB0_566 := Aside0.mk ((y0_0 : g ≠ gb566)); have NI0_566 := ni NB0_566; have NB566_0 := Aside0.mk ((y0_1 : gb566 ≠ g)); have NI566_0 := ni NB566_0; replace HI0 := Aside0.mk (IsS124.below y0_4 hb); clear hb hbox hg
  refine hK.out _ _ ⟨bc0 BK554.out, bc1 BK554.out⟩ (fun hHeld => ?_)
  clear hK K
  refine nA (some 5) ?_
  refine one_ (i := 3) (N := some 13) #[true, true, true, true, false, true, false] rfl rfl (by kernel_rfl) (by decide) (fun K hK => ?_)
  refine gA Tryz.func124 #[.pointer (some ⟨g, 0, none⟩)] ?_
  with_reducible refine (spec_l5DrawRight.calls k g s0_0 s0_1 s0_2 t556 t557 t558 w0 _ ?side1 ?side2 A3.out).mono ?_
  (case side1 => repeat (first | (with_reducible first | exact HI0.out | apply IsS124.alloc | apply IsS124.drewN | apply IsS124.drew | apply IsS124.set_1 | apply IsS124.set_2 | refine IsS124.far ?_ NeI.out _) | exact HI0.out))
  (case side2 => repeat (first | (with_reducible first | exact HB.out | apply below_alloc | apply pw_below_drewN | apply below_drew1 | refine below_set ?_ (IsS124.ge HI0.out) | refine below_set ?_ GeI.out) | exact HB.out))
  rintro e w9 ⟨rfl, hi, hb, hk⟩
  refine ⟨_, rfl, ?_⟩
  replace BK554 := bq BK554 hk NB554_0; replace BK555 := bq BK555 hk NB555_0; replace BK566 := bq BK566 hk NB566_0; replace HK := kt HK hk; replace HB := Aside0.mk (hb); replace HI0 := Aside0.mk (hi)
  (try clear hb)
  (try clear hb2)
  (try clear hk)
  (try clear hi)
  refine hK.out _ _ ⟨bc0 BK554.out, bc1 BK554.out⟩ (fun hHeld => ?_)
  clear hK K
  refine nA (some 13) ?_
  refine one_ (i := 4) (N := some 14) #[true, true, true, true, true, true, false] rfl rfl (by kernel_rfl) (by decide) (fun K hK => ?_)
  refine gA Tryz.func123 #[.pointer (some ⟨g, 0, none⟩), .agg #[.int .i64 a1_0, .int .i64 a1_1], .string t556] ?_
  with_reducible refine (spec_l7DrawOf.calls k g s0_0 t557 t558 a1_0 a1_1 t556 t559 t560 t561 t564 t565 w0 _ ?side1 ?side2 A4.out).mono ?_
  (case side1 => repeat (first | (with_reducible first | exact HI0.out | apply IsS124.alloc | apply IsS124.drewN | apply IsS124.drew | apply IsS124.set_1 | apply IsS124.set_2 | refine IsS124.far ?_ NeI.out _) | exact HI0.out))
  (case side2 => repeat (first | (with_reducible first | exact HB.out | apply below_alloc | apply pw_below_drewN | apply below_drew1 | refine below_set ?_ (IsS124.ge HI0.out) | refine below_set ?_ GeI.out) | exact HB.out))
  rintro e w10 ⟨v562, rfl, ho0, hi, hb, hk⟩
  refine ⟨_, rfl, ?_⟩
  replace BK554 := bq BK554 hk NB554_0; replace BK555 := bq BK555 hk NB555_0; replace BK566 := bq BK566 hk NB566_0; have HO563 := Aside0.mk (Kd.R_lower ho0 (keep_size (w := w) (g := g) (row := none) (hI HK.out))); replace HK := kt HK hk; replace HB := Aside0.mk (hb); replace HI0 := Aside0.mk (hi)
  (try clear hb)
  (try clear hb2)
  (try clear hk)
  (try clear hi)
  (try clear ho0)
  refine hK.out _ _ ⟨bc0 BK554.out, bc1 BK554.out⟩ (fun hHeld => ?_)
  clear hK K
  refine nA (some 14) ?_
  exact norm_ y0_13 (hCont (v562, gb566) _ ⟨hHeld, (rI HO563.out), (kI BK554.out), (kI BK555.out), (kI BK566.out), GW566.out, GE566.out, NB0_566.out, NB566_0.out, NB554_566.out, NB566_554.out, NB555_566.out, NB566_555.out, y0_4, (hI HK.out), y0_5⟩)
 rintro ⟨v562, gb566⟩ w11 ⟨hS_, h0_, h1_, h2_, h3_, h4_, h5_, h6_, h7_, h8_, h9_, h10_, h11_, h12_, h13_, h14_⟩
 try dsimp only at h0_ h1_ h2_ h3_ h4_ h5_ h6_ h7_ h8_ h9_ h10_ h11_ h12_ h13_ h14_
 have n0_ := Aside0.mk h0_; have n1_ := Aside0.mk h1_; have n2_ := Aside0.mk h2_; have n3_ := Aside0.mk h3_; have n4_ := Aside0.mk h4_; have n5_ := Aside0.mk h5_; have n6_ := Aside0.mk h6_; have n7_ := Aside0.mk h7_; have n8_ := Aside0.mk h8_; have n9_ := Aside0.mk h9_; have n10_ := Aside0.mk h10_; have n11_ := Aside0.mk h11_; have n12_ := Aside0.mk h12_; have n13_ := Aside0.mk h13_; have n14_ := Aside0.mk h14_; clear BK554; clear BK555; clear HI0; clear HK; clear HB; clear h0_ h1_ h2_ h3_ h4_ h5_ h6_ h7_ h8_ h9_ h10_ h11_ h12_ h13_ h14_; have HO563 := n0_; have BK554 := n1_; have BK555 := n2_; have BK566 := n3_; have GW566 := n4_; have GJ566 := gi GW566; have GE566 := n5_; have GI566 := gi GE566; have NB0_566 := n6_; have NI0_566 := ni NB0_566; have NB566_0 := n7_; have NI566_0 := ni NB566_0; have NB554_566 := n8_; have NI554_566 := ni NB554_566; have NB566_554 := n9_; have NI566_554 := ni NB566_554; have NB555_566 := n10_; have NI555_566 := ni NB555_566; have NB566_555 := n11_; have NI566_555 := ni NB566_555; have HI0 := n12_; have HK := n13_; have HB := n14_; clear n0_ n1_ n2_ n3_ n4_ n5_ n6_ n7_ n8_ n9_ n10_ n11_ n12_ n13_ n14_; have hHeld : w11.cell? ⟨gb554, 0, none⟩ = some (.int .i64 a1_0) ∧ w11.cell? ⟨gb554, 1, none⟩ = some (.int .i64 a1_1) := hS_; obtain ⟨Ao14, co14, eo14⟩ := Kd.R_slice HO563.out
 (first | subst eo14 | (injection eo14 with f1_ f2_ f3_; have f4_ := f1_.symm; have f5_ := f3_.symm; clear f1_ f2_ f3_; subst f4_; subst f5_))
 refine norm_ (a' := ?_) ?_ ?_
 rotate_left
 ·
  simp only [putAll, Act.put, List.setIfInBounds_toArray, List.set_cons_zero, List.set_cons_succ]
  rfl
 refine one_ (i := 6) (N := none) #[true, true, true, true, true, true, true] rfl rfl (by kernel_rfl) (by decide) (fun K hK => ?_)
 have hs12 : w11.cell? ⟨gb566, 0, none⟩ = some (.int .i64 0) := bc0 BK566.out; have hfs12 := blk_frozen BK566.out 0; have hns12_0 := NB554_566.out; have hns12_1 := NB555_566.out; have hms12_0 := NB566_554.out; have hms12_1 := NB566_555.out; have hs13 : w11.cell? ⟨gb566, 1, none⟩ = some (.string (⟨#[]⟩ : ByteArray)) := bc1 BK566.out; have hfs13 := blk_frozen BK566.out 1; have hns13_0 := NB554_566.out; have hns13_1 := NB555_566.out; have hms13_0 := NB566_554.out; have hms13_1 := NB566_555.out; have hs15 : w11.cell? ⟨gb566, 2, none⟩ = some (.slice none 0 0) := bc2 BK566.out; have hfs15 := blk_frozen BK566.out 2; have hns15_0 := NB554_566.out; have hns15_1 := NB555_566.out; have hms15_0 := NB566_554.out; have hms15_1 := NB566_555.out
 refine skip_ (w1 := ?_) (by rfl) rfl ?_ ?_
 rotate_left
 ·
  go_simp
  rfl
 refine hK.out _ _ ⟨((cell_far (p := ⟨gb566, _, none⟩) NB554_566.out _).trans (((cell_far (p := ⟨gb566, _, none⟩) NB554_566.out _).trans (((cell_far (p := ⟨gb566, _, none⟩) NB554_566.out _).trans (hHeld.1)))))), ((cell_far (p := ⟨gb566, _, none⟩) NB554_566.out _).trans (((cell_far (p := ⟨gb566, _, none⟩) NB554_566.out _).trans (((cell_far (p := ⟨gb566, _, none⟩) NB554_566.out _).trans (hHeld.2))))))⟩ (fun hHeld => ?_)
 clear hK K
 refine done_ (by kernel_rfl) ?_
 try go_wp2_with (first | ((with_reducible refine gate_dst (N := 15) rfl ?_); refine Kd.R_lit k99 _ 99 ?hg (N := 15) ?hd (xs := ([] : List (S99))) (inner := []) (ok := fun _ => True) (okp := fun _ => True) ?hr ?hp (fun _ hk => hk) trivial (Below.refl _ _) (Nat.le_refl _) (by simp) ?_; (case hd => rfl); (case hg => rfl); (case hr => first | (go_simp; done) | (go_simp; rfl)); (case hp => exact (Reps.none _ _)); intro v568 w16 ho17 hb hg_ hnew_; clear hg_ hnew_; (first | rw [← Ny567.out] at ho17 | (simp only [Int.reduceToNat] at ho17; rw [← Ny567.out] at ho17)); replace HO563 := Aside0.mk (Kd.R_below (rI (Kd.R_mono (Kd.R_far (p := ⟨gb566, 2, none⟩) (Kd.R_far (p := ⟨gb566, 1, none⟩) (Kd.R_far (p := ⟨gb566, 0, none⟩) (Kd.R_types HO563.out BK566.out (by decide)) (fun _ hk => hk.2) (.int .i64 t559)) (fun _ hk => hk.2) (.string t560)) (fun _ hk => hk.2) (.slice Ao14 t561.length co14)) (fun _ h_ => h_.1))) hb); have HO569 := Aside0.mk (Kd.R_lower ho17 (keep_size (w := w) (g := g) (row := none) (hI HK.out))); replace BK554 := Aside0.mk (blk_below (g := gb554) (o := .cells #[.int .i64 a1_0, .int .i64 a1_1] 38 (0, 0)) (gI BK554.out) hb); replace BK555 := Aside0.mk (blk_below (g := gb555) (o := .cells #[.string (⟨#[]⟩ : ByteArray), .int .i64 0, .string (⟨#[]⟩ : ByteArray), .slice none 0 0] 42 (0, 0)) (gI BK555.out) hb); replace BK566 := bp BK566 hb #[.int .i64 t559, .string t560, .slice Ao14 t561.length co14]; replace HK := kb HK hb; replace HB : Aside0 (Below w0.heap.size w0 _) := Aside0.mk (below_step y0_5 hb); replace HI0 := Aside0.mk (IsS124.below (show IsS124 w0 (((w11.setCell ⟨gb566, 0, none⟩ (.int .i64 t559)).setCell ⟨gb566, 1, none⟩ (.string t560)).setCell ⟨gb566, 2, none⟩ (.slice Ao14 t561.length co14)) g s0_0 t564 t565 from y0_4) hb); clear hb ho17))
 go_loopg [6, 7] k (fun kq v6 v7 w' => ∃ (x6_1 : List (S99)) (x7_1 : Int) (x1001_1 : Int) (x1002_1 : Int), v7 = .int .i64 x7_1 ∧ Aside0 (spec_l8DrawRight.l0 kq x6_1 x7_1 s0_0 x1001_1 x1002_1 a1_0 a1_1 t559 t560 t561 = some (r1, r2, r3, r4, r5, r6)) ∧ Aside0 (kq ≤ k) ∧ Aside0 (Kd.R k99 99 w' w.heap.size (fun _ => True) v6 x6_1) ∧ Aside0 (Kd.R (Kd.int .i64) 3 w' w.heap.size (fun _ => True) (.slice Ao14 t561.length co14) t561) ∧ Aside0 (w'.heap[gb554]? = some (.cells #[.int .i64 a1_0, .int .i64 a1_1] 38 (0, 0))) ∧ Aside0 (w'.heap[gb555]? = some (.cells #[.string (⟨#[]⟩ : ByteArray), .int .i64 0, .string (⟨#[]⟩ : ByteArray), (.slice none 0 0)] 42 (0, 0))) ∧ Aside0 (w'.heap[gb566]? = some (.cells #[.int .i64 t559, .string t560, (.slice Ao14 t561.length co14)] 33 (0, 0))) ∧ Aside0 (IsS124 w0 w' g s0_0 x1001_1 x1002_1) ∧ Aside0 (KeepBut w w' g none) ∧ Aside0 (Below w0.heap.size w0 w'))
 case atStart => exact ⟨(y567), (0), (t564), (t565), y0_18, H', ⟨Nat.le_refl _⟩, ⟨by (with_reducible repeat (first | apply Kd.R_alloc | apply Kd.R_drewN | apply Kd.R_drew)); exact HO569.out⟩, ⟨by (with_reducible repeat (first | apply Kd.R_alloc | apply Kd.R_drewN | apply Kd.R_drew)); exact HO563.out⟩, ⟨gI BK554.out⟩, ⟨gI BK555.out⟩, ⟨gI BK566.out⟩, ⟨y0_4⟩, ⟨hI HK.out⟩, ⟨y0_5⟩⟩
 case round =>
  clear H'
  try clear c1
  try clear p2
  try clear c11
  try clear c12
  obtain ⟨x6_1, x7_1, x1001_1, x1002_1, rfl, HA, HK1, HO_6, HO_567002, BK554, BK555, BK566, HI0, HK, HB⟩ := hrel; cases gk with
  | zero => exact absurd HA.out (by simp [spec_l8DrawRight.l0])
  | succ k1 =>
   have H := HA.out; clear HA
   simp only [spec_l8DrawRight.l0] at H
   obtain ⟨⟨t570, t571, t572⟩, A180, H⟩ := Option.bind_eq_some_iff.mp H
   try dsimp only at H
   have A18 := Aside0.mk A180; clear A180
   by_cases c19 : x7_1 < t570
   ·
    rw [if_pos c19] at H
    have c19b0 : decide (x7_1 < t570) = true := decide_eq_true c19; clear c19; obtain ⟨⟨t573, t574, t575, t576, t577, t578⟩, A200, H⟩ := Option.bind_eq_some_iff.mp H
    try dsimp only at H
    have A20 := Aside0.mk A200; clear A200
    by_cases c21 : x6_1.length < 4398046511104
    rotate_left
    ·
     rw [if_neg c21] at H
     exact absurd H (by simp)
    rw [if_pos c21] at H
    have LMc21 := Aside0.mk c21; clear c21; obtain ⟨y579, hy579⟩ : ∃ y_ : List (S99), y_ = (x6_1 ++ [(⟨t573, t574, t575, t576⟩ : S99)]) := ⟨_, rfl⟩
    replace H : (spec_l8DrawRight.l0 k1 y579 (wrap64 (x7_1 + 1)) s0_0 t577 t578 a1_0 a1_1 t559 t560 t561) = some (r1, r2, r3, r4, r5, r6) := by first | (rw [hy579]; with_reducible exact H) | (have H2_ := (Option.bind_some _ _).symm.trans H; rw [hy579]; with_reducible exact H2_) | (have H2_ := (Option.bind_some _ _).symm.trans H; with_reducible exact H2_) | with_reducible exact H | (rw [hy579]; exact H) | exact H
    have Ny579 := Aside0.mk hy579; clear hy579; have H' := Aside0.mk H; clear H
    go_wp2_with (first | ((with_reducible refine gate_callee (f := 114) rfl ?_); refine gB (some 18) Tryz.func114 #[.pointer (some ⟨g, 0, none⟩), .int .i64 3] ?_; (with_reducible refine (spec_l1Below.calls g s0_0 x1001_1 x1002_1 3 t570 t571 t572 w0 _ ?side1 ?side2 A18.out).mono ?_); (case side1 => repeat (first | (with_reducible first | exact HI0.out | apply IsS124.alloc | apply IsS124.drewN | apply IsS124.drew | apply IsS124.set_1 | apply IsS124.set_2 | refine IsS124.far ?_ NeI.out _) | exact HI0.out)); (case side2 => repeat (first | (with_reducible first | exact HB.out | apply below_alloc | apply pw_below_drewN | apply below_drew1 | refine below_set ?_ (IsS124.ge HI0.out) | refine below_set ?_ GeI.out) | exact HB.out)); rintro e w22 ⟨rfl, hi, hb, hk⟩; refine ⟨_, rfl, ?_⟩; replace HO_6 := Aside0.mk (Kd.R_mono (Kd.R_keep (IsS124.apart (show IsS124 w0 _ g s0_0 x1001_1 x1002_1 from y0_4) (rI HO_6.out) (by decide)) hk (fun _ h => h.2)) (fun _ h => h.1)); replace HO_567002 := Aside0.mk (Kd.R_mono (Kd.R_keep (IsS124.apart (show IsS124 w0 _ g s0_0 x1001_1 x1002_1 from y0_4) (rI HO_567002.out) (by decide)) hk (fun _ h => h.2)) (fun _ h => h.1)); replace BK554 := bq BK554 hk NB554_0; replace BK555 := bq BK555 hk NB555_0; replace BK566 := bq BK566 hk NB566_0; replace HK := kt HK hk; replace HB := Aside0.mk (hb); replace HI0 := Aside0.mk (hi); (try clear hb); (try clear hb2); (try clear hk); (try clear hi)) | ((with_reducible refine gate_callee (f := 140) rfl ?_); refine gB (some 24) Tryz.func140 #[.pointer (some ⟨g, 0, none⟩)] ?_; (with_reducible refine (spec_l2DrawRight.calls g s0_0 t571 t572 t573 t574 t575 t576 t577 t578 w0 _ ?side1 ?side2 A20.out).mono ?_); (case side1 => repeat (first | (with_reducible first | exact HI0.out | apply IsS124.alloc | apply IsS124.drewN | apply IsS124.drew | apply IsS124.set_1 | apply IsS124.set_2 | refine IsS124.far ?_ NeI.out _) | exact HI0.out)); (case side2 => repeat (first | (with_reducible first | exact HB.out | apply below_alloc | apply pw_below_drewN | apply below_drew1 | refine below_set ?_ (IsS124.ge HI0.out) | refine below_set ?_ GeI.out) | exact HB.out)); rintro e w23 ⟨rfl, hi, hb, hk⟩; refine ⟨_, rfl, ?_⟩; replace HO_6 := Aside0.mk (Kd.R_mono (Kd.R_keep (IsS124.apart (show IsS124 w0 _ g s0_0 t571 t572 from y0_4) (rI HO_6.out) (by decide)) hk (fun _ h => h.2)) (fun _ h => h.1)); replace HO_567002 := Aside0.mk (Kd.R_mono (Kd.R_keep (IsS124.apart (show IsS124 w0 _ g s0_0 t571 t572 from y0_4) (rI HO_567002.out) (by decide)) hk (fun _ h => h.2)) (fun _ h => h.1)); replace BK554 := bq BK554 hk NB554_0; replace BK555 := bq BK555 hk NB555_0; replace BK566 := bq BK566 hk NB566_0; replace HK := kt HK hk; replace HB := Aside0.mk (hb); replace HI0 := Aside0.mk (hi); (try clear hb); (try clear hb2); (try clear hk); (try clear hi)) | ((with_reducible refine gate_builtin (b := .append) (xs := #[.tmp 22, .tmp 25]) rfl ?_); at_builtin; refine Kd.R_append k99 w.heap.size rfl (.tmp 22) (.tmp 25) 59 99 (.agg #[(.int .i64 0), (.int .i64 0), (.int .i64 0), (.int .i64 0)]) 32 rfl Tryz.underlying59 info99 rfl (by decide) (by omega) u6 x6_1 (⟨t573, t574, t575, t576⟩ : S99) [.int .i64 t573, .int .i64 t574, .int .i64 t575, .int .i64 t576] (fun _ => True) (fun _ => False) rfl rfl ?aP (fun _ hk => hk.elim) ?aF ?aO (Below.refl _ _) ?aS ?aL ?_; (case aP => exact k99_mkM _ _ _ (⟨t573, t574, t575, t576⟩ : S99)); (case aF => exact (fun _ _ => trivial)); (case aO => exact (rI HO_6.out)); (case aS => exact (keep_size (w := w) (g := g) (row := none) (hI HK.out))); (case aL => have := LMc21.out; omega); intro v580 w24 ho hb hg hat; rw [← Ny579.out] at ho; have n0_ := Aside0.mk (Kd.R_over' (rI HO_567002.out) (Kd.R_typed (rI HO_6.out)) (by decide) hg); have n1_ := bn BK554 hg (Kd.R_ne HO_6.out BK554.out (by decide)); have n2_ := bn BK555 hg (Kd.R_ne HO_6.out BK555.out (by decide)); have n3_ := bn BK566 hg (Kd.R_ne HO_6.out BK566.out (by decide)); have n4_ := Aside0.mk (IsS124.grown y0_4 hg (IsS124.own_ne HI0.out HO_6.out (by decide))); have n5_ := Aside0.mk (below_weaken y0_5 HL.out hb); have n6_ := Aside0.mk (KeepBut.trans (hI HK.out) (KeepBut.of_grown hg g) (Kd.R_base2 HO_6.out)); have n7_ := Aside0.mk (ho); clear HO_567002; clear BK554; clear BK555; clear BK566; clear HI0; clear HB; clear HK; clear HO_6; have HO_567002 := n0_; have BK554 := n1_; have BK555 := n2_; have BK566 := n3_; have HI0 := n4_; have HB := n5_; have HK := n6_; have HO581 := n7_; clear n0_ n1_ n2_ n3_ n4_ n5_ n6_ n7_; clear ho hb hg hat))
    go_roundg k1
    case measure => have := HK1.out; omega
    case rel => exact ⟨(y579), (wrap64 (x7_1 + 1)), (t577), (t578), y0_18, H', ⟨y0_20⟩, ⟨by (with_reducible repeat (first | apply Kd.R_alloc | apply Kd.R_drewN | apply Kd.R_drew)); exact HO581.out⟩, ⟨by (with_reducible repeat (first | apply Kd.R_alloc | apply Kd.R_drewN | apply Kd.R_drew)); exact HO_567002.out⟩, ⟨gI BK554.out⟩, ⟨gI BK555.out⟩, ⟨gI BK566.out⟩, ⟨y0_4⟩, ⟨hI HK.out⟩, ⟨y0_5⟩⟩
   rw [if_neg c19] at H
   have c19b0 : decide (x7_1 < t570) = false := decide_eq_false c19; clear c19; obtain ⟨⟨t582, t583, t584⟩, A250, H⟩ := Option.bind_eq_some_iff.mp H
   try dsimp only at H
   have A25 := Aside0.mk A250; clear A250; obtain ⟨⟨t585, t586, t587, t588, t591⟩, A260, H⟩ := Option.bind_eq_some_iff.mp H
   try dsimp only at H
   have A26 := Aside0.mk A260; clear A260
   simp only [Option.some.injEq, Prod.mk.injEq] at H
   obtain ⟨rfl, rfl, rfl, rfl, rfl, rfl⟩ := H
   try go_wp2_with (first | ((with_reducible refine gate_callee (f := 114) rfl ?_); refine gB (some 18) Tryz.func114 #[.pointer (some ⟨g, 0, none⟩), .int .i64 3] ?_; (with_reducible refine (spec_l1Below.calls g s0_0 x1001_1 x1002_1 3 t570 t571 t572 w0 _ ?side1 ?side2 A18.out).mono ?_); (case side1 => repeat (first | (with_reducible first | exact HI0.out | apply IsS124.alloc | apply IsS124.drewN | apply IsS124.drew | apply IsS124.set_1 | apply IsS124.set_2 | refine IsS124.far ?_ NeI.out _) | exact HI0.out)); (case side2 => repeat (first | (with_reducible first | exact HB.out | apply below_alloc | apply pw_below_drewN | apply below_drew1 | refine below_set ?_ (IsS124.ge HI0.out) | refine below_set ?_ GeI.out) | exact HB.out)); rintro e w27 ⟨rfl, hi, hb, hk⟩; refine ⟨_, rfl, ?_⟩; replace HO_6 := Aside0.mk (Kd.R_mono (Kd.R_keep (IsS124.apart (show IsS124 w0 _ g s0_0 x1001_1 x1002_1 from y0_4) (rI HO_6.out) (by decide)) hk (fun _ h => h.2)) (fun _ h => h.1)); replace HO_567002 := Aside0.mk (Kd.R_mono (Kd.R_keep (IsS124.apart (show IsS124 w0 _ g s0_0 x1001_1 x1002_1 from y0_4) (rI HO_567002.out) (by decide)) hk (fun _ h => h.2)) (fun _ h => h.1)); replace BK554 := bq BK554 hk NB554_0; replace BK555 := bq BK555 hk NB555_0; replace BK566 := bq BK566 hk NB566_0; replace HK := kt HK hk; replace HB := Aside0.mk (hb); replace HI0 := Aside0.mk (hi); (try clear hb); (try clear hb2); (try clear hk); (try clear hi); obtain ⟨Ao28, co28, eo28⟩ := Kd.R_slice HO_6.out; subst eo28))
   replace HO_6 := Aside0.mk (Kd.R_drew HO_6.out); replace HO_567002 := Aside0.mk (Kd.R_drew HO_567002.out); replace BK554 := Aside0.mk (blk_drew BK554.out); replace BK555 := Aside0.mk (blk_drew BK555.out); replace BK566 := Aside0.mk (blk_drew BK566.out); replace HI0 := Aside0.mk (IsS124.drew HI0.out); replace HK := Aside0.mk (keep_drew HK.out); replace HB := Aside0.mk (below_drew1 HB.out)
   refine start_ (n := 17) (S := fun w' => w'.cell? ⟨gb554, 0, none⟩ = some (.int .i64 a1_0) ∧ w'.cell? ⟨gb554, 1, none⟩ = some (.int .i64 a1_1) ∧ w'.cell? ⟨gb566, 0, none⟩ = some (.int .i64 t559) ∧ w'.cell? ⟨gb566, 1, none⟩ = some (.string t560) ∧ w'.cell? ⟨gb566, 2, none⟩ = some (.slice Ao14 t561.length co14)) (ds := []) #[false, false, false, false, false, false, false, false, false, false, false, false, false, false, false, false, false] (by kernel_rfl) rfl rfl ⟨bc0 BK554.out, bc1 BK554.out, bc0 BK566.out, bc1 BK566.out, bc2 BK566.out⟩ (fun hHeld => ?_); refine with_tabW spec_l8DrawRight.tab7 spec_l8DrawRight.bits7 (fun HT_ HW_ => ?_)
   generalize w27.drew = w29 at HO_6 HO_567002 BK554 BK555 BK566 HI0 HK HB hHeld ⊢
   refine pA 2 (some 30) (bz 17 4) HT_ ?_
   refine pA 5 (some 33) (bz 17 36) HT_ ?_
   refine pA 9 (some 37) (bz 17 548) HT_ ?_
   refine tA 0 (some 28) (bz 17 549) HT_ HW_ hHeld ?_
   refine tA 1 (some 29) (bz 17 551) HT_ HW_ hHeld ?_
   refine tA 3 (some 31) (bz 17 559) HT_ HW_ hHeld ?_
   refine pA 4 (some 32) (bz 17 575) HT_ ?_
   refine join_ (σ := Value × Nat) 2 #[true, true, true, true, true, true, true, true, true, true, true, true, true, true, true, false, false] (fun s_ => [(34, .int .i64 t582), (38, .tuple #[.agg #[.string t585, .int .i64 t586, .string t587, s_.1], .bool t591]), (8, .pointer (some ⟨s_.2, 0, none⟩)), (35, .int .i64 (wrap64 (Int.tdiv t582 3))), (36, .int .i64 (wrap64 ((wrap64 (t559 + 1)) + (wrap64 (Int.tdiv t582 3))))), (27, .tuple #[.agg #[.string t585, .int .i64 t586, .string t587, s_.1], .bool t591]), (39, .agg #[.string t585, .int .i64 t586, .string t587, s_.1]), (40, .bool t591)]) (fun s_ w' => (w'.cell? ⟨gb554, 0, none⟩ = some (.int .i64 a1_0) ∧ w'.cell? ⟨gb554, 1, none⟩ = some (.int .i64 a1_1) ∧ w'.cell? ⟨gb566, 0, none⟩ = some (.int .i64 t559) ∧ w'.cell? ⟨gb566, 1, none⟩ = some (.string t560) ∧ w'.cell? ⟨gb566, 2, none⟩ = some (.slice Ao14 t561.length co14)) ∧ (Kd.R (Kd.int .i64) 3 w' w.heap.size (fun k_ => some k_ ≠ (.slice Ao14 t561.length co14 : Value).ownBlock) s_.1 t588) ∧ (Kd.R (Kd.int .i64) 3 w' w.heap.size (fun k_ => some k_ ≠ (s_.1 : Value).ownBlock) (.slice Ao14 t561.length co14) t561) ∧ (Kd.R k99 99 w' w.heap.size (fun _ => True) (.slice Ao28 x6_1.length co28) x6_1) ∧ (w'.heap[gb554]? = some (.cells #[.int .i64 a1_0, .int .i64 a1_1] 38 (0, 0))) ∧ (w'.heap[gb555]? = some (.cells #[.string (⟨#[]⟩ : ByteArray), .int .i64 0, .string (⟨#[]⟩ : ByteArray), .slice none 0 0] 42 (0, 0))) ∧ (w'.heap[gb566]? = some (.cells #[.int .i64 t559, .string t560, .slice Ao14 t561.length co14] 33 (0, 0))) ∧ (w'.heap[s_.2]? = some (.cells #[.string (⟨#[]⟩ : ByteArray), .int .i64 0, .string (⟨#[]⟩ : ByteArray), .slice none 0 0] 42 (0, 0))) ∧ (w.heap.size ≤ s_.2) ∧ (w0.heap.size ≤ s_.2) ∧ (g ≠ s_.2) ∧ (s_.2 ≠ g) ∧ (gb554 ≠ s_.2) ∧ (s_.2 ≠ gb554) ∧ (gb555 ≠ s_.2) ∧ (s_.2 ≠ gb555) ∧ (gb566 ≠ s_.2) ∧ (s_.2 ≠ gb566) ∧ (IsS124 w0 w' g s0_0 t583 t584) ∧ (KeepBut w w' g none) ∧ (Below w0.heap.size w0 w')) ?_ ?_
   rotate_left
   ·
    intro hCont
    refine two_ (i := 6) (j := 14) (Ni := some 34) (Nj := some 8) #[true, true, true, true, true, true, true, false, false, true, false, false, false, false, false, false, false] #[true, true, true, true, true, true, false, false, false, true, false, false, false, false, true, false, false] rfl rfl rfl rfl (two_of HT_.out (by kernel_rfl)) (by decide) (by decide) (fun K hK => ?_) (fun K hK => ?_)
    ·
     skip
     refine gA Tryz.func114 #[.pointer (some ⟨g, 0, none⟩), .int .i64 4] ?_
     with_reducible refine (spec_l1Below.calls g s0_0 t571 t572 4 t582 t583 t584 w0 _ ?side1 ?side2 A25.out).mono ?_
     (case side1 => repeat (first | (with_reducible first | exact HI0.out | apply IsS124.alloc | apply IsS124.drewN | apply IsS124.drew | apply IsS124.set_1 | apply IsS124.set_2 | refine IsS124.far ?_ NeI.out _) | exact HI0.out))
     (case side2 => repeat (first | (with_reducible first | exact HB.out | apply below_alloc | apply pw_below_drewN | apply below_drew1 | refine below_set ?_ (IsS124.ge HI0.out) | refine below_set ?_ GeI.out) | exact HB.out))
     rintro e w30 ⟨rfl, hi, hb, hk⟩
     refine ⟨_, rfl, ?_⟩
     replace HO_6 := Aside0.mk (Kd.R_mono (Kd.R_keep (IsS124.apart (show IsS124 w0 _ g s0_0 t571 t572 from y0_4) (rI HO_6.out) (by decide)) hk (fun _ h => h.2)) (fun _ h => h.1))
     replace HO_567002 := Aside0.mk (Kd.R_mono (Kd.R_keep (IsS124.apart (show IsS124 w0 _ g s0_0 t571 t572 from y0_4) (rI HO_567002.out) (by decide)) hk (fun _ h => h.2)) (fun _ h => h.1))
     replace BK554 := bq BK554 hk NB554_0; replace BK555 := bq BK555 hk NB555_0; replace BK566 := bq BK566 hk NB566_0; replace HK := kt HK hk; replace HB := Aside0.mk (hb); replace HI0 := Aside0.mk (hi)
     (try clear hb)
     (try clear hb2)
     (try clear hk)
     (try clear hi)
     refine hK.out _ _ ⟨bc0 BK554.out, bc1 BK554.out, bc0 BK566.out, bc1 BK566.out, bc2 BK566.out⟩ (fun hHeld => ?_)
     clear hK K
     refine nA (some 34) ?_
     refine pA 7 (some 35) (bz 17 767) HT_ ?_
     refine pA 8 (some 36) (bz 17 1023) HT_ ?_
     refine two_ (i := 10) (j := 14) (Ni := some 38) (Nj := some 8) #[true, true, true, true, true, true, true, true, true, true, true, false, false, false, false, false, false] #[true, true, true, true, true, true, true, true, true, true, false, false, false, false, true, false, false] rfl rfl rfl rfl (two_of HT_.out (by kernel_rfl)) (by decide) (by decide) (fun K hK => ?_) (fun K hK => ?_)
     ·
      skip
      refine gA Tryz.func30 #[.agg #[.int .i64 a1_0, .int .i64 a1_1], .agg #[.int .i64 t559, .string t560, .slice Ao14 t561.length co14], .int .i64 (wrap64 ((wrap64 (t559 + 1)) + (wrap64 (Int.tdiv t582 3)))), .slice Ao28 x6_1.length co28] ?_
      with_reducible refine (spec_BlockNew.calls k1 a1_0 a1_1 t559 t560 _ _ t561 (wrap64 ((wrap64 (t559 + 1)) + (wrap64 (Int.tdiv t582 3)))) _ _ x6_1 t585 t586 t587 t588 t591 _ ?side1 ?side2 ?side3 ?side4 A26.out).mono ?_
      (case side1 => repeat (first | exact (Kd.R_reads' HO_567002.out).2.2 | (with_reducible refine Kd.C_alloc ?_ _) | (with_reducible refine Kd.C_drewN ?_ _) | (with_reducible refine Kd.C_drew ?_)))
      (case side2 => exact (Kd.R_reads' HO_567002.out).2.1)
      (case side3 => repeat (first | exact (Kd.R_reads' HO_6.out).2.2 | (with_reducible refine Kd.C_alloc ?_ _) | (with_reducible refine Kd.C_drewN ?_ _) | (with_reducible refine Kd.C_drew ?_)))
      (case side4 => exact (Kd.R_reads' HO_6.out).2.1)
      rintro e w31 ⟨v589, rfl, ho0, hb⟩
      refine ⟨_, rfl, ?_⟩
      replace HO_6 := rb HO_6 hb; have HO590 := Aside0.mk (Kd.R_lower (Kd.R_new' ho0 (Kd.R_lt (rI HO_567002.out))) (keep_size (w := w) (g := g) (row := none) (hI HK.out))); replace HO_567002 := Aside0.mk (Kd.R_elder' (rI HO_567002.out) (Kd.R_base ho0) hb); replace BK554 := bk BK554 hb; replace BK555 := bk BK555 hb; replace BK566 := bk BK566 hb; replace HK := kb HK hb; replace HB : Aside0 (Below w0.heap.size w0 _) := Aside0.mk (below_step y0_5 hb); replace HI0 := Aside0.mk (IsS124.below y0_4 hb)
      (try clear hb)
      (try clear hb2)
      (try clear hk)
      (try clear hi)
      (try clear ho0)
      refine hK.out _ _ ⟨bc0 BK554.out, bc1 BK554.out, bc0 BK566.out, bc1 BK566.out, bc2 BK566.out⟩ (fun hHeld => ?_)
      clear hK K
      refine nA (some 38) ?_
      refine pA 11 (some 27) (bz 17 4095) HT_ ?_
      refine pA 12 (some 39) (bz 17 0x1fff) HT_ ?_
      refine pA 13 (some 40) (bz 17 0x3fff) HT_ ?_
      refine oA 14 (some 8) (bz 17 0x7fff) HT_ (fun K hK => ?_)
      refine box_step ?hg (N := 8) ?hd (cs := #[.string (⟨#[]⟩ : ByteArray), .int .i64 0, .string (⟨#[]⟩ : ByteArray), .slice none 0 0]) (t := 42) ?hr ?_; (case hd => rfl); (case hg => rfl); (case hr => first | (go_simp; done) | (go_simp; rfl))
      intro gb592 hg w32 hbox hb
      replace HO_6 := rb HO_6 hb; replace HO_567002 := rb HO_567002 hb; replace HO590 := rb HO590 hb; replace HB : Aside0 (Below w0.heap.size w0 _) := Aside0.mk (below_step y0_5 hb); have BK592 := Aside0.mk (hbox); have GW592 := bh hg HK; have GJ592 := gi GW592; have GE592 := Aside0.mk ((Nat.le_trans HW0.out (y0_15 : w.heap.size ≤ gb592) : w0.heap.size ≤ gb592)); have GI592 := gi GE592; replace HK := kb HK hb; have NB554_592 := b1 BK554 hg; have NI554_592 := ni NB554_592; have NB592_554 := b2 BK554 hg; have NI592_554 := ni NB592_554; replace BK554 := bk BK554 hb; have NB555_592 := b1 BK555 hg; have NI555_592 := ni NB555_592; have NB592_555 := b2 BK555 hg; have NI592_555 := ni NB592_555; replace BK555 := bk BK555 hb; have NB566_592 := b1 BK566 hg; have NI566_592 := ni NB566_592; have NB592_566 := b2 BK566 hg; have NI592_566 := ni NB592_566; replace BK566 := bk BK566 hb
      have NB0_592 := Aside0.mk ((by rw [hg]; exact Nat.ne_of_lt (IsS124.lt (show IsS124 w0 _ g s0_0 t583 t584 from y0_4)) : g ≠ gb592))
      have NI0_592 := ni NB0_592
      have NB592_0 := Aside0.mk ((by rw [hg]; exact Nat.ne_of_gt (IsS124.lt (show IsS124 w0 _ g s0_0 t583 t584 from y0_4)) : gb592 ≠ g))
      have NI592_0 := ni NB592_0; replace HI0 := Aside0.mk (IsS124.below y0_4 hb); clear hb hbox hg
      refine hK.out _ _ ⟨bc0 BK554.out, bc1 BK554.out, bc0 BK566.out, bc1 BK566.out, bc2 BK566.out⟩ (fun hHeld => ?_)
      clear hK K
      refine nA (some 8) ?_
      exact norm_ y0_13 (hCont (v589, gb592) _ ⟨hHeld, (rI (Kd.R_mono HO590.out (fun _ hk => hk.2))), (rI (Kd.R_mono HO_567002.out (fun _ hk => hk.2))), (rI HO_6.out), (kI BK554.out), (kI BK555.out), (kI BK566.out), (kI BK592.out), GW592.out, GE592.out, NB0_592.out, NB592_0.out, NB554_592.out, NB592_554.out, NB555_592.out, NB592_555.out, NB566_592.out, NB592_566.out, y0_4, (hI HK.out), y0_5⟩)
     skip
     refine box_step ?hg (N := 8) ?hd (cs := #[.string (⟨#[]⟩ : ByteArray), .int .i64 0, .string (⟨#[]⟩ : ByteArray), .slice none 0 0]) (t := 42) ?hr ?_; (case hd => rfl); (case hg => rfl); (case hr => first | (go_simp; done) | (go_simp; rfl))
     intro gb592 hg w31 hbox hb
     replace HO_6 := rb HO_6 hb; replace HO_567002 := rb HO_567002 hb; replace HB : Aside0 (Below w0.heap.size w0 _) := Aside0.mk (below_step y0_5 hb); have BK592 := Aside0.mk (hbox); have GW592 := bh hg HK; have GJ592 := gi GW592; have GE592 := Aside0.mk ((Nat.le_trans HW0.out (y0_15 : w.heap.size ≤ gb592) : w0.heap.size ≤ gb592)); have GI592 := gi GE592; replace HK := kb HK hb; have NB554_592 := b1 BK554 hg; have NI554_592 := ni NB554_592; have NB592_554 := b2 BK554 hg; have NI592_554 := ni NB592_554; replace BK554 := bk BK554 hb; have NB555_592 := b1 BK555 hg; have NI555_592 := ni NB555_592; have NB592_555 := b2 BK555 hg; have NI592_555 := ni NB592_555; replace BK555 := bk BK555 hb; have NB566_592 := b1 BK566 hg; have NI566_592 := ni NB566_592; have NB592_566 := b2 BK566 hg; have NI592_566 := ni NB592_566; replace BK566 := bk BK566 hb
     have NB0_592 := Aside0.mk ((by rw [hg]; exact Nat.ne_of_lt (IsS124.lt (show IsS124 w0 _ g s0_0 t583 t584 from y0_4)) : g ≠ gb592))
     have NI0_592 := ni NB0_592
     have NB592_0 := Aside0.mk ((by rw [hg]; exact Nat.ne_of_gt (IsS124.lt (show IsS124 w0 _ g s0_0 t583 t584 from y0_4)) : gb592 ≠ g))
     have NI592_0 := ni NB592_0; replace HI0 := Aside0.mk (IsS124.below y0_4 hb); clear hb hbox hg
     refine hK.out _ _ ⟨bc0 BK554.out, bc1 BK554.out, bc0 BK566.out, bc1 BK566.out, bc2 BK566.out⟩ (fun hHeld => ?_)
     clear hK K
     refine nA (some 8) ?_
     refine oA 10 (some 38) (bz 17 0x47ff) HT_ (fun K hK => ?_)
     refine gA Tryz.func30 #[.agg #[.int .i64 a1_0, .int .i64 a1_1], .agg #[.int .i64 t559, .string t560, .slice Ao14 t561.length co14], .int .i64 (wrap64 ((wrap64 (t559 + 1)) + (wrap64 (Int.tdiv t582 3)))), .slice Ao28 x6_1.length co28] ?_
     with_reducible refine (spec_BlockNew.calls k1 a1_0 a1_1 t559 t560 _ _ t561 (wrap64 ((wrap64 (t559 + 1)) + (wrap64 (Int.tdiv t582 3)))) _ _ x6_1 t585 t586 t587 t588 t591 _ ?side1 ?side2 ?side3 ?side4 A26.out).mono ?_
     (case side1 => repeat (first | exact (Kd.R_reads' HO_567002.out).2.2 | (with_reducible refine Kd.C_alloc ?_ _) | (with_reducible refine Kd.C_drewN ?_ _) | (with_reducible refine Kd.C_drew ?_)))
     (case side2 => exact (Kd.R_reads' HO_567002.out).2.1)
     (case side3 => repeat (first | exact (Kd.R_reads' HO_6.out).2.2 | (with_reducible refine Kd.C_alloc ?_ _) | (with_reducible refine Kd.C_drewN ?_ _) | (with_reducible refine Kd.C_drew ?_)))
     (case side4 => exact (Kd.R_reads' HO_6.out).2.1)
     rintro e w32 ⟨v589, rfl, ho0, hb⟩
     refine ⟨_, rfl, ?_⟩
     replace HO_6 := rb HO_6 hb; have HO590 := Aside0.mk (Kd.R_lower (Kd.R_new' ho0 (Kd.R_lt (rI HO_567002.out))) (keep_size (w := w) (g := g) (row := none) (hI HK.out))); replace HO_567002 := Aside0.mk (Kd.R_elder' (rI HO_567002.out) (Kd.R_base ho0) hb); replace BK554 := bk BK554 hb; replace BK555 := bk BK555 hb; replace BK566 := bk BK566 hb; replace BK592 := bk BK592 hb; replace HK := kb HK hb; replace HB : Aside0 (Below w0.heap.size w0 _) := Aside0.mk (below_step y0_5 hb); replace HI0 := Aside0.mk (IsS124.below y0_4 hb)
     (try clear hb)
     (try clear hb2)
     (try clear hk)
     (try clear hi)
     (try clear ho0)
     refine hK.out _ _ ⟨bc0 BK554.out, bc1 BK554.out, bc0 BK566.out, bc1 BK566.out, bc2 BK566.out⟩ (fun hHeld => ?_)
     clear hK K
     refine nA (some 38) ?_
     refine pA 11 (some 27) (bz 17 0x4fff) HT_ ?_
     refine pA 12 (some 39) (bz 17 0x5fff) HT_ ?_
     refine pA 13 (some 40) (bz 17 0x7fff) HT_ ?_
     exact norm_ y0_13 (hCont (v589, gb592) _ ⟨hHeld, (rI (Kd.R_mono HO590.out (fun _ hk => hk.2))), (rI (Kd.R_mono HO_567002.out (fun _ hk => hk.2))), (rI HO_6.out), (kI BK554.out), (kI BK555.out), (kI BK566.out), (kI BK592.out), GW592.out, GE592.out, NB0_592.out, NB592_0.out, NB554_592.out, NB592_554.out, NB555_592.out, NB592_555.out, NB566_592.out, NB592_566.out, y0_4, (hI HK.out), y0_5⟩)
    skip
    refine box_step ?hg (N := 8) ?hd (cs := #[.string (⟨#[]⟩ : ByteArray), .int .i64 0, .string (⟨#[]⟩ : ByteArray), .slice none 0 0]) (t := 42) ?hr ?_; (case hd => rfl); (case hg => rfl); (case hr => first | (go_simp; done) | (go_simp; rfl))
    intro gb592 hg w30 hbox hb
    replace HO_6 := rb HO_6 hb; replace HO_567002 := rb HO_567002 hb; replace HB : Aside0 (Below w0.heap.size w0 _) := Aside0.mk (below_step y0_5 hb); have BK592 := Aside0.mk (hbox); have GW592 := bh hg HK; have GJ592 := gi GW592; have GE592 := Aside0.mk ((Nat.le_trans HW0.out (y0_15 : w.heap.size ≤ gb592) : w0.heap.size ≤ gb592)); have GI592 := gi GE592; replace HK := kb HK hb; have NB554_592 := b1 BK554 hg; have NI554_592 := ni NB554_592; have NB592_554 := b2 BK554 hg; have NI592_554 := ni NB592_554; replace BK554 := bk BK554 hb; have NB555_592 := b1 BK555 hg; have NI555_592 := ni NB555_592; have NB592_555 := b2 BK555 hg; have NI592_555 := ni NB592_555; replace BK555 := bk BK555 hb; have NB566_592 := b1 BK566 hg; have NI566_592 := ni NB566_592; have NB592_566 := b2 BK566 hg; have NI592_566 := ni NB592_566; replace BK566 := bk BK566 hb
    have NB0_592 := Aside0.mk ((by rw [hg]; exact Nat.ne_of_lt (IsS124.lt (show IsS124 w0 _ g s0_0 t571 t572 from y0_4)) : g ≠ gb592))
    have NI0_592 := ni NB0_592
    have NB592_0 := Aside0.mk ((by rw [hg]; exact Nat.ne_of_gt (IsS124.lt (show IsS124 w0 _ g s0_0 t571 t572 from y0_4)) : gb592 ≠ g))
    have NI592_0 := ni NB592_0; replace HI0 := Aside0.mk (IsS124.below y0_4 hb); clear hb hbox hg
    refine hK.out _ _ ⟨bc0 BK554.out, bc1 BK554.out, bc0 BK566.out, bc1 BK566.out, bc2 BK566.out⟩ (fun hHeld => ?_)
    clear hK K
    refine nA (some 8) ?_
    refine oA 6 (some 34) (bz 17 0x427f) HT_ (fun K hK => ?_)
    refine gA Tryz.func114 #[.pointer (some ⟨g, 0, none⟩), .int .i64 4] ?_
    with_reducible refine (spec_l1Below.calls g s0_0 t571 t572 4 t582 t583 t584 w0 _ ?side1 ?side2 A25.out).mono ?_
    (case side1 => repeat (first | (with_reducible first | exact HI0.out | apply IsS124.alloc | apply IsS124.drewN | apply IsS124.drew | apply IsS124.set_1 | apply IsS124.set_2 | refine IsS124.far ?_ NeI.out _) | exact HI0.out))
    (case side2 => repeat (first | (with_reducible first | exact HB.out | apply below_alloc | apply pw_below_drewN | apply below_drew1 | refine below_set ?_ (IsS124.ge HI0.out) | refine below_set ?_ GeI.out) | exact HB.out))
    rintro e w31 ⟨rfl, hi, hb, hk⟩
    refine ⟨_, rfl, ?_⟩
    replace HO_6 := Aside0.mk (Kd.R_mono (Kd.R_keep (IsS124.apart (show IsS124 w0 _ g s0_0 t571 t572 from y0_4) (rI HO_6.out) (by decide)) hk (fun _ h => h.2)) (fun _ h => h.1))
    replace HO_567002 := Aside0.mk (Kd.R_mono (Kd.R_keep (IsS124.apart (show IsS124 w0 _ g s0_0 t571 t572 from y0_4) (rI HO_567002.out) (by decide)) hk (fun _ h => h.2)) (fun _ h => h.1))
    replace BK554 := bq BK554 hk NB554_0; replace BK555 := bq BK555 hk NB555_0; replace BK566 := bq BK566 hk NB566_0; replace BK592 := bq BK592 hk NB592_0; replace HK := kt HK hk; replace HB := Aside0.mk (hb); replace HI0 := Aside0.mk (hi)
    (try clear hb)
    (try clear hb2)
    (try clear hk)
    (try clear hi)
    refine hK.out _ _ ⟨bc0 BK554.out, bc1 BK554.out, bc0 BK566.out, bc1 BK566.out, bc2 BK566.out⟩ (fun hHeld => ?_)
    clear hK K
    refine nA (some 34) ?_
    refine pA 7 (some 35) (bz 17 0x42ff) HT_ ?_
    refine pA 8 (some 36) (bz 17 0x43ff) HT_ ?_
    refine oA 10 (some 38) (bz 17 0x47ff) HT_ (fun K hK => ?_)
    refine gA Tryz.func30 #[.agg #[.int .i64 a1_0, .int .i64 a1_1], .agg #[.int .i64 t559, .string t560, .slice Ao14 t561.length co14], .int .i64 (wrap64 ((wrap64 (t559 + 1)) + (wrap64 (Int.tdiv t582 3)))), .slice Ao28 x6_1.length co28] ?_
    with_reducible refine (spec_BlockNew.calls k1 a1_0 a1_1 t559 t560 _ _ t561 (wrap64 ((wrap64 (t559 + 1)) + (wrap64 (Int.tdiv t582 3)))) _ _ x6_1 t585 t586 t587 t588 t591 _ ?side1 ?side2 ?side3 ?side4 A26.out).mono ?_
    (case side1 => repeat (first | exact (Kd.R_reads' HO_567002.out).2.2 | (with_reducible refine Kd.C_alloc ?_ _) | (with_reducible refine Kd.C_drewN ?_ _) | (with_reducible refine Kd.C_drew ?_)))
    (case side2 => exact (Kd.R_reads' HO_567002.out).2.1)
    (case side3 => repeat (first | exact (Kd.R_reads' HO_6.out).2.2 | (with_reducible refine Kd.C_alloc ?_ _) | (with_reducible refine Kd.C_drewN ?_ _) | (with_reducible refine Kd.C_drew ?_)))
    (case side4 => exact (Kd.R_reads' HO_6.out).2.1)
    rintro e w32 ⟨v589, rfl, ho0, hb⟩
    refine ⟨_, rfl, ?_⟩
    replace HO_6 := rb HO_6 hb; have HO590 := Aside0.mk (Kd.R_lower (Kd.R_new' ho0 (Kd.R_lt (rI HO_567002.out))) (keep_size (w := w) (g := g) (row := none) (hI HK.out))); replace HO_567002 := Aside0.mk (Kd.R_elder' (rI HO_567002.out) (Kd.R_base ho0) hb); replace BK554 := bk BK554 hb; replace BK555 := bk BK555 hb; replace BK566 := bk BK566 hb; replace BK592 := bk BK592 hb; replace HK := kb HK hb; replace HB : Aside0 (Below w0.heap.size w0 _) := Aside0.mk (below_step y0_5 hb); replace HI0 := Aside0.mk (IsS124.below y0_4 hb)
    (try clear hb)
    (try clear hb2)
    (try clear hk)
    (try clear hi)
    (try clear ho0)
    refine hK.out _ _ ⟨bc0 BK554.out, bc1 BK554.out, bc0 BK566.out, bc1 BK566.out, bc2 BK566.out⟩ (fun hHeld => ?_)
    clear hK K
    refine nA (some 38) ?_
    refine pA 11 (some 27) (bz 17 0x4fff) HT_ ?_
    refine pA 12 (some 39) (bz 17 0x5fff) HT_ ?_
    refine pA 13 (some 40) (bz 17 0x7fff) HT_ ?_
    exact norm_ y0_13 (hCont (v589, gb592) _ ⟨hHeld, (rI (Kd.R_mono HO590.out (fun _ hk => hk.2))), (rI (Kd.R_mono HO_567002.out (fun _ hk => hk.2))), (rI HO_6.out), (kI BK554.out), (kI BK555.out), (kI BK566.out), (kI BK592.out), GW592.out, GE592.out, NB0_592.out, NB592_0.out, NB554_592.out, NB592_554.out, NB555_592.out, NB592_555.out, NB566_592.out, NB592_566.out, y0_4, (hI HK.out), y0_5⟩)
   rintro ⟨v589, gb592⟩ w33 ⟨hS_, h0_, h1_, h2_, h3_, h4_, h5_, h6_, h7_, h8_, h9_, h10_, h11_, h12_, h13_, h14_, h15_, h16_, h17_, h18_, h19_⟩
   try dsimp only at h0_ h1_ h2_ h3_ h4_ h5_ h6_ h7_ h8_ h9_ h10_ h11_ h12_ h13_ h14_ h15_ h16_ h17_ h18_ h19_
   have n0_ := Aside0.mk h0_; have n1_ := Aside0.mk h1_; have n2_ := Aside0.mk h2_; have n3_ := Aside0.mk h3_; have n4_ := Aside0.mk h4_; have n5_ := Aside0.mk h5_; have n6_ := Aside0.mk h6_; have n7_ := Aside0.mk h7_; have n8_ := Aside0.mk h8_; have n9_ := Aside0.mk h9_; have n10_ := Aside0.mk h10_; have n11_ := Aside0.mk h11_; have n12_ := Aside0.mk h12_; have n13_ := Aside0.mk h13_; have n14_ := Aside0.mk h14_; have n15_ := Aside0.mk h15_; have n16_ := Aside0.mk h16_; have n17_ := Aside0.mk h17_; have n18_ := Aside0.mk h18_; have n19_ := Aside0.mk h19_; clear HO_6; clear HO_567002; clear BK554; clear BK555; clear BK566; clear HI0; clear HK; clear HB; clear h0_ h1_ h2_ h3_ h4_ h5_ h6_ h7_ h8_ h9_ h10_ h11_ h12_ h13_ h14_ h15_ h16_ h17_ h18_ h19_; have HO590 := n0_; have HO_567002 := n1_; have HO_6 := n2_; have BK554 := n3_; have BK555 := n4_; have BK566 := n5_; have BK592 := n6_; have GW592 := n7_; have GJ592 := gi GW592; have GE592 := n8_; have GI592 := gi GE592; have NB0_592 := n9_; have NI0_592 := ni NB0_592; have NB592_0 := n10_; have NI592_0 := ni NB592_0; have NB554_592 := n11_; have NI554_592 := ni NB554_592; have NB592_554 := n12_; have NI592_554 := ni NB592_554; have NB555_592 := n13_; have NI555_592 := ni NB555_592; have NB592_555 := n14_; have NI592_555 := ni NB592_555; have NB566_592 := n15_; have NI566_592 := ni NB566_592; have NB592_566 := n16_; have NI592_566 := ni NB592_566; have HI0 := n17_; have HK := n18_; have HB := n19_; clear n0_ n1_ n2_ n3_ n4_ n5_ n6_ n7_ n8_ n9_ n10_ n11_ n12_ n13_ n14_ n15_ n16_ n17_ n18_ n19_
   have hHeld : w33.cell? ⟨gb554, 0, none⟩ = some (.int .i64 a1_0) ∧ w33.cell? ⟨gb554, 1, none⟩ = some (.int .i64 a1_1) ∧ w33.cell? ⟨gb566, 0, none⟩ = some (.int .i64 t559) ∧ w33.cell? ⟨gb566, 1, none⟩ = some (.string t560) ∧ w33.cell? ⟨gb566, 2, none⟩ = some (.slice Ao14 t561.length co14) := hS_; obtain ⟨Ao37, co37, eo37⟩ := Kd.R_slice HO590.out
   (first | subst eo37 | (injection eo37 with f1_ f2_ f3_; have f4_ := f1_.symm; have f5_ := f3_.symm; clear f1_ f2_ f3_; subst f4_; subst f5_))
   refine norm_ (a' := ?_) ?_ ?_
   rotate_left
   ·
    simp only [putAll, Act.put, List.setIfInBounds_toArray, List.set_cons_zero, List.set_cons_succ]
    rfl
   refine oA 15 none (bz 17 0xffff) HT_ (fun K hK => ?_)
   have hs34 : w33.cell? ⟨gb592, 0, none⟩ = some (.string (⟨#[]⟩ : ByteArray)) := bc0 BK592.out; have hfs34 := blk_frozen BK592.out 0; have hns34_0 := NB554_592.out; have hns34_1 := NB555_592.out; have hns34_2 := NB566_592.out; have hms34_0 := NB592_554.out; have hms34_1 := NB592_555.out; have hms34_2 := NB592_566.out; have hs35 : w33.cell? ⟨gb592, 1, none⟩ = some (.int .i64 0) := bc1 BK592.out; have hfs35 := blk_frozen BK592.out 1; have hns35_0 := NB554_592.out; have hns35_1 := NB555_592.out; have hns35_2 := NB566_592.out; have hms35_0 := NB592_554.out; have hms35_1 := NB592_555.out; have hms35_2 := NB592_566.out; have hs36 : w33.cell? ⟨gb592, 2, none⟩ = some (.string (⟨#[]⟩ : ByteArray)) := bc2 BK592.out; have hfs36 := blk_frozen BK592.out 2; have hns36_0 := NB554_592.out; have hns36_1 := NB555_592.out; have hns36_2 := NB566_592.out; have hms36_0 := NB592_554.out; have hms36_1 := NB592_555.out; have hms36_2 := NB592_566.out; have hs38 : w33.cell? ⟨gb592, 3, none⟩ = some (.slice none 0 0) := bc3 BK592.out; have hfs38 := blk_frozen BK592.out 3; have hns38_0 := NB554_592.out; have hns38_1 := NB555_592.out; have hns38_2 := NB566_592.out; have hms38_0 := NB592_554.out; have hms38_1 := NB592_555.out; have hms38_2 := NB592_566.out
   refine skip_ (w1 := ?_) (by rfl) rfl ?_ ?_
   rotate_left
   ·
    go_simp
    rfl
   refine hK.out _ _ ⟨((cell_far (p := ⟨gb592, _, none⟩) NB554_592.out _).trans (((cell_far (p := ⟨gb592, _, none⟩) NB554_592.out _).trans (((cell_far (p := ⟨gb592, _, none⟩) NB554_592.out _).trans (((cell_far (p := ⟨gb592, _, none⟩) NB554_592.out _).trans (hHeld.1)))))))), ((cell_far (p := ⟨gb592, _, none⟩) NB554_592.out _).trans (((cell_far (p := ⟨gb592, _, none⟩) NB554_592.out _).trans (((cell_far (p := ⟨gb592, _, none⟩) NB554_592.out _).trans (((cell_far (p := ⟨gb592, _, none⟩) NB554_592.out _).trans (hHeld.2.1)))))))), ((cell_far (p := ⟨gb592, _, none⟩) NB566_592.out _).trans (((cell_far (p := ⟨gb592, _, none⟩) NB566_592.out _).trans (((cell_far (p := ⟨gb592, _, none⟩) NB566_592.out _).trans (((cell_far (p := ⟨gb592, _, none⟩) NB566_592.out _).trans (hHeld.2.2.1)))))))), ((cell_far (p := ⟨gb592, _, none⟩) NB566_592.out _).trans (((cell_far (p := ⟨gb592, _, none⟩) NB566_592.out _).trans (((cell_far (p := ⟨gb592, _, none⟩) NB566_592.out _).trans (((cell_far (p := ⟨gb592, _, none⟩) NB566_592.out _).trans (hHeld.2.2.2.1)))))))), ((cell_far (p := ⟨gb592, _, none⟩) NB566_592.out _).trans (((cell_far (p := ⟨gb592, _, none⟩) NB566_592.out _).trans (((cell_far (p := ⟨gb592, _, none⟩) NB566_592.out _).trans (((cell_far (p := ⟨gb592, _, none⟩) NB566_592.out _).trans (hHeld.2.2.2.2))))))))⟩ (fun hHeld => ?_)
   clear hK K
   refine pA 16 (some 9) (bz 17 0x1ffff) HT_ ?_
   refine done_ (done_of HT_.out (by kernel_rfl)) ?_
   have hnb39 := NB592_554.out; have hnc39 := NB554_592.out; have hnb40 := NB592_555.out; have hnc40 := NB555_592.out; have hnb41 := NB592_566.out; have hnc41 := NB566_592.out; have hnb42 := NB592_0.out; have hnc42 := NB0_592.out; have hcz43_0 := bc0 BK592.out; have hcz43_1 := bc1 BK592.out; have hcz43_2 := bc2 BK592.out; have hcz43_3 := bc3 BK592.out; have hfz43_0 := blk_frozen BK592.out 0; have hfz43_1 := blk_frozen BK592.out 1; have hfz43_2 := blk_frozen BK592.out 2; have hfz43_3 := blk_frozen BK592.out 3; have hnb44 := NB555_554.out; have hnc44 := NB554_555.out; have hnb45 := NB555_566.out; have hnc45 := NB566_555.out; have hnb46 := NB555_0.out; have hnc46 := NB0_555.out; have hcz47_0 := bc0 BK555.out; have hcz47_1 := bc1 BK555.out; have hcz47_2 := bc2 BK555.out; have hcz47_3 := bc3 BK555.out; have hfz47_0 := blk_frozen BK555.out 0; have hfz47_1 := blk_frozen BK555.out 1; have hfz47_2 := blk_frozen BK555.out 2; have hfz47_3 := blk_frozen BK555.out 3
   try go_wp2
   refine bodyPost_ret (results_cell_row rfl _ _ gb555 42 #[.string t585, .int .i64 t586, .string t587, .slice Ao37 t588.length co37] (0, 0) _ rfl (pI BK555) Tryz.underlying42 rfl (by kernel_rfl)) rfl ?_
   exact ⟨_, y0_14, by (with_reducible repeat (first | apply Kd.R_alloc | apply Kd.R_drewN | apply Kd.R_drew)); exact Kd.R_mono (Kd.R_far (p := ⟨gb555, 3, none⟩) (Kd.R_far (p := ⟨gb555, 2, none⟩) (Kd.R_far (p := ⟨gb555, 1, none⟩) (Kd.R_far (p := ⟨gb555, 0, none⟩) (Kd.R_far (p := ⟨gb592, 3, none⟩) (Kd.R_far (p := ⟨gb592, 2, none⟩) (Kd.R_far (p := ⟨gb592, 1, none⟩) (Kd.R_far (p := ⟨gb592, 0, none⟩) (Kd.R_types (Kd.R_types HO590.out BK592.out (by decide)) BK555.out (by decide)) (fun _ hk => hk.1.2) (.string t585)) (fun _ hk => hk.1.2) (.int .i64 t586)) (fun _ hk => hk.1.2) (.string t587)) (fun _ hk => hk.1.2) (.slice Ao37 t588.length co37)) (fun _ hk => hk.2) (.string t585)) (fun _ hk => hk.2) (.int .i64 t586)) (fun _ hk => hk.2) (.string t587)) (fun _ hk => hk.2) (.slice Ao37 t588.length co37)) (fun _ hk => trivial), y0_4, y0_5, hI HK.out⟩

end Go.Proofs.YtemjmefacifdeaaGreatDoor.PFnLockHolds
