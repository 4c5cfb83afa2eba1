-- By a program of this session, out of the translation (the print of the kit, with turns of its own). Lean checks it.
import Derived.Test.YtnpbopadajbopaaGreatDoorPFnBlocksx0
import Derived.Test.YtnpbopadajbopaaGreatDoorPFnBlocksx3
import Derived.Test.YtnpbopadajbopaaGreatDoorPFnBlocksx6
import Derived.Test.YtnpbopadajbopaaGreatDoorPFnBlocksx7
import Derived.Test.YtnpbopadajbopaaGreatDoorPFnBlocksx10
namespace Go.Proofs.YtnpbopadajbopaaGreatDoor.PFnBlocks
open Go.RowKit Go.Proofs.YtnpbopadajbopaaGreatDoorW.PrintWords Go.Proofs.YtnpbopadajbopaaGreatDoorW.PrintLast Go.Proofs.YtnpbopadajbopaaGreatDoorW.PrintMore
attribute [local go_sem] max2_int min2_int max_two min_two max_three min_three max_four min_four   -- for this text's walks alone
attribute [local go_sem] cell_in frozen_in
set_option synthInstance.maxSize 1000000
set_option synthInstance.maxHeartbeats 2000000
set_option linter.unusedVariables false
set_option linter.unusedSimpArgs false

/-! ### spec_l8DrawRight: function 211 -/
def spec_l8DrawRight.l0 : Nat → List (S204) → Int → List Int → Int → Int → Int → Int → Int → ByteArray → List Int → Option (ByteArray × Int × ByteArray × List Int × Int × Int)
 | 0, _, _, _, _, _, _, _, _, _, _ => none
 | k + 1, x6, x7, x1000, x1001, x1002, x557000, x557001, x569000, x569001, x569002 => (spec_l1Below.f x1000 x1001 x1002 3).bind fun bt572 => (if x7 < bt572.1 then ((spec_l2DrawRight.f x1000 bt572.2.1 bt572.2.2).bind fun bt575 => (if x6.length < 4398046511104 then (spec_l8DrawRight.l0 k (x6 ++ [(⟨bt575.1, bt575.2.1, bt575.2.2.1, bt575.2.2.2.1⟩ : S204)]) (wrap64 (x7 + 1)) x1000 bt575.2.2.2.2.1 bt575.2.2.2.2.2 x557000 x557001 x569000 x569001 x569002) else (none))) else ((spec_l1Below.f x1000 bt572.2.1 bt572.2.2 4).bind fun bt584 => ((spec_BlockNew.f k x557000 x557001 x569000 x569001 x569002 (wrap64 ((wrap64 (x569000 + 1)) + (wrap64 (Int.tdiv bt584.1 3)))) x6).bind fun bt587 => (some (bt587.1, bt587.2.1, bt587.2.2.1, bt587.2.2.2.1, bt584.2.1, bt584.2.2)))))
def spec_l8DrawRight.f (k : Nat) (s0_0 : List Int) (s0_1 : Int) (s0_2 : Int) (a1_0 : Int) (a1_1 : Int) : Option (ByteArray × Int × ByteArray × List Int × Int × Int) := (spec_l5DrawRight.f k s0_0 s0_1 s0_2).bind fun bt558 => ((spec_l7DrawOf.f k s0_0 bt558.2.1 bt558.2.2 a1_0 a1_1 bt558.1).bind fun bt561 => (spec_l8DrawRight.l0 k (([] : List (S204))) 0 s0_0 bt561.2.2.2.1 bt561.2.2.2.2 a1_0 a1_1 bt561.1 bt561.2.1 bt561.2.2.1))
theorem spec_l8DrawRight.mono_l : ∀ k, (∀ y0 y1 y2 y3 y4 y5 y6 y7 y8 y9, LeO (spec_l8DrawRight.l0 k y0 y1 y2 y3 y4 y5 y6 y7 y8 y9) (spec_l8DrawRight.l0 (k + 1) y0 y1 y2 y3 y4 y5 y6 y7 y8 y9))
 | 0 => fun _ _ _ _ _ _ _ _ _ _ r h => by simp [spec_l8DrawRight.l0] at h
 | k + 1 => by
  have ih0 := spec_l8DrawRight.mono_l k
  intro y0 y1 y2 y3 y4 y5 y6 y7 y8 y9
  unfold spec_l8DrawRight.l0
  repeat' first | (with_reducible exact ih0 _ _ _ _ _ _ _ _ _ _) | (with_reducible exact spec_BlockNew.mono _ _ _ _ _ _ _ _) | (with_reducible exact spec_l5DrawRight.mono _ _ _ _) | (with_reducible exact spec_l7DrawOf.mono _ _ _ _ _ _ _) | (with_reducible exact LeO.refl _) | (with_reducible exact LeO.none _) | (with_reducible refine LeO.ite ?_ ?_) | (with_reducible refine LeO.bind ?_ (fun _ => ?_))
theorem spec_l8DrawRight.mono : ∀ a0 a1 a2 a3 a4 k, LeO (spec_l8DrawRight.f k a0 a1 a2 a3 a4) (spec_l8DrawRight.f (k + 1) a0 a1 a2 a3 a4) := by
 intro a0 a1 a2 a3 a4 k
 have ih0 := spec_l8DrawRight.mono_l k
 unfold spec_l8DrawRight.f
 repeat' first | (with_reducible exact ih0 _ _ _ _ _ _ _ _ _ _) | (with_reducible exact spec_BlockNew.mono _ _ _ _ _ _ _ _) | (with_reducible exact spec_l5DrawRight.mono _ _ _ _) | (with_reducible exact spec_l7DrawOf.mono _ _ _ _ _ _ _) | (with_reducible exact LeO.refl _) | (with_reducible exact LeO.none _) | (with_reducible refine LeO.ite ?_ ?_) | (with_reducible refine LeO.bind ?_ (fun _ => ?_))
def spec_l8DrawRight.T7 : Bool × List (List Nat × List Nat) := (true, [([], []), ([], []), ([], []), ([2], [2]), ([3], [3]), ([], []), ([5], [5]), ([6], [6]), ([4, 7], [4, 7]), ([], []), ([0, 1, 8, 9, 6], [0, 1, 8, 9]), ([10], [10]), ([11], [11]), ([11], [11]), ([], []), ([14, 12, 10, 0, 1, 2, 3, 4, 5, 6, 7, 8, 9, 10, 11, 12, 14], [12, 14]), ([13, 15, 0, 1, 2, 3, 4, 5, 6, 7, 8, 9, 10, 11, 12, 13, 14, 15], [13])])
def spec_l8DrawRight.B7 : List Nat := [0, 0, 0, 4, 12, 0, 32, 96, 252, 0, 1023, 2047, 4095, 4095, 0, 24575, 65535]
theorem spec_l8DrawRight.tab7 : rtab .any (opsOf Tryz.f211 7) = spec_l8DrawRight.T7 := by kernel_rfl
theorem spec_l8DrawRight.bits7 : waitsOk spec_l8DrawRight.T7.2 spec_l8DrawRight.B7 = true := by kernel_rfl
set_option maxHeartbeats 8000000 in
set_option maxRecDepth 100000 in
theorem spec_l8DrawRight.calls (k : Nat) (g : Nat) (s0_0 : List Int) (s0_1 : Int) (s0_2 : Int) (a1_0 : Int) (a1_1 : Int) (r1 : ByteArray) (r2 : Int) (r3 : ByteArray) (r4 : List Int) (r5 : Int) (r6 : Int) (w0 w : World) (hI : IsS188 w0 w g s0_0 s0_1 s0_2) (hB : Below w0.heap.size w0 w) (h : spec_l8DrawRight.f k s0_0 s0_1 s0_2 a1_0 a1_1 = some (r1, r2, r3, r4, r5, r6)) :
  Calls Tryz.prog 211 #[.pointer (some ⟨g, 0, none⟩), .agg #[.int .i64 a1_0, .int .i64 a1_1]] w fun e w' => ∃ v3_ : Value, e = .returned (.agg #[.string r1, .int .i64 r2, .string r3, v3_]) ∧ Kd.R (Kd.int .i64) 3 w' w.heap.size (fun _ => True) v3_ r4 ∧ IsS188 w0 w' g s0_0 r5 r6 ∧ Below w0.heap.size w0 w' ∧ KeepBut w w' g none := by
 have hu32 := Tryz.underlying32; have hu60 := Tryz.underlying60; have hu27 := Tryz.underlying27; have HI0 := Aside0.mk hI; have HK := Aside0.mk (KeepBut.refl w g none); have HL := Aside0.mk hB.size; clear hI; have HW0 := Aside0.mk hB.size; have HB := Aside0.mk hB; clear hB
 have H : ((spec_l5DrawRight.f k s0_0 s0_1 s0_2).bind fun bt558 => ((spec_l7DrawOf.f k s0_0 bt558.2.1 bt558.2.2 a1_0 a1_1 bt558.1).bind fun bt561 => (spec_l8DrawRight.l0 k (([] : List (S204))) 0 s0_0 bt561.2.2.2.1 bt561.2.2.2.2 a1_0 a1_1 bt561.1 bt561.2.1 bt561.2.2.1))) = some (r1, r2, r3, r4, r5, r6) := h
 clear h; obtain ⟨⟨t558, t559, t560⟩, A30, H⟩ := Option.bind_eq_some_iff.mp H
 try dsimp only at H
 have A3 := Aside0.mk A30; clear A30; obtain ⟨⟨t561, t562, t563, t566, t567⟩, A40, H⟩ := Option.bind_eq_some_iff.mp H
 try dsimp only at H
 have A4 := Aside0.mk A40; clear A40; obtain ⟨y569, hy569⟩ : ∃ y_ : List (S204), y_ = (([] : List (S204))) := ⟨_, rfl⟩
 replace H : (spec_l8DrawRight.l0 k y569 0 s0_0 t566 t567 a1_0 a1_1 t561 t562 t563) = some (r1, r2, r3, r4, r5, r6) := by first | (rw [hy569]; with_reducible exact H) | (have H2_ := (Option.bind_some _ _).symm.trans H; rw [hy569]; with_reducible exact H2_) | (have H2_ := (Option.bind_some _ _).symm.trans H; with_reducible exact H2_) | with_reducible exact H | (rw [hy569]; exact H) | exact H
 have Ny569 := Aside0.mk hy569; clear hy569; have H' := Aside0.mk H; clear H
 go_enter Tryz.func211, Tryz.ntmps211
 try go_wp2_with (first | ((with_reducible refine gd 3 ?_); refine bA 3 #[.int .i64 a1_0, .int .i64 a1_1] 32 ?_; intro gb556 hg w5 hbox hb; replace HB : Aside0 (Below w0.heap.size w0 _) := Aside0.mk (below_step y0_7 hb); have BK556 := Aside0.mk (hbox); have GW556 := bh hg HK; have GJ556 := gi GW556; have GE556 := Aside0.mk ((Nat.le_trans HW0.out (y0_15 : w.heap.size ≤ gb556) : w0.heap.size ≤ gb556)); have GI556 := gi GE556; replace HK := kb HK hb; have NB0_556 := Aside0.mk ((y0_2 : g ≠ gb556)); have NI0_556 := ni NB0_556; have NB556_0 := Aside0.mk ((y0_3 : gb556 ≠ g)); have NI556_0 := ni NB556_0; replace HI0 := Aside0.mk (IsS188.below y0_6 hb); clear hb hbox hg) | ((with_reducible refine gd 4 ?_); refine bA 4 #[.string (⟨#[]⟩ : ByteArray), .int .i64 0, .string (⟨#[]⟩ : ByteArray), .slice none 0 0] 60 ?_; intro gb557 hg w6 hbox hb; replace HB : Aside0 (Below w0.heap.size w0 _) := Aside0.mk (below_step y0_5 hb); have BK557 := Aside0.mk (hbox); have GW557 := bh hg HK; have GJ557 := gi GW557; have GE557 := Aside0.mk ((Nat.le_trans HW0.out (y0_15 : w.heap.size ≤ gb557) : w0.heap.size ≤ gb557)); have GI557 := gi GE557; replace HK := kb HK hb; have NB556_557 := b1 BK556 hg; have NI556_557 := ni NB556_557; have NB557_556 := b2 BK556 hg; have NI557_556 := ni NB557_556; replace BK556 := bk BK556 hb; have NB0_557 := Aside0.mk ((y0_0 : g ≠ gb557)); have NI0_557 := ni NB0_557; have NB557_0 := Aside0.mk ((y0_1 : gb557 ≠ g)); have NI557_0 := ni NB557_0; replace HI0 := Aside0.mk (IsS188.below y0_4 hb); clear hb hbox hg))
 replace BK556 := Aside0.mk (blk_drew BK556.out); replace BK557 := Aside0.mk (blk_drew BK557.out); replace HI0 := Aside0.mk (IsS188.drew HI0.out); replace HK := Aside0.mk (keep_drew HK.out); replace HB := Aside0.mk (below_drew1 HB.out)
 refine start_ (n := 7) (S := fun w' => w'.cell? ⟨gb556, 0, none⟩ = some (.int .i64 a1_0) ∧ w'.cell? ⟨gb556, 1, none⟩ = some (.int .i64 a1_1)) (ds := []) #[false, false, false, false, false, false, false] (by kernel_rfl) rfl rfl ⟨bc0 BK556.out, bc1 BK556.out⟩ (fun hHeld => ?_)
 generalize w6.drew = w7 at BK556 BK557 HI0 HK HB hHeld ⊢
 refine pure_ (i := 0) (N := some 10) (v := ?_) (a' := ?_) #[true, false, false, false, false, false, false] rfl rfl (by kernel_rfl) (fun _ _ _ h => h) (Or.inl ⟨by rfl, ?_⟩) ?_ ?_
 rotate_left
 ·
  intro w'
  go_simp
  with_reducible rfl
 rotate_left
 ·
  simp only [Act.put, List.setIfInBounds_toArray, List.set_cons_zero, List.set_cons_succ, i64_w, i32_w]
  rfl
 refine pure_ (i := 2) (N := some 12) (v := ?_) (a' := ?_) #[true, false, true, false, false, false, false] rfl rfl (by kernel_rfl) (fun _ _ _ h => h) (Or.inl ⟨by rfl, ?_⟩) ?_ ?_
 rotate_left
 ·
  intro w'
  go_simp
  with_reducible rfl
 rotate_left
 ·
  simp only [Act.put, List.setIfInBounds_toArray, List.set_cons_zero, List.set_cons_succ, i64_w, i32_w]
  rfl
 refine take_ (i := 1) (N := some 11) (v := ?_) (a' := ?_) #[true, true, true, false, false, false, false] rfl rfl (by kernel_rfl) (fun _ _ _ h => h) (Or.inl ⟨by rfl, ?_⟩) hHeld ?_ ?_
 rotate_left
 ·
  rintro w' ⟨s0, s1⟩
  go_simp
  with_reducible rfl
 rotate_left
 ·
  simp only [Act.put, List.setIfInBounds_toArray, List.set_cons_zero, List.set_cons_succ, i64_w, i32_w]
  rfl
 refine join_ (σ := Value × Nat) 1 #[true, true, true, true, true, true, false] (fun s_ => [(13, .string t558), (14, .agg #[.int .i64 t561, .string t562, s_.1]), (5, .pointer (some ⟨s_.2, 0, none⟩))]) (fun s_ w' => (w'.cell? ⟨gb556, 0, none⟩ = some (.int .i64 a1_0) ∧ w'.cell? ⟨gb556, 1, none⟩ = some (.int .i64 a1_1)) ∧ (Kd.R (Kd.int .i64) 3 w' w.heap.size (fun _ => True) s_.1 t563) ∧ (w'.heap[gb556]? = some (.cells #[.int .i64 a1_0, .int .i64 a1_1] 32 (0, 0))) ∧ (w'.heap[gb557]? = some (.cells #[.string (⟨#[]⟩ : ByteArray), .int .i64 0, .string (⟨#[]⟩ : ByteArray), .slice none 0 0] 60 (0, 0))) ∧ (w'.heap[s_.2]? = some (.cells #[.int .i64 0, .string (⟨#[]⟩ : ByteArray), .slice none 0 0] 27 (0, 0))) ∧ (w.heap.size ≤ s_.2) ∧ (w0.heap.size ≤ s_.2) ∧ (g ≠ s_.2) ∧ (s_.2 ≠ g) ∧ (gb556 ≠ s_.2) ∧ (s_.2 ≠ gb556) ∧ (gb557 ≠ s_.2) ∧ (s_.2 ≠ gb557) ∧ (IsS188 w0 w' g s0_0 t566 t567) ∧ (KeepBut w w' g none) ∧ (Below w0.heap.size w0 w')) ?_ ?_
 rotate_left
 ·
  intro hCont
  refine two_ (i := 3) (j := 5) (Ni := some 13) (Nj := some 5) #[true, true, true, true, false, false, false] #[true, true, true, false, false, true, false] rfl rfl rfl rfl (by kernel_rfl) (by decide) (by decide) (fun K hK => ?_) (fun K hK => ?_)
  ·
   skip
   refine gA Tryz.func152 #[.pointer (some ⟨g, 0, none⟩)] ?_
   with_reducible refine (spec_l5DrawRight.calls k g s0_0 s0_1 s0_2 t558 t559 t560 w0 _ ?side1 ?side2 A3.out).mono ?_
   (case side1 => repeat (first | (with_reducible first | exact HI0.out | apply IsS188.alloc | apply IsS188.drewN | apply IsS188.drew | apply IsS188.set_1 | apply IsS188.set_2 | refine IsS188.far ?_ NeI.out _) | exact HI0.out))
   (case side2 => repeat (first | (with_reducible first | exact HB.out | apply below_alloc | apply pw_below_drewN | apply below_drew1 | refine below_set ?_ (IsS188.ge HI0.out) | refine below_set ?_ GeI.out) | exact HB.out))
   rintro e w8 ⟨rfl, hi, hb, hk⟩
   refine ⟨_, rfl, ?_⟩
   replace BK556 := bq BK556 hk NB556_0; replace BK557 := bq BK557 hk NB557_0; replace HK := kt HK hk; replace HB := Aside0.mk (hb); replace HI0 := Aside0.mk (hi)
   (try clear hb)
   (try clear hb2)
   (try clear hk)
   (try clear hi)
   refine hK.out _ _ ⟨bc0 BK556.out, bc1 BK556.out⟩ (fun hHeld => ?_)
   clear hK K
   refine nA (some 13) ?_
   refine two_ (i := 4) (j := 5) (Ni := some 14) (Nj := some 5) #[true, true, true, true, true, false, false] #[true, true, true, true, false, true, false] rfl rfl rfl rfl (by kernel_rfl) (by decide) (by decide) (fun K hK => ?_) (fun K hK => ?_)
   ·
    skip
    refine gA Tryz.func189 #[.pointer (some ⟨g, 0, none⟩), .agg #[.int .i64 a1_0, .int .i64 a1_1], .string t558] ?_
    with_reducible refine (spec_l7DrawOf.calls k g s0_0 t559 t560 a1_0 a1_1 t558 t561 t562 t563 t566 t567 w0 _ ?side1 ?side2 A4.out).mono ?_
    (case side1 => repeat (first | (with_reducible first | exact HI0.out | apply IsS188.alloc | apply IsS188.drewN | apply IsS188.drew | apply IsS188.set_1 | apply IsS188.set_2 | refine IsS188.far ?_ NeI.out _) | exact HI0.out))
    (case side2 => repeat (first | (with_reducible first | exact HB.out | apply below_alloc | apply pw_below_drewN | apply below_drew1 | refine below_set ?_ (IsS188.ge HI0.out) | refine below_set ?_ GeI.out) | exact HB.out))
    rintro e w9 ⟨v564, rfl, ho0, hi, hb, hk⟩
    refine ⟨_, rfl, ?_⟩
    replace BK556 := bq BK556 hk NB556_0; replace BK557 := bq BK557 hk NB557_0; have HO565 := Aside0.mk (Kd.R_lower ho0 (keep_size (w := w) (g := g) (row := none) (hI HK.out))); replace HK := kt HK hk; replace HB := Aside0.mk (hb); replace HI0 := Aside0.mk (hi)
    (try clear hb)
    (try clear hb2)
    (try clear hk)
    (try clear hi)
    (try clear ho0)
    refine hK.out _ _ ⟨bc0 BK556.out, bc1 BK556.out⟩ (fun hHeld => ?_)
    clear hK K
    refine nA (some 14) ?_
    refine one_ (i := 5) (N := some 5) #[true, true, true, true, true, true, false] rfl rfl (by kernel_rfl) (by decide) (fun K hK => ?_)
    refine box_step ?hg (N := 5) ?hd (cs := #[.int .i64 0, .string (⟨#[]⟩ : ByteArray), .slice none 0 0]) (t := 27) ?hr ?_; (case hd => rfl); (case hg => rfl); (case hr => first | (go_simp; done) | (go_simp; rfl))
    intro gb568 hg w10 hbox hb
    replace HO565 := rb HO565 hb; replace HB : Aside0 (Below w0.heap.size w0 _) := Aside0.mk (below_step y0_5 hb); have BK568 := Aside0.mk (hbox); have GW568 := bh hg HK; have GJ568 := gi GW568; have GE568 := Aside0.mk ((Nat.le_trans HW0.out (y0_15 : w.heap.size ≤ gb568) : w0.heap.size ≤ gb568)); have GI568 := gi GE568; replace HK := kb HK hb; have NB556_568 := b1 BK556 hg; have NI556_568 := ni NB556_568; have NB568_556 := b2 BK556 hg; have NI568_556 := ni NB568_556; replace BK556 := bk BK556 hb; have NB557_568 := b1 BK557 hg; have NI557_568 := ni NB557_568; have NB568_557 := b2 BK557 hg; have NI568_557 := ni NB568_557; replace BK557 := bk BK557 hb
    have NB0_568 := Aside0.mk ((by rw [hg]; exact Nat.ne_of_lt (IsS188.lt (show IsS188 w0 _ g s0_0 t566 t567 from y0_4)) : g ≠ gb568))
    have NI0_568 := ni NB0_568
    have NB568_0 := Aside0.mk ((by rw [hg]; exact Nat.ne_of_gt (IsS188.lt (show IsS188 w0 _ g s0_0 t566 t567 from y0_4)) : gb568 ≠ g))
    have NI568_0 := ni NB568_0; replace HI0 := Aside0.mk (IsS188.below y0_4 hb); clear hb hbox hg
    refine hK.out _ _ ⟨bc0 BK556.out, bc1 BK556.out⟩ (fun hHeld => ?_)
    clear hK K
    refine nA (some 5) ?_
    exact norm_ y0_13 (hCont (v564, gb568) _ ⟨hHeld, (rI HO565.out), (kI BK556.out), (kI BK557.out), (kI BK568.out), GW568.out, GE568.out, NB0_568.out, NB568_0.out, NB556_568.out, NB568_556.out, NB557_568.out, NB568_557.out, y0_4, (hI HK.out), y0_5⟩)
   skip
   refine box_step ?hg (N := 5) ?hd (cs := #[.int .i64 0, .string (⟨#[]⟩ : ByteArray), .slice none 0 0]) (t := 27) ?hr ?_; (case hd => rfl); (case hg => rfl); (case hr => first | (go_simp; done) | (go_simp; rfl))
   intro gb568 hg w9 hbox hb
   replace HB : Aside0 (Below w0.heap.size w0 _) := Aside0.mk (below_step y0_5 hb); have BK568 := Aside0.mk (hbox); have GW568 := bh hg HK; have GJ568 := gi GW568; have GE568 := Aside0.mk ((Nat.le_trans HW0.out (y0_15 : w.heap.size ≤ gb568) : w0.heap.size ≤ gb568)); have GI568 := gi GE568; replace HK := kb HK hb; have NB556_568 := b1 BK556 hg; have NI556_568 := ni NB556_568; have NB568_556 := b2 BK556 hg; have NI568_556 := ni NB568_556; replace BK556 := bk BK556 hb; have NB557_568 := b1 BK557 hg; have NI557_568 := ni NB557_568; have NB568_557 := b2 BK557 hg; have NI568_557 := ni NB568_557; replace BK557 := bk BK557 hb
   have NB0_568 := Aside0.mk ((by rw [hg]; exact Nat.ne_of_lt (IsS188.lt (show IsS188 w0 _ g s0_0 t559 t560 from y0_4)) : g ≠ gb568))
   have NI0_568 := ni NB0_568
   have NB568_0 := Aside0.mk ((by rw [hg]; exact Nat.ne_of_gt (IsS188.lt (show IsS188 w0 _ g s0_0 t559 t560 from y0_4)) : gb568 ≠ g))
   have NI568_0 := ni NB568_0; replace HI0 := Aside0.mk (IsS188.below y0_4 hb); clear hb hbox hg
   refine hK.out _ _ ⟨bc0 BK556.out, bc1 BK556.out⟩ (fun hHeld => ?_)
   clear hK K
   refine nA (some 5) ?_
   refine one_ (i := 4) (N := some 14) #[true, true, true, true, true, true, false] rfl rfl (by kernel_rfl) (by decide) (fun K hK => ?_)
   refine gA Tryz.func189 #[.pointer (some ⟨g, 0, none⟩), .agg #[.int .i64 a1_0, .int .i64 a1_1], .string t558] ?_
   with_reducible refine (spec_l7DrawOf.calls k g s0_0 t559 t560 a1_0 a1_1 t558 t561 t562 t563 t566 t567 w0 _ ?side1 ?side2 A4.out).mono ?_
   (case side1 => repeat (first | (with_reducible first | exact HI0.out | apply IsS188.alloc | apply IsS188.drewN | apply IsS188.drew | apply IsS188.set_1 | apply IsS188.set_2 | refine IsS188.far ?_ NeI.out _) | exact HI0.out))
   (case side2 => repeat (first | (with_reducible first | exact HB.out | apply below_alloc | apply pw_below_drewN | apply below_drew1 | refine below_set ?_ (IsS188.ge HI0.out) | refine below_set ?_ GeI.out) | exact HB.out))
   rintro e w10 ⟨v564, rfl, ho0, hi, hb, hk⟩
   refine ⟨_, rfl, ?_⟩
   replace BK556 := bq BK556 hk NB556_0; replace BK557 := bq BK557 hk NB557_0; replace BK568 := bq BK568 hk NB568_0; have HO565 := Aside0.mk (Kd.R_lower ho0 (keep_size (w := w) (g := g) (row := none) (hI HK.out))); replace HK := kt HK hk; replace HB := Aside0.mk (hb); replace HI0 := Aside0.mk (hi)
   (try clear hb)
   (try clear hb2)
   (try clear hk)
   (try clear hi)
   (try clear ho0)
   refine hK.out _ _ ⟨bc0 BK556.out, bc1 BK556.out⟩ (fun hHeld => ?_)
   clear hK K
   refine nA (some 14) ?_
   exact norm_ y0_13 (hCont (v564, gb568) _ ⟨hHeld, (rI HO565.out), (kI BK556.out), (kI BK557.out), (kI BK568.out), GW568.out, GE568.out, NB0_568.out, NB568_0.out, NB556_568.out, NB568_556.out, NB557_568.out, NB568_557.out, y0_4, (hI HK.out), y0_5⟩)
  skip
  refine box_step ?hg (N := 5) ?hd (cs := #[.int .i64 0, .string (⟨#[]⟩ : ByteArray), .slice none 0 0]) (t := 27) ?hr ?_; (case hd => rfl); (case hg => rfl); (case hr => first | (go_simp; done) | (go_simp; rfl))
  intro gb568 hg w8 hbox hb
  replace HB : Aside0 (Below w0.heap.size w0 _) := Aside0.mk (below_step y0_5 hb); have BK568 := Aside0.mk (hbox); have GW568 := bh hg HK; have GJ568 := gi GW568; have GE568 := Aside0.mk ((Nat.le_trans HW0.out (y0_15 : w.heap.size ≤ gb568) : w0.heap.size ≤ gb568)); have GI568 := gi GE568; replace HK := kb HK hb; have NB556_568 := b1 BK556 hg; have NI556_568 := ni NB556_568; have NB568_556 := b2 BK556 hg; have NI568_556 := ni NB568_556; replace BK556 := bk BK556 hb; have NB557_568 := b1 BK557 hg; have NI557_568 := ni NB557_568; have NB568_557 := b2 BK557 hg; have NI568_557 := ni NB568_557; replace BK557 := bk BK557 hb; have NB0_568 := Aside0.mk ((y0_0 : g ≠ gb568)); have NI0_568 := ni NB0_568; have NB568_0 := Aside0.mk ((y0_1 : gb568 ≠ g)); have NI568_0 := ni NB568_0; replace HI0 := Aside0.mk (IsS188.below y0_4 hb); clear hb hbox hg
  refine hK.out _ _ ⟨bc0 BK556.out, bc1 BK556.out⟩ (fun hHeld => ?_)
  clear hK K
  refine nA (some 5) ?_
  refine one_ (i := 3) (N := some 13) #[true, true, true, true, false, true, false] rfl rfl (by kernel_rfl) (by decide) (fun K hK => ?_)
  refine gA Tryz.func152 #[.pointer (some ⟨g, 0, none⟩)] ?_
  with_reducible refine (spec_l5DrawRight.calls k g s0_0 s0_1 s0_2 t558 t559 t560 w0 _ ?side1 ?side2 A3.out).mono ?_
  (case side1 => repeat (first | (with_reducible first | exact HI0.out | apply IsS188.alloc | apply IsS188.drewN | apply IsS188.drew | apply IsS188.set_1 | apply IsS188.set_2 | refine IsS188.far ?_ NeI.out _) | exact HI0.out))
  (case side2 => repeat (first | (with_reducible first | exact HB.out | apply below_alloc | apply pw_below_drewN | apply below_drew1 | refine below_set ?_ (IsS188.ge HI0.out) | refine below_set ?_ GeI.out) | exact HB.out))
  rintro e w9 ⟨rfl, hi, hb, hk⟩
  refine ⟨_, rfl, ?_⟩
  replace BK556 := bq BK556 hk NB556_0; replace BK557 := bq BK557 hk NB557_0; replace BK568 := bq BK568 hk NB568_0; replace HK := kt HK hk; replace HB := Aside0.mk (hb); replace HI0 := Aside0.mk (hi)
  (try clear hb)
  (try clear hb2)
  (try clear hk)
  (try clear hi)
  refine hK.out _ _ ⟨bc0 BK556.out, bc1 BK556.out⟩ (fun hHeld => ?_)
  clear hK K
  refine nA (some 13) ?_
  refine one_ (i := 4) (N := some 14) #[true, true, true, true, true, true, false] rfl rfl (by kernel_rfl) (by decide) (fun K hK => ?_)
  refine gA Tryz.func189 #[.pointer (some ⟨g, 0, none⟩), .agg #[.int .i64 a1_0, .int .i64 a1_1], .string t558] ?_
  with_reducible refine (spec_l7DrawOf.calls k g s0_0 t559 t560 a1_0 a1_1 t558 t561 t562 t563 t566 t567 w0 _ ?side1 ?side2 A4.out).mono ?_
  (case side1 => repeat (first | (with_reducible first | exact HI0.out | apply IsS188.alloc | apply IsS188.drewN | apply IsS188.drew | apply IsS188.set_1 | apply IsS188.set_2 | refine IsS188.far ?_ NeI.out _) | exact HI0.out))
  (case side2 => repeat (first | (with_reducible first | exact HB.out | apply below_alloc | apply pw_below_drewN | apply below_drew1 | refine below_set ?_ (IsS188.ge HI0.out) | refine below_set ?_ GeI.out) | exact HB.out))
  rintro e w10 ⟨v564, rfl, ho0, hi, hb, hk⟩
  refine ⟨_, rfl, ?_⟩
  replace BK556 := bq BK556 hk NB556_0; replace BK557 := bq BK557 hk NB557_0; replace BK568 := bq BK568 hk NB568_0; have HO565 := Aside0.mk (Kd.R_lower ho0 (keep_size (w := w) (g := g) (row := none) (hI HK.out))); replace HK := kt HK hk; replace HB := Aside0.mk (hb); replace HI0 := Aside0.mk (hi)
  (try clear hb)
  (try clear hb2)
  (try clear hk)
  (try clear hi)
  (try clear ho0)
  refine hK.out _ _ ⟨bc0 BK556.out, bc1 BK556.out⟩ (fun hHeld => ?_)
  clear hK K
  refine nA (some 14) ?_
  exact norm_ y0_13 (hCont (v564, gb568) _ ⟨hHeld, (rI HO565.out), (kI BK556.out), (kI BK557.out), (kI BK568.out), GW568.out, GE568.out, NB0_568.out, NB568_0.out, NB556_568.out, NB568_556.out, NB557_568.out, NB568_557.out, y0_4, (hI HK.out), y0_5⟩)
 rintro ⟨v564, gb568⟩ w11 ⟨hS_, h0_, h1_, h2_, h3_, h4_, h5_, h6_, h7_, h8_, h9_, h10_, h11_, h12_, h13_, h14_⟩
 try dsimp only at h0_ h1_ h2_ h3_ h4_ h5_ h6_ h7_ h8_ h9_ h10_ h11_ h12_ h13_ h14_
 have n0_ := Aside0.mk h0_; have n1_ := Aside0.mk h1_; have n2_ := Aside0.mk h2_; have n3_ := Aside0.mk h3_; have n4_ := Aside0.mk h4_; have n5_ := Aside0.mk h5_; have n6_ := Aside0.mk h6_; have n7_ := Aside0.mk h7_; have n8_ := Aside0.mk h8_; have n9_ := Aside0.mk h9_; have n10_ := Aside0.mk h10_; have n11_ := Aside0.mk h11_; have n12_ := Aside0.mk h12_; have n13_ := Aside0.mk h13_; have n14_ := Aside0.mk h14_; clear BK556; clear BK557; clear HI0; clear HK; clear HB; clear h0_ h1_ h2_ h3_ h4_ h5_ h6_ h7_ h8_ h9_ h10_ h11_ h12_ h13_ h14_; have HO565 := n0_; have BK556 := n1_; have BK557 := n2_; have BK568 := n3_; have GW568 := n4_; have GJ568 := gi GW568; have GE568 := n5_; have GI568 := gi GE568; have NB0_568 := n6_; have NI0_568 := ni NB0_568; have NB568_0 := n7_; have NI568_0 := ni NB568_0; have NB556_568 := n8_; have NI556_568 := ni NB556_568; have NB568_556 := n9_; have NI568_556 := ni NB568_556; have NB557_568 := n10_; have NI557_568 := ni NB557_568; have NB568_557 := n11_; have NI568_557 := ni NB568_557; have HI0 := n12_; have HK := n13_; have HB := n14_; clear n0_ n1_ n2_ n3_ n4_ n5_ n6_ n7_ n8_ n9_ n10_ n11_ n12_ n13_ n14_; have hHeld : w11.cell? ⟨gb556, 0, none⟩ = some (.int .i64 a1_0) ∧ w11.cell? ⟨gb556, 1, none⟩ = some (.int .i64 a1_1) := hS_; obtain ⟨Ao14, co14, eo14⟩ := Kd.R_slice HO565.out
 (first | subst eo14 | (injection eo14 with f1_ f2_ f3_; have f4_ := f1_.symm; have f5_ := f3_.symm; clear f1_ f2_ f3_; subst f4_; subst f5_))
 refine norm_ (a' := ?_) ?_ ?_
 rotate_left
 ·
  simp only [putAll, Act.put, List.setIfInBounds_toArray, List.set_cons_zero, List.set_cons_succ]
  rfl
 refine one_ (i := 6) (N := none) #[true, true, true, true, true, true, true] rfl rfl (by kernel_rfl) (by decide) (fun K hK => ?_)
 have hs12 : w11.cell? ⟨gb568, 0, none⟩ = some (.int .i64 0) := bc0 BK568.out; have hfs12 := blk_frozen BK568.out 0; have hns12_0 := NB556_568.out; have hns12_1 := NB557_568.out; have hms12_0 := NB568_556.out; have hms12_1 := NB568_557.out; have hs13 : w11.cell? ⟨gb568, 1, none⟩ = some (.string (⟨#[]⟩ : ByteArray)) := bc1 BK568.out; have hfs13 := blk_frozen BK568.out 1; have hns13_0 := NB556_568.out; have hns13_1 := NB557_568.out; have hms13_0 := NB568_556.out; have hms13_1 := NB568_557.out; have hs15 : w11.cell? ⟨gb568, 2, none⟩ = some (.slice none 0 0) := bc2 BK568.out; have hfs15 := blk_frozen BK568.out 2; have hns15_0 := NB556_568.out; have hns15_1 := NB557_568.out; have hms15_0 := NB568_556.out; have hms15_1 := NB568_557.out
 refine skip_ (w1 := ?_) (by rfl) rfl ?_ ?_
 rotate_left
 ·
  go_simp
  rfl
 refine hK.out _ _ ⟨((cell_far (p := ⟨gb568, _, none⟩) NB556_568.out _).trans (((cell_far (p := ⟨gb568, _, none⟩) NB556_568.out _).trans (((cell_far (p := ⟨gb568, _, none⟩) NB556_568.out _).trans (hHeld.1)))))), ((cell_far (p := ⟨gb568, _, none⟩) NB556_568.out _).trans (((cell_far (p := ⟨gb568, _, none⟩) NB556_568.out _).trans (((cell_far (p := ⟨gb568, _, none⟩) NB556_568.out _).trans (hHeld.2))))))⟩ (fun hHeld => ?_)
 clear hK K
 refine done_ (by kernel_rfl) ?_
 try go_wp2_with (first | ((with_reducible refine gate_dst (N := 15) rfl ?_); refine Kd.R_lit k204 _ 204 ?hg (N := 15) ?hd (xs := ([] : List (S204))) (inner := []) (ok := fun _ => True) (okp := fun _ => True) ?hr ?hp (fun _ hk => hk) trivial (Below.refl _ _) (Nat.le_refl _) (by simp) ?_; (case hd => rfl); (case hg => rfl); (case hr => first | (go_simp; done) | (go_simp; rfl)); (case hp => exact (Reps.none _ _)); intro v570 w16 ho17 hb hg_ hnew_; clear hg_ hnew_; (first | rw [← Ny569.out] at ho17 | (simp only [Int.reduceToNat] at ho17; rw [← Ny569.out] at ho17)); replace HO565 := Aside0.mk (Kd.R_below (rI (Kd.R_mono (Kd.R_far (p := ⟨gb568, 2, none⟩) (Kd.R_far (p := ⟨gb568, 1, none⟩) (Kd.R_far (p := ⟨gb568, 0, none⟩) (Kd.R_types HO565.out BK568.out (by decide)) (fun _ hk => hk.2) (.int .i64 t561)) (fun _ hk => hk.2) (.string t562)) (fun _ hk => hk.2) (.slice Ao14 t563.length co14)) (fun _ h_ => h_.1))) hb); have HO571 := Aside0.mk (Kd.R_lower ho17 (keep_size (w := w) (g := g) (row := none) (hI HK.out))); replace BK556 := Aside0.mk (blk_below (g := gb556) (o := .cells #[.int .i64 a1_0, .int .i64 a1_1] 32 (0, 0)) (gI BK556.out) hb); replace BK557 := Aside0.mk (blk_below (g := gb557) (o := .cells #[.string (⟨#[]⟩ : ByteArray), .int .i64 0, .string (⟨#[]⟩ : ByteArray), .slice none 0 0] 60 (0, 0)) (gI BK557.out) hb); replace BK568 := bp BK568 hb #[.int .i64 t561, .string t562, .slice Ao14 t563.length co14]; replace HK := kb HK hb; replace HB : Aside0 (Below w0.heap.size w0 _) := Aside0.mk (below_step y0_5 hb); replace HI0 := Aside0.mk (IsS188.below (show IsS188 w0 (((w11.setCell ⟨gb568, 0, none⟩ (.int .i64 t561)).setCell ⟨gb568, 1, none⟩ (.string t562)).setCell ⟨gb568, 2, none⟩ (.slice Ao14 t563.length co14)) g s0_0 t566 t567 from y0_4) hb); clear hb ho17))
 go_loopg [6, 7] k (fun kq v6 v7 w' => ∃ (x6_1 : List (S204)) (x7_1 : Int) (x1001_1 : Int) (x1002_1 : Int), v7 = .int .i64 x7_1 ∧ Aside0 (spec_l8DrawRight.l0 kq x6_1 x7_1 s0_0 x1001_1 x1002_1 a1_0 a1_1 t561 t562 t563 = some (r1, r2, r3, r4, r5, r6)) ∧ Aside0 (kq ≤ k) ∧ Aside0 (Kd.R k204 204 w' w.heap.size (fun _ => True) v6 x6_1) ∧ Aside0 (Kd.R (Kd.int .i64) 3 w' w.heap.size (fun _ => True) (.slice Ao14 t563.length co14) t563) ∧ Aside0 (w'.heap[gb556]? = some (.cells #[.int .i64 a1_0, .int .i64 a1_1] 32 (0, 0))) ∧ Aside0 (w'.heap[gb557]? = some (.cells #[.string (⟨#[]⟩ : ByteArray), .int .i64 0, .string (⟨#[]⟩ : ByteArray), (.slice none 0 0)] 60 (0, 0))) ∧ Aside0 (w'.heap[gb568]? = some (.cells #[.int .i64 t561, .string t562, (.slice Ao14 t563.length co14)] 27 (0, 0))) ∧ Aside0 (IsS188 w0 w' g s0_0 x1001_1 x1002_1) ∧ Aside0 (KeepBut w w' g none) ∧ Aside0 (Below w0.heap.size w0 w'))
 case atStart => exact ⟨(y569), (0), (t566), (t567), y0_18, H', ⟨Nat.le_refl _⟩, ⟨by (with_reducible repeat (first | apply Kd.R_alloc | apply Kd.R_drewN | apply Kd.R_drew)); exact HO571.out⟩, ⟨by (with_reducible repeat (first | apply Kd.R_alloc | apply Kd.R_drewN | apply Kd.R_drew)); exact HO565.out⟩, ⟨gI BK556.out⟩, ⟨gI BK557.out⟩, ⟨gI BK568.out⟩, ⟨y0_4⟩, ⟨hI HK.out⟩, ⟨y0_5⟩⟩
 case round =>
  clear H'
  try clear c1
  try clear c2
  try clear p2
  try clear c15
  obtain ⟨x6_1, x7_1, x1001_1, x1002_1, rfl, HA, HK1, HO_6, HO_569002, BK556, BK557, BK568, HI0, HK, HB⟩ := hrel; cases gk with
  | zero => exact absurd HA.out (by simp [spec_l8DrawRight.l0])
  | succ k1 =>
   have H := HA.out; clear HA
   simp only [spec_l8DrawRight.l0] at H
   obtain ⟨⟨t572, t573, t574⟩, A180, H⟩ := Option.bind_eq_some_iff.mp H
   try dsimp only at H
   have A18 := Aside0.mk A180; clear A180
   by_cases c19 : x7_1 < t572
   ·
    rw [if_pos c19] at H
    have c19b0 : decide (x7_1 < t572) = true := decide_eq_true c19; clear c19; obtain ⟨⟨t575, t576, t577, t578, t579, t580⟩, A200, H⟩ := Option.bind_eq_some_iff.mp H
    try dsimp only at H
    have A20 := Aside0.mk A200; clear A200
    by_cases c21 : x6_1.length < 4398046511104
    rotate_left
    ·
     rw [if_neg c21] at H
     exact absurd H (by simp)
    rw [if_pos c21] at H
    have LMc21 := Aside0.mk c21; clear c21; obtain ⟨y581, hy581⟩ : ∃ y_ : List (S204), y_ = (x6_1 ++ [(⟨t575, t576, t577, t578⟩ : S204)]) := ⟨_, rfl⟩
    replace H : (spec_l8DrawRight.l0 k1 y581 (wrap64 (x7_1 + 1)) s0_0 t579 t580 a1_0 a1_1 t561 t562 t563) = some (r1, r2, r3, r4, r5, r6) := by first | (rw [hy581]; with_reducible exact H) | (have H2_ := (Option.bind_some _ _).symm.trans H; rw [hy581]; with_reducible exact H2_) | (have H2_ := (Option.bind_some _ _).symm.trans H; with_reducible exact H2_) | with_reducible exact H | (rw [hy581]; exact H) | exact H
    have Ny581 := Aside0.mk hy581; clear hy581; have H' := Aside0.mk H; clear H
    go_wp2_with (first | ((with_reducible refine gate_callee (f := 150) rfl ?_); refine gB (some 18) Tryz.func150 #[.pointer (some ⟨g, 0, none⟩), .int .i64 3] ?_; (with_reducible refine (spec_l1Below.calls g s0_0 x1001_1 x1002_1 3 t572 t573 t574 w0 _ ?side1 ?side2 A18.out).mono ?_); (case side1 => repeat (first | (with_reducible first | exact HI0.out | apply IsS188.alloc | apply IsS188.drewN | apply IsS188.drew | apply IsS188.set_1 | apply IsS188.set_2 | refine IsS188.far ?_ NeI.out _) | exact HI0.out)); (case side2 => repeat (first | (with_reducible first | exact HB.out | apply below_alloc | apply pw_below_drewN | apply below_drew1 | refine below_set ?_ (IsS188.ge HI0.out) | refine below_set ?_ GeI.out) | exact HB.out)); rintro e w22 ⟨rfl, hi, hb, hk⟩; refine ⟨_, rfl, ?_⟩; replace HO_6 := Aside0.mk (Kd.R_mono (Kd.R_keep (IsS188.apart (show IsS188 w0 _ g s0_0 x1001_1 x1002_1 from y0_4) (rI HO_6.out) (by decide)) hk (fun _ h => h.2)) (fun _ h => h.1)); replace HO_569002 := Aside0.mk (Kd.R_mono (Kd.R_keep (IsS188.apart (show IsS188 w0 _ g s0_0 x1001_1 x1002_1 from y0_4) (rI HO_569002.out) (by decide)) hk (fun _ h => h.2)) (fun _ h => h.1)); replace BK556 := bq BK556 hk NB556_0; replace BK557 := bq BK557 hk NB557_0; replace BK568 := bq BK568 hk NB568_0; replace HK := kt HK hk; replace HB := Aside0.mk (hb); replace HI0 := Aside0.mk (hi); (try clear hb); (try clear hb2); (try clear hk); (try clear hi)) | ((with_reducible refine gate_callee (f := 209) rfl ?_); refine gB (some 24) Tryz.func209 #[.pointer (some ⟨g, 0, none⟩)] ?_; (with_reducible refine (spec_l2DrawRight.calls g s0_0 t573 t574 t575 t576 t577 t578 t579 t580 w0 _ ?side1 ?side2 A20.out).mono ?_); (case side1 => repeat (first | (with_reducible first | exact HI0.out | apply IsS188.alloc | apply IsS188.drewN | apply IsS188.drew | apply IsS188.set_1 | apply IsS188.set_2 | refine IsS188.far ?_ NeI.out _) | exact HI0.out)); (case side2 => repeat (first | (with_reducible first | exact HB.out | apply below_alloc | apply pw_below_drewN | apply below_drew1 | refine below_set ?_ (IsS188.ge HI0.out) | refine below_set ?_ GeI.out) | exact HB.out)); rintro e w23 ⟨rfl, hi, hb, hk⟩; refine ⟨_, rfl, ?_⟩; replace HO_6 := Aside0.mk (Kd.R_mono (Kd.R_keep (IsS188.apart (show IsS188 w0 _ g s0_0 t573 t574 from y0_4) (rI HO_6.out) (by decide)) hk (fun _ h => h.2)) (fun _ h => h.1)); replace HO_569002 := Aside0.mk (Kd.R_mono (Kd.R_keep (IsS188.apart (show IsS188 w0 _ g s0_0 t573 t574 from y0_4) (rI HO_569002.out) (by decide)) hk (fun _ h => h.2)) (fun _ h => h.1)); replace BK556 := bq BK556 hk NB556_0; replace BK557 := bq BK557 hk NB557_0; replace BK568 := bq BK568 hk NB568_0; replace HK := kt HK hk; replace HB := Aside0.mk (hb); replace HI0 := Aside0.mk (hi); (try clear hb); (try clear hb2); (try clear hk); (try clear hi)) | ((with_reducible refine gate_builtin (b := .append) (xs := #[.tmp 22, .tmp 25]) rfl ?_); at_builtin; refine Kd.R_append k204 w.heap.size rfl (.tmp 22) (.tmp 25) 101 204 (.agg #[(.int .i64 0), (.int .i64 0), (.int .i64 0), (.int .i64 0)]) 32 rfl Tryz.underlying101 info204 rfl (by decide) (by omega) u6 x6_1 (⟨t575, t576, t577, t578⟩ : S204) [.int .i64 t575, .int .i64 t576, .int .i64 t577, .int .i64 t578] (fun _ => True) (fun _ => False) rfl rfl ?aP (fun _ hk => hk.elim) ?aF ?aO (Below.refl _ _) ?aS ?aL ?_; (case aP => exact k204_mkM _ _ _ (⟨t575, t576, t577, t578⟩ : S204)); (case aF => exact (fun _ _ => trivial)); (case aO => exact (rI HO_6.out)); (case aS => exact (keep_size (w := w) (g := g) (row := none) (hI HK.out))); (case aL => have := LMc21.out; omega); intro v582 w24 ho hb hg hat; rw [← Ny581.out] at ho; have n0_ := Aside0.mk (Kd.R_over' (rI HO_569002.out) (Kd.R_typed (rI HO_6.out)) (by decide) hg); have n1_ := bn BK556 hg (Kd.R_ne HO_6.out BK556.out (by decide)); have n2_ := bn BK557 hg (Kd.R_ne HO_6.out BK557.out (by decide)); have n3_ := bn BK568 hg (Kd.R_ne HO_6.out BK568.out (by decide)); have n4_ := Aside0.mk (IsS188.grown y0_4 hg (IsS188.own_ne HI0.out HO_6.out (by decide))); have n5_ := Aside0.mk (below_weaken y0_5 HL.out hb); have n6_ := Aside0.mk (KeepBut.trans (hI HK.out) (KeepBut.of_grown hg g) (Kd.R_base2 HO_6.out)); have n7_ := Aside0.mk (ho); clear HO_569002; clear BK556; clear BK557; clear BK568; clear HI0; clear HB; clear HK; clear HO_6; have HO_569002 := n0_; have BK556 := n1_; have BK557 := n2_; have BK568 := n3_; have HI0 := n4_; have HB := n5_; have HK := n6_; have HO583 := n7_; clear n0_ n1_ n2_ n3_ n4_ n5_ n6_ n7_; clear ho hb hg hat))
    go_roundg k1
    case measure => have := HK1.out; omega
    case rel => exact ⟨(y581), (wrap64 (x7_1 + 1)), (t579), (t580), y0_18, H', ⟨y0_21⟩, ⟨by (with_reducible repeat (first | apply Kd.R_alloc | apply Kd.R_drewN | apply Kd.R_drew)); exact HO583.out⟩, ⟨by (with_reducible repeat (first | apply Kd.R_alloc | apply Kd.R_drewN | apply Kd.R_drew)); exact HO_569002.out⟩, ⟨gI BK556.out⟩, ⟨gI BK557.out⟩, ⟨gI BK568.out⟩, ⟨y0_4⟩, ⟨hI HK.out⟩, ⟨y0_5⟩⟩
   rw [if_neg c19] at H
   have c19b0 : decide (x7_1 < t572) = false := decide_eq_false c19; clear c19; obtain ⟨⟨t584, t585, t586⟩, A250, H⟩ := Option.bind_eq_some_iff.mp H
   try dsimp only at H
   have A25 := Aside0.mk A250; clear A250; obtain ⟨⟨t587, t588, t589, t590, t593⟩, A260, H⟩ := Option.bind_eq_some_iff.mp H
   try dsimp only at H
   have A26 := Aside0.mk A260; clear A260
   simp only [Option.some.injEq, Prod.mk.injEq] at H
   obtain ⟨rfl, rfl, rfl, rfl, rfl, rfl⟩ := H
   try go_wp2_with (first | ((with_reducible refine gate_callee (f := 150) rfl ?_); refine gB (some 18) Tryz.func150 #[.pointer (some ⟨g, 0, none⟩), .int .i64 3] ?_; (with_reducible refine (spec_l1Below.calls g s0_0 x1001_1 x1002_1 3 t572 t573 t574 w0 _ ?side1 ?side2 A18.out).mono ?_); (case side1 => repeat (first | (with_reducible first | exact HI0.out | apply IsS188.alloc | apply IsS188.drewN | apply IsS188.drew | apply IsS188.set_1 | apply IsS188.set_2 | refine IsS188.far ?_ NeI.out _) | exact HI0.out)); (case side2 => repeat (first | (with_reducible first | exact HB.out | apply below_alloc | apply pw_below_drewN | apply below_drew1 | refine below_set ?_ (IsS188.ge HI0.out) | refine below_set ?_ GeI.out) | exact HB.out)); rintro e w27 ⟨rfl, hi, hb, hk⟩; refine ⟨_, rfl, ?_⟩; replace HO_6 := Aside0.mk (Kd.R_mono (Kd.R_keep (IsS188.apart (show IsS188 w0 _ g s0_0 x1001_1 x1002_1 from y0_4) (rI HO_6.out) (by decide)) hk (fun _ h => h.2)) (fun _ h => h.1)); replace HO_569002 := Aside0.mk (Kd.R_mono (Kd.R_keep (IsS188.apart (show IsS188 w0 _ g s0_0 x1001_1 x1002_1 from y0_4) (rI HO_569002.out) (by decide)) hk (fun _ h => h.2)) (fun _ h => h.1)); replace BK556 := bq BK556 hk NB556_0; replace BK557 := bq BK557 hk NB557_0; replace BK568 := bq BK568 hk NB568_0; replace HK := kt HK hk; replace HB := Aside0.mk (hb); replace HI0 := Aside0.mk (hi); (try clear hb); (try clear hb2); (try clear hk); (try clear hi); obtain ⟨Ao28, co28, eo28⟩ := Kd.R_slice HO_6.out; subst eo28))
   replace HO_6 := Aside0.mk (Kd.R_drew HO_6.out); replace HO_569002 := Aside0.mk (Kd.R_drew HO_569002.out); replace BK556 := Aside0.mk (blk_drew BK556.out); replace BK557 := Aside0.mk (blk_drew BK557.out); replace BK568 := Aside0.mk (blk_drew BK568.out); replace HI0 := Aside0.mk (IsS188.drew HI0.out); replace HK := Aside0.mk (keep_drew HK.out); replace HB := Aside0.mk (below_drew1 HB.out)
   refine start_ (n := 17) (S := fun w' => w'.cell? ⟨gb556, 0, none⟩ = some (.int .i64 a1_0) ∧ w'.cell? ⟨gb556, 1, none⟩ = some (.int .i64 a1_1) ∧ w'.cell? ⟨gb568, 0, none⟩ = some (.int .i64 t561) ∧ w'.cell? ⟨gb568, 1, none⟩ = some (.string t562) ∧ w'.cell? ⟨gb568, 2, none⟩ = some (.slice Ao14 t563.length co14)) (ds := []) #[false, false, false, false, false, false, false, false, false, false, false, false, false, false, false, false, false] (by kernel_rfl) rfl rfl ⟨bc0 BK556.out, bc1 BK556.out, bc0 BK568.out, bc1 BK568.out, bc2 BK568.out⟩ (fun hHeld => ?_); refine with_tabW spec_l8DrawRight.tab7 spec_l8DrawRight.bits7 (fun HT_ HW_ => ?_)
   generalize w27.drew = w29 at HO_6 HO_569002 BK556 BK557 BK568 HI0 HK HB hHeld ⊢
   refine pA 2 (some 30) (bz 17 4) HT_ ?_
   refine pA 5 (some 33) (bz 17 36) HT_ ?_
   refine pA 9 (some 37) (bz 17 548) HT_ ?_
   refine tA 0 (some 28) (bz 17 549) HT_ HW_ hHeld ?_
   refine tA 1 (some 29) (bz 17 551) HT_ HW_ hHeld ?_
   refine tA 3 (some 31) (bz 17 559) HT_ HW_ hHeld ?_
   refine pA 4 (some 32) (bz 17 575) HT_ ?_
   refine join_ (σ := Value × Nat) 2 #[true, true, true, true, true, true, true, true, true, true, true, true, true, true, true, false, false] (fun s_ => [(34, .int .i64 t584), (38, .tuple #[.agg #[.string t587, .int .i64 t588, .string t589, s_.1], .bool t593]), (8, .pointer (some ⟨s_.2, 0, none⟩)), (35, .int .i64 (wrap64 (Int.tdiv t584 3))), (36, .int .i64 (wrap64 ((wrap64 (t561 + 1)) + (wrap64 (Int.tdiv t584 3))))), (27, .tuple #[.agg #[.string t587, .int .i64 t588, .string t589, s_.1], .bool t593]), (39, .agg #[.string t587, .int .i64 t588, .string t589, s_.1]), (40, .bool t593)]) (fun s_ w' => (w'.cell? ⟨gb556, 0, none⟩ = some (.int .i64 a1_0) ∧ w'.cell? ⟨gb556, 1, none⟩ = some (.int .i64 a1_1) ∧ w'.cell? ⟨gb568, 0, none⟩ = some (.int .i64 t561) ∧ w'.cell? ⟨gb568, 1, none⟩ = some (.string t562) ∧ w'.cell? ⟨gb568, 2, none⟩ = some (.slice Ao14 t563.length co14)) ∧ (Kd.R (Kd.int .i64) 3 w' w.heap.size (fun k_ => some k_ ≠ (.slice Ao14 t563.length co14 : Value).ownBlock) s_.1 t590) ∧ (Kd.R (Kd.int .i64) 3 w' w.heap.size (fun k_ => some k_ ≠ (s_.1 : Value).ownBlock) (.slice Ao14 t563.length co14) t563) ∧ (Kd.R k204 204 w' w.heap.size (fun _ => True) (.slice Ao28 x6_1.length co28) x6_1) ∧ (w'.heap[gb556]? = some (.cells #[.int .i64 a1_0, .int .i64 a1_1] 32 (0, 0))) ∧ (w'.heap[gb557]? = some (.cells #[.string (⟨#[]⟩ : ByteArray), .int .i64 0, .string (⟨#[]⟩ : ByteArray), .slice none 0 0] 60 (0, 0))) ∧ (w'.heap[gb568]? = some (.cells #[.int .i64 t561, .string t562, .slice Ao14 t563.length co14] 27 (0, 0))) ∧ (w'.heap[s_.2]? = some (.cells #[.string (⟨#[]⟩ : ByteArray), .int .i64 0, .string (⟨#[]⟩ : ByteArray), .slice none 0 0] 60 (0, 0))) ∧ (w.heap.size ≤ s_.2) ∧ (w0.heap.size ≤ s_.2) ∧ (g ≠ s_.2) ∧ (s_.2 ≠ g) ∧ (gb556 ≠ s_.2) ∧ (s_.2 ≠ gb556) ∧ (gb557 ≠ s_.2) ∧ (s_.2 ≠ gb557) ∧ (gb568 ≠ s_.2) ∧ (s_.2 ≠ gb568) ∧ (IsS188 w0 w' g s0_0 t585 t586) ∧ (KeepBut w w' g none) ∧ (Below w0.heap.size w0 w')) ?_ ?_
   rotate_left
   ·
    intro hCont
    refine two_ (i := 6) (j := 14) (Ni := some 34) (Nj := some 8) #[true, true, true, true, true, true, true, false, false, true, false, false, false, false, false, false, false] #[true, true, true, true, true, true, false, false, false, true, false, false, false, false, true, false, false] rfl rfl rfl rfl (two_of HT_.out (by kernel_rfl)) (by decide) (by decide) (fun K hK => ?_) (fun K hK => ?_)
    ·
     skip
     refine gA Tryz.func150 #[.pointer (some ⟨g, 0, none⟩), .int .i64 4] ?_
     with_reducible refine (spec_l1Below.calls g s0_0 t573 t574 4 t584 t585 t586 w0 _ ?side1 ?side2 A25.out).mono ?_
     (case side1 => repeat (first | (with_reducible first | exact HI0.out | apply IsS188.alloc | apply IsS188.drewN | apply IsS188.drew | apply IsS188.set_1 | apply IsS188.set_2 | refine IsS188.far ?_ NeI.out _) | exact HI0.out))
     (case side2 => repeat (first | (with_reducible first | exact HB.out | apply below_alloc | apply pw_below_drewN | apply below_drew1 | refine below_set ?_ (IsS188.ge HI0.out) | refine below_set ?_ GeI.out) | exact HB.out))
     rintro e w30 ⟨rfl, hi, hb, hk⟩
     refine ⟨_, rfl, ?_⟩
     replace HO_6 := Aside0.mk (Kd.R_mono (Kd.R_keep (IsS188.apart (show IsS188 w0 _ g s0_0 t573 t574 from y0_4) (rI HO_6.out) (by decide)) hk (fun _ h => h.2)) (fun _ h => h.1))
     replace HO_569002 := Aside0.mk (Kd.R_mono (Kd.R_keep (IsS188.apart (show IsS188 w0 _ g s0_0 t573 t574 from y0_4) (rI HO_569002.out) (by decide)) hk (fun _ h => h.2)) (fun _ h => h.1))
     replace BK556 := bq BK556 hk NB556_0; replace BK557 := bq BK557 hk NB557_0; replace BK568 := bq BK568 hk NB568_0; replace HK := kt HK hk; replace HB := Aside0.mk (hb); replace HI0 := Aside0.mk (hi)
     (try clear hb)
     (try clear hb2)
     (try clear hk)
     (try clear hi)
     refine hK.out _ _ ⟨bc0 BK556.out, bc1 BK556.out, bc0 BK568.out, bc1 BK568.out, bc2 BK568.out⟩ (fun hHeld => ?_)
     clear hK K
     refine nA (some 34) ?_
     refine pA 7 (some 35) (bz 17 767) HT_ ?_
     refine pA 8 (some 36) (bz 17 1023) HT_ ?_
     refine two_ (i := 10) (j := 14) (Ni := some 38) (Nj := some 8) #[true, true, true, true, true, true, true, true, true, true, true, false, false, false, false, false, false] #[true, true, true, true, true, true, true, true, true, true, false, false, false, false, true, false, false] rfl rfl rfl rfl (two_of HT_.out (by kernel_rfl)) (by decide) (by decide) (fun K hK => ?_) (fun K hK => ?_)
     ·
      skip
      refine gA Tryz.func77 #[.agg #[.int .i64 a1_0, .int .i64 a1_1], .agg #[.int .i64 t561, .string t562, .slice Ao14 t563.length co14], .int .i64 (wrap64 ((wrap64 (t561 + 1)) + (wrap64 (Int.tdiv t584 3)))), .slice Ao28 x6_1.length co28] ?_
      with_reducible refine (spec_BlockNew.calls k1 a1_0 a1_1 t561 t562 _ _ t563 (wrap64 ((wrap64 (t561 + 1)) + (wrap64 (Int.tdiv t584 3)))) _ _ x6_1 t587 t588 t589 t590 t593 _ ?side1 ?side2 ?side3 ?side4 A26.out).mono ?_
      (case side1 => repeat (first | exact (Kd.R_reads' HO_569002.out).2.2 | (with_reducible refine Kd.C_alloc ?_ _) | (with_reducible refine Kd.C_drewN ?_ _) | (with_reducible refine Kd.C_drew ?_)))
      (case side2 => exact (Kd.R_reads' HO_569002.out).2.1)
      (case side3 => repeat (first | exact (Kd.R_reads' HO_6.out).2.2 | (with_reducible refine Kd.C_alloc ?_ _) | (with_reducible refine Kd.C_drewN ?_ _) | (with_reducible refine Kd.C_drew ?_)))
      (case side4 => exact (Kd.R_reads' HO_6.out).2.1)
      rintro e w31 ⟨v591, rfl, ho0, hb⟩
      refine ⟨_, rfl, ?_⟩
      replace HO_6 := rb HO_6 hb; have HO592 := Aside0.mk (Kd.R_lower (Kd.R_new' ho0 (Kd.R_lt (rI HO_569002.out))) (keep_size (w := w) (g := g) (row := none) (hI HK.out))); replace HO_569002 := Aside0.mk (Kd.R_elder' (rI HO_569002.out) (Kd.R_base ho0) hb); replace BK556 := bk BK556 hb; replace BK557 := bk BK557 hb; replace BK568 := bk BK568 hb; replace HK := kb HK hb; replace HB : Aside0 (Below w0.heap.size w0 _) := Aside0.mk (below_step y0_5 hb); replace HI0 := Aside0.mk (IsS188.below y0_4 hb)
      (try clear hb)
      (try clear hb2)
      (try clear hk)
      (try clear hi)
      (try clear ho0)
      refine hK.out _ _ ⟨bc0 BK556.out, bc1 BK556.out, bc0 BK568.out, bc1 BK568.out, bc2 BK568.out⟩ (fun hHeld => ?_)
      clear hK K
      refine nA (some 38) ?_
      refine pA 11 (some 27) (bz 17 4095) HT_ ?_
      refine pA 12 (some 39) (bz 17 0x1fff) HT_ ?_
      refine pA 13 (some 40) (bz 17 0x3fff) HT_ ?_
      refine oA 14 (some 8) (bz 17 0x7fff) HT_ (fun K hK => ?_)
      refine box_step ?hg (N := 8) ?hd (cs := #[.string (⟨#[]⟩ : ByteArray), .int .i64 0, .string (⟨#[]⟩ : ByteArray), .slice none 0 0]) (t := 60) ?hr ?_; (case hd => rfl); (case hg => rfl); (case hr => first | (go_simp; done) | (go_simp; rfl))
      intro gb594 hg w32 hbox hb
      replace HO_6 := rb HO_6 hb; replace HO_569002 := rb HO_569002 hb; replace HO592 := rb HO592 hb; replace HB : Aside0 (Below w0.heap.size w0 _) := Aside0.mk (below_step y0_5 hb); have BK594 := Aside0.mk (hbox); have GW594 := bh hg HK; have GJ594 := gi GW594; have GE594 := Aside0.mk ((Nat.le_trans HW0.out (y0_15 : w.heap.size ≤ gb594) : w0.heap.size ≤ gb594)); have GI594 := gi GE594; replace HK := kb HK hb; have NB556_594 := b1 BK556 hg; have NI556_594 := ni NB556_594; have NB594_556 := b2 BK556 hg; have NI594_556 := ni NB594_556; replace BK556 := bk BK556 hb; have NB557_594 := b1 BK557 hg; have NI557_594 := ni NB557_594; have NB594_557 := b2 BK557 hg; have NI594_557 := ni NB594_557; replace BK557 := bk BK557 hb; have NB568_594 := b1 BK568 hg; have NI568_594 := ni NB568_594; have NB594_568 := b2 BK568 hg; have NI594_568 := ni NB594_568; replace BK568 := bk BK568 hb
      have NB0_594 := Aside0.mk ((by rw [hg]; exact Nat.ne_of_lt (IsS188.lt (show IsS188 w0 _ g s0_0 t585 t586 from y0_4)) : g ≠ gb594))
      have NI0_594 := ni NB0_594
      have NB594_0 := Aside0.mk ((by rw [hg]; exact Nat.ne_of_gt (IsS188.lt (show IsS188 w0 _ g s0_0 t585 t586 from y0_4)) : gb594 ≠ g))
      have NI594_0 := ni NB594_0; replace HI0 := Aside0.mk (IsS188.below y0_4 hb); clear hb hbox hg
      refine hK.out _ _ ⟨bc0 BK556.out, bc1 BK556.out, bc0 BK568.out, bc1 BK568.out, bc2 BK568.out⟩ (fun hHeld => ?_)
      clear hK K
      refine nA (some 8) ?_
      exact norm_ y0_13 (hCont (v591, gb594) _ ⟨hHeld, (rI (Kd.R_mono HO592.out (fun _ hk => hk.2))), (rI (Kd.R_mono HO_569002.out (fun _ hk => hk.2))), (rI HO_6.out), (kI BK556.out), (kI BK557.out), (kI BK568.out), (kI BK594.out), GW594.out, GE594.out, NB0_594.out, NB594_0.out, NB556_594.out, NB594_556.out, NB557_594.out, NB594_557.out, NB568_594.out, NB594_568.out, y0_4, (hI HK.out), y0_5⟩)
     skip
     refine box_step ?hg (N := 8) ?hd (cs := #[.string (⟨#[]⟩ : ByteArray), .int .i64 0, .string (⟨#[]⟩ : ByteArray), .slice none 0 0]) (t := 60) ?hr ?_; (case hd => rfl); (case hg => rfl); (case hr => first | (go_simp; done) | (go_simp; rfl))
     intro gb594 hg w31 hbox hb
     replace HO_6 := rb HO_6 hb; replace HO_569002 := rb HO_569002 hb; replace HB : Aside0 (Below w0.heap.size w0 _) := Aside0.mk (below_step y0_5 hb); have BK594 := Aside0.mk (hbox); have GW594 := bh hg HK; have GJ594 := gi GW594; have GE594 := Aside0.mk ((Nat.le_trans HW0.out (y0_15 : w.heap.size ≤ gb594) : w0.heap.size ≤ gb594)); have GI594 := gi GE594; replace HK := kb HK hb; have NB556_594 := b1 BK556 hg; have NI556_594 := ni NB556_594; have NB594_556 := b2 BK556 hg; have NI594_556 := ni NB594_556; replace BK556 := bk BK556 hb; have NB557_594 := b1 BK557 hg; have NI557_594 := ni NB557_594; have NB594_557 := b2 BK557 hg; have NI594_557 := ni NB594_557; replace BK557 := bk BK557 hb; have NB568_594 := b1 BK568 hg; have NI568_594 := ni NB568_594; have NB594_568 := b2 BK568 hg; have NI594_568 := ni NB594_568; replace BK568 := bk BK568 hb
     have NB0_594 := Aside0.mk ((by rw [hg]; exact Nat.ne_of_lt (IsS188.lt (show IsS188 w0 _ g s0_0 t585 t586 from y0_4)) : g ≠ gb594))
     have NI0_594 := ni NB0_594
     have NB594_0 := Aside0.mk ((by rw [hg]; exact Nat.ne_of_gt (IsS188.lt (show IsS188 w0 _ g s0_0 t585 t586 from y0_4)) : gb594 ≠ g))
     have NI594_0 := ni NB594_0; replace HI0 := Aside0.mk (IsS188.below y0_4 hb); clear hb hbox hg
     refine hK.out _ _ ⟨bc0 BK556.out, bc1 BK556.out, bc0 BK568.out, bc1 BK568.out, bc2 BK568.out⟩ (fun hHeld => ?_)
     clear hK K
     refine nA (some 8) ?_
     refine oA 10 (some 38) (bz 17 0x47ff) HT_ (fun K hK => ?_)
     refine gA Tryz.func77 #[.agg #[.int .i64 a1_0, .int .i64 a1_1], .agg #[.int .i64 t561, .string t562, .slice Ao14 t563.length co14], .int .i64 (wrap64 ((wrap64 (t561 + 1)) + (wrap64 (Int.tdiv t584 3)))), .slice Ao28 x6_1.length co28] ?_
     with_reducible refine (spec_BlockNew.calls k1 a1_0 a1_1 t561 t562 _ _ t563 (wrap64 ((wrap64 (t561 + 1)) + (wrap64 (Int.tdiv t584 3)))) _ _ x6_1 t587 t588 t589 t590 t593 _ ?side1 ?side2 ?side3 ?side4 A26.out).mono ?_
     (case side1 => repeat (first | exact (Kd.R_reads' HO_569002.out).2.2 | (with_reducible refine Kd.C_alloc ?_ _) | (with_reducible refine Kd.C_drewN ?_ _) | (with_reducible refine Kd.C_drew ?_)))
     (case side2 => exact (Kd.R_reads' HO_569002.out).2.1)
     (case side3 => repeat (first | exact (Kd.R_reads' HO_6.out).2.2 | (with_reducible refine Kd.C_alloc ?_ _) | (with_reducible refine Kd.C_drewN ?_ _) | (with_reducible refine Kd.C_drew ?_)))
     (case side4 => exact (Kd.R_reads' HO_6.out).2.1)
     rintro e w32 ⟨v591, rfl, ho0, hb⟩
     refine ⟨_, rfl, ?_⟩
     replace HO_6 := rb HO_6 hb; have HO592 := Aside0.mk (Kd.R_lower (Kd.R_new' ho0 (Kd.R_lt (rI HO_569002.out))) (keep_size (w := w) (g := g) (row := none) (hI HK.out))); replace HO_569002 := Aside0.mk (Kd.R_elder' (rI HO_569002.out) (Kd.R_base ho0) hb); replace BK556 := bk BK556 hb; replace BK557 := bk BK557 hb; replace BK568 := bk BK568 hb; replace BK594 := bk BK594 hb; replace HK := kb HK hb; replace HB : Aside0 (Below w0.heap.size w0 _) := Aside0.mk (below_step y0_5 hb); replace HI0 := Aside0.mk (IsS188.below y0_4 hb)
     (try clear hb)
     (try clear hb2)
     (try clear hk)
     (try clear hi)
     (try clear ho0)
     refine hK.out _ _ ⟨bc0 BK556.out, bc1 BK556.out, bc0 BK568.out, bc1 BK568.out, bc2 BK568.out⟩ (fun hHeld => ?_)
     clear hK K
     refine nA (some 38) ?_
     refine pA 11 (some 27) (bz 17 0x4fff) HT_ ?_
     refine pA 12 (some 39) (bz 17 0x5fff) HT_ ?_
     refine pA 13 (some 40) (bz 17 0x7fff) HT_ ?_
     exact norm_ y0_13 (hCont (v591, gb594) _ ⟨hHeld, (rI (Kd.R_mono HO592.out (fun _ hk => hk.2))), (rI (Kd.R_mono HO_569002.out (fun _ hk => hk.2))), (rI HO_6.out), (kI BK556.out), (kI BK557.out), (kI BK568.out), (kI BK594.out), GW594.out, GE594.out, NB0_594.out, NB594_0.out, NB556_594.out, NB594_556.out, NB557_594.out, NB594_557.out, NB568_594.out, NB594_568.out, y0_4, (hI HK.out), y0_5⟩)
    skip
    refine box_step ?hg (N := 8) ?hd (cs := #[.string (⟨#[]⟩ : ByteArray), .int .i64 0, .string (⟨#[]⟩ : ByteArray), .slice none 0 0]) (t := 60) ?hr ?_; (case hd => rfl); (case hg => rfl); (case hr => first | (go_simp; done) | (go_simp; rfl))
    intro gb594 hg w30 hbox hb
    replace HO_6 := rb HO_6 hb; replace HO_569002 := rb HO_569002 hb; replace HB : Aside0 (Below w0.heap.size w0 _) := Aside0.mk (below_step y0_5 hb); have BK594 := Aside0.mk (hbox); have GW594 := bh hg HK; have GJ594 := gi GW594; have GE594 := Aside0.mk ((Nat.le_trans HW0.out (y0_15 : w.heap.size ≤ gb594) : w0.heap.size ≤ gb594)); have GI594 := gi GE594; replace HK := kb HK hb; have NB556_594 := b1 BK556 hg; have NI556_594 := ni NB556_594; have NB594_556 := b2 BK556 hg; have NI594_556 := ni NB594_556; replace BK556 := bk BK556 hb; have NB557_594 := b1 BK557 hg; have NI557_594 := ni NB557_594; have NB594_557 := b2 BK557 hg; have NI594_557 := ni NB594_557; replace BK557 := bk BK557 hb; have NB568_594 := b1 BK568 hg; have NI568_594 := ni NB568_594; have NB594_568 := b2 BK568 hg; have NI594_568 := ni NB594_568; replace BK568 := bk BK568 hb
    have NB0_594 := Aside0.mk ((by rw [hg]; exact Nat.ne_of_lt (IsS188.lt (show IsS188 w0 _ g s0_0 t573 t574 from y0_4)) : g ≠ gb594))
    have NI0_594 := ni NB0_594
    have NB594_0 := Aside0.mk ((by rw [hg]; exact Nat.ne_of_gt (IsS188.lt (show IsS188 w0 _ g s0_0 t573 t574 from y0_4)) : gb594 ≠ g))
    have NI594_0 := ni NB594_0; replace HI0 := Aside0.mk (IsS188.below y0_4 hb); clear hb hbox hg
    refine hK.out _ _ ⟨bc0 BK556.out, bc1 BK556.out, bc0 BK568.out, bc1 BK568.out, bc2 BK568.out⟩ (fun hHeld => ?_)
    clear hK K
    refine nA (some 8) ?_
    refine oA 6 (some 34) (bz 17 0x427f) HT_ (fun K hK => ?_)
    refine gA Tryz.func150 #[.pointer (some ⟨g, 0, none⟩), .int .i64 4] ?_
    with_reducible refine (spec_l1Below.calls g s0_0 t573 t574 4 t584 t585 t586 w0 _ ?side1 ?side2 A25.out).mono ?_
    (case side1 => repeat (first | (with_reducible first | exact HI0.out | apply IsS188.alloc | apply IsS188.drewN | apply IsS188.drew | apply IsS188.set_1 | apply IsS188.set_2 | refine IsS188.far ?_ NeI.out _) | exact HI0.out))
    (case side2 => repeat (first | (with_reducible first | exact HB.out | apply below_alloc | apply pw_below_drewN | apply below_drew1 | refine below_set ?_ (IsS188.ge HI0.out) | refine below_set ?_ GeI.out) | exact HB.out))
    rintro e w31 ⟨rfl, hi, hb, hk⟩
    refine ⟨_, rfl, ?_⟩
    replace HO_6 := Aside0.mk (Kd.R_mono (Kd.R_keep (IsS188.apart (show IsS188 w0 _ g s0_0 t573 t574 from y0_4) (rI HO_6.out) (by decide)) hk (fun _ h => h.2)) (fun _ h => h.1))
    replace HO_569002 := Aside0.mk (Kd.R_mono (Kd.R_keep (IsS188.apart (show IsS188 w0 _ g s0_0 t573 t574 from y0_4) (rI HO_569002.out) (by decide)) hk (fun _ h => h.2)) (fun _ h => h.1))
    replace BK556 := bq BK556 hk NB556_0; replace BK557 := bq BK557 hk NB557_0; replace BK568 := bq BK568 hk NB568_0; replace BK594 := bq BK594 hk NB594_0; replace HK := kt HK hk; replace HB := Aside0.mk (hb); replace HI0 := Aside0.mk (hi)
    (try clear hb)
    (try clear hb2)
    (try clear hk)
    (try clear hi)
    refine hK.out _ _ ⟨bc0 BK556.out, bc1 BK556.out, bc0 BK568.out, bc1 BK568.out, bc2 BK568.out⟩ (fun hHeld => ?_)
    clear hK K
    refine nA (some 34) ?_
    refine pA 7 (some 35) (bz 17 0x42ff) HT_ ?_
    refine pA 8 (some 36) (bz 17 0x43ff) HT_ ?_
    refine oA 10 (some 38) (bz 17 0x47ff) HT_ (fun K hK => ?_)
    refine gA Tryz.func77 #[.agg #[.int .i64 a1_0, .int .i64 a1_1], .agg #[.int .i64 t561, .string t562, .slice Ao14 t563.length co14], .int .i64 (wrap64 ((wrap64 (t561 + 1)) + (wrap64 (Int.tdiv t584 3)))), .slice Ao28 x6_1.length co28] ?_
    with_reducible refine (spec_BlockNew.calls k1 a1_0 a1_1 t561 t562 _ _ t563 (wrap64 ((wrap64 (t561 + 1)) + (wrap64 (Int.tdiv t584 3)))) _ _ x6_1 t587 t588 t589 t590 t593 _ ?side1 ?side2 ?side3 ?side4 A26.out).mono ?_
    (case side1 => repeat (first | exact (Kd.R_reads' HO_569002.out).2.2 | (with_reducible refine Kd.C_alloc ?_ _) | (with_reducible refine Kd.C_drewN ?_ _) | (with_reducible refine Kd.C_drew ?_)))
    (case side2 => exact (Kd.R_reads' HO_569002.out).2.1)
    (case side3 => repeat (first | exact (Kd.R_reads' HO_6.out).2.2 | (with_reducible refine Kd.C_alloc ?_ _) | (with_reducible refine Kd.C_drewN ?_ _) | (with_reducible refine Kd.C_drew ?_)))
    (case side4 => exact (Kd.R_reads' HO_6.out).2.1)
    rintro e w32 ⟨v591, rfl, ho0, hb⟩
    refine ⟨_, rfl, ?_⟩
    replace HO_6 := rb HO_6 hb; have HO592 := Aside0.mk (Kd.R_lower (Kd.R_new' ho0 (Kd.R_lt (rI HO_569002.out))) (keep_size (w := w) (g := g) (row := none) (hI HK.out))); replace HO_569002 := Aside0.mk (Kd.R_elder' (rI HO_569002.out) (Kd.R_base ho0) hb); replace BK556 := bk BK556 hb; replace BK557 := bk BK557 hb; replace BK568 := bk BK568 hb; replace BK594 := bk BK594 hb; replace HK := kb HK hb; replace HB : Aside0 (Below w0.heap.size w0 _) := Aside0.mk (below_step y0_5 hb); replace HI0 := Aside0.mk (IsS188.below y0_4 hb)
    (try clear hb)
    (try clear hb2)
    (try clear hk)
    (try clear hi)
    (try clear ho0)
    refine hK.out _ _ ⟨bc0 BK556.out, bc1 BK556.out, bc0 BK568.out, bc1 BK568.out, bc2 BK568.out⟩ (fun hHeld => ?_)
    clear hK K
    refine nA (some 38) ?_
    refine pA 11 (some 27) (bz 17 0x4fff) HT_ ?_
    refine pA 12 (some 39) (bz 17 0x5fff) HT_ ?_
    refine pA 13 (some 40) (bz 17 0x7fff) HT_ ?_
    exact norm_ y0_13 (hCont (v591, gb594) _ ⟨hHeld, (rI (Kd.R_mono HO592.out (fun _ hk => hk.2))), (rI (Kd.R_mono HO_569002.out (fun _ hk => hk.2))), (rI HO_6.out), (kI BK556.out), (kI BK557.out), (kI BK568.out), (kI BK594.out), GW594.out, GE594.out, NB0_594.out, NB594_0.out, NB556_594.out, NB594_556.out, NB557_594.out, NB594_557.out, NB568_594.out, NB594_568.out, y0_4, (hI HK.out), y0_5⟩)
   rintro ⟨v591, gb594⟩ w33 ⟨hS_, h0_, h1_, h2_, h3_, h4_, h5_, h6_, h7_, h8_, h9_, h10_, h11_, h12_, h13_, h14_, h15_, h16_, h17_, h18_, h19_⟩
   try dsimp only at h0_ h1_ h2_ h3_ h4_ h5_ h6_ h7_ h8_ h9_ h10_ h11_ h12_ h13_ h14_ h15_ h16_ h17_ h18_ h19_
   have n0_ := Aside0.mk h0_; have n1_ := Aside0.mk h1_; have n2_ := Aside0.mk h2_; have n3_ := Aside0.mk h3_; have n4_ := Aside0.mk h4_; have n5_ := Aside0.mk h5_; have n6_ := Aside0.mk h6_; have n7_ := Aside0.mk h7_; have n8_ := Aside0.mk h8_; have n9_ := Aside0.mk h9_; have n10_ := Aside0.mk h10_; have n11_ := Aside0.mk h11_; have n12_ := Aside0.mk h12_; have n13_ := Aside0.mk h13_; have n14_ := Aside0.mk h14_; have n15_ := Aside0.mk h15_; have n16_ := Aside0.mk h16_; have n17_ := Aside0.mk h17_; have n18_ := Aside0.mk h18_; have n19_ := Aside0.mk h19_; clear HO_6; clear HO_569002; clear BK556; clear BK557; clear BK568; clear HI0; clear HK; clear HB; clear h0_ h1_ h2_ h3_ h4_ h5_ h6_ h7_ h8_ h9_ h10_ h11_ h12_ h13_ h14_ h15_ h16_ h17_ h18_ h19_; have HO592 := n0_; have HO_569002 := n1_; have HO_6 := n2_; have BK556 := n3_; have BK557 := n4_; have BK568 := n5_; have BK594 := n6_; have GW594 := n7_; have GJ594 := gi GW594; have GE594 := n8_; have GI594 := gi GE594; have NB0_594 := n9_; have NI0_594 := ni NB0_594; have NB594_0 := n10_; have NI594_0 := ni NB594_0; have NB556_594 := n11_; have NI556_594 := ni NB556_594; have NB594_556 := n12_; have NI594_556 := ni NB594_556; have NB557_594 := n13_; have NI557_594 := ni NB557_594; have NB594_557 := n14_; have NI594_557 := ni NB594_557; have NB568_594 := n15_; have NI568_594 := ni NB568_594; have NB594_568 := n16_; have NI594_568 := ni NB594_568; have HI0 := n17_; have HK := n18_; have HB := n19_; clear n0_ n1_ n2_ n3_ n4_ n5_ n6_ n7_ n8_ n9_ n10_ n11_ n12_ n13_ n14_ n15_ n16_ n17_ n18_ n19_
   have hHeld : w33.cell? ⟨gb556, 0, none⟩ = some (.int .i64 a1_0) ∧ w33.cell? ⟨gb556, 1, none⟩ = some (.int .i64 a1_1) ∧ w33.cell? ⟨gb568, 0, none⟩ = some (.int .i64 t561) ∧ w33.cell? ⟨gb568, 1, none⟩ = some (.string t562) ∧ w33.cell? ⟨gb568, 2, none⟩ = some (.slice Ao14 t563.length co14) := hS_; obtain ⟨Ao37, co37, eo37⟩ := Kd.R_slice HO592.out
   (first | subst eo37 | (injection eo37 with f1_ f2_ f3_; have f4_ := f1_.symm; have f5_ := f3_.symm; clear f1_ f2_ f3_; subst f4_; subst f5_))
   refine norm_ (a' := ?_) ?_ ?_
   rotate_left
   ·
    simp only [putAll, Act.put, List.setIfInBounds_toArray, List.set_cons_zero, List.set_cons_succ]
    rfl
   refine oA 15 none (bz 17 0xffff) HT_ (fun K hK => ?_)
   have hs34 : w33.cell? ⟨gb594, 0, none⟩ = some (.string (⟨#[]⟩ : ByteArray)) := bc0 BK594.out; have hfs34 := blk_frozen BK594.out 0; have hns34_0 := NB556_594.out; have hns34_1 := NB557_594.out; have hns34_2 := NB568_594.out; have hms34_0 := NB594_556.out; have hms34_1 := NB594_557.out; have hms34_2 := NB594_568.out; have hs35 : w33.cell? ⟨gb594, 1, none⟩ = some (.int .i64 0) := bc1 BK594.out; have hfs35 := blk_frozen BK594.out 1; have hns35_0 := NB556_594.out; have hns35_1 := NB557_594.out; have hns35_2 := NB568_594.out; have hms35_0 := NB594_556.out; have hms35_1 := NB594_557.out; have hms35_2 := NB594_568.out; have hs36 : w33.cell? ⟨gb594, 2, none⟩ = some (.string (⟨#[]⟩ : ByteArray)) := bc2 BK594.out; have hfs36 := blk_frozen BK594.out 2; have hns36_0 := NB556_594.out; have hns36_1 := NB557_594.out; have hns36_2 := NB568_594.out; have hms36_0 := NB594_556.out; have hms36_1 := NB594_557.out; have hms36_2 := NB594_568.out; have hs38 : w33.cell? ⟨gb594, 3, none⟩ = some (.slice none 0 0) := bc3 BK594.out; have hfs38 := blk_frozen BK594.out 3; have hns38_0 := NB556_594.out; have hns38_1 := NB557_594.out; have hns38_2 := NB568_594.out; have hms38_0 := NB594_556.out; have hms38_1 := NB594_557.out; have hms38_2 := NB594_568.out
   refine skip_ (w1 := ?_) (by rfl) rfl ?_ ?_
   rotate_left
   ·
    go_simp
    rfl
   refine hK.out _ _ ⟨((cell_far (p := ⟨gb594, _, none⟩) NB556_594.out _).trans (((cell_far (p := ⟨gb594, _, none⟩) NB556_594.out _).trans (((cell_far (p := ⟨gb594, _, none⟩) NB556_594.out _).trans (((cell_far (p := ⟨gb594, _, none⟩) NB556_594.out _).trans (hHeld.1)))))))), ((cell_far (p := ⟨gb594, _, none⟩) NB556_594.out _).trans (((cell_far (p := ⟨gb594, _, none⟩) NB556_594.out _).trans (((cell_far (p := ⟨gb594, _, none⟩) NB556_594.out _).trans (((cell_far (p := ⟨gb594, _, none⟩) NB556_594.out _).trans (hHeld.2.1)))))))), ((cell_far (p := ⟨gb594, _, none⟩) NB568_594.out _).trans (((cell_far (p := ⟨gb594, _, none⟩) NB568_594.out _).trans (((cell_far (p := ⟨gb594, _, none⟩) NB568_594.out _).trans (((cell_far (p := ⟨gb594, _, none⟩) NB568_594.out _).trans (hHeld.2.2.1)))))))), ((cell_far (p := ⟨gb594, _, none⟩) NB568_594.out _).trans (((cell_far (p := ⟨gb594, _, none⟩) NB568_594.out _).trans (((cell_far (p := ⟨gb594, _, none⟩) NB568_594.out _).trans (((cell_far (p := ⟨gb594, _, none⟩) NB568_594.out _).trans (hHeld.2.2.2.1)))))))), ((cell_far (p := ⟨gb594, _, none⟩) NB568_594.out _).trans (((cell_far (p := ⟨gb594, _, none⟩) NB568_594.out _).trans (((cell_far (p := ⟨gb594, _, none⟩) NB568_594.out _).trans (((cell_far (p := ⟨gb594, _, none⟩) NB568_594.out _).trans (hHeld.2.2.2.2))))))))⟩ (fun hHeld => ?_)
   clear hK K
   refine pA 16 (some 9) (bz 17 0x1ffff) HT_ ?_
   refine done_ (done_of HT_.out (by kernel_rfl)) ?_
   have hnb39 := NB594_556.out; have hnc39 := NB556_594.out; have hnb40 := NB594_557.out; have hnc40 := NB557_594.out; have hnb41 := NB594_568.out; have hnc41 := NB568_594.out; have hnb42 := NB594_0.out; have hnc42 := NB0_594.out; have hcz43_0 := bc0 BK594.out; have hcz43_1 := bc1 BK594.out; have hcz43_2 := bc2 BK594.out; have hcz43_3 := bc3 BK594.out; have hfz43_0 := blk_frozen BK594.out 0; have hfz43_1 := blk_frozen BK594.out 1; have hfz43_2 := blk_frozen BK594.out 2; have hfz43_3 := blk_frozen BK594.out 3; have hnb44 := NB557_556.out; have hnc44 := NB556_557.out; have hnb45 := NB557_568.out; have hnc45 := NB568_557.out; have hnb46 := NB557_0.out; have hnc46 := NB0_557.out; have hcz47_0 := bc0 BK557.out; have hcz47_1 := bc1 BK557.out; have hcz47_2 := bc2 BK557.out; have hcz47_3 := bc3 BK557.out; have hfz47_0 := blk_frozen BK557.out 0; have hfz47_1 := blk_frozen BK557.out 1; have hfz47_2 := blk_frozen BK557.out 2; have hfz47_3 := blk_frozen BK557.out 3
   try go_wp2
   refine bodyPost_ret (results_cell_row rfl _ _ gb557 60 #[.string t587, .int .i64 t588, .string t589, .slice Ao37 t590.length co37] (0, 0) _ rfl (pI BK557) Tryz.underlying60 rfl (by kernel_rfl)) rfl ?_
   exact ⟨_, y0_14, by (with_reducible repeat (first | apply Kd.R_alloc | apply Kd.R_drewN | apply Kd.R_drew)); exact Kd.R_mono (Kd.R_far (p := ⟨gb557, 3, none⟩) (Kd.R_far (p := ⟨gb557, 2, none⟩) (Kd.R_far (p := ⟨gb557, 1, none⟩) (Kd.R_far (p := ⟨gb557, 0, none⟩) (Kd.R_far (p := ⟨gb594, 3, none⟩) (Kd.R_far (p := ⟨gb594, 2, none⟩) (Kd.R_far (p := ⟨gb594, 1, none⟩) (Kd.R_far (p := ⟨gb594, 0, none⟩) (Kd.R_types (Kd.R_types HO592.out BK594.out (by decide)) BK557.out (by decide)) (fun _ hk => hk.1.2) (.string t587)) (fun _ hk => hk.1.2) (.int .i64 t588)) (fun _ hk => hk.1.2) (.string t589)) (fun _ hk => hk.1.2) (.slice Ao37 t590.length co37)) (fun _ hk => hk.2) (.string t587)) (fun _ hk => hk.2) (.int .i64 t588)) (fun _ hk => hk.2) (.string t589)) (fun _ hk => hk.2) (.slice Ao37 t590.length co37)) (fun _ hk => trivial), y0_4, y0_5, hI HK.out⟩

end Go.Proofs.YtnpbopadajbopaaGreatDoor.PFnBlocks
