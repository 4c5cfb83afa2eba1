-- By a program of this session, out of the translation (the print of the kit, with turns of its own). Lean checks it.
import Derived.Test.YtemjmefacifdeaaGreatDoorPFnEitherOrderx0
import Derived.Test.YtemjmefacifdeaaGreatDoorPFnEitherOrderx9
import Derived.Test.YtemjmefacifdeaaGreatDoorPFnEitherOrderx10
import Derived.Test.YtemjmefacifdeaaGreatDoorPFnEitherOrderx11
import Derived.Test.YtemjmefacifdeaaGreatDoorPFnEitherOrderx13
namespace Go.Proofs.YtemjmefacifdeaaGreatDoor.PFnEitherOrder
open Go.RowKit Go.Proofs.YtemjmefacifdeaaGreatDoorW.PrintWords Go.Proofs.YtemjmefacifdeaaGreatDoorW.PrintLast Go.Proofs.YtemjmefacifdeaaGreatDoorW.PrintMore
attribute [local go_sem] max2_int min2_int max_two min_two max_three min_three max_four min_four   -- for this text's walks alone
attribute [local go_sem] cell_in frozen_in
set_option synthInstance.maxSize 1000000
set_option synthInstance.maxHeartbeats 2000000
set_option linter.unusedVariables false
set_option linter.unusedSimpArgs false

/-! ### spec_l8DrawRight: function 118 -/
def spec_l8DrawRight.l0 : Nat → List (S99) → Int → List Int → Int → Int → Int → Int → Int → ByteArray → List Int → Option (ByteArray × Int × ByteArray × List Int × Int × Int)
 | 0, _, _, _, _, _, _, _, _, _, _ => none
 | k + 1, x6, x7, x1000, x1001, x1002, x726000, x726001, x738000, x738001, x738002 => (spec_l1Below.f x1000 x1001 x1002 3).bind fun bt741 => (if x7 < bt741.1 then ((spec_l2DrawRight.f x1000 bt741.2.1 bt741.2.2).bind fun bt744 => (if x6.length < 4398046511104 then (spec_l8DrawRight.l0 k (x6 ++ [(⟨bt744.1, bt744.2.1, bt744.2.2.1, bt744.2.2.2.1⟩ : S99)]) (wrap64 (x7 + 1)) x1000 bt744.2.2.2.2.1 bt744.2.2.2.2.2 x726000 x726001 x738000 x738001 x738002) else (none))) else ((spec_l1Below.f x1000 bt741.2.1 bt741.2.2 4).bind fun bt753 => ((spec_BlockNew.f k x726000 x726001 x738000 x738001 x738002 (wrap64 ((wrap64 (x738000 + 1)) + (wrap64 (Int.tdiv bt753.1 3)))) x6).bind fun bt756 => (some (bt756.1, bt756.2.1, bt756.2.2.1, bt756.2.2.2.1, bt753.2.1, bt753.2.2)))))
def spec_l8DrawRight.f (k : Nat) (s0_0 : List Int) (s0_1 : Int) (s0_2 : Int) (a1_0 : Int) (a1_1 : Int) : Option (ByteArray × Int × ByteArray × List Int × Int × Int) := (spec_l5DrawRight.f k s0_0 s0_1 s0_2).bind fun bt727 => ((spec_l7DrawOf.f k s0_0 bt727.2.1 bt727.2.2 a1_0 a1_1 bt727.1).bind fun bt730 => (spec_l8DrawRight.l0 k (([] : List (S99))) 0 s0_0 bt730.2.2.2.1 bt730.2.2.2.2 a1_0 a1_1 bt730.1 bt730.2.1 bt730.2.2.1))
theorem spec_l8DrawRight.mono_l : ∀ k, (∀ y0 y1 y2 y3 y4 y5 y6 y7 y8 y9, LeO (spec_l8DrawRight.l0 k y0 y1 y2 y3 y4 y5 y6 y7 y8 y9) (spec_l8DrawRight.l0 (k + 1) y0 y1 y2 y3 y4 y5 y6 y7 y8 y9))
 | 0 => fun _ _ _ _ _ _ _ _ _ _ r h => by simp [spec_l8DrawRight.l0] at h
 | k + 1 => by
  have ih0 := spec_l8DrawRight.mono_l k
  intro y0 y1 y2 y3 y4 y5 y6 y7 y8 y9
  unfold spec_l8DrawRight.l0
  repeat' first | (with_reducible exact ih0 _ _ _ _ _ _ _ _ _ _) | (with_reducible exact spec_BlockNew.mono _ _ _ _ _ _ _ _) | (with_reducible exact spec_l5DrawRight.mono _ _ _ _) | (with_reducible exact spec_l7DrawOf.mono _ _ _ _ _ _ _) | (with_reducible exact LeO.refl _) | (with_reducible exact LeO.none _) | (with_reducible refine LeO.ite ?_ ?_) | (with_reducible refine LeO.bind ?_ (fun _ => ?_))
theorem spec_l8DrawRight.mono : ∀ a0 a1 a2 a3 a4 k, LeO (spec_l8DrawRight.f k a0 a1 a2 a3 a4) (spec_l8DrawRight.f (k + 1) a0 a1 a2 a3 a4) := by
 intro a0 a1 a2 a3 a4 k
 have ih0 := spec_l8DrawRight.mono_l k
 unfold spec_l8DrawRight.f
 repeat' first | (with_reducible exact ih0 _ _ _ _ _ _ _ _ _ _) | (with_reducible exact spec_BlockNew.mono _ _ _ _ _ _ _ _) | (with_reducible exact spec_l5DrawRight.mono _ _ _ _) | (with_reducible exact spec_l7DrawOf.mono _ _ _ _ _ _ _) | (with_reducible exact LeO.refl _) | (with_reducible exact LeO.none _) | (with_reducible refine LeO.ite ?_ ?_) | (with_reducible refine LeO.bind ?_ (fun _ => ?_))
def spec_l8DrawRight.T7 : Bool × List (List Nat × List Nat) := (true, [([], []), ([], []), ([], []), ([2], [2]), ([3], [3]), ([], []), ([5], [5]), ([6], [6]), ([4, 7], [4, 7]), ([], []), ([0, 1, 8, 9, 6], [0, 1, 8, 9]), ([10], [10]), ([11], [11]), ([11], [11]), ([], []), ([14, 12, 10, 0, 1, 2, 3, 4, 5, 6, 7, 8, 9, 10, 11, 12, 14], [12, 14]), ([13, 15, 0, 1, 2, 3, 4, 5, 6, 7, 8, 9, 10, 11, 12, 13, 14, 15], [13])])
def spec_l8DrawRight.B7 : List Nat := [0, 0, 0, 4, 12, 0, 32, 96, 252, 0, 1023, 2047, 4095, 4095, 0, 24575, 65535]
theorem spec_l8DrawRight.tab7 : rtab .any (opsOf Tryz.f118 7) = spec_l8DrawRight.T7 := by kernel_rfl
theorem spec_l8DrawRight.bits7 : waitsOk spec_l8DrawRight.T7.2 spec_l8DrawRight.B7 = true := by kernel_rfl
set_option maxHeartbeats 8000000 in
set_option maxRecDepth 100000 in
theorem spec_l8DrawRight.calls (k : Nat) (g : Nat) (s0_0 : List Int) (s0_1 : Int) (s0_2 : Int) (a1_0 : Int) (a1_1 : Int) (r1 : ByteArray) (r2 : Int) (r3 : ByteArray) (r4 : List Int) (r5 : Int) (r6 : Int) (w0 w : World) (hI : IsS124 w0 w g s0_0 s0_1 s0_2) (hB : Below w0.heap.size w0 w) (h : spec_l8DrawRight.f k s0_0 s0_1 s0_2 a1_0 a1_1 = some (r1, r2, r3, r4, r5, r6)) :
  Calls Tryz.prog 118 #[.pointer (some ⟨g, 0, none⟩), .agg #[.int .i64 a1_0, .int .i64 a1_1]] w fun e w' => ∃ v3_ : Value, e = .returned (.agg #[.string r1, .int .i64 r2, .string r3, v3_]) ∧ Kd.R (Kd.int .i64) 3 w' w.heap.size (fun _ => True) v3_ r4 ∧ IsS124 w0 w' g s0_0 r5 r6 ∧ Below w0.heap.size w0 w' ∧ KeepBut w w' g none := by
 have hu38 := Tryz.underlying38; have hu42 := Tryz.underlying42; have hu33 := Tryz.underlying33; have HI0 := Aside0.mk hI; have HK := Aside0.mk (KeepBut.refl w g none); have HL := Aside0.mk hB.size; clear hI; have HW0 := Aside0.mk hB.size; have HB := Aside0.mk hB; clear hB
 have H : ((spec_l5DrawRight.f k s0_0 s0_1 s0_2).bind fun bt727 => ((spec_l7DrawOf.f k s0_0 bt727.2.1 bt727.2.2 a1_0 a1_1 bt727.1).bind fun bt730 => (spec_l8DrawRight.l0 k (([] : List (S99))) 0 s0_0 bt730.2.2.2.1 bt730.2.2.2.2 a1_0 a1_1 bt730.1 bt730.2.1 bt730.2.2.1))) = some (r1, r2, r3, r4, r5, r6) := h
 clear h; obtain ⟨⟨t727, t728, t729⟩, A30, H⟩ := Option.bind_eq_some_iff.mp H
 try dsimp only at H
 have A3 := Aside0.mk A30; clear A30; obtain ⟨⟨t730, t731, t732, t735, t736⟩, A40, H⟩ := Option.bind_eq_some_iff.mp H
 try dsimp only at H
 have A4 := Aside0.mk A40; clear A40; obtain ⟨y738, hy738⟩ : ∃ y_ : List (S99), y_ = (([] : List (S99))) := ⟨_, rfl⟩
 replace H : (spec_l8DrawRight.l0 k y738 0 s0_0 t735 t736 a1_0 a1_1 t730 t731 t732) = some (r1, r2, r3, r4, r5, r6) := by first | (rw [hy738]; with_reducible exact H) | (have H2_ := (Option.bind_some _ _).symm.trans H; rw [hy738]; with_reducible exact H2_) | (have H2_ := (Option.bind_some _ _).symm.trans H; with_reducible exact H2_) | with_reducible exact H | (rw [hy738]; exact H) | exact H
 have Ny738 := Aside0.mk hy738; clear hy738; have H' := Aside0.mk H; clear H
 go_enter Tryz.func118, Tryz.ntmps118
 try go_wp2_with (first | ((with_reducible refine gd 3 ?_); refine bA 3 #[.int .i64 a1_0, .int .i64 a1_1] 38 ?_; intro gb725 hg w5 hbox hb; replace HB : Aside0 (Below w0.heap.size w0 _) := Aside0.mk (below_step y0_7 hb); have BK725 := Aside0.mk (hbox); have GW725 := bh hg HK; have GJ725 := gi GW725; have GE725 := Aside0.mk ((Nat.le_trans HW0.out (y0_16 : w.heap.size ≤ gb725) : w0.heap.size ≤ gb725)); have GI725 := gi GE725; replace HK := kb HK hb; have NB0_725 := Aside0.mk ((y0_2 : g ≠ gb725)); have NI0_725 := ni NB0_725; have NB725_0 := Aside0.mk ((y0_3 : gb725 ≠ g)); have NI725_0 := ni NB725_0; replace HI0 := Aside0.mk (IsS124.below y0_6 hb); clear hb hbox hg) | ((with_reducible refine gd 4 ?_); refine bA 4 #[.string (⟨#[]⟩ : ByteArray), .int .i64 0, .string (⟨#[]⟩ : ByteArray), .slice none 0 0] 42 ?_; intro gb726 hg w6 hbox hb; replace HB : Aside0 (Below w0.heap.size w0 _) := Aside0.mk (below_step y0_5 hb); have BK726 := Aside0.mk (hbox); have GW726 := bh hg HK; have GJ726 := gi GW726; have GE726 := Aside0.mk ((Nat.le_trans HW0.out (y0_16 : w.heap.size ≤ gb726) : w0.heap.size ≤ gb726)); have GI726 := gi GE726; replace HK := kb HK hb; have NB725_726 := b1 BK725 hg; have NI725_726 := ni NB725_726; have NB726_725 := b2 BK725 hg; have NI726_725 := ni NB726_725; replace BK725 := bk BK725 hb; have NB0_726 := Aside0.mk ((y0_0 : g ≠ gb726)); have NI0_726 := ni NB0_726; have NB726_0 := Aside0.mk ((y0_1 : gb726 ≠ g)); have NI726_0 := ni NB726_0; replace HI0 := Aside0.mk (IsS124.below y0_4 hb); clear hb hbox hg))
 replace BK725 := Aside0.mk (blk_drew BK725.out); replace BK726 := Aside0.mk (blk_drew BK726.out); replace HI0 := Aside0.mk (IsS124.drew HI0.out); replace HK := Aside0.mk (keep_drew HK.out); replace HB := Aside0.mk (below_drew1 HB.out)
 refine start_ (n := 7) (S := fun w' => w'.cell? ⟨gb725, 0, none⟩ = some (.int .i64 a1_0) ∧ w'.cell? ⟨gb725, 1, none⟩ = some (.int .i64 a1_1)) (ds := []) #[false, false, false, false, false, false, false] (by kernel_rfl) rfl rfl ⟨bc0 BK725.out, bc1 BK725.out⟩ (fun hHeld => ?_)
 generalize w6.drew = w7 at BK725 BK726 HI0 HK HB hHeld ⊢
 refine pure_ (i := 0) (N := some 10) (v := ?_) (a' := ?_) #[true, false, false, false, false, false, false] rfl rfl (by kernel_rfl) (fun _ _ _ h => h) (Or.inl ⟨by rfl, ?_⟩) ?_ ?_
 rotate_left
 ·
  intro w'
  go_simp
  with_reducible rfl
 rotate_left
 ·
  simp only [Act.put, List.setIfInBounds_toArray, List.set_cons_zero, List.set_cons_succ, i64_w, i32_w]
  rfl
 refine pure_ (i := 2) (N := some 12) (v := ?_) (a' := ?_) #[true, false, true, false, false, false, false] rfl rfl (by kernel_rfl) (fun _ _ _ h => h) (Or.inl ⟨by rfl, ?_⟩) ?_ ?_
 rotate_left
 ·
  intro w'
  go_simp
  with_reducible rfl
 rotate_left
 ·
  simp only [Act.put, List.setIfInBounds_toArray, List.set_cons_zero, List.set_cons_succ, i64_w, i32_w]
  rfl
 refine take_ (i := 1) (N := some 11) (v := ?_) (a' := ?_) #[true, true, true, false, false, false, false] rfl rfl (by kernel_rfl) (fun _ _ _ h => h) (Or.inl ⟨by rfl, ?_⟩) hHeld ?_ ?_
 rotate_left
 ·
  rintro w' ⟨s0, s1⟩
  go_simp
  with_reducible rfl
 rotate_left
 ·
  simp only [Act.put, List.setIfInBounds_toArray, List.set_cons_zero, List.set_cons_succ, i64_w, i32_w]
  rfl
 refine join_ (σ := Value × Nat) 1 #[true, true, true, true, true, true, false] (fun s_ => [(13, .string t727), (14, .agg #[.int .i64 t730, .string t731, s_.1]), (5, .pointer (some ⟨s_.2, 0, none⟩))]) (fun s_ w' => (w'.cell? ⟨gb725, 0, none⟩ = some (.int .i64 a1_0) ∧ w'.cell? ⟨gb725, 1, none⟩ = some (.int .i64 a1_1)) ∧ (Kd.R (Kd.int .i64) 3 w' w.heap.size (fun _ => True) s_.1 t732) ∧ (w'.heap[gb725]? = some (.cells #[.int .i64 a1_0, .int .i64 a1_1] 38 (0, 0))) ∧ (w'.heap[gb726]? = some (.cells #[.string (⟨#[]⟩ : ByteArray), .int .i64 0, .string (⟨#[]⟩ : ByteArray), .slice none 0 0] 42 (0, 0))) ∧ (w'.heap[s_.2]? = some (.cells #[.int .i64 0, .string (⟨#[]⟩ : ByteArray), .slice none 0 0] 33 (0, 0))) ∧ (w.heap.size ≤ s_.2) ∧ (w0.heap.size ≤ s_.2) ∧ (g ≠ s_.2) ∧ (s_.2 ≠ g) ∧ (gb725 ≠ s_.2) ∧ (s_.2 ≠ gb725) ∧ (gb726 ≠ s_.2) ∧ (s_.2 ≠ gb726) ∧ (IsS124 w0 w' g s0_0 t735 t736) ∧ (KeepBut w w' g none) ∧ (Below w0.heap.size w0 w')) ?_ ?_
 rotate_left
 ·
  intro hCont
  refine two_ (i := 3) (j := 5) (Ni := some 13) (Nj := some 5) #[true, true, true, true, false, false, false] #[true, true, true, false, false, true, false] rfl rfl rfl rfl (by kernel_rfl) (by decide) (by decide) (fun K hK => ?_) (fun K hK => ?_)
  ·
   skip
   refine gA Tryz.func124 #[.pointer (some ⟨g, 0, none⟩)] ?_
   with_reducible refine (spec_l5DrawRight.calls k g s0_0 s0_1 s0_2 t727 t728 t729 w0 _ ?side1 ?side2 A3.out).mono ?_
   (case side1 => repeat (first | (with_reducible first | exact HI0.out | apply IsS124.alloc | apply IsS124.drewN | apply IsS124.drew | apply IsS124.set_1 | apply IsS124.set_2 | refine IsS124.far ?_ NeI.out _) | exact HI0.out))
   (case side2 => repeat (first | (with_reducible first | exact HB.out | apply below_alloc | apply pw_below_drewN | apply below_drew1 | refine below_set ?_ (IsS124.ge HI0.out) | refine below_set ?_ GeI.out) | exact HB.out))
   rintro e w8 ⟨rfl, hi, hb, hk⟩
   refine ⟨_, rfl, ?_⟩
   replace BK725 := bq BK725 hk NB725_0; replace BK726 := bq BK726 hk NB726_0; replace HK := kt HK hk; replace HB := Aside0.mk (hb); replace HI0 := Aside0.mk (hi)
   (try clear hb)
   (try clear hb2)
   (try clear hk)
   (try clear hi)
   refine hK.out _ _ ⟨bc0 BK725.out, bc1 BK725.out⟩ (fun hHeld => ?_)
   clear hK K
   refine nA (some 13) ?_
   refine two_ (i := 4) (j := 5) (Ni := some 14) (Nj := some 5) #[true, true, true, true, true, false, false] #[true, true, true, true, false, true, false] rfl rfl rfl rfl (by kernel_rfl) (by decide) (by decide) (fun K hK => ?_) (fun K hK => ?_)
   ·
    skip
    refine gA Tryz.func123 #[.pointer (some ⟨g, 0, none⟩), .agg #[.int .i64 a1_0, .int .i64 a1_1], .string t727] ?_
    with_reducible refine (spec_l7DrawOf.calls k g s0_0 t728 t729 a1_0 a1_1 t727 t730 t731 t732 t735 t736 w0 _ ?side1 ?side2 A4.out).mono ?_
    (case side1 => repeat (first | (with_reducible first | exact HI0.out | apply IsS124.alloc | apply IsS124.drewN | apply IsS124.drew | apply IsS124.set_1 | apply IsS124.set_2 | refine IsS124.far ?_ NeI.out _) | exact HI0.out))
    (case side2 => repeat (first | (with_reducible first | exact HB.out | apply below_alloc | apply pw_below_drewN | apply below_drew1 | refine below_set ?_ (IsS124.ge HI0.out) | refine below_set ?_ GeI.out) | exact HB.out))
    rintro e w9 ⟨v733, rfl, ho0, hi, hb, hk⟩
    refine ⟨_, rfl, ?_⟩
    replace BK725 := bq BK725 hk NB725_0; replace BK726 := bq BK726 hk NB726_0; have HO734 := Aside0.mk (Kd.R_lower ho0 (keep_size (w := w) (g := g) (row := none) (hI HK.out))); replace HK := kt HK hk; replace HB := Aside0.mk (hb); replace HI0 := Aside0.mk (hi)
    (try clear hb)
    (try clear hb2)
    (try clear hk)
    (try clear hi)
    (try clear ho0)
    refine hK.out _ _ ⟨bc0 BK725.out, bc1 BK725.out⟩ (fun hHeld => ?_)
    clear hK K
    refine nA (some 14) ?_
    refine one_ (i := 5) (N := some 5) #[true, true, true, true, true, true, false] rfl rfl (by kernel_rfl) (by decide) (fun K hK => ?_)
    refine box_step ?hg (N := 5) ?hd (cs := #[.int .i64 0, .string (⟨#[]⟩ : ByteArray), .slice none 0 0]) (t := 33) ?hr ?_; (case hd => rfl); (case hg => rfl); (case hr => first | (go_simp; done) | (go_simp; rfl))
    intro gb737 hg w10 hbox hb
    replace HO734 := rb HO734 hb; replace HB : Aside0 (Below w0.heap.size w0 _) := Aside0.mk (below_step y0_5 hb); have BK737 := Aside0.mk (hbox); have GW737 := bh hg HK; have GJ737 := gi GW737; have GE737 := Aside0.mk ((Nat.le_trans HW0.out (y0_16 : w.heap.size ≤ gb737) : w0.heap.size ≤ gb737)); have GI737 := gi GE737; replace HK := kb HK hb; have NB725_737 := b1 BK725 hg; have NI725_737 := ni NB725_737; have NB737_725 := b2 BK725 hg; have NI737_725 := ni NB737_725; replace BK725 := bk BK725 hb; have NB726_737 := b1 BK726 hg; have NI726_737 := ni NB726_737; have NB737_726 := b2 BK726 hg; have NI737_726 := ni NB737_726; replace BK726 := bk BK726 hb
    have NB0_737 := Aside0.mk ((by rw [hg]; exact Nat.ne_of_lt (IsS124.lt (show IsS124 w0 _ g s0_0 t735 t736 from y0_4)) : g ≠ gb737))
    have NI0_737 := ni NB0_737
    have NB737_0 := Aside0.mk ((by rw [hg]; exact Nat.ne_of_gt (IsS124.lt (show IsS124 w0 _ g s0_0 t735 t736 from y0_4)) : gb737 ≠ g))
    have NI737_0 := ni NB737_0; replace HI0 := Aside0.mk (IsS124.below y0_4 hb); clear hb hbox hg
    refine hK.out _ _ ⟨bc0 BK725.out, bc1 BK725.out⟩ (fun hHeld => ?_)
    clear hK K
    refine nA (some 5) ?_
    exact norm_ y0_13 (hCont (v733, gb737) _ ⟨hHeld, (rI HO734.out), (kI BK725.out), (kI BK726.out), (kI BK737.out), GW737.out, GE737.out, NB0_737.out, NB737_0.out, NB725_737.out, NB737_725.out, NB726_737.out, NB737_726.out, y0_4, (hI HK.out), y0_5⟩)
   skip
   refine box_step ?hg (N := 5) ?hd (cs := #[.int .i64 0, .string (⟨#[]⟩ : ByteArray), .slice none 0 0]) (t := 33) ?hr ?_; (case hd => rfl); (case hg => rfl); (case hr => first | (go_simp; done) | (go_simp; rfl))
   intro gb737 hg w9 hbox hb
   replace HB : Aside0 (Below w0.heap.size w0 _) := Aside0.mk (below_step y0_5 hb); have BK737 := Aside0.mk (hbox); have GW737 := bh hg HK; have GJ737 := gi GW737; have GE737 := Aside0.mk ((Nat.le_trans HW0.out (y0_16 : w.heap.size ≤ gb737) : w0.heap.size ≤ gb737)); have GI737 := gi GE737; replace HK := kb HK hb; have NB725_737 := b1 BK725 hg; have NI725_737 := ni NB725_737; have NB737_725 := b2 BK725 hg; have NI737_725 := ni NB737_725; replace BK725 := bk BK725 hb; have NB726_737 := b1 BK726 hg; have NI726_737 := ni NB726_737; have NB737_726 := b2 BK726 hg; have NI737_726 := ni NB737_726; replace BK726 := bk BK726 hb
   have NB0_737 := Aside0.mk ((by rw [hg]; exact Nat.ne_of_lt (IsS124.lt (show IsS124 w0 _ g s0_0 t728 t729 from y0_4)) : g ≠ gb737))
   have NI0_737 := ni NB0_737
   have NB737_0 := Aside0.mk ((by rw [hg]; exact Nat.ne_of_gt (IsS124.lt (show IsS124 w0 _ g s0_0 t728 t729 from y0_4)) : gb737 ≠ g))
   have NI737_0 := ni NB737_0; replace HI0 := Aside0.mk (IsS124.below y0_4 hb); clear hb hbox hg
   refine hK.out _ _ ⟨bc0 BK725.out, bc1 BK725.out⟩ (fun hHeld => ?_)
   clear hK K
   refine nA (some 5) ?_
   refine one_ (i := 4) (N := some 14) #[true, true, true, true, true, true, false] rfl rfl (by kernel_rfl) (by decide) (fun K hK => ?_)
   refine gA Tryz.func123 #[.pointer (some ⟨g, 0, none⟩), .agg #[.int .i64 a1_0, .int .i64 a1_1], .string t727] ?_
   with_reducible refine (spec_l7DrawOf.calls k g s0_0 t728 t729 a1_0 a1_1 t727 t730 t731 t732 t735 t736 w0 _ ?side1 ?side2 A4.out).mono ?_
   (case side1 => repeat (first | (with_reducible first | exact HI0.out | apply IsS124.alloc | apply IsS124.drewN | apply IsS124.drew | apply IsS124.set_1 | apply IsS124.set_2 | refine IsS124.far ?_ NeI.out _) | exact HI0.out))
   (case side2 => repeat (first | (with_reducible first | exact HB.out | apply below_alloc | apply pw_below_drewN | apply below_drew1 | refine below_set ?_ (IsS124.ge HI0.out) | refine below_set ?_ GeI.out) | exact HB.out))
   rintro e w10 ⟨v733, rfl, ho0, hi, hb, hk⟩
   refine ⟨_, rfl, ?_⟩
   replace BK725 := bq BK725 hk NB725_0; replace BK726 := bq BK726 hk NB726_0; replace BK737 := bq BK737 hk NB737_0; have HO734 := Aside0.mk (Kd.R_lower ho0 (keep_size (w := w) (g := g) (row := none) (hI HK.out))); replace HK := kt HK hk; replace HB := Aside0.mk (hb); replace HI0 := Aside0.mk (hi)
   (try clear hb)
   (try clear hb2)
   (try clear hk)
   (try clear hi)
   (try clear ho0)
   refine hK.out _ _ ⟨bc0 BK725.out, bc1 BK725.out⟩ (fun hHeld => ?_)
   clear hK K
   refine nA (some 14) ?_
   exact norm_ y0_13 (hCont (v733, gb737) _ ⟨hHeld, (rI HO734.out), (kI BK725.out), (kI BK726.out), (kI BK737.out), GW737.out, GE737.out, NB0_737.out, NB737_0.out, NB725_737.out, NB737_725.out, NB726_737.out, NB737_726.out, y0_4, (hI HK.out), y0_5⟩)
  skip
  refine box_step ?hg (N := 5) ?hd (cs := #[.int .i64 0, .string (⟨#[]⟩ : ByteArray), .slice none 0 0]) (t := 33) ?hr ?_; (case hd => rfl); (case hg => rfl); (case hr => first | (go_simp; done) | (go_simp; rfl))
  intro gb737 hg w8 hbox hb
  replace HB : Aside0 (Below w0.heap.size w0 _) := Aside0.mk (below_step y0_5 hb); have BK737 := Aside0.mk (hbox); have GW737 := bh hg HK; have GJ737 := gi GW737; have GE737 := Aside0.mk ((Nat.le_trans HW0.out (y0_16 : w.heap.size ≤ gb737) : w0.heap.size ≤ gb737)); have GI737 := gi GE737; replace HK := kb HK hb; have NB725_737 := b1 BK725 hg; have NI725_737 := ni NB725_737; have NB737_725 := b2 BK725 hg; have NI737_725 := ni NB737_725; replace BK725 := bk BK725 hb; have NB726_737 := b1 BK726 hg; have NI726_737 := ni NB726_737; have NB737_726 := b2 BK726 hg; have NI737_726 := ni NB737_726; replace BK726 := bk BK726 hb; have NB0_737 := Aside0.mk ((y0_0 : g ≠ gb737)); have NI0_737 := ni NB0_737; have NB737_0 := Aside0.mk ((y0_1 : gb737 ≠ g)); have NI737_0 := ni NB737_0; replace HI0 := Aside0.mk (IsS124.below y0_4 hb); clear hb hbox hg
  refine hK.out _ _ ⟨bc0 BK725.out, bc1 BK725.out⟩ (fun hHeld => ?_)
  clear hK K
  refine nA (some 5) ?_
  refine one_ (i := 3) (N := some 13) #[true, true, true, true, false, true, false] rfl rfl (by kernel_rfl) (by decide) (fun K hK => ?_)
  refine gA Tryz.func124 #[.pointer (some ⟨g, 0, none⟩)] ?_
  with_reducible refine (spec_l5DrawRight.calls k g s0_0 s0_1 s0_2 t727 t728 t729 w0 _ ?side1 ?side2 A3.out).mono ?_
  (case side1 => repeat (first | (with_reducible first | exact HI0.out | apply IsS124.alloc | apply IsS124.drewN | apply IsS124.drew | apply IsS124.set_1 | apply IsS124.set_2 | refine IsS124.far ?_ NeI.out _) | exact HI0.out))
  (case side2 => repeat (first | (with_reducible first | exact HB.out | apply below_alloc | apply pw_below_drewN | apply below_drew1 | refine below_set ?_ (IsS124.ge HI0.out) | refine below_set ?_ GeI.out) | exact HB.out))
  rintro e w9 ⟨rfl, hi, hb, hk⟩
  refine ⟨_, rfl, ?_⟩
  replace BK725 := bq BK725 hk NB725_0; replace BK726 := bq BK726 hk NB726_0; replace BK737 := bq BK737 hk NB737_0; replace HK := kt HK hk; replace HB := Aside0.mk (hb); replace HI0 := Aside0.mk (hi)
  (try clear hb)
  (try clear hb2)
  (try clear hk)
  (try clear hi)
  refine hK.out _ _ ⟨bc0 BK725.out, bc1 BK725.out⟩ (fun hHeld => ?_)
  clear hK K
  refine nA (some 13) ?_
  refine one_ (i := 4) (N := some 14) #[true, true, true, true, true, true, false] rfl rfl (by kernel_rfl) (by decide) (fun K hK => ?_)
  refine gA Tryz.func123 #[.pointer (some ⟨g, 0, none⟩), .agg #[.int .i64 a1_0, .int .i64 a1_1], .string t727] ?_
  with_reducible refine (spec_l7DrawOf.calls k g s0_0 t728 t729 a1_0 a1_1 t727 t730 t731 t732 t735 t736 w0 _ ?side1 ?side2 A4.out).mono ?_
  (case side1 => repeat (first | (with_reducible first | exact HI0.out | apply IsS124.alloc | apply IsS124.drewN | apply IsS124.drew | apply IsS124.set_1 | apply IsS124.set_2 | refine IsS124.far ?_ NeI.out _) | exact HI0.out))
  (case side2 => repeat (first | (with_reducible first | exact HB.out | apply below_alloc | apply pw_below_drewN | apply below_drew1 | refine below_set ?_ (IsS124.ge HI0.out) | refine below_set ?_ GeI.out) | exact HB.out))
  rintro e w10 ⟨v733, rfl, ho0, hi, hb, hk⟩
  refine ⟨_, rfl, ?_⟩
  replace BK725 := bq BK725 hk NB725_0; replace BK726 := bq BK726 hk NB726_0; replace BK737 := bq BK737 hk NB737_0; have HO734 := Aside0.mk (Kd.R_lower ho0 (keep_size (w := w) (g := g) (row := none) (hI HK.out))); replace HK := kt HK hk; replace HB := Aside0.mk (hb); replace HI0 := Aside0.mk (hi)
  (try clear hb)
  (try clear hb2)
  (try clear hk)
  (try clear hi)
  (try clear ho0)
  refine hK.out _ _ ⟨bc0 BK725.out, bc1 BK725.out⟩ (fun hHeld => ?_)
  clear hK K
  refine nA (some 14) ?_
  exact norm_ y0_13 (hCont (v733, gb737) _ ⟨hHeld, (rI HO734.out), (kI BK725.out), (kI BK726.out), (kI BK737.out), GW737.out, GE737.out, NB0_737.out, NB737_0.out, NB725_737.out, NB737_725.out, NB726_737.out, NB737_726.out, y0_4, (hI HK.out), y0_5⟩)
 rintro ⟨v733, gb737⟩ w11 ⟨hS_, h0_, h1_, h2_, h3_, h4_, h5_, h6_, h7_, h8_, h9_, h10_, h11_, h12_, h13_, h14_⟩
 try dsimp only at h0_ h1_ h2_ h3_ h4_ h5_ h6_ h7_ h8_ h9_ h10_ h11_ h12_ h13_ h14_
 have n0_ := Aside0.mk h0_; have n1_ := Aside0.mk h1_; have n2_ := Aside0.mk h2_; have n3_ := Aside0.mk h3_; have n4_ := Aside0.mk h4_; have n5_ := Aside0.mk h5_; have n6_ := Aside0.mk h6_; have n7_ := Aside0.mk h7_; have n8_ := Aside0.mk h8_; have n9_ := Aside0.mk h9_; have n10_ := Aside0.mk h10_; have n11_ := Aside0.mk h11_; have n12_ := Aside0.mk h12_; have n13_ := Aside0.mk h13_; have n14_ := Aside0.mk h14_; clear BK725; clear BK726; clear HI0; clear HK; clear HB; clear h0_ h1_ h2_ h3_ h4_ h5_ h6_ h7_ h8_ h9_ h10_ h11_ h12_ h13_ h14_; have HO734 := n0_; have BK725 := n1_; have BK726 := n2_; have BK737 := n3_; have GW737 := n4_; have GJ737 := gi GW737; have GE737 := n5_; have GI737 := gi GE737; have NB0_737 := n6_; have NI0_737 := ni NB0_737; have NB737_0 := n7_; have NI737_0 := ni NB737_0; have NB725_737 := n8_; have NI725_737 := ni NB725_737; have NB737_725 := n9_; have NI737_725 := ni NB737_725; have NB726_737 := n10_; have NI726_737 := ni NB726_737; have NB737_726 := n11_; have NI737_726 := ni NB737_726; have HI0 := n12_; have HK := n13_; have HB := n14_; clear n0_ n1_ n2_ n3_ n4_ n5_ n6_ n7_ n8_ n9_ n10_ n11_ n12_ n13_ n14_; have hHeld : w11.cell? ⟨gb725, 0, none⟩ = some (.int .i64 a1_0) ∧ w11.cell? ⟨gb725, 1, none⟩ = some (.int .i64 a1_1) := hS_; obtain ⟨Ao14, co14, eo14⟩ := Kd.R_slice HO734.out
 (first | subst eo14 | (injection eo14 with f1_ f2_ f3_; have f4_ := f1_.symm; have f5_ := f3_.symm; clear f1_ f2_ f3_; subst f4_; subst f5_))
 refine norm_ (a' := ?_) ?_ ?_
 rotate_left
 ·
  simp only [putAll, Act.put, List.setIfInBounds_toArray, List.set_cons_zero, List.set_cons_succ]
  rfl
 refine one_ (i := 6) (N := none) #[true, true, true, true, true, true, true] rfl rfl (by kernel_rfl) (by decide) (fun K hK => ?_)
 have hs12 : w11.cell? ⟨gb737, 0, none⟩ = some (.int .i64 0) := bc0 BK737.out; have hfs12 := blk_frozen BK737.out 0; have hns12_0 := NB725_737.out; have hns12_1 := NB726_737.out; have hms12_0 := NB737_725.out; have hms12_1 := NB737_726.out; have hs13 : w11.cell? ⟨gb737, 1, none⟩ = some (.string (⟨#[]⟩ : ByteArray)) := bc1 BK737.out; have hfs13 := blk_frozen BK737.out 1; have hns13_0 := NB725_737.out; have hns13_1 := NB726_737.out; have hms13_0 := NB737_725.out; have hms13_1 := NB737_726.out; have hs15 : w11.cell? ⟨gb737, 2, none⟩ = some (.slice none 0 0) := bc2 BK737.out; have hfs15 := blk_frozen BK737.out 2; have hns15_0 := NB725_737.out; have hns15_1 := NB726_737.out; have hms15_0 := NB737_725.out; have hms15_1 := NB737_726.out
 refine skip_ (w1 := ?_) (by rfl) rfl ?_ ?_
 rotate_left
 ·
  go_simp
  rfl
 refine hK.out _ _ ⟨((cell_far (p := ⟨gb737, _, none⟩) NB725_737.out _).trans (((cell_far (p := ⟨gb737, _, none⟩) NB725_737.out _).trans (((cell_far (p := ⟨gb737, _, none⟩) NB725_737.out _).trans (hHeld.1)))))), ((cell_far (p := ⟨gb737, _, none⟩) NB725_737.out _).trans (((cell_far (p := ⟨gb737, _, none⟩) NB725_737.out _).trans (((cell_far (p := ⟨gb737, _, none⟩) NB725_737.out _).trans (hHeld.2))))))⟩ (fun hHeld => ?_)
 clear hK K
 refine done_ (by kernel_rfl) ?_
 try go_wp2_with (first | ((with_reducible refine gate_dst (N := 15) rfl ?_); refine Kd.R_lit k99 _ 99 ?hg (N := 15) ?hd (xs := ([] : List (S99))) (inner := []) (ok := fun _ => True) (okp := fun _ => True) ?hr ?hp (fun _ hk => hk) trivial (Below.refl _ _) (Nat.le_refl _) (by simp) ?_; (case hd => rfl); (case hg => rfl); (case hr => first | (go_simp; done) | (go_simp; rfl)); (case hp => exact (Reps.none _ _)); intro v739 w16 ho17 hb hg_ hnew_; clear hg_ hnew_; (first | rw [← Ny738.out] at ho17 | (simp only [Int.reduceToNat] at ho17; rw [← Ny738.out] at ho17)); replace HO734 := Aside0.mk (Kd.R_below (rI (Kd.R_mono (Kd.R_far (p := ⟨gb737, 2, none⟩) (Kd.R_far (p := ⟨gb737, 1, none⟩) (Kd.R_far (p := ⟨gb737, 0, none⟩) (Kd.R_types HO734.out BK737.out (by decide)) (fun _ hk => hk.2) (.int .i64 t730)) (fun _ hk => hk.2) (.string t731)) (fun _ hk => hk.2) (.slice Ao14 t732.length co14)) (fun _ h_ => h_.1))) hb); have HO740 := Aside0.mk (Kd.R_lower ho17 (keep_size (w := w) (g := g) (row := none) (hI HK.out))); replace BK725 := Aside0.mk (blk_below (g := gb725) (o := .cells #[.int .i64 a1_0, .int .i64 a1_1] 38 (0, 0)) (gI BK725.out) hb); replace BK726 := Aside0.mk (blk_below (g := gb726) (o := .cells #[.string (⟨#[]⟩ : ByteArray), .int .i64 0, .string (⟨#[]⟩ : ByteArray), .slice none 0 0] 42 (0, 0)) (gI BK726.out) hb); replace BK737 := bp BK737 hb #[.int .i64 t730, .string t731, .slice Ao14 t732.length co14]; replace HK := kb HK hb; replace HB : Aside0 (Below w0.heap.size w0 _) := Aside0.mk (below_step y0_5 hb); replace HI0 := Aside0.mk (IsS124.below (show IsS124 w0 (((w11.setCell ⟨gb737, 0, none⟩ (.int .i64 t730)).setCell ⟨gb737, 1, none⟩ (.string t731)).setCell ⟨gb737, 2, none⟩ (.slice Ao14 t732.length co14)) g s0_0 t735 t736 from y0_4) hb); clear hb ho17))
 go_loopg [6, 7] k (fun kq v6 v7 w' => ∃ (x6_1 : List (S99)) (x7_1 : Int) (x1001_1 : Int) (x1002_1 : Int), v7 = .int .i64 x7_1 ∧ Aside0 (spec_l8DrawRight.l0 kq x6_1 x7_1 s0_0 x1001_1 x1002_1 a1_0 a1_1 t730 t731 t732 = some (r1, r2, r3, r4, r5, r6)) ∧ Aside0 (kq ≤ k) ∧ Aside0 (Kd.R k99 99 w' w.heap.size (fun _ => True) v6 x6_1) ∧ Aside0 (Kd.R (Kd.int .i64) 3 w' w.heap.size (fun _ => True) (.slice Ao14 t732.length co14) t732) ∧ Aside0 (w'.heap[gb725]? = some (.cells #[.int .i64 a1_0, .int .i64 a1_1] 38 (0, 0))) ∧ Aside0 (w'.heap[gb726]? = some (.cells #[.string (⟨#[]⟩ : ByteArray), .int .i64 0, .string (⟨#[]⟩ : ByteArray), (.slice none 0 0)] 42 (0, 0))) ∧ Aside0 (w'.heap[gb737]? = some (.cells #[.int .i64 t730, .string t731, (.slice Ao14 t732.length co14)] 33 (0, 0))) ∧ Aside0 (IsS124 w0 w' g s0_0 x1001_1 x1002_1) ∧ Aside0 (KeepBut w w' g none) ∧ Aside0 (Below w0.heap.size w0 w'))
 case atStart => exact ⟨(y738), (0), (t735), (t736), y0_19, H', ⟨Nat.le_refl _⟩, ⟨by (with_reducible repeat (first | apply Kd.R_alloc | apply Kd.R_drewN | apply Kd.R_drew)); exact HO740.out⟩, ⟨by (with_reducible repeat (first | apply Kd.R_alloc | apply Kd.R_drewN | apply Kd.R_drew)); exact HO734.out⟩, ⟨gI BK725.out⟩, ⟨gI BK726.out⟩, ⟨gI BK737.out⟩, ⟨y0_4⟩, ⟨hI HK.out⟩, ⟨y0_5⟩⟩
 case round =>
  clear H'
  try clear c1
  try clear p2
  try clear c11
  try clear c12
  obtain ⟨x6_1, x7_1, x1001_1, x1002_1, rfl, HA, HK1, HO_6, HO_738002, BK725, BK726, BK737, HI0, HK, HB⟩ := hrel; cases gk with
  | zero => exact absurd HA.out (by simp [spec_l8DrawRight.l0])
  | succ k1 =>
   have H := HA.out; clear HA
   simp only [spec_l8DrawRight.l0] at H
   obtain ⟨⟨t741, t742, t743⟩, A180, H⟩ := Option.bind_eq_some_iff.mp H
   try dsimp only at H
   have A18 := Aside0.mk A180; clear A180
   by_cases c19 : x7_1 < t741
   ·
    rw [if_pos c19] at H
    have c19b0 : decide (x7_1 < t741) = true := decide_eq_true c19; clear c19; obtain ⟨⟨t744, t745, t746, t747, t748, t749⟩, A200, H⟩ := Option.bind_eq_some_iff.mp H
    try dsimp only at H
    have A20 := Aside0.mk A200; clear A200
    by_cases c21 : x6_1.length < 4398046511104
    rotate_left
    ·
     rw [if_neg c21] at H
     exact absurd H (by simp)
    rw [if_pos c21] at H
    have LMc21 := Aside0.mk c21; clear c21; obtain ⟨y750, hy750⟩ : ∃ y_ : List (S99), y_ = (x6_1 ++ [(⟨t744, t745, t746, t747⟩ : S99)]) := ⟨_, rfl⟩
    replace H : (spec_l8DrawRight.l0 k1 y750 (wrap64 (x7_1 + 1)) s0_0 t748 t749 a1_0 a1_1 t730 t731 t732) = some (r1, r2, r3, r4, r5, r6) := by first | (rw [hy750]; with_reducible exact H) | (have H2_ := (Option.bind_some _ _).symm.trans H; rw [hy750]; with_reducible exact H2_) | (have H2_ := (Option.bind_some _ _).symm.trans H; with_reducible exact H2_) | with_reducible exact H | (rw [hy750]; exact H) | exact H
    have Ny750 := Aside0.mk hy750; clear hy750; have H' := Aside0.mk H; clear H
    go_wp2_with (first | ((with_reducible refine gate_callee (f := 114) rfl ?_); refine gB (some 18) Tryz.func114 #[.pointer (some ⟨g, 0, none⟩), .int .i64 3] ?_; (with_reducible refine (spec_l1Below.calls g s0_0 x1001_1 x1002_1 3 t741 t742 t743 w0 _ ?side1 ?side2 A18.out).mono ?_); (case side1 => repeat (first | (with_reducible first | exact HI0.out | apply IsS124.alloc | apply IsS124.drewN | apply IsS124.drew | apply IsS124.set_1 | apply IsS124.set_2 | refine IsS124.far ?_ NeI.out _) | exact HI0.out)); (case side2 => repeat (first | (with_reducible first | exact HB.out | apply below_alloc | apply pw_below_drewN | apply below_drew1 | refine below_set ?_ (IsS124.ge HI0.out) | refine below_set ?_ GeI.out) | exact HB.out)); rintro e w22 ⟨rfl, hi, hb, hk⟩; refine ⟨_, rfl, ?_⟩; replace HO_6 := Aside0.mk (Kd.R_mono (Kd.R_keep (IsS124.apart (show IsS124 w0 _ g s0_0 x1001_1 x1002_1 from y0_4) (rI HO_6.out) (by decide)) hk (fun _ h => h.2)) (fun _ h => h.1)); replace HO_738002 := Aside0.mk (Kd.R_mono (Kd.R_keep (IsS124.apart (show IsS124 w0 _ g s0_0 x1001_1 x1002_1 from y0_4) (rI HO_738002.out) (by decide)) hk (fun _ h => h.2)) (fun _ h => h.1)); replace BK725 := bq BK725 hk NB725_0; replace BK726 := bq BK726 hk NB726_0; replace BK737 := bq BK737 hk NB737_0; replace HK := kt HK hk; replace HB := Aside0.mk (hb); replace HI0 := Aside0.mk (hi); (try clear hb); (try clear hb2); (try clear hk); (try clear hi)) | ((with_reducible refine gate_callee (f := 140) rfl ?_); refine gB (some 24) Tryz.func140 #[.pointer (some ⟨g, 0, none⟩)] ?_; (with_reducible refine (spec_l2DrawRight.calls g s0_0 t742 t743 t744 t745 t746 t747 t748 t749 w0 _ ?side1 ?side2 A20.out).mono ?_); (case side1 => repeat (first | (with_reducible first | exact HI0.out | apply IsS124.alloc | apply IsS124.drewN | apply IsS124.drew | apply IsS124.set_1 | apply IsS124.set_2 | refine IsS124.far ?_ NeI.out _) | exact HI0.out)); (case side2 => repeat (first | (with_reducible first | exact HB.out | apply below_alloc | apply pw_below_drewN | apply below_drew1 | refine below_set ?_ (IsS124.ge HI0.out) | refine below_set ?_ GeI.out) | exact HB.out)); rintro e w23 ⟨rfl, hi, hb, hk⟩; refine ⟨_, rfl, ?_⟩; replace HO_6 := Aside0.mk (Kd.R_mono (Kd.R_keep (IsS124.apart (show IsS124 w0 _ g s0_0 t742 t743 from y0_4) (rI HO_6.out) (by decide)) hk (fun _ h => h.2)) (fun _ h => h.1)); replace HO_738002 := Aside0.mk (Kd.R_mono (Kd.R_keep (IsS124.apart (show IsS124 w0 _ g s0_0 t742 t743 from y0_4) (rI HO_738002.out) (by decide)) hk (fun _ h => h.2)) (fun _ h => h.1)); replace BK725 := bq BK725 hk NB725_0; replace BK726 := bq BK726 hk NB726_0; replace BK737 := bq BK737 hk NB737_0; replace HK := kt HK hk; replace HB := Aside0.mk (hb); replace HI0 := Aside0.mk (hi); (try clear hb); (try clear hb2); (try clear hk); (try clear hi)) | ((with_reducible refine gate_builtin (b := .append) (xs := #[.tmp 22, .tmp 25]) rfl ?_); at_builtin; refine Kd.R_append k99 w.heap.size rfl (.tmp 22) (.tmp 25) 59 99 (.agg #[(.int .i64 0), (.int .i64 0), (.int .i64 0), (.int .i64 0)]) 32 rfl Tryz.underlying59 info99 rfl (by decide) (by omega) u6 x6_1 (⟨t744, t745, t746, t747⟩ : S99) [.int .i64 t744, .int .i64 t745, .int .i64 t746, .int .i64 t747] (fun _ => True) (fun _ => False) rfl rfl ?aP (fun _ hk => hk.elim) ?aF ?aO (Below.refl _ _) ?aS ?aL ?_; (case aP => exact k99_mkM _ _ _ (⟨t744, t745, t746, t747⟩ : S99)); (case aF => exact (fun _ _ => trivial)); (case aO => exact (rI HO_6.out)); (case aS => exact (keep_size (w := w) (g := g) (row := none) (hI HK.out))); (case aL => have := LMc21.out; omega); intro v751 w24 ho hb hg hat; rw [← Ny750.out] at ho; have n0_ := Aside0.mk (Kd.R_over' (rI HO_738002.out) (Kd.R_typed (rI HO_6.out)) (by decide) hg); have n1_ := bn BK725 hg (Kd.R_ne HO_6.out BK725.out (by decide)); have n2_ := bn BK726 hg (Kd.R_ne HO_6.out BK726.out (by decide)); have n3_ := bn BK737 hg (Kd.R_ne HO_6.out BK737.out (by decide)); have n4_ := Aside0.mk (IsS124.grown y0_4 hg (IsS124.own_ne HI0.out HO_6.out (by decide))); have n5_ := Aside0.mk (below_weaken y0_5 HL.out hb); have n6_ := Aside0.mk (KeepBut.trans (hI HK.out) (KeepBut.of_grown hg g) (Kd.R_base2 HO_6.out)); have n7_ := Aside0.mk (ho); clear HO_738002; clear BK725; clear BK726; clear BK737; clear HI0; clear HB; clear HK; clear HO_6; have HO_738002 := n0_; have BK725 := n1_; have BK726 := n2_; have BK737 := n3_; have HI0 := n4_; have HB := n5_; have HK := n6_; have HO752 := n7_; clear n0_ n1_ n2_ n3_ n4_ n5_ n6_ n7_; clear ho hb hg hat))
    go_roundg k1
    case measure => have := HK1.out; omega
    case rel => exact ⟨(y750), (wrap64 (x7_1 + 1)), (t748), (t749), y0_19, H', ⟨y0_21⟩, ⟨by (with_reducible repeat (first | apply Kd.R_alloc | apply Kd.R_drewN | apply Kd.R_drew)); exact HO752.out⟩, ⟨by (with_reducible repeat (first | apply Kd.R_alloc | apply Kd.R_drewN | apply Kd.R_drew)); exact HO_738002.out⟩, ⟨gI BK725.out⟩, ⟨gI BK726.out⟩, ⟨gI BK737.out⟩, ⟨y0_4⟩, ⟨hI HK.out⟩, ⟨y0_5⟩⟩
   rw [if_neg c19] at H
   have c19b0 : decide (x7_1 < t741) = false := decide_eq_false c19; clear c19; obtain ⟨⟨t753, t754, t755⟩, A250, H⟩ := Option.bind_eq_some_iff.mp H
   try dsimp only at H
   have A25 := Aside0.mk A250; clear A250; obtain ⟨⟨t756, t757, t758, t759, t762⟩, A260, H⟩ := Option.bind_eq_some_iff.mp H
   try dsimp only at H
   have A26 := Aside0.mk A260; clear A260
   simp only [Option.some.injEq, Prod.mk.injEq] at H
   obtain ⟨rfl, rfl, rfl, rfl, rfl, rfl⟩ := H
   try go_wp2_with (first | ((with_reducible refine gate_callee (f := 114) rfl ?_); refine gB (some 18) Tryz.func114 #[.pointer (some ⟨g, 0, none⟩), .int .i64 3] ?_; (with_reducible refine (spec_l1Below.calls g s0_0 x1001_1 x1002_1 3 t741 t742 t743 w0 _ ?side1 ?side2 A18.out).mono ?_); (case side1 => repeat (first | (with_reducible first | exact HI0.out | apply IsS124.alloc | apply IsS124.drewN | apply IsS124.drew | apply IsS124.set_1 | apply IsS124.set_2 | refine IsS124.far ?_ NeI.out _) | exact HI0.out)); (case side2 => repeat (first | (with_reducible first | exact HB.out | apply below_alloc | apply pw_below_drewN | apply below_drew1 | refine below_set ?_ (IsS124.ge HI0.out) | refine below_set ?_ GeI.out) | exact HB.out)); rintro e w27 ⟨rfl, hi, hb, hk⟩; refine ⟨_, rfl, ?_⟩; replace HO_6 := Aside0.mk (Kd.R_mono (Kd.R_keep (IsS124.apart (show IsS124 w0 _ g s0_0 x1001_1 x1002_1 from y0_4) (rI HO_6.out) (by decide)) hk (fun _ h => h.2)) (fun _ h => h.1)); replace HO_738002 := Aside0.mk (Kd.R_mono (Kd.R_keep (IsS124.apart (show IsS124 w0 _ g s0_0 x1001_1 x1002_1 from y0_4) (rI HO_738002.out) (by decide)) hk (fun _ h => h.2)) (fun _ h => h.1)); replace BK725 := bq BK725 hk NB725_0; replace BK726 := bq BK726 hk NB726_0; replace BK737 := bq BK737 hk NB737_0; replace HK := kt HK hk; replace HB := Aside0.mk (hb); replace HI0 := Aside0.mk (hi); (try clear hb); (try clear hb2); (try clear hk); (try clear hi); obtain ⟨Ao28, co28, eo28⟩ := Kd.R_slice HO_6.out; subst eo28))
   replace HO_6 := Aside0.mk (Kd.R_drew HO_6.out); replace HO_738002 := Aside0.mk (Kd.R_drew HO_738002.out); replace BK725 := Aside0.mk (blk_drew BK725.out); replace BK726 := Aside0.mk (blk_drew BK726.out); replace BK737 := Aside0.mk (blk_drew BK737.out); replace HI0 := Aside0.mk (IsS124.drew HI0.out); replace HK := Aside0.mk (keep_drew HK.out); replace HB := Aside0.mk (below_drew1 HB.out)
   refine start_ (n := 17) (S := fun w' => w'.cell? ⟨gb725, 0, none⟩ = some (.int .i64 a1_0) ∧ w'.cell? ⟨gb725, 1, none⟩ = some (.int .i64 a1_1) ∧ w'.cell? ⟨gb737, 0, none⟩ = some (.int .i64 t730) ∧ w'.cell? ⟨gb737, 1, none⟩ = some (.string t731) ∧ w'.cell? ⟨gb737, 2, none⟩ = some (.slice Ao14 t732.length co14)) (ds := []) #[false, false, false, false, false, false, false, false, false, false, false, false, false, false, false, false, false] (by kernel_rfl) rfl rfl ⟨bc0 BK725.out, bc1 BK725.out, bc0 BK737.out, bc1 BK737.out, bc2 BK737.out⟩ (fun hHeld => ?_); refine with_tabW spec_l8DrawRight.tab7 spec_l8DrawRight.bits7 (fun HT_ HW_ => ?_)
   generalize w27.drew = w29 at HO_6 HO_738002 BK725 BK726 BK737 HI0 HK HB hHeld ⊢
   refine pA 2 (some 30) (bz 17 4) HT_ ?_
   refine pA 5 (some 33) (bz 17 36) HT_ ?_
   refine pA 9 (some 37) (bz 17 548) HT_ ?_
   refine tA 0 (some 28) (bz 17 549) HT_ HW_ hHeld ?_
   refine tA 1 (some 29) (bz 17 551) HT_ HW_ hHeld ?_
   refine tA 3 (some 31) (bz 17 559) HT_ HW_ hHeld ?_
   refine pA 4 (some 32) (bz 17 575) HT_ ?_
   refine join_ (σ := Value × Nat) 2 #[true, true, true, true, true, true, true, true, true, true, true, true, true, true, true, false, false] (fun s_ => [(34, .int .i64 t753), (38, .tuple #[.agg #[.string t756, .int .i64 t757, .string t758, s_.1], .bool t762]), (8, .pointer (some ⟨s_.2, 0, none⟩)), (35, .int .i64 (wrap64 (Int.tdiv t753 3))), (36, .int .i64 (wrap64 ((wrap64 (t730 + 1)) + (wrap64 (Int.tdiv t753 3))))), (27, .tuple #[.agg #[.string t756, .int .i64 t757, .string t758, s_.1], .bool t762]), (39, .agg #[.string t756, .int .i64 t757, .string t758, s_.1]), (40, .bool t762)]) (fun s_ w' => (w'.cell? ⟨gb725, 0, none⟩ = some (.int .i64 a1_0) ∧ w'.cell? ⟨gb725, 1, none⟩ = some (.int .i64 a1_1) ∧ w'.cell? ⟨gb737, 0, none⟩ = some (.int .i64 t730) ∧ w'.cell? ⟨gb737, 1, none⟩ = some (.string t731) ∧ w'.cell? ⟨gb737, 2, none⟩ = some (.slice Ao14 t732.length co14)) ∧ (Kd.R (Kd.int .i64) 3 w' w.heap.size (fun k_ => some k_ ≠ (.slice Ao14 t732.length co14 : Value).ownBlock) s_.1 t759) ∧ (Kd.R k99 99 w' w.heap.size (fun _ => True) (.slice Ao28 x6_1.length co28) x6_1) ∧ (Kd.R (Kd.int .i64) 3 w' w.heap.size (fun k_ => some k_ ≠ (s_.1 : Value).ownBlock) (.slice Ao14 t732.length co14) t732) ∧ (w'.heap[gb725]? = some (.cells #[.int .i64 a1_0, .int .i64 a1_1] 38 (0, 0))) ∧ (w'.heap[gb726]? = some (.cells #[.string (⟨#[]⟩ : ByteArray), .int .i64 0, .string (⟨#[]⟩ : ByteArray), .slice none 0 0] 42 (0, 0))) ∧ (w'.heap[gb737]? = some (.cells #[.int .i64 t730, .string t731, .slice Ao14 t732.length co14] 33 (0, 0))) ∧ (w'.heap[s_.2]? = some (.cells #[.string (⟨#[]⟩ : ByteArray), .int .i64 0, .string (⟨#[]⟩ : ByteArray), .slice none 0 0] 42 (0, 0))) ∧ (w.heap.size ≤ s_.2) ∧ (w0.heap.size ≤ s_.2) ∧ (g ≠ s_.2) ∧ (s_.2 ≠ g) ∧ (gb725 ≠ s_.2) ∧ (s_.2 ≠ gb725) ∧ (gb726 ≠ s_.2) ∧ (s_.2 ≠ gb726) ∧ (gb737 ≠ s_.2) ∧ (s_.2 ≠ gb737) ∧ (IsS124 w0 w' g s0_0 t754 t755) ∧ (KeepBut w w' g none) ∧ (Below w0.heap.size w0 w')) ?_ ?_
   rotate_left
   ·
    intro hCont
    refine two_ (i := 6) (j := 14) (Ni := some 34) (Nj := some 8) #[true, true, true, true, true, true, true, false, false, true, false, false, false, false, false, false, false] #[true, true, true, true, true, true, false, false, false, true, false, false, false, false, true, false, false] rfl rfl rfl rfl (two_of HT_.out (by kernel_rfl)) (by decide) (by decide) (fun K hK => ?_) (fun K hK => ?_)
    ·
     skip
     refine gA Tryz.func114 #[.pointer (some ⟨g, 0, none⟩), .int .i64 4] ?_
     with_reducible refine (spec_l1Below.calls g s0_0 t742 t743 4 t753 t754 t755 w0 _ ?side1 ?side2 A25.out).mono ?_
     (case side1 => repeat (first | (with_reducible first | exact HI0.out | apply IsS124.alloc | apply IsS124.drewN | apply IsS124.drew | apply IsS124.set_1 | apply IsS124.set_2 | refine IsS124.far ?_ NeI.out _) | exact HI0.out))
     (case side2 => repeat (first | (with_reducible first | exact HB.out | apply below_alloc | apply pw_below_drewN | apply below_drew1 | refine below_set ?_ (IsS124.ge HI0.out) | refine below_set ?_ GeI.out) | exact HB.out))
     rintro e w30 ⟨rfl, hi, hb, hk⟩
     refine ⟨_, rfl, ?_⟩
     replace HO_6 := Aside0.mk (Kd.R_mono (Kd.R_keep (IsS124.apart (show IsS124 w0 _ g s0_0 t742 t743 from y0_4) (rI HO_6.out) (by decide)) hk (fun _ h => h.2)) (fun _ h => h.1))
     replace HO_738002 := Aside0.mk (Kd.R_mono (Kd.R_keep (IsS124.apart (show IsS124 w0 _ g s0_0 t742 t743 from y0_4) (rI HO_738002.out) (by decide)) hk (fun _ h => h.2)) (fun _ h => h.1))
     replace BK725 := bq BK725 hk NB725_0; replace BK726 := bq BK726 hk NB726_0; replace BK737 := bq BK737 hk NB737_0; replace HK := kt HK hk; replace HB := Aside0.mk (hb); replace HI0 := Aside0.mk (hi)
     (try clear hb)
     (try clear hb2)
     (try clear hk)
     (try clear hi)
     refine hK.out _ _ ⟨bc0 BK725.out, bc1 BK725.out, bc0 BK737.out, bc1 BK737.out, bc2 BK737.out⟩ (fun hHeld => ?_)
     clear hK K
     refine nA (some 34) ?_
     refine pA 7 (some 35) (bz 17 767) HT_ ?_
     refine pA 8 (some 36) (bz 17 1023) HT_ ?_
     refine two_ (i := 10) (j := 14) (Ni := some 38) (Nj := some 8) #[true, true, true, true, true, true, true, true, true, true, true, false, false, false, false, false, false] #[true, true, true, true, true, true, true, true, true, true, false, false, false, false, true, false, false] rfl rfl rfl rfl (two_of HT_.out (by kernel_rfl)) (by decide) (by decide) (fun K hK => ?_) (fun K hK => ?_)
     ·
      skip
      refine gA Tryz.func30 #[.agg #[.int .i64 a1_0, .int .i64 a1_1], .agg #[.int .i64 t730, .string t731, .slice Ao14 t732.length co14], .int .i64 (wrap64 ((wrap64 (t730 + 1)) + (wrap64 (Int.tdiv t753 3)))), .slice Ao28 x6_1.length co28] ?_
      with_reducible refine (spec_BlockNew.calls k1 a1_0 a1_1 t730 t731 _ _ t732 (wrap64 ((wrap64 (t730 + 1)) + (wrap64 (Int.tdiv t753 3)))) _ _ x6_1 t756 t757 t758 t759 t762 _ ?side1 ?side2 ?side3 ?side4 A26.out).mono ?_
      (case side1 => repeat (first | exact (Kd.R_reads' HO_738002.out).2.2 | (with_reducible refine Kd.C_alloc ?_ _) | (with_reducible refine Kd.C_drewN ?_ _) | (with_reducible refine Kd.C_drew ?_)))
      (case side2 => exact (Kd.R_reads' HO_738002.out).2.1)
      (case side3 => repeat (first | exact (Kd.R_reads' HO_6.out).2.2 | (with_reducible refine Kd.C_alloc ?_ _) | (with_reducible refine Kd.C_drewN ?_ _) | (with_reducible refine Kd.C_drew ?_)))
      (case side4 => exact (Kd.R_reads' HO_6.out).2.1)
      rintro e w31 ⟨v760, rfl, ho0, hb⟩
      refine ⟨_, rfl, ?_⟩
      replace HO_6 := rb HO_6 hb; have HO761 := Aside0.mk (Kd.R_lower (Kd.R_new' ho0 (Kd.R_lt (rI HO_738002.out))) (keep_size (w := w) (g := g) (row := none) (hI HK.out))); replace HO_738002 := Aside0.mk (Kd.R_elder' (rI HO_738002.out) (Kd.R_base ho0) hb); replace BK725 := bk BK725 hb; replace BK726 := bk BK726 hb; replace BK737 := bk BK737 hb; replace HK := kb HK hb; replace HB : Aside0 (Below w0.heap.size w0 _) := Aside0.mk (below_step y0_5 hb); replace HI0 := Aside0.mk (IsS124.below y0_4 hb)
      (try clear hb)
      (try clear hb2)
      (try clear hk)
      (try clear hi)
      (try clear ho0)
      refine hK.out _ _ ⟨bc0 BK725.out, bc1 BK725.out, bc0 BK737.out, bc1 BK737.out, bc2 BK737.out⟩ (fun hHeld => ?_)
      clear hK K
      refine nA (some 38) ?_
      refine pA 11 (some 27) (bz 17 4095) HT_ ?_
      refine pA 12 (some 39) (bz 17 0x1fff) HT_ ?_
      refine pA 13 (some 40) (bz 17 0x3fff) HT_ ?_
      refine oA 14 (some 8) (bz 17 0x7fff) HT_ (fun K hK => ?_)
      refine box_step ?hg (N := 8) ?hd (cs := #[.string (⟨#[]⟩ : ByteArray), .int .i64 0, .string (⟨#[]⟩ : ByteArray), .slice none 0 0]) (t := 42) ?hr ?_; (case hd => rfl); (case hg => rfl); (case hr => first | (go_simp; done) | (go_simp; rfl))
      intro gb763 hg w32 hbox hb
      replace HO_6 := rb HO_6 hb; replace HO_738002 := rb HO_738002 hb; replace HO761 := rb HO761 hb; replace HB : Aside0 (Below w0.heap.size w0 _) := Aside0.mk (below_step y0_5 hb); have BK763 := Aside0.mk (hbox); have GW763 := bh hg HK; have GJ763 := gi GW763; have GE763 := Aside0.mk ((Nat.le_trans HW0.out (y0_16 : w.heap.size ≤ gb763) : w0.heap.size ≤ gb763)); have GI763 := gi GE763; replace HK := kb HK hb; have NB725_763 := b1 BK725 hg; have NI725_763 := ni NB725_763; have NB763_725 := b2 BK725 hg; have NI763_725 := ni NB763_725; replace BK725 := bk BK725 hb; have NB726_763 := b1 BK726 hg; have NI726_763 := ni NB726_763; have NB763_726 := b2 BK726 hg; have NI763_726 := ni NB763_726; replace BK726 := bk BK726 hb; have NB737_763 := b1 BK737 hg; have NI737_763 := ni NB737_763; have NB763_737 := b2 BK737 hg; have NI763_737 := ni NB763_737; replace BK737 := bk BK737 hb
      have NB0_763 := Aside0.mk ((by rw [hg]; exact Nat.ne_of_lt (IsS124.lt (show IsS124 w0 _ g s0_0 t754 t755 from y0_4)) : g ≠ gb763))
      have NI0_763 := ni NB0_763
      have NB763_0 := Aside0.mk ((by rw [hg]; exact Nat.ne_of_gt (IsS124.lt (show IsS124 w0 _ g s0_0 t754 t755 from y0_4)) : gb763 ≠ g))
      have NI763_0 := ni NB763_0; replace HI0 := Aside0.mk (IsS124.below y0_4 hb); clear hb hbox hg
      refine hK.out _ _ ⟨bc0 BK725.out, bc1 BK725.out, bc0 BK737.out, bc1 BK737.out, bc2 BK737.out⟩ (fun hHeld => ?_)
      clear hK K
      refine nA (some 8) ?_
      exact norm_ y0_13 (hCont (v760, gb763) _ ⟨hHeld, (rI (Kd.R_mono HO761.out (fun _ hk => hk.2))), (rI HO_6.out), (rI (Kd.R_mono HO_738002.out (fun _ hk => hk.2))), (kI BK725.out), (kI BK726.out), (kI BK737.out), (kI BK763.out), GW763.out, GE763.out, NB0_763.out, NB763_0.out, NB725_763.out, NB763_725.out, NB726_763.out, NB763_726.out, NB737_763.out, NB763_737.out, y0_4, (hI HK.out), y0_5⟩)
     skip
     refine box_step ?hg (N := 8) ?hd (cs := #[.string (⟨#[]⟩ : ByteArray), .int .i64 0, .string (⟨#[]⟩ : ByteArray), .slice none 0 0]) (t := 42) ?hr ?_; (case hd => rfl); (case hg => rfl); (case hr => first | (go_simp; done) | (go_simp; rfl))
     intro gb763 hg w31 hbox hb
     replace HO_6 := rb HO_6 hb; replace HO_738002 := rb HO_738002 hb; replace HB : Aside0 (Below w0.heap.size w0 _) := Aside0.mk (below_step y0_5 hb); have BK763 := Aside0.mk (hbox); have GW763 := bh hg HK; have GJ763 := gi GW763; have GE763 := Aside0.mk ((Nat.le_trans HW0.out (y0_16 : w.heap.size ≤ gb763) : w0.heap.size ≤ gb763)); have GI763 := gi GE763; replace HK := kb HK hb; have NB725_763 := b1 BK725 hg; have NI725_763 := ni NB725_763; have NB763_725 := b2 BK725 hg; have NI763_725 := ni NB763_725; replace BK725 := bk BK725 hb; have NB726_763 := b1 BK726 hg; have NI726_763 := ni NB726_763; have NB763_726 := b2 BK726 hg; have NI763_726 := ni NB763_726; replace BK726 := bk BK726 hb; have NB737_763 := b1 BK737 hg; have NI737_763 := ni NB737_763; have NB763_737 := b2 BK737 hg; have NI763_737 := ni NB763_737; replace BK737 := bk BK737 hb
     have NB0_763 := Aside0.mk ((by rw [hg]; exact Nat.ne_of_lt (IsS124.lt (show IsS124 w0 _ g s0_0 t754 t755 from y0_4)) : g ≠ gb763))
     have NI0_763 := ni NB0_763
     have NB763_0 := Aside0.mk ((by rw [hg]; exact Nat.ne_of_gt (IsS124.lt (show IsS124 w0 _ g s0_0 t754 t755 from y0_4)) : gb763 ≠ g))
     have NI763_0 := ni NB763_0; replace HI0 := Aside0.mk (IsS124.below y0_4 hb); clear hb hbox hg
     refine hK.out _ _ ⟨bc0 BK725.out, bc1 BK725.out, bc0 BK737.out, bc1 BK737.out, bc2 BK737.out⟩ (fun hHeld => ?_)
     clear hK K
     refine nA (some 8) ?_
     refine oA 10 (some 38) (bz 17 0x47ff) HT_ (fun K hK => ?_)
     refine gA Tryz.func30 #[.agg #[.int .i64 a1_0, .int .i64 a1_1], .agg #[.int .i64 t730, .string t731, .slice Ao14 t732.length co14], .int .i64 (wrap64 ((wrap64 (t730 + 1)) + (wrap64 (Int.tdiv t753 3)))), .slice Ao28 x6_1.length co28] ?_
     with_reducible refine (spec_BlockNew.calls k1 a1_0 a1_1 t730 t731 _ _ t732 (wrap64 ((wrap64 (t730 + 1)) + (wrap64 (Int.tdiv t753 3)))) _ _ x6_1 t756 t757 t758 t759 t762 _ ?side1 ?side2 ?side3 ?side4 A26.out).mono ?_
     (case side1 => repeat (first | exact (Kd.R_reads' HO_738002.out).2.2 | (with_reducible refine Kd.C_alloc ?_ _) | (with_reducible refine Kd.C_drewN ?_ _) | (with_reducible refine Kd.C_drew ?_)))
     (case side2 => exact (Kd.R_reads' HO_738002.out).2.1)
     (case side3 => repeat (first | exact (Kd.R_reads' HO_6.out).2.2 | (with_reducible refine Kd.C_alloc ?_ _) | (with_reducible refine Kd.C_drewN ?_ _) | (with_reducible refine Kd.C_drew ?_)))
     (case side4 => exact (Kd.R_reads' HO_6.out).2.1)
     rintro e w32 ⟨v760, rfl, ho0, hb⟩
     refine ⟨_, rfl, ?_⟩
     replace HO_6 := rb HO_6 hb; have HO761 := Aside0.mk (Kd.R_lower (Kd.R_new' ho0 (Kd.R_lt (rI HO_738002.out))) (keep_size (w := w) (g := g) (row := none) (hI HK.out))); replace HO_738002 := Aside0.mk (Kd.R_elder' (rI HO_738002.out) (Kd.R_base ho0) hb); replace BK725 := bk BK725 hb; replace BK726 := bk BK726 hb; replace BK737 := bk BK737 hb; replace BK763 := bk BK763 hb; replace HK := kb HK hb; replace HB : Aside0 (Below w0.heap.size w0 _) := Aside0.mk (below_step y0_5 hb); replace HI0 := Aside0.mk (IsS124.below y0_4 hb)
     (try clear hb)
     (try clear hb2)
     (try clear hk)
     (try clear hi)
     (try clear ho0)
     refine hK.out _ _ ⟨bc0 BK725.out, bc1 BK725.out, bc0 BK737.out, bc1 BK737.out, bc2 BK737.out⟩ (fun hHeld => ?_)
     clear hK K
     refine nA (some 38) ?_
     refine pA 11 (some 27) (bz 17 0x4fff) HT_ ?_
     refine pA 12 (some 39) (bz 17 0x5fff) HT_ ?_
     refine pA 13 (some 40) (bz 17 0x7fff) HT_ ?_
     exact norm_ y0_13 (hCont (v760, gb763) _ ⟨hHeld, (rI (Kd.R_mono HO761.out (fun _ hk => hk.2))), (rI HO_6.out), (rI (Kd.R_mono HO_738002.out (fun _ hk => hk.2))), (kI BK725.out), (kI BK726.out), (kI BK737.out), (kI BK763.out), GW763.out, GE763.out, NB0_763.out, NB763_0.out, NB725_763.out, NB763_725.out, NB726_763.out, NB763_726.out, NB737_763.out, NB763_737.out, y0_4, (hI HK.out), y0_5⟩)
    skip
    refine box_step ?hg (N := 8) ?hd (cs := #[.string (⟨#[]⟩ : ByteArray), .int .i64 0, .string (⟨#[]⟩ : ByteArray), .slice none 0 0]) (t := 42) ?hr ?_; (case hd => rfl); (case hg => rfl); (case hr => first | (go_simp; done) | (go_simp; rfl))
    intro gb763 hg w30 hbox hb
    replace HO_6 := rb HO_6 hb; replace HO_738002 := rb HO_738002 hb; replace HB : Aside0 (Below w0.heap.size w0 _) := Aside0.mk (below_step y0_5 hb); have BK763 := Aside0.mk (hbox); have GW763 := bh hg HK; have GJ763 := gi GW763; have GE763 := Aside0.mk ((Nat.le_trans HW0.out (y0_16 : w.heap.size ≤ gb763) : w0.heap.size ≤ gb763)); have GI763 := gi GE763; replace HK := kb HK hb; have NB725_763 := b1 BK725 hg; have NI725_763 := ni NB725_763; have NB763_725 := b2 BK725 hg; have NI763_725 := ni NB763_725; replace BK725 := bk BK725 hb; have NB726_763 := b1 BK726 hg; have NI726_763 := ni NB726_763; have NB763_726 := b2 BK726 hg; have NI763_726 := ni NB763_726; replace BK726 := bk BK726 hb; have NB737_763 := b1 BK737 hg; have NI737_763 := ni NB737_763; have NB763_737 := b2 BK737 hg; have NI763_737 := ni NB763_737; replace BK737 := bk BK737 hb
    have NB0_763 := Aside0.mk ((by rw [hg]; exact Nat.ne_of_lt (IsS124.lt (show IsS124 w0 _ g s0_0 t742 t743 from y0_4)) : g ≠ gb763))
    have NI0_763 := ni NB0_763
    have NB763_0 := Aside0.mk ((by rw [hg]; exact Nat.ne_of_gt (IsS124.lt (show IsS124 w0 _ g s0_0 t742 t743 from y0_4)) : gb763 ≠ g))
    have NI763_0 := ni NB763_0; replace HI0 := Aside0.mk (IsS124.below y0_4 hb); clear hb hbox hg
    refine hK.out _ _ ⟨bc0 BK725.out, bc1 BK725.out, bc0 BK737.out, bc1 BK737.out, bc2 BK737.out⟩ (fun hHeld => ?_)
    clear hK K
    refine nA (some 8) ?_
    refine oA 6 (some 34) (bz 17 0x427f) HT_ (fun K hK => ?_)
    refine gA Tryz.func114 #[.pointer (some ⟨g, 0, none⟩), .int .i64 4] ?_
    with_reducible refine (spec_l1Below.calls g s0_0 t742 t743 4 t753 t754 t755 w0 _ ?side1 ?side2 A25.out).mono ?_
    (case side1 => repeat (first | (with_reducible first | exact HI0.out | apply IsS124.alloc | apply IsS124.drewN | apply IsS124.drew | apply IsS124.set_1 | apply IsS124.set_2 | refine IsS124.far ?_ NeI.out _) | exact HI0.out))
    (case side2 => repeat (first | (with_reducible first | exact HB.out | apply below_alloc | apply pw_below_drewN | apply below_drew1 | refine below_set ?_ (IsS124.ge HI0.out) | refine below_set ?_ GeI.out) | exact HB.out))
    rintro e w31 ⟨rfl, hi, hb, hk⟩
    refine ⟨_, rfl, ?_⟩
    replace HO_6 := Aside0.mk (Kd.R_mono (Kd.R_keep (IsS124.apart (show IsS124 w0 _ g s0_0 t742 t743 from y0_4) (rI HO_6.out) (by decide)) hk (fun _ h => h.2)) (fun _ h => h.1))
    replace HO_738002 := Aside0.mk (Kd.R_mono (Kd.R_keep (IsS124.apart (show IsS124 w0 _ g s0_0 t742 t743 from y0_4) (rI HO_738002.out) (by decide)) hk (fun _ h => h.2)) (fun _ h => h.1))
    replace BK725 := bq BK725 hk NB725_0; replace BK726 := bq BK726 hk NB726_0; replace BK737 := bq BK737 hk NB737_0; replace BK763 := bq BK763 hk NB763_0; replace HK := kt HK hk; replace HB := Aside0.mk (hb); replace HI0 := Aside0.mk (hi)
    (try clear hb)
    (try clear hb2)
    (try clear hk)
    (try clear hi)
    refine hK.out _ _ ⟨bc0 BK725.out, bc1 BK725.out, bc0 BK737.out, bc1 BK737.out, bc2 BK737.out⟩ (fun hHeld => ?_)
    clear hK K
    refine nA (some 34) ?_
    refine pA 7 (some 35) (bz 17 0x42ff) HT_ ?_
    refine pA 8 (some 36) (bz 17 0x43ff) HT_ ?_
    refine oA 10 (some 38) (bz 17 0x47ff) HT_ (fun K hK => ?_)
    refine gA Tryz.func30 #[.agg #[.int .i64 a1_0, .int .i64 a1_1], .agg #[.int .i64 t730, .string t731, .slice Ao14 t732.length co14], .int .i64 (wrap64 ((wrap64 (t730 + 1)) + (wrap64 (Int.tdiv t753 3)))), .slice Ao28 x6_1.length co28] ?_
    with_reducible refine (spec_BlockNew.calls k1 a1_0 a1_1 t730 t731 _ _ t732 (wrap64 ((wrap64 (t730 + 1)) + (wrap64 (Int.tdiv t753 3)))) _ _ x6_1 t756 t757 t758 t759 t762 _ ?side1 ?side2 ?side3 ?side4 A26.out).mono ?_
    (case side1 => repeat (first | exact (Kd.R_reads' HO_738002.out).2.2 | (with_reducible refine Kd.C_alloc ?_ _) | (with_reducible refine Kd.C_drewN ?_ _) | (with_reducible refine Kd.C_drew ?_)))
    (case side2 => exact (Kd.R_reads' HO_738002.out).2.1)
    (case side3 => repeat (first | exact (Kd.R_reads' HO_6.out).2.2 | (with_reducible refine Kd.C_alloc ?_ _) | (with_reducible refine Kd.C_drewN ?_ _) | (with_reducible refine Kd.C_drew ?_)))
    (case side4 => exact (Kd.R_reads' HO_6.out).2.1)
    rintro e w32 ⟨v760, rfl, ho0, hb⟩
    refine ⟨_, rfl, ?_⟩
    replace HO_6 := rb HO_6 hb; have HO761 := Aside0.mk (Kd.R_lower (Kd.R_new' ho0 (Kd.R_lt (rI HO_738002.out))) (keep_size (w := w) (g := g) (row := none) (hI HK.out))); replace HO_738002 := Aside0.mk (Kd.R_elder' (rI HO_738002.out) (Kd.R_base ho0) hb); replace BK725 := bk BK725 hb; replace BK726 := bk BK726 hb; replace BK737 := bk BK737 hb; replace BK763 := bk BK763 hb; replace HK := kb HK hb; replace HB : Aside0 (Below w0.heap.size w0 _) := Aside0.mk (below_step y0_5 hb); replace HI0 := Aside0.mk (IsS124.below y0_4 hb)
    (try clear hb)
    (try clear hb2)
    (try clear hk)
    (try clear hi)
    (try clear ho0)
    refine hK.out _ _ ⟨bc0 BK725.out, bc1 BK725.out, bc0 BK737.out, bc1 BK737.out, bc2 BK737.out⟩ (fun hHeld => ?_)
    clear hK K
    refine nA (some 38) ?_
    refine pA 11 (some 27) (bz 17 0x4fff) HT_ ?_
    refine pA 12 (some 39) (bz 17 0x5fff) HT_ ?_
    refine pA 13 (some 40) (bz 17 0x7fff) HT_ ?_
    exact norm_ y0_13 (hCont (v760, gb763) _ ⟨hHeld, (rI (Kd.R_mono HO761.out (fun _ hk => hk.2))), (rI HO_6.out), (rI (Kd.R_mono HO_738002.out (fun _ hk => hk.2))), (kI BK725.out), (kI BK726.out), (kI BK737.out), (kI BK763.out), GW763.out, GE763.out, NB0_763.out, NB763_0.out, NB725_763.out, NB763_725.out, NB726_763.out, NB763_726.out, NB737_763.out, NB763_737.out, y0_4, (hI HK.out), y0_5⟩)
   rintro ⟨v760, gb763⟩ w33 ⟨hS_, h0_, h1_, h2_, h3_, h4_, h5_, h6_, h7_, h8_, h9_, h10_, h11_, h12_, h13_, h14_, h15_, h16_, h17_, h18_, h19_⟩
   try dsimp only at h0_ h1_ h2_ h3_ h4_ h5_ h6_ h7_ h8_ h9_ h10_ h11_ h12_ h13_ h14_ h15_ h16_ h17_ h18_ h19_
   have n0_ := Aside0.mk h0_; have n1_ := Aside0.mk h1_; have n2_ := Aside0.mk h2_; have n3_ := Aside0.mk h3_; have n4_ := Aside0.mk h4_; have n5_ := Aside0.mk h5_; have n6_ := Aside0.mk h6_; have n7_ := Aside0.mk h7_; have n8_ := Aside0.mk h8_; have n9_ := Aside0.mk h9_; have n10_ := Aside0.mk h10_; have n11_ := Aside0.mk h11_; have n12_ := Aside0.mk h12_; have n13_ := Aside0.mk h13_; have n14_ := Aside0.mk h14_; have n15_ := Aside0.mk h15_; have n16_ := Aside0.mk h16_; have n17_ := Aside0.mk h17_; have n18_ := Aside0.mk h18_; have n19_ := Aside0.mk h19_; clear HO_6; clear HO_738002; clear BK725; clear BK726; clear BK737; clear HI0; clear HK; clear HB; clear h0_ h1_ h2_ h3_ h4_ h5_ h6_ h7_ h8_ h9_ h10_ h11_ h12_ h13_ h14_ h15_ h16_ h17_ h18_ h19_; have HO761 := n0_; have HO_6 := n1_; have HO_738002 := n2_; have BK725 := n3_; have BK726 := n4_; have BK737 := n5_; have BK763 := n6_; have GW763 := n7_; have GJ763 := gi GW763; have GE763 := n8_; have GI763 := gi GE763; have NB0_763 := n9_; have NI0_763 := ni NB0_763; have NB763_0 := n10_; have NI763_0 := ni NB763_0; have NB725_763 := n11_; have NI725_763 := ni NB725_763; have NB763_725 := n12_; have NI763_725 := ni NB763_725; have NB726_763 := n13_; have NI726_763 := ni NB726_763; have NB763_726 := n14_; have NI763_726 := ni NB763_726; have NB737_763 := n15_; have NI737_763 := ni NB737_763; have NB763_737 := n16_; have NI763_737 := ni NB763_737; have HI0 := n17_; have HK := n18_; have HB := n19_; clear n0_ n1_ n2_ n3_ n4_ n5_ n6_ n7_ n8_ n9_ n10_ n11_ n12_ n13_ n14_ n15_ n16_ n17_ n18_ n19_
   have hHeld : w33.cell? ⟨gb725, 0, none⟩ = some (.int .i64 a1_0) ∧ w33.cell? ⟨gb725, 1, none⟩ = some (.int .i64 a1_1) ∧ w33.cell? ⟨gb737, 0, none⟩ = some (.int .i64 t730) ∧ w33.cell? ⟨gb737, 1, none⟩ = some (.string t731) ∧ w33.cell? ⟨gb737, 2, none⟩ = some (.slice Ao14 t732.length co14) := hS_; obtain ⟨Ao37, co37, eo37⟩ := Kd.R_slice HO761.out
   (first | subst eo37 | (injection eo37 with f1_ f2_ f3_; have f4_ := f1_.symm; have f5_ := f3_.symm; clear f1_ f2_ f3_; subst f4_; subst f5_))
   refine norm_ (a' := ?_) ?_ ?_
   rotate_left
   ·
    simp only [putAll, Act.put, List.setIfInBounds_toArray, List.set_cons_zero, List.set_cons_succ]
    rfl
   refine oA 15 none (bz 17 0xffff) HT_ (fun K hK => ?_)
   have hs34 : w33.cell? ⟨gb763, 0, none⟩ = some (.string (⟨#[]⟩ : ByteArray)) := bc0 BK763.out; have hfs34 := blk_frozen BK763.out 0; have hns34_0 := NB725_763.out; have hns34_1 := NB726_763.out; have hns34_2 := NB737_763.out; have hms34_0 := NB763_725.out; have hms34_1 := NB763_726.out; have hms34_2 := NB763_737.out; have hs35 : w33.cell? ⟨gb763, 1, none⟩ = some (.int .i64 0) := bc1 BK763.out; have hfs35 := blk_frozen BK763.out 1; have hns35_0 := NB725_763.out; have hns35_1 := NB726_763.out; have hns35_2 := NB737_763.out; have hms35_0 := NB763_725.out; have hms35_1 := NB763_726.out; have hms35_2 := NB763_737.out; have hs36 : w33.cell? ⟨gb763, 2, none⟩ = some (.string (⟨#[]⟩ : ByteArray)) := bc2 BK763.out; have hfs36 := blk_frozen BK763.out 2; have hns36_0 := NB725_763.out; have hns36_1 := NB726_763.out; have hns36_2 := NB737_763.out; have hms36_0 := NB763_725.out; have hms36_1 := NB763_726.out; have hms36_2 := NB763_737.out; have hs38 : w33.cell? ⟨gb763, 3, none⟩ = some (.slice none 0 0) := bc3 BK763.out; have hfs38 := blk_frozen BK763.out 3; have hns38_0 := NB725_763.out; have hns38_1 := NB726_763.out; have hns38_2 := NB737_763.out; have hms38_0 := NB763_725.out; have hms38_1 := NB763_726.out; have hms38_2 := NB763_737.out
   refine skip_ (w1 := ?_) (by rfl) rfl ?_ ?_
   rotate_left
   ·
    go_simp
    rfl
   refine hK.out _ _ ⟨((cell_far (p := ⟨gb763, _, none⟩) NB725_763.out _).trans (((cell_far (p := ⟨gb763, _, none⟩) NB725_763.out _).trans (((cell_far (p := ⟨gb763, _, none⟩) NB725_763.out _).trans (((cell_far (p := ⟨gb763, _, none⟩) NB725_763.out _).trans (hHeld.1)))))))), ((cell_far (p := ⟨gb763, _, none⟩) NB725_763.out _).trans (((cell_far (p := ⟨gb763, _, none⟩) NB725_763.out _).trans (((cell_far (p := ⟨gb763, _, none⟩) NB725_763.out _).trans (((cell_far (p := ⟨gb763, _, none⟩) NB725_763.out _).trans (hHeld.2.1)))))))), ((cell_far (p := ⟨gb763, _, none⟩) NB737_763.out _).trans (((cell_far (p := ⟨gb763, _, none⟩) NB737_763.out _).trans (((cell_far (p := ⟨gb763, _, none⟩) NB737_763.out _).trans (((cell_far (p := ⟨gb763, _, none⟩) NB737_763.out _).trans (hHeld.2.2.1)))))))), ((cell_far (p := ⟨gb763, _, none⟩) NB737_763.out _).trans (((cell_far (p := ⟨gb763, _, none⟩) NB737_763.out _).trans (((cell_far (p := ⟨gb763, _, none⟩) NB737_763.out _).trans (((cell_far (p := ⟨gb763, _, none⟩) NB737_763.out _).trans (hHeld.2.2.2.1)))))))), ((cell_far (p := ⟨gb763, _, none⟩) NB737_763.out _).trans (((cell_far (p := ⟨gb763, _, none⟩) NB737_763.out _).trans (((cell_far (p := ⟨gb763, _, none⟩) NB737_763.out _).trans (((cell_far (p := ⟨gb763, _, none⟩) NB737_763.out _).trans (hHeld.2.2.2.2))))))))⟩ (fun hHeld => ?_)
   clear hK K
   refine pA 16 (some 9) (bz 17 0x1ffff) HT_ ?_
   refine done_ (done_of HT_.out (by kernel_rfl)) ?_
   have hnb39 := NB763_725.out; have hnc39 := NB725_763.out; have hnb40 := NB763_726.out; have hnc40 := NB726_763.out; have hnb41 := NB763_737.out; have hnc41 := NB737_763.out; have hnb42 := NB763_0.out; have hnc42 := NB0_763.out; have hcz43_0 := bc0 BK763.out; have hcz43_1 := bc1 BK763.out; have hcz43_2 := bc2 BK763.out; have hcz43_3 := bc3 BK763.out; have hfz43_0 := blk_frozen BK763.out 0; have hfz43_1 := blk_frozen BK763.out 1; have hfz43_2 := blk_frozen BK763.out 2; have hfz43_3 := blk_frozen BK763.out 3; have hnb44 := NB726_725.out; have hnc44 := NB725_726.out; have hnb45 := NB726_737.out; have hnc45 := NB737_726.out; have hnb46 := NB726_0.out; have hnc46 := NB0_726.out; have hcz47_0 := bc0 BK726.out; have hcz47_1 := bc1 BK726.out; have hcz47_2 := bc2 BK726.out; have hcz47_3 := bc3 BK726.out; have hfz47_0 := blk_frozen BK726.out 0; have hfz47_1 := blk_frozen BK726.out 1; have hfz47_2 := blk_frozen BK726.out 2; have hfz47_3 := blk_frozen BK726.out 3
   try go_wp2
   refine bodyPost_ret (results_cell_row rfl _ _ gb726 42 #[.string t756, .int .i64 t757, .string t758, .slice Ao37 t759.length co37] (0, 0) _ rfl (pI BK726) Tryz.underlying42 rfl (by kernel_rfl)) rfl ?_
   exact ⟨_, y0_14, by (with_reducible repeat (first | apply Kd.R_alloc | apply Kd.R_drewN | apply Kd.R_drew)); exact Kd.R_mono (Kd.R_far (p := ⟨gb726, 3, none⟩) (Kd.R_far (p := ⟨gb726, 2, none⟩) (Kd.R_far (p := ⟨gb726, 1, none⟩) (Kd.R_far (p := ⟨gb726, 0, none⟩) (Kd.R_far (p := ⟨gb763, 3, none⟩) (Kd.R_far (p := ⟨gb763, 2, none⟩) (Kd.R_far (p := ⟨gb763, 1, none⟩) (Kd.R_far (p := ⟨gb763, 0, none⟩) (Kd.R_types (Kd.R_types HO761.out BK763.out (by decide)) BK726.out (by decide)) (fun _ hk => hk.1.2) (.string t756)) (fun _ hk => hk.1.2) (.int .i64 t757)) (fun _ hk => hk.1.2) (.string t758)) (fun _ hk => hk.1.2) (.slice Ao37 t759.length co37)) (fun _ hk => hk.2) (.string t756)) (fun _ hk => hk.2) (.int .i64 t757)) (fun _ hk => hk.2) (.string t758)) (fun _ hk => hk.2) (.slice Ao37 t759.length co37)) (fun _ hk => trivial), y0_4, y0_5, hI HK.out⟩

end Go.Proofs.YtemjmefacifdeaaGreatDoor.PFnEitherOrder
