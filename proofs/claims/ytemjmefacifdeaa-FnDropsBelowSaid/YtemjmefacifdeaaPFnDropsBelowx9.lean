-- By a program of this session, out of the translation (the print of the kit, with turns of its own). Lean checks it.
import Derived.Test.YtemjmefacifdeaaPFnDropsBelowx0
import Derived.Test.YtemjmefacifdeaaPFnDropsBelowx1
import Derived.Test.YtemjmefacifdeaaPFnDropsBelowx2
import Derived.Test.YtemjmefacifdeaaPFnDropsBelowx3
import Derived.Test.YtemjmefacifdeaaPFnDropsBelowx5
import Derived.Test.YtemjmefacifdeaaPFnDropsBelowx8
namespace Go.Proofs.Ytemjmefacifdeaa.PFnDropsBelow
open Go.RowKit Go.Proofs.YtemjmefacifdeaaW.PrintWords Go.Proofs.YtemjmefacifdeaaW.PrintLast Go.Proofs.YtemjmefacifdeaaW.PrintMore
attribute [local go_sem] max2_int min2_int max_two min_two max_three min_three max_four min_four   -- for this text's walks alone
set_option linter.unusedVariables false
set_option linter.unusedSimpArgs false

/-! ### spec_l2DrawRight: function 75 -/
def spec_l2DrawRight.f (s0_0 : List Int) (s0_1 : Int) (s0_2 : Int) : Option (Int × Int × Int × Int × Int × Int) := (spec_l1Below.f s0_0 s0_1 s0_2 4).bind fun bt375 => ((spec_l1Below.f s0_0 bt375.2.1 bt375.2.2 4).bind fun bt378 => ((spec_l1PickInt.f s0_0 bt378.2.1 bt378.2.2 (([0, 5, 60, 100, 1000] : List Int))).bind fun bt384 => ((spec_l1Below.f s0_0 bt384.2.1 bt384.2.2 3).bind fun bt387 => (some (bt375.1, bt378.1, bt384.1, bt387.1, bt387.2.1, bt387.2.2)))))
set_option maxHeartbeats 8000000 in
set_option maxRecDepth 100000 in
theorem spec_l2DrawRight.calls (g : Nat) (s0_0 : List Int) (s0_1 : Int) (s0_2 : Int) (r1 : Int) (r2 : Int) (r3 : Int) (r4 : Int) (r5 : Int) (r6 : Int) (w0 w : World) (hI : IsS68 w0 w g s0_0 s0_1 s0_2) (hB : Below w0.heap.size w0 w) (h : spec_l2DrawRight.f s0_0 s0_1 s0_2 = some (r1, r2, r3, r4, r5, r6)) :
  Calls Try.prog 75 #[.pointer (some ⟨g, 0, none⟩)] w fun e w' => e = .returned (.agg #[.int .i64 r1, .int .i64 r2, .int .i64 r3, .int .i64 r4]) ∧ IsS68 w0 w' g s0_0 r5 r6 ∧ Below w0.heap.size w0 w' ∧ KeepBut w w' g none := by
 have hu87 := Try.underlying87; have HI0 := Aside0.mk hI; have HK := Aside0.mk (KeepBut.refl w g none); have HL := Aside0.mk hB.size; clear hI; have HW0 := Aside0.mk hB.size; have HB := Aside0.mk hB; clear hB
 have H : ((spec_l1Below.f s0_0 s0_1 s0_2 4).bind fun bt375 => ((spec_l1Below.f s0_0 bt375.2.1 bt375.2.2 4).bind fun bt378 => ((spec_l1PickInt.f s0_0 bt378.2.1 bt378.2.2 (([0, 5, 60, 100, 1000] : List Int))).bind fun bt384 => ((spec_l1Below.f s0_0 bt384.2.1 bt384.2.2 3).bind fun bt387 => (some (bt375.1, bt378.1, bt384.1, bt387.1, bt387.2.1, bt387.2.2)))))) = some (r1, r2, r3, r4, r5, r6) := h
 clear h; obtain ⟨⟨t375, t376, t377⟩, A20, H⟩ := Option.bind_eq_some_iff.mp H
 try dsimp only at H
 have A2 := Aside0.mk A20; clear A20; obtain ⟨⟨t378, t379, t380⟩, A30, H⟩ := Option.bind_eq_some_iff.mp H
 try dsimp only at H
 have A3 := Aside0.mk A30; clear A30; obtain ⟨y381, hy381⟩ : ∃ y_ : List Int, y_ = (([0, 5, 60, 100, 1000] : List Int)) := ⟨_, rfl⟩
 replace H : ((spec_l1PickInt.f s0_0 t379 t380 y381).bind fun bt384 => ((spec_l1Below.f s0_0 bt384.2.1 bt384.2.2 3).bind fun bt387 => (some (t375, t378, bt384.1, bt387.1, bt387.2.1, bt387.2.2)))) = some (r1, r2, r3, r4, r5, r6) := by first | (rw [hy381]; with_reducible exact H) | (have H2_ := (Option.bind_some _ _).symm.trans H; rw [hy381]; with_reducible exact H2_) | (have H2_ := (Option.bind_some _ _).symm.trans H; with_reducible exact H2_) | with_reducible exact H | (rw [hy381]; exact H) | exact H
 have Ny381 := Aside0.mk hy381; clear hy381; obtain ⟨⟨t384, t385, t386⟩, A40, H⟩ := Option.bind_eq_some_iff.mp H
 try dsimp only at H
 have A4 := Aside0.mk A40; clear A40; obtain ⟨⟨t387, t388, t389⟩, A50, H⟩ := Option.bind_eq_some_iff.mp H
 try dsimp only at H
 have A5 := Aside0.mk A50; clear A50
 simp only [Option.some.injEq, Prod.mk.injEq] at H
 obtain ⟨rfl, rfl, rfl, rfl, rfl, rfl⟩ := H
 go_enter Try.func75, Try.ntmps75
 go_wp2_with (first | ((with_reducible refine gd 2 ?_); refine bA 2 #[.int .i64 0, .int .i64 0, .int .i64 0, .int .i64 0] 87 ?_; intro gb374 hg w6 hbox hb; replace HB := Aside0.mk (below_step y0_8 hb); have BK374 := Aside0.mk (hbox); have GW374 := bh hg HK; have GJ374 := gi GW374; have GE374 := Aside0.mk ((Nat.le_trans HW0.out (y0_17 : w.heap.size ≤ gb374) : w0.heap.size ≤ gb374)); have GI374 := gi GE374; replace HK := kb HK hb; have NB0_374 := Aside0.mk ((y0_4 : g ≠ gb374)); have NI0_374 := ni NB0_374; have NB374_0 := Aside0.mk ((y0_5 : gb374 ≠ g)); have NI374_0 := ni NB374_0; replace HI0 := Aside0.mk (IsS68.below y0_9 hb); clear hb hbox hg) | ((with_reducible refine gate_callee (f := 44) rfl ?_); refine gB (some 4) Try.func44 #[.pointer (some ⟨g, 0, none⟩), .int .i64 4] ?_; (with_reducible refine (spec_l1Below.calls g s0_0 s0_1 s0_2 4 t375 t376 t377 w0 _ ?side1 ?side2 A2.out).mono ?_); (case side1 => repeat (first | (with_reducible first | exact HI0.out | apply IsS68.alloc | apply IsS68.drewN | apply IsS68.drew | apply IsS68.set_1 | apply IsS68.set_2 | refine IsS68.far ?_ NeI.out _) | exact HI0.out)); (case side2 => repeat (first | (with_reducible first | exact HB.out | apply below_alloc | apply pw_below_drewN | apply below_drew1 | refine below_set ?_ (IsS68.ge HI0.out) | refine below_set ?_ GeI.out) | exact HB.out)); rintro e w7 ⟨rfl, hi, hb, hk⟩; refine ⟨_, rfl, ?_⟩; replace BK374 := bq BK374 hk NB374_0; replace HK := kt HK hk; replace HB := Aside0.mk (hb); replace HI0 := Aside0.mk (hi); (try clear hb); (try clear hb2); (try clear hk); (try clear hi)) | ((with_reducible refine gate_callee (f := 44) rfl ?_); refine gB (some 6) Try.func44 #[.pointer (some ⟨g, 0, none⟩), .int .i64 4] ?_; (with_reducible refine (spec_l1Below.calls g s0_0 t376 t377 4 t378 t379 t380 w0 _ ?side1 ?side2 A3.out).mono ?_); (case side1 => repeat (first | (with_reducible first | exact HI0.out | apply IsS68.alloc | apply IsS68.drewN | apply IsS68.drew | apply IsS68.set_1 | apply IsS68.set_2 | refine IsS68.far ?_ NeI.out _) | exact HI0.out)); (case side2 => repeat (first | (with_reducible first | exact HB.out | apply below_alloc | apply pw_below_drewN | apply below_drew1 | refine below_set ?_ (IsS68.ge HI0.out) | refine below_set ?_ GeI.out) | exact HB.out)); rintro e w8 ⟨rfl, hi, hb, hk⟩; refine ⟨_, rfl, ?_⟩; replace BK374 := bq BK374 hk NB374_0; replace HK := kt HK hk; replace HB := Aside0.mk (hb); replace HI0 := Aside0.mk (hi); (try clear hb); (try clear hb2); (try clear hk); (try clear hi)) | ((with_reducible refine gate_dst (N := 8) rfl ?_); refine Kd.R_lit (Kd.int .i64) _ 3 ?hg (N := 8) ?hd (xs := ([0, 5, 60, 100, 1000] : List Int)) (inner := [.int .i64 0, .int .i64 5, .int .i64 60, .int .i64 100, .int .i64 1000]) (ok := fun _ => True) (okp := fun _ => True) ?hr ?hp (fun _ hk => hk) trivial (Below.refl _ _) (Nat.le_refl _) (by simp) ?_; (case hd => rfl); (case hg => rfl); (case hr => first | (go_simp; done) | (go_simp; rfl)); (case hp => exact (Reps.one (show Kd.M (Kd.int .i64) _ _ _ 0 [.int .i64 0] from rfl) (Reps.one (show Kd.M (Kd.int .i64) _ _ _ 5 [.int .i64 5] from rfl) (Reps.one (show Kd.M (Kd.int .i64) _ _ _ 60 [.int .i64 60] from rfl) (Reps.one (show Kd.M (Kd.int .i64) _ _ _ 100 [.int .i64 100] from rfl) (Reps.one (show Kd.M (Kd.int .i64) _ _ _ 1000 [.int .i64 1000] from rfl) (Reps.none _ _))))))); intro v382 w9 ho10 hb hg_ hnew_; clear hg_ hnew_; (first | rw [← Ny381.out] at ho10 | (simp only [Int.reduceToNat] at ho10; rw [← Ny381.out] at ho10)); have HO383 := Aside0.mk (Kd.R_lower ho10 (keep_size (w := w) (g := g) (row := none) (hI HK.out))); replace BK374 := bk BK374 hb; replace HK := kb HK hb; replace HB := Aside0.mk (below_step y0_6 hb); replace HI0 := Aside0.mk (IsS68.below y0_7 hb); clear hb ho10; obtain ⟨Ao11, co11, eo11⟩ := Kd.R_slice HO383.out; subst eo11) | ((with_reducible refine gate_callee (f := 50) rfl ?_); refine gB (some 9) Try.func50 #[.pointer (some ⟨g, 0, none⟩), .slice Ao11 y381.length co11] ?_; (with_reducible refine (spec_l1PickInt.calls g s0_0 t379 t380 _ _ y381 t384 t385 t386 w0 _ ?side1 ?side2 ?side3 ?side4 ?side5 A4.out).mono ?_); (case side1 => repeat (first | (with_reducible first | exact HI0.out | apply IsS68.alloc | apply IsS68.drewN | apply IsS68.drew | apply IsS68.set_1 | apply IsS68.set_2 | refine IsS68.far ?_ NeI.out _) | exact HI0.out)); (case side2 => repeat (first | (with_reducible first | exact HB.out | apply below_alloc | apply pw_below_drewN | apply below_drew1 | refine below_set ?_ (IsS68.ge HI0.out) | refine below_set ?_ GeI.out) | exact HB.out)); (case side3 => repeat (first | exact (Kd.R_reads' HO383.out).2.2 | (with_reducible refine Kd.C_alloc ?_ _) | (with_reducible refine Kd.C_drewN ?_ _) | (with_reducible refine Kd.C_drew ?_))); (case side4 => exact (Kd.R_reads' HO383.out).2.1); (case side5 => exact far_slice (IsS68.own_ne HI0.out HO383.out (by decide))); rintro e w12 ⟨rfl, hi, hb, hk⟩; refine ⟨_, rfl, ?_⟩; replace BK374 := bq BK374 hk NB374_0; replace HO383 := Aside0.mk (Kd.R_mono (Kd.R_keep (IsS68.apart (show IsS68 w0 _ g s0_0 t379 t380 from y0_7) (rI HO383.out) (by decide)) hk (fun _ h => h.2)) (fun _ h => h.1)); replace HK := kt HK hk; replace HB := Aside0.mk (hb); replace HI0 := Aside0.mk (hi); (try clear hb); (try clear hb2); (try clear hk); (try clear hi)) | ((with_reducible refine gate_callee (f := 44) rfl ?_); refine gB (some 11) Try.func44 #[.pointer (some ⟨g, 0, none⟩), .int .i64 3] ?_; (with_reducible refine (spec_l1Below.calls g s0_0 t385 t386 3 t387 t388 t389 w0 _ ?side1 ?side2 A5.out).mono ?_); (case side1 => repeat (first | (with_reducible first | exact HI0.out | apply IsS68.alloc | apply IsS68.drewN | apply IsS68.drew | apply IsS68.set_1 | apply IsS68.set_2 | refine IsS68.far ?_ NeI.out _) | exact HI0.out)); (case side2 => repeat (first | (with_reducible first | exact HB.out | apply below_alloc | apply pw_below_drewN | apply below_drew1 | refine below_set ?_ (IsS68.ge HI0.out) | refine below_set ?_ GeI.out) | exact HB.out)); rintro e w13 ⟨rfl, hi, hb, hk⟩; refine ⟨_, rfl, ?_⟩; replace BK374 := bq BK374 hk NB374_0; replace HO383 := Aside0.mk (Kd.R_mono (Kd.R_keep (IsS68.apart (show IsS68 w0 _ g s0_0 t385 t386 from y0_7) (rI HO383.out) (by decide)) hk (fun _ h => h.2)) (fun _ h => h.1)); replace HK := kt HK hk; replace HB := Aside0.mk (hb); replace HI0 := Aside0.mk (hi); (try clear hb); (try clear hb2); (try clear hk); (try clear hi); have hnb14 := NB374_0.out; have hnc14 := NB0_374.out; obtain ⟨hcz15_0, hcz15_1, hcz15_2, hcz15_3, hfz15_0, hfz15_1, hfz15_2, hfz15_3⟩ := cs4 BK374))
 refine bodyPost_ret (results_cell_row rfl _ _ gb374 87 #[.int .i64 t375, .int .i64 t378, .int .i64 t384, .int .i64 t387] (0, 0) _ rfl (pI BK374) Try.underlying87 rfl (by kernel_rfl)) rfl ?_
 exact ⟨y0_16, y0_7, y0_6, hI HK.out⟩

/-! ### spec_TxsText: function 81 -/
def spec_TxsText.l0 : Nat → List (S87) → ByteArray → Int → Option (ByteArray)
 | 0, _, _, _ => none
 | k + 1, x0, x3, x4 => if x4 < (x0.length : Int) then (if 0 ≤ x4 then ((spec_TxOk.f ((rd_T87 x0 x4).f0) ((rd_T87 x0 x4).f1) ((rd_T87 x0 x4).f2) ((rd_T87 x0 x4).f3)).bind fun t391 => (if t391 = true then (if x4 > 0 then (if x3.size + 1 ≤ 9223372036854775807 then ((spec_TxText.f k ((rd_T87 x0 x4).f0) ((rd_T87 x0 x4).f1) ((rd_T87 x0 x4).f2) ((rd_T87 x0 x4).f3)).bind fun t393 => (if (x3 ++ (⟨#[44]⟩ : ByteArray)).size + t393.size ≤ 9223372036854775807 then (spec_TxsText.l0 k x0 ((x3 ++ (⟨#[44]⟩ : ByteArray)) ++ t393) (wrap64 (x4 + 1))) else (none))) else (none)) else ((spec_TxText.f k ((rd_T87 x0 x4).f0) ((rd_T87 x0 x4).f1) ((rd_T87 x0 x4).f2) ((rd_T87 x0 x4).f3)).bind fun t395 => (if x3.size + t395.size ≤ 9223372036854775807 then (spec_TxsText.l0 k x0 (x3 ++ t395) (wrap64 (x4 + 1))) else (none)))) else (some (⟨#[]⟩ : ByteArray)))) else (none)) else (some x3)
def spec_TxsText.f (k : Nat) (l0 : List (S87)) : Option (ByteArray) := spec_TxsText.l0 k l0 (⟨#[]⟩ : ByteArray) 0
theorem spec_TxsText.mono_l : ∀ k, (∀ y0 y1 y2, LeO (spec_TxsText.l0 k y0 y1 y2) (spec_TxsText.l0 (k + 1) y0 y1 y2))
 | 0 => fun _ _ _ r h => by simp [spec_TxsText.l0] at h
 | k + 1 => by
  have ih0 := spec_TxsText.mono_l k
  intro y0 y1 y2
  unfold spec_TxsText.l0
  repeat' first | (with_reducible exact ih0 _ _ _) | (with_reducible exact spec_TxText.mono _ _ _ _ _) | (with_reducible exact LeO.refl _) | (with_reducible exact LeO.none _) | (with_reducible refine LeO.ite ?_ ?_) | (with_reducible refine LeO.bind ?_ (fun _ => ?_))
theorem spec_TxsText.mono : ∀ a0 k, LeO (spec_TxsText.f k a0) (spec_TxsText.f (k + 1) a0) := by
 intro a0 k
 have ih0 := spec_TxsText.mono_l k
 unfold spec_TxsText.f
 repeat' first | (with_reducible exact ih0 _ _ _) | (with_reducible exact spec_TxText.mono _ _ _ _ _) | (with_reducible exact LeO.refl _) | (with_reducible exact LeO.none _) | (with_reducible refine LeO.ite ?_ ?_) | (with_reducible refine LeO.bind ?_ (fun _ => ?_))
set_option maxHeartbeats 8000000 in
set_option maxRecDepth 100000 in
theorem spec_TxsText.calls (k : Nat) (A0 : Option Addr) (c0 : Nat) (l0 : List (S87)) (r : ByteArray) (w : World) (hr0 : Kd.C k87 w A0 l0.length l0) (hc0 : l0.length ≤ c0) (h : spec_TxsText.f k l0 = some r) :
  Calls Try.prog 81 #[.slice A0 l0.length c0] w fun e w' => e = .returned (.string r) ∧ Below w.heap.size w w' := by
 have hu87 := Try.underlying87; have HR0 := Aside0.mk hr0; have HC0 := Aside0.mk hc0; clear hr0 hc0; have HB := Aside0.mk (Below.refl w.heap.size w); have H : (spec_TxsText.l0 k l0 (⟨#[]⟩ : ByteArray) 0) = some r := h; clear h; have H' := Aside0.mk H; clear H
 go_enter Try.func81, Try.ntmps81
 go_wp2
 go_loopg [3, 4] k (fun kq v3 v4 w' => ∃ (x3_1 : ByteArray) (x4_1 : Int), v3 = .string x3_1 ∧ v4 = .int .i64 x4_1 ∧ Aside0 (spec_TxsText.l0 kq l0 x3_1 x4_1 = some r) ∧ Aside0 (kq ≤ k) ∧ Aside0 (Below w.heap.size w w'))
 case atStart => exact ⟨((⟨#[]⟩ : ByteArray)), (0), y0_21, y0_21, H', ⟨Nat.le_refl _⟩, ⟨bI HB.out⟩⟩
 case round =>
  clear H'; obtain ⟨x3_1, x4_1, rfl, rfl, HA, HK1, HB⟩ := hrel; cases gk with
  | zero => exact absurd HA.out (by simp [spec_TxsText.l0])
  | succ k1 =>
   have H := HA.out; clear HA
   simp only [spec_TxsText.l0] at H
   by_cases c2 : x4_1 < (l0.length : Int)
   ·
    rw [if_pos c2] at H
    have c2b0 : decide (x4_1 < (l0.length : Int)) = true := decide_eq_true c2; clear c2
    by_cases c3 : 0 ≤ x4_1
    rotate_left
    ·
     rw [if_neg c3] at H
     exact absurd H (by simp)
    rw [if_pos c3] at H
    have c3b0 : decide (0 ≤ x4_1) = true := decide_eq_true c3; clear c3; obtain ⟨t391, A40, H⟩ := Option.bind_eq_some_iff.mp H
    try dsimp only at H
    have A4 := Aside0.mk A40; clear A40
    by_cases c5 : t391 = true
    ·
     subst c5
     rw [if_pos rfl] at H
     by_cases c6 : x4_1 > 0
     ·
      rw [if_pos c6] at H
      have c6b0 : decide (0 < x4_1) = true := decide_eq_true c6; clear c6
      by_cases c7 : x3_1.size + 1 ≤ 9223372036854775807
      rotate_left
      ·
       rw [if_neg c7] at H
       exact absurd H (by simp)
      rw [if_pos c7] at H
      have c7b0 := eq_true c7; have c7b1 : decide (x3_1.size + 1 ≤ 9223372036854775807) = true := decide_eq_true c7
      try have c7b2 : (9223372036854775807 < x3_1.size + 1) = False := eq_false (Nat.not_lt.2 c7)
      obtain ⟨t393, A80, H⟩ := Option.bind_eq_some_iff.mp H
      try dsimp only at H
      have A8 := Aside0.mk A80; clear A80
      by_cases c9 : (x3_1 ++ (⟨#[44]⟩ : ByteArray)).size + t393.size ≤ 9223372036854775807
      rotate_left
      ·
       rw [if_neg c9] at H
       exact absurd H (by simp)
      rw [if_pos c9] at H
      have c9b0 := eq_true c9; have c9b1 : decide ((x3_1 ++ (⟨#[44]⟩ : ByteArray)).size + t393.size ≤ 9223372036854775807) = true := decide_eq_true c9
      try have c9b2 : (9223372036854775807 < (x3_1 ++ (⟨#[44]⟩ : ByteArray)).size + t393.size) = False := eq_false (Nat.not_lt.2 c9)
      (try have c9b3 : (9223372036854775807 < x3_1.size + 1 + t393.size) = False := eq_false (by have h_ := c9; simp only [ByteArray.size_append, ByteArray.size_extract, show (⟨#[44]⟩ : ByteArray).size = 1 from rfl] at h_; omega))
      have H' := Aside0.mk H; clear H; have p390 : 0 ≤ (x4_1 : Int) := of_decide_eq_true y0_20; have q390 : x4_1 < (l0.length : Int) := of_decide_eq_true y0_20; obtain ⟨ad390, e390, hx390_0, hx390_1, hx390_2, hx390_3⟩ := at_T87 HR0.out x4_1 p390 q390; cases e390; replace hx390_0 := bx HB hx390_0; replace hx390_1 := bx HB hx390_1; replace hx390_2 := bx HB hx390_2; replace hx390_3 := bx HB hx390_3; replace p390 := eq_true p390; replace q390 := eq_true q390
      go_wp2_with (first | ((with_reducible refine gate_callee (f := 80) rfl ?_); refine gB (some 15) Try.func80 #[.agg #[.int .i64 ((rd_T87 l0 x4_1).f0), .int .i64 ((rd_T87 l0 x4_1).f1), .int .i64 ((rd_T87 l0 x4_1).f2), .int .i64 ((rd_T87 l0 x4_1).f3)]] ?_; (with_reducible refine (spec_TxOk.calls ((rd_T87 l0 x4_1).f0) ((rd_T87 l0 x4_1).f1) ((rd_T87 l0 x4_1).f2) ((rd_T87 l0 x4_1).f3) true _ A4.out).mono ?_); rintro e w10 ⟨rfl, hb⟩; refine ⟨_, rfl, ?_⟩; replace HB := bs HB hb; (try clear hb); (try clear hb2); (try clear hk); (try clear hi); have p392 : 0 ≤ (x4_1 : Int) := of_decide_eq_true y0_20; have q392 : x4_1 < (l0.length : Int) := of_decide_eq_true y0_20; obtain ⟨ad392, e392, hx392_0, hx392_1, hx392_2, hx392_3⟩ := at_T87 HR0.out x4_1 p392 q392; obtain rfl : ad390 = ad392 := (by injection e392); replace hx392_0 := bx HB hx392_0; replace hx392_1 := bx HB hx392_1; replace hx392_2 := bx HB hx392_2; replace hx392_3 := bx HB hx392_3; replace p392 := eq_true p392; replace q392 := eq_true q392) | ((with_reducible refine gate_callee (f := 87) rfl ?_); refine gB (some 26) Try.func87 #[.agg #[.int .i64 ((rd_T87 l0 x4_1).f0), .int .i64 ((rd_T87 l0 x4_1).f1), .int .i64 ((rd_T87 l0 x4_1).f2), .int .i64 ((rd_T87 l0 x4_1).f3)]] ?_; (with_reducible refine (spec_TxText.calls k1 ((rd_T87 l0 x4_1).f0) ((rd_T87 l0 x4_1).f1) ((rd_T87 l0 x4_1).f2) ((rd_T87 l0 x4_1).f3) t393 _ A8.out).mono ?_); rintro e w11 ⟨rfl, hb⟩; refine ⟨_, rfl, ?_⟩; replace HB := bs HB hb; (try clear hb); (try clear hb2); (try clear hk); (try clear hi)))
      go_roundg k1
      case measure => have := HK1.out; omega
      case rel => exact ⟨((x3_1 ++ (⟨#[44]⟩ : ByteArray)) ++ t393), (wrap64 (x4_1 + 1)), y0_21, y0_21, H', ⟨y0_25⟩, ⟨bI HB.out⟩⟩
     rw [if_neg c6] at H
     have c6b0 : decide (0 < x4_1) = false := decide_eq_false c6; clear c6; obtain ⟨t395, A120, H⟩ := Option.bind_eq_some_iff.mp H
     try dsimp only at H
     have A12 := Aside0.mk A120; clear A120
     by_cases c13 : x3_1.size + t395.size ≤ 9223372036854775807
     rotate_left
     ·
      rw [if_neg c13] at H
      exact absurd H (by simp)
     rw [if_pos c13] at H
     have c13b0 := eq_true c13; have c13b1 : decide (x3_1.size + t395.size ≤ 9223372036854775807) = true := decide_eq_true c13
     try have c13b2 : (9223372036854775807 < x3_1.size + t395.size) = False := eq_false (Nat.not_lt.2 c13)
     have H' := Aside0.mk H; clear H; have p390 : 0 ≤ (x4_1 : Int) := of_decide_eq_true y0_20; have q390 : x4_1 < (l0.length : Int) := of_decide_eq_true y0_20; obtain ⟨ad390, e390, hx390_0, hx390_1, hx390_2, hx390_3⟩ := at_T87 HR0.out x4_1 p390 q390; cases e390; replace hx390_0 := bx HB hx390_0; replace hx390_1 := bx HB hx390_1; replace hx390_2 := bx HB hx390_2; replace hx390_3 := bx HB hx390_3; replace p390 := eq_true p390; replace q390 := eq_true q390
     go_wp2_with (first | ((with_reducible refine gate_callee (f := 80) rfl ?_); refine gB (some 15) Try.func80 #[.agg #[.int .i64 ((rd_T87 l0 x4_1).f0), .int .i64 ((rd_T87 l0 x4_1).f1), .int .i64 ((rd_T87 l0 x4_1).f2), .int .i64 ((rd_T87 l0 x4_1).f3)]] ?_; (with_reducible refine (spec_TxOk.calls ((rd_T87 l0 x4_1).f0) ((rd_T87 l0 x4_1).f1) ((rd_T87 l0 x4_1).f2) ((rd_T87 l0 x4_1).f3) true _ A4.out).mono ?_); rintro e w14 ⟨rfl, hb⟩; refine ⟨_, rfl, ?_⟩; replace HB := bs HB hb; (try clear hb); (try clear hb2); (try clear hk); (try clear hi); have p394 : 0 ≤ (x4_1 : Int) := of_decide_eq_true y0_20; have q394 : x4_1 < (l0.length : Int) := of_decide_eq_true y0_20; obtain ⟨ad394, e394, hx394_0, hx394_1, hx394_2, hx394_3⟩ := at_T87 HR0.out x4_1 p394 q394; obtain rfl : ad390 = ad394 := (by injection e394); replace hx394_0 := bx HB hx394_0; replace hx394_1 := bx HB hx394_1; replace hx394_2 := bx HB hx394_2; replace hx394_3 := bx HB hx394_3; replace p394 := eq_true p394; replace q394 := eq_true q394) | ((with_reducible refine gate_callee (f := 87) rfl ?_); refine gB (some 26) Try.func87 #[.agg #[.int .i64 ((rd_T87 l0 x4_1).f0), .int .i64 ((rd_T87 l0 x4_1).f1), .int .i64 ((rd_T87 l0 x4_1).f2), .int .i64 ((rd_T87 l0 x4_1).f3)]] ?_; (with_reducible refine (spec_TxText.calls k1 ((rd_T87 l0 x4_1).f0) ((rd_T87 l0 x4_1).f1) ((rd_T87 l0 x4_1).f2) ((rd_T87 l0 x4_1).f3) t395 _ A12.out).mono ?_); rintro e w15 ⟨rfl, hb⟩; refine ⟨_, rfl, ?_⟩; replace HB := bs HB hb; (try clear hb); (try clear hb2); (try clear hk); (try clear hi)))
     go_roundg k1
     case measure => have := HK1.out; omega
     case rel => exact ⟨(x3_1 ++ t395), (wrap64 (x4_1 + 1)), y0_21, y0_21, H', ⟨y0_25⟩, ⟨bI HB.out⟩⟩
    replace c5 := Bool.eq_false_iff.mpr c5; subst c5
    rw [if_neg (show ¬ (false = true) by decide)] at H
    obtain rfl := Option.some.inj H; have p390 : 0 ≤ (x4_1 : Int) := of_decide_eq_true y0_20; have q390 : x4_1 < (l0.length : Int) := of_decide_eq_true y0_20; obtain ⟨ad390, e390, hx390_0, hx390_1, hx390_2, hx390_3⟩ := at_T87 HR0.out x4_1 p390 q390; cases e390; replace hx390_0 := bx HB hx390_0; replace hx390_1 := bx HB hx390_1; replace hx390_2 := bx HB hx390_2; replace hx390_3 := bx HB hx390_3; replace p390 := eq_true p390; replace q390 := eq_true q390
    go_wp2_with (first | ((with_reducible refine gate_callee (f := 80) rfl ?_); refine gB (some 15) Try.func80 #[.agg #[.int .i64 ((rd_T87 l0 x4_1).f0), .int .i64 ((rd_T87 l0 x4_1).f1), .int .i64 ((rd_T87 l0 x4_1).f2), .int .i64 ((rd_T87 l0 x4_1).f3)]] ?_; (with_reducible refine (spec_TxOk.calls ((rd_T87 l0 x4_1).f0) ((rd_T87 l0 x4_1).f1) ((rd_T87 l0 x4_1).f2) ((rd_T87 l0 x4_1).f3) false _ A4.out).mono ?_); rintro e w16 ⟨rfl, hb⟩; refine ⟨_, rfl, ?_⟩; replace HB := bs HB hb; (try clear hb); (try clear hb2); (try clear hk); (try clear hi)))
    go_ret
    exact ⟨y0_16, bI HB.out⟩
   rw [if_neg c2] at H
   have c2b0 : decide (x4_1 < (l0.length : Int)) = false := decide_eq_false c2; clear c2; obtain rfl := Option.some.inj H
   go_wp2
   go_ret
   exact ⟨y0_16, bI HB.out⟩

/-! ### spec_NameOf: function 76 -/
def spec_NameOf.l0 : Nat → ByteArray → Int → List (S87) → Int → Option (ByteArray)
 | 0, _, _, _, _ => none
 | k + 1, x0, x1, x2, x7 => if x7 < (x2.length : Int) then (if 0 ≤ x7 then ((spec_TxOk.f ((rd_T87 x2 x7).f0) ((rd_T87 x2 x7).f1) ((rd_T87 x2 x7).f2) ((rd_T87 x2 x7).f3)).bind fun t397 => (if t397 = true then (spec_NameOf.l0 k x0 x1 x2 (wrap64 (x7 + 1))) else (some (⟨#[]⟩ : ByteArray)))) else (none)) else (if x0.size + 1 ≤ 9223372036854775807 then ((spec_Digits.f k x1).bind fun t398 => (if (x0 ++ (⟨#[47]⟩ : ByteArray)).size + t398.size ≤ 9223372036854775807 then (if ((x0 ++ (⟨#[47]⟩ : ByteArray)) ++ t398).size + 1 ≤ 9223372036854775807 then ((spec_TxsText.f k x2).bind fun t399 => (if (((x0 ++ (⟨#[47]⟩ : ByteArray)) ++ t398) ++ (⟨#[124]⟩ : ByteArray)).size + t399.size ≤ 9223372036854775807 then ((spec_NameOk.f k ((((x0 ++ (⟨#[47]⟩ : ByteArray)) ++ t398) ++ (⟨#[124]⟩ : ByteArray)) ++ t399)).bind fun t400 => (if t400 = true then (some ((((x0 ++ (⟨#[47]⟩ : ByteArray)) ++ t398) ++ (⟨#[124]⟩ : ByteArray)) ++ t399)) else (some (⟨#[]⟩ : ByteArray)))) else (none))) else (none)) else (none))) else (none))
def spec_NameOf.f (k : Nat) (a0 : ByteArray) (a1 : Int) (l2 : List (S87)) : Option (ByteArray) := spec_NameOf.l0 k a0 a1 l2 0
theorem spec_NameOf.mono_l : ∀ k, (∀ y0 y1 y2 y3, LeO (spec_NameOf.l0 k y0 y1 y2 y3) (spec_NameOf.l0 (k + 1) y0 y1 y2 y3))
 | 0 => fun _ _ _ _ r h => by simp [spec_NameOf.l0] at h
 | k + 1 => by
  have ih0 := spec_NameOf.mono_l k
  intro y0 y1 y2 y3
  unfold spec_NameOf.l0
  repeat' first | (with_reducible exact ih0 _ _ _ _) | (with_reducible exact spec_Digits.mono _ _) | (with_reducible exact spec_NameOk.mono _ _) | (with_reducible exact spec_TxsText.mono _ _) | (with_reducible exact LeO.refl _) | (with_reducible exact LeO.none _) | (with_reducible refine LeO.ite ?_ ?_) | (with_reducible refine LeO.bind ?_ (fun _ => ?_))
theorem spec_NameOf.mono : ∀ a0 a1 a2 k, LeO (spec_NameOf.f k a0 a1 a2) (spec_NameOf.f (k + 1) a0 a1 a2) := by
 intro a0 a1 a2 k
 have ih0 := spec_NameOf.mono_l k
 unfold spec_NameOf.f
 repeat' first | (with_reducible exact ih0 _ _ _ _) | (with_reducible exact spec_Digits.mono _ _) | (with_reducible exact spec_NameOk.mono _ _) | (with_reducible exact spec_TxsText.mono _ _) | (with_reducible exact LeO.refl _) | (with_reducible exact LeO.none _) | (with_reducible refine LeO.ite ?_ ?_) | (with_reducible refine LeO.bind ?_ (fun _ => ?_))
set_option maxHeartbeats 8000000 in
set_option maxRecDepth 100000 in
theorem spec_NameOf.calls (k : Nat) (a0 : ByteArray) (a1 : Int) (A2 : Option Addr) (c2 : Nat) (l2 : List (S87)) (r : ByteArray) (w : World) (hr2 : Kd.C k87 w A2 l2.length l2) (hc2 : l2.length ≤ c2) (h : spec_NameOf.f k a0 a1 l2 = some r) :
  Calls Try.prog 76 #[.string a0, .int .i64 a1, .slice A2 l2.length c2] w fun e w' => e = .returned (.string r) ∧ Below w.heap.size w w' := by
 have hu87 := Try.underlying87; have HR2 := Aside0.mk hr2; have HC2 := Aside0.mk hc2; clear hr2 hc2; have HB := Aside0.mk (Below.refl w.heap.size w); have H : (spec_NameOf.l0 k a0 a1 l2 0) = some r := h; clear h; have H' := Aside0.mk H; clear H
 go_enter Try.func76, Try.ntmps76
 go_wp2
 go_loopg [7] k (fun kq v7 w' => ∃ (x7_1 : Int), v7 = .int .i64 x7_1 ∧ Aside0 (spec_NameOf.l0 kq a0 a1 l2 x7_1 = some r) ∧ Aside0 (kq ≤ k) ∧ Aside0 (Below w.heap.size w w'))
 case atStart => exact ⟨(0), y0_21, H', ⟨Nat.le_refl _⟩, ⟨bI HB.out⟩⟩
 case round =>
  clear H'
  try clear c2
  try clear p2
  obtain ⟨x7_1, rfl, HA, HK1, HB⟩ := hrel; cases gk with
  | zero => exact absurd HA.out (by simp [spec_NameOf.l0])
  | succ k1 =>
   have H := HA.out; clear HA
   simp only [spec_NameOf.l0] at H
   by_cases c4 : x7_1 < (l2.length : Int)
   ·
    rw [if_pos c4] at H
    have c4b0 : decide (x7_1 < (l2.length : Int)) = true := decide_eq_true c4; clear c4
    by_cases c5 : 0 ≤ x7_1
    rotate_left
    ·
     rw [if_neg c5] at H
     exact absurd H (by simp)
    rw [if_pos c5] at H
    have c5b0 : decide (0 ≤ x7_1) = true := decide_eq_true c5; clear c5; obtain ⟨t397, A60, H⟩ := Option.bind_eq_some_iff.mp H
    try dsimp only at H
    have A6 := Aside0.mk A60; clear A60
    by_cases c7 : t397 = true
    ·
     subst c7
     rw [if_pos rfl] at H
     have H' := Aside0.mk H; clear H; have p396 : 0 ≤ (x7_1 : Int) := of_decide_eq_true y0_20; have q396 : x7_1 < (l2.length : Int) := of_decide_eq_true y0_20; obtain ⟨ad396, e396, hx396_0, hx396_1, hx396_2, hx396_3⟩ := at_T87 HR2.out x7_1 p396 q396; cases e396; replace hx396_0 := bx HB hx396_0; replace hx396_1 := bx HB hx396_1; replace hx396_2 := bx HB hx396_2; replace hx396_3 := bx HB hx396_3; replace p396 := eq_true p396; replace q396 := eq_true q396
     go_wp2_with (first | ((with_reducible refine gate_callee (f := 80) rfl ?_); refine gB (some 19) Try.func80 #[.agg #[.int .i64 ((rd_T87 l2 x7_1).f0), .int .i64 ((rd_T87 l2 x7_1).f1), .int .i64 ((rd_T87 l2 x7_1).f2), .int .i64 ((rd_T87 l2 x7_1).f3)]] ?_; (with_reducible refine (spec_TxOk.calls ((rd_T87 l2 x7_1).f0) ((rd_T87 l2 x7_1).f1) ((rd_T87 l2 x7_1).f2) ((rd_T87 l2 x7_1).f3) true _ A6.out).mono ?_); rintro e w8 ⟨rfl, hb⟩; refine ⟨_, rfl, ?_⟩; replace HB := bs HB hb; (try clear hb); (try clear hb2); (try clear hk); (try clear hi)))
     go_roundg k1
     case measure => have := HK1.out; omega
     case rel => exact ⟨(wrap64 (x7_1 + 1)), y0_21, H', ⟨y0_25⟩, ⟨bI HB.out⟩⟩
    replace c7 := Bool.eq_false_iff.mpr c7; subst c7
    rw [if_neg (show ¬ (false = true) by decide)] at H
    obtain rfl := Option.some.inj H; have p396 : 0 ≤ (x7_1 : Int) := of_decide_eq_true y0_20; have q396 : x7_1 < (l2.length : Int) := of_decide_eq_true y0_20; obtain ⟨ad396, e396, hx396_0, hx396_1, hx396_2, hx396_3⟩ := at_T87 HR2.out x7_1 p396 q396; cases e396; replace hx396_0 := bx HB hx396_0; replace hx396_1 := bx HB hx396_1; replace hx396_2 := bx HB hx396_2; replace hx396_3 := bx HB hx396_3; replace p396 := eq_true p396; replace q396 := eq_true q396
    go_wp2_with (first | ((with_reducible refine gate_callee (f := 80) rfl ?_); refine gB (some 19) Try.func80 #[.agg #[.int .i64 ((rd_T87 l2 x7_1).f0), .int .i64 ((rd_T87 l2 x7_1).f1), .int .i64 ((rd_T87 l2 x7_1).f2), .int .i64 ((rd_T87 l2 x7_1).f3)]] ?_; (with_reducible refine (spec_TxOk.calls ((rd_T87 l2 x7_1).f0) ((rd_T87 l2 x7_1).f1) ((rd_T87 l2 x7_1).f2) ((rd_T87 l2 x7_1).f3) false _ A6.out).mono ?_); rintro e w9 ⟨rfl, hb⟩; refine ⟨_, rfl, ?_⟩; replace HB := bs HB hb; (try clear hb); (try clear hb2); (try clear hk); (try clear hi)))
    go_ret
    exact ⟨y0_16, bI HB.out⟩
   rw [if_neg c4] at H
   have c4b0 : decide (x7_1 < (l2.length : Int)) = false := decide_eq_false c4; clear c4
   by_cases c10 : a0.size + 1 ≤ 9223372036854775807
   ·
    rw [if_pos c10] at H
    have c10b0 := eq_true c10; have c10b1 : decide (a0.size + 1 ≤ 9223372036854775807) = true := decide_eq_true c10
    try have c10b2 : (9223372036854775807 < a0.size + 1) = False := eq_false (Nat.not_lt.2 c10)
    obtain ⟨t398, A110, H⟩ := Option.bind_eq_some_iff.mp H
    try dsimp only at H
    have A11 := Aside0.mk A110; clear A110
    by_cases c12 : (a0 ++ (⟨#[47]⟩ : ByteArray)).size + t398.size ≤ 9223372036854775807
    rotate_left
    ·
     rw [if_neg c12] at H
     exact absurd H (by simp)
    rw [if_pos c12] at H
    have c12b0 := eq_true c12; have c12b1 : decide ((a0 ++ (⟨#[47]⟩ : ByteArray)).size + t398.size ≤ 9223372036854775807) = true := decide_eq_true c12
    try have c12b2 : (9223372036854775807 < (a0 ++ (⟨#[47]⟩ : ByteArray)).size + t398.size) = False := eq_false (Nat.not_lt.2 c12)
    (try have c12b3 : (9223372036854775807 < a0.size + 1 + t398.size) = False := eq_false (by have h_ := c12; simp only [ByteArray.size_append, ByteArray.size_extract, show (⟨#[47]⟩ : ByteArray).size = 1 from rfl] at h_; omega))
    by_cases c13 : ((a0 ++ (⟨#[47]⟩ : ByteArray)) ++ t398).size + 1 ≤ 9223372036854775807
    rotate_left
    ·
     rw [if_neg c13] at H
     exact absurd H (by simp)
    rw [if_pos c13] at H
    have c13b0 := eq_true c13; have c13b1 : decide (((a0 ++ (⟨#[47]⟩ : ByteArray)) ++ t398).size + 1 ≤ 9223372036854775807) = true := decide_eq_true c13
    try have c13b2 : (9223372036854775807 < ((a0 ++ (⟨#[47]⟩ : ByteArray)) ++ t398).size + 1) = False := eq_false (Nat.not_lt.2 c13)
    (try have c13b3 : (9223372036854775807 < a0.size + 1 + t398.size + 1) = False := eq_false (by have h_ := c13; simp only [ByteArray.size_append, ByteArray.size_extract, show (⟨#[47]⟩ : ByteArray).size = 1 from rfl] at h_; omega))
    obtain ⟨t399, A140, H⟩ := Option.bind_eq_some_iff.mp H
    try dsimp only at H
    have A14 := Aside0.mk A140; clear A140
    by_cases c15 : (((a0 ++ (⟨#[47]⟩ : ByteArray)) ++ t398) ++ (⟨#[124]⟩ : ByteArray)).size + t399.size ≤ 9223372036854775807
    rotate_left
    ·
     rw [if_neg c15] at H
     exact absurd H (by simp)
    rw [if_pos c15] at H
    have c15b0 := eq_true c15; have c15b1 : decide ((((a0 ++ (⟨#[47]⟩ : ByteArray)) ++ t398) ++ (⟨#[124]⟩ : ByteArray)).size + t399.size ≤ 9223372036854775807) = true := decide_eq_true c15
    try have c15b2 : (9223372036854775807 < (((a0 ++ (⟨#[47]⟩ : ByteArray)) ++ t398) ++ (⟨#[124]⟩ : ByteArray)).size + t399.size) = False := eq_false (Nat.not_lt.2 c15)
    (try have c15b3 : (9223372036854775807 < a0.size + 1 + t398.size + 1 + t399.size) = False := eq_false (by have h_ := c15; simp only [ByteArray.size_append, ByteArray.size_extract, show (⟨#[124]⟩ : ByteArray).size = 1 from rfl, show (⟨#[47]⟩ : ByteArray).size = 1 from rfl] at h_; omega))
    obtain ⟨t400, A160, H⟩ := Option.bind_eq_some_iff.mp H
    try dsimp only at H
    have A16 := Aside0.mk A160; clear A160
    by_cases c17 : t400 = true
    ·
     subst c17
     rw [if_pos rfl] at H
     obtain rfl := Option.some.inj H
     go_wp2_with (first | ((with_reducible refine gate_callee (f := 78) rfl ?_); refine gB (some 24) Try.func78 #[.int .i64 a1] ?_; (with_reducible refine (spec_Digits.calls k1 a1 t398 _ A11.out).mono ?_); rintro e w18 ⟨rfl, hb⟩; refine ⟨_, rfl, ?_⟩; replace HB := bs HB hb; (try clear hb); (try clear hb2); (try clear hk); (try clear hi)) | ((with_reducible refine gate_callee (f := 81) rfl ?_); refine gB (some 28) Try.func81 #[.slice A2 l2.length c2] ?_; (with_reducible refine (spec_TxsText.calls k1 _ _ l2 t399 _ ?side1 ?side2 A14.out).mono ?_); (case side1 => exact ch HR2 HB); (case side2 => exact HC2.out); rintro e w19 ⟨rfl, hb⟩; refine ⟨_, rfl, ?_⟩; replace HB := bs HB hb; (try clear hb); (try clear hb2); (try clear hk); (try clear hi)) | ((with_reducible refine gate_callee (f := 74) rfl ?_); refine gB (some 31) Try.func74 #[.string ((((a0 ++ (⟨#[47]⟩ : ByteArray)) ++ t398) ++ (⟨#[124]⟩ : ByteArray)) ++ t399)] ?_; (with_reducible refine (spec_NameOk.calls k1 ((((a0 ++ (⟨#[47]⟩ : ByteArray)) ++ t398) ++ (⟨#[124]⟩ : ByteArray)) ++ t399) true _ A16.out).mono ?_); rintro e w20 ⟨rfl, hb⟩; refine ⟨_, rfl, ?_⟩; replace HB := bs HB hb; (try clear hb); (try clear hb2); (try clear hk); (try clear hi)))
     go_ret
     exact ⟨y0_16, bI HB.out⟩
    replace c17 := Bool.eq_false_iff.mpr c17; subst c17
    rw [if_neg (show ¬ (false = true) by decide)] at H
    obtain rfl := Option.some.inj H
    go_wp2_with (first | ((with_reducible refine gate_callee (f := 78) rfl ?_); refine gB (some 24) Try.func78 #[.int .i64 a1] ?_; (with_reducible refine (spec_Digits.calls k1 a1 t398 _ A11.out).mono ?_); rintro e w21 ⟨rfl, hb⟩; refine ⟨_, rfl, ?_⟩; replace HB := bs HB hb; (try clear hb); (try clear hb2); (try clear hk); (try clear hi)) | ((with_reducible refine gate_callee (f := 81) rfl ?_); refine gB (some 28) Try.func81 #[.slice A2 l2.length c2] ?_; (with_reducible refine (spec_TxsText.calls k1 _ _ l2 t399 _ ?side1 ?side2 A14.out).mono ?_); (case side1 => exact ch HR2 HB); (case side2 => exact HC2.out); rintro e w22 ⟨rfl, hb⟩; refine ⟨_, rfl, ?_⟩; replace HB := bs HB hb; (try clear hb); (try clear hb2); (try clear hk); (try clear hi)) | ((with_reducible refine gate_callee (f := 74) rfl ?_); refine gB (some 31) Try.func74 #[.string ((((a0 ++ (⟨#[47]⟩ : ByteArray)) ++ t398) ++ (⟨#[124]⟩ : ByteArray)) ++ t399)] ?_; (with_reducible refine (spec_NameOk.calls k1 ((((a0 ++ (⟨#[47]⟩ : ByteArray)) ++ t398) ++ (⟨#[124]⟩ : ByteArray)) ++ t399) false _ A16.out).mono ?_); rintro e w23 ⟨rfl, hb⟩; refine ⟨_, rfl, ?_⟩; replace HB := bs HB hb; (try clear hb); (try clear hb2); (try clear hk); (try clear hi)))
    go_ret
    exact ⟨y0_16, bI HB.out⟩
   rw [if_neg c10] at H
   exact absurd H (by simp)

/-! ### spec_l5DrawRight: function 67 -/
mutual
def spec_l5DrawRight.l0 : Nat → ByteArray → Int → Int → List Int → Int → Int → Option (ByteArray × Int × Int)
 | 0, _, _, _, _, _, _ => none
 | k + 1, x3, x4, x5, x1000, x1001, x1002 => (spec_l1Below.f x1000 x1001 x1002 6).bind fun bt401 => (if x5 < bt401.1 then ((spec_l1Below.f x1000 bt401.2.1 bt401.2.2 4).bind fun bt404 => (spec_l5DrawRight.l1 k x3 (wrap64 ((wrap64 (x4 + 1)) + (wrap64 (Int.tdiv bt404.1 3)))) x5 (([] : List (S87))) 0 x1000 bt404.2.1 bt404.2.2)) else (some (x3, bt401.2.1, bt401.2.2)))
def spec_l5DrawRight.l1 : Nat → ByteArray → Int → Int → List (S87) → Int → List Int → Int → Int → Option (ByteArray × Int × Int)
 | 0, _, _, _, _, _, _, _, _ => none
 | k + 1, x3, x4, x5, x6, x7, x1000, x1001, x1002 => (spec_l1Below.f x1000 x1001 x1002 3).bind fun bt410 => (if x7 < bt410.1 then ((spec_l2DrawRight.f x1000 bt410.2.1 bt410.2.2).bind fun bt413 => (if x6.length < 4398046511104 then (spec_l5DrawRight.l1 k x3 x4 x5 (x6 ++ [(⟨bt413.1, bt413.2.1, bt413.2.2.1, bt413.2.2.2.1⟩ : S87)]) (wrap64 (x7 + 1)) x1000 bt413.2.2.2.2.1 bt413.2.2.2.2.2) else (none))) else ((spec_NameOf.f k x3 x4 x6).bind fun t422 => (spec_l5DrawRight.l0 k t422 x4 (wrap64 (x5 + 1)) x1000 bt410.2.1 bt410.2.2)))
end
def spec_l5DrawRight.f (k : Nat) (s0_0 : List Int) (s0_1 : Int) (s0_2 : Int) : Option (ByteArray × Int × Int) := spec_l5DrawRight.l0 k (⟨#[]⟩ : ByteArray) 0 0 s0_0 s0_1 s0_2
theorem spec_l5DrawRight.mono_l : ∀ k, (∀ y0 y1 y2 y3 y4 y5, LeO (spec_l5DrawRight.l0 k y0 y1 y2 y3 y4 y5) (spec_l5DrawRight.l0 (k + 1) y0 y1 y2 y3 y4 y5)) ∧ (∀ y0 y1 y2 y3 y4 y5 y6 y7, LeO (spec_l5DrawRight.l1 k y0 y1 y2 y3 y4 y5 y6 y7) (spec_l5DrawRight.l1 (k + 1) y0 y1 y2 y3 y4 y5 y6 y7))
 | 0 => ⟨fun _ _ _ _ _ _ r h => by simp [spec_l5DrawRight.l0] at h, fun _ _ _ _ _ _ _ _ r h => by simp [spec_l5DrawRight.l1] at h⟩
 | k + 1 => by
  obtain ⟨ih0, ih1⟩ := spec_l5DrawRight.mono_l k
  refine ⟨?_, ?_⟩
  ·
   intro y0 y1 y2 y3 y4 y5
   unfold spec_l5DrawRight.l0
   repeat' first | (with_reducible exact ih0 _ _ _ _ _ _) | (with_reducible exact ih1 _ _ _ _ _ _ _ _) | (with_reducible exact spec_NameOf.mono _ _ _ _) | (with_reducible exact LeO.refl _) | (with_reducible exact LeO.none _) | (with_reducible refine LeO.ite ?_ ?_) | (with_reducible refine LeO.bind ?_ (fun _ => ?_))
  intro y0 y1 y2 y3 y4 y5 y6 y7
  unfold spec_l5DrawRight.l1
  repeat' first | (with_reducible exact ih0 _ _ _ _ _ _) | (with_reducible exact ih1 _ _ _ _ _ _ _ _) | (with_reducible exact spec_NameOf.mono _ _ _ _) | (with_reducible exact LeO.refl _) | (with_reducible exact LeO.none _) | (with_reducible refine LeO.ite ?_ ?_) | (with_reducible refine LeO.bind ?_ (fun _ => ?_))
theorem spec_l5DrawRight.mono : ∀ a0 a1 a2 k, LeO (spec_l5DrawRight.f k a0 a1 a2) (spec_l5DrawRight.f (k + 1) a0 a1 a2) := by
 intro a0 a1 a2 k
 obtain ⟨ih0, ih1⟩ := spec_l5DrawRight.mono_l k
 unfold spec_l5DrawRight.f
 repeat' first | (with_reducible exact ih0 _ _ _ _ _ _) | (with_reducible exact ih1 _ _ _ _ _ _ _ _) | (with_reducible exact spec_NameOf.mono _ _ _ _) | (with_reducible exact LeO.refl _) | (with_reducible exact LeO.none _) | (with_reducible refine LeO.ite ?_ ?_) | (with_reducible refine LeO.bind ?_ (fun _ => ?_))
set_option maxHeartbeats 8000000 in
set_option maxRecDepth 100000 in
theorem spec_l5DrawRight.calls (k : Nat) (g : Nat) (s0_0 : List Int) (s0_1 : Int) (s0_2 : Int) (r1 : ByteArray) (r2 : Int) (r3 : Int) (w0 w : World) (hI : IsS68 w0 w g s0_0 s0_1 s0_2) (hB : Below w0.heap.size w0 w) (h : spec_l5DrawRight.f k s0_0 s0_1 s0_2 = some (r1, r2, r3)) :
  Calls Try.prog 67 #[.pointer (some ⟨g, 0, none⟩)] w fun e w' => e = .returned (.string r1) ∧ IsS68 w0 w' g s0_0 r2 r3 ∧ Below w0.heap.size w0 w' ∧ KeepBut w w' g none := by
 have HI0 := Aside0.mk hI; have HK := Aside0.mk (KeepBut.refl w g none); have HL := Aside0.mk hB.size; clear hI; have HW0 := Aside0.mk hB.size; have HB := Aside0.mk hB; clear hB; have H : (spec_l5DrawRight.l0 k (⟨#[]⟩ : ByteArray) 0 0 s0_0 s0_1 s0_2) = some (r1, r2, r3) := h; clear h; have H' := Aside0.mk H; clear H
 go_enter Try.func67, Try.ntmps67
 go_wp2
 go_loopg [3, 4, 5] k (fun kq v3 v4 v5 w' => ∃ (x3_1 : ByteArray) (x4_1 : Int) (x5_1 : Int) (x1001_1 : Int) (x1002_1 : Int), v3 = .string x3_1 ∧ v4 = .int .i64 x4_1 ∧ v5 = .int .i64 x5_1 ∧ Aside0 (spec_l5DrawRight.l0 kq x3_1 x4_1 x5_1 s0_0 x1001_1 x1002_1 = some (r1, r2, r3)) ∧ Aside0 (kq ≤ k) ∧ Aside0 (IsS68 w0 w' g s0_0 x1001_1 x1002_1) ∧ Aside0 (KeepBut w w' g none) ∧ Aside0 (Below w0.heap.size w0 w'))
 case atStart => exact ⟨((⟨#[]⟩ : ByteArray)), (0), (0), (s0_1), (s0_2), y0_21, y0_21, y0_21, H', ⟨Nat.le_refl _⟩, ⟨y0_9⟩, ⟨hI HK.out⟩, ⟨y0_8⟩⟩
 case round =>
  clear H'; obtain ⟨x3_1, x4_1, x5_1, x1001_1, x1002_1, rfl, rfl, rfl, HA, HK1, HI0, HK, HB⟩ := hrel; cases gk with
  | zero => exact absurd HA.out (by simp [spec_l5DrawRight.l0])
  | succ k1 =>
   have H := HA.out; clear HA
   simp only [spec_l5DrawRight.l0] at H
   obtain ⟨⟨t401, t402, t403⟩, A20, H⟩ := Option.bind_eq_some_iff.mp H
   try dsimp only at H
   have A2 := Aside0.mk A20; clear A20
   by_cases c3 : x5_1 < t401
   ·
    rw [if_pos c3] at H
    have c3b0 : decide (x5_1 < t401) = true := decide_eq_true c3; clear c3; obtain ⟨⟨t404, t405, t406⟩, A40, H⟩ := Option.bind_eq_some_iff.mp H
    try dsimp only at H
    have A4 := Aside0.mk A40; clear A40; obtain ⟨y407, hy407⟩ : ∃ y_ : List (S87), y_ = (([] : List (S87))) := ⟨_, rfl⟩
    replace H : (spec_l5DrawRight.l1 k1 x3_1 (wrap64 ((wrap64 (x4_1 + 1)) + (wrap64 (Int.tdiv t404 3)))) x5_1 y407 0 s0_0 t405 t406) = some (r1, r2, r3) := by first | (rw [hy407]; with_reducible exact H) | (have H2_ := (Option.bind_some _ _).symm.trans H; rw [hy407]; with_reducible exact H2_) | (have H2_ := (Option.bind_some _ _).symm.trans H; with_reducible exact H2_) | with_reducible exact H | (rw [hy407]; exact H) | exact H
    have Ny407 := Aside0.mk hy407; clear hy407; have H' := Aside0.mk H; clear H
    go_wp2_with (first | ((with_reducible refine gate_callee (f := 44) rfl ?_); refine gB (some 10) Try.func44 #[.pointer (some ⟨g, 0, none⟩), .int .i64 6] ?_; (with_reducible refine (spec_l1Below.calls g s0_0 x1001_1 x1002_1 6 t401 t402 t403 w0 _ ?side1 ?side2 A2.out).mono ?_); (case side1 => repeat (first | (with_reducible first | exact HI0.out | apply IsS68.alloc | apply IsS68.drewN | apply IsS68.drew | apply IsS68.set_1 | apply IsS68.set_2) | exact HI0.out)); (case side2 => repeat (first | (with_reducible first | exact HB.out | apply below_alloc | apply pw_below_drewN | apply below_drew1 | refine below_set ?_ (IsS68.ge HI0.out)) | exact HB.out)); rintro e w5 ⟨rfl, hi, hb, hk⟩; refine ⟨_, rfl, ?_⟩; replace HK := kt HK hk; replace HB := Aside0.mk (hb); replace HI0 := Aside0.mk (hi); (try clear hb); (try clear hb2); (try clear hk); (try clear hi)) | ((with_reducible refine gate_callee (f := 44) rfl ?_); refine gB (some 17) Try.func44 #[.pointer (some ⟨g, 0, none⟩), .int .i64 4] ?_; (with_reducible refine (spec_l1Below.calls g s0_0 t402 t403 4 t404 t405 t406 w0 _ ?side1 ?side2 A4.out).mono ?_); (case side1 => repeat (first | (with_reducible first | exact HI0.out | apply IsS68.alloc | apply IsS68.drewN | apply IsS68.drew | apply IsS68.set_1 | apply IsS68.set_2) | exact HI0.out)); (case side2 => repeat (first | (with_reducible first | exact HB.out | apply below_alloc | apply pw_below_drewN | apply below_drew1 | refine below_set ?_ (IsS68.ge HI0.out)) | exact HB.out)); rintro e w6 ⟨rfl, hi, hb, hk⟩; refine ⟨_, rfl, ?_⟩; replace HK := kt HK hk; replace HB := Aside0.mk (hb); replace HI0 := Aside0.mk (hi); (try clear hb); (try clear hb2); (try clear hk); (try clear hi)) | ((with_reducible refine gate_dst (N := 20) rfl ?_); refine Kd.R_lit k87 _ 87 ?hg (N := 20) ?hd (xs := ([] : List (S87))) (inner := []) (ok := fun _ => True) (okp := fun _ => True) ?hr ?hp (fun _ hk => hk) trivial (Below.refl _ _) (Nat.le_refl _) (by simp) ?_; (case hd => rfl); (case hg => rfl); (case hr => first | (go_simp; done) | (go_simp; rfl)); (case hp => exact (Reps.none _ _)); intro v408 w7 ho8 hb hg_ hnew_; clear hg_ hnew_; (first | rw [← Ny407.out] at ho8 | (simp only [Int.reduceToNat] at ho8; rw [← Ny407.out] at ho8)); have HO409 := Aside0.mk (Kd.R_lower ho8 (keep_size (w := w) (g := g) (row := none) (hI HK.out))); replace HK := kb HK hb; replace HB := Aside0.mk (below_step y0_8 hb); replace HI0 := Aside0.mk (IsS68.below y0_9 hb); clear hb ho8))
    go_loopg [6, 7] k1 (fun kq v6 v7 w' => ∃ (x6_2 : List (S87)) (x7_2 : Int) (x1001_2 : Int) (x1002_2 : Int), v7 = .int .i64 x7_2 ∧ Aside0 (spec_l5DrawRight.l1 kq x3_1 (wrap64 ((wrap64 (x4_1 + 1)) + (wrap64 (Int.tdiv t404 3)))) x5_1 x6_2 x7_2 s0_0 x1001_2 x1002_2 = some (r1, r2, r3)) ∧ Aside0 (kq ≤ k1) ∧ Aside0 (Kd.R k87 87 w' w.heap.size (fun _ => True) v6 x6_2) ∧ Aside0 (IsS68 w0 w' g s0_0 x1001_2 x1002_2) ∧ Aside0 (KeepBut w w' g none) ∧ Aside0 (Below w0.heap.size w0 w'))
    case atStart => exact ⟨(y407), (0), (t405), (t406), y0_21, H', ⟨Nat.le_refl _⟩, ⟨by (with_reducible repeat (first | apply Kd.R_alloc | apply Kd.R_drewN | apply Kd.R_drew)); exact HO409.out⟩, ⟨y0_9⟩, ⟨hI HK.out⟩, ⟨y0_8⟩⟩
    case round =>
     clear H'
     try clear p2
     try clear c3
     try clear c3b0
     try clear c4
     try clear c6
     try clear p6
     obtain ⟨x6_2, x7_2, x1001_2, x1002_2, rfl, HA, HK2, HO_6, HI0, HK, HB⟩ := hrel; cases gk with
     | zero => exact absurd HA.out (by simp [spec_l5DrawRight.l1])
     | succ k2 =>
      have H := HA.out; clear HA
      simp only [spec_l5DrawRight.l1] at H
      obtain ⟨⟨t410, t411, t412⟩, A90, H⟩ := Option.bind_eq_some_iff.mp H
      try dsimp only at H
      have A9 := Aside0.mk A90; clear A90
      by_cases c10 : x7_2 < t410
      ·
       rw [if_pos c10] at H
       have c10b0 : decide (x7_2 < t410) = true := decide_eq_true c10; clear c10; obtain ⟨⟨t413, t414, t415, t416, t417, t418⟩, A110, H⟩ := Option.bind_eq_some_iff.mp H
       try dsimp only at H
       have A11 := Aside0.mk A110; clear A110
       by_cases c12 : x6_2.length < 4398046511104
       rotate_left
       ·
        rw [if_neg c12] at H
        exact absurd H (by simp)
       rw [if_pos c12] at H
       have LMc12 := Aside0.mk c12; clear c12; obtain ⟨y419, hy419⟩ : ∃ y_ : List (S87), y_ = (x6_2 ++ [(⟨t413, t414, t415, t416⟩ : S87)]) := ⟨_, rfl⟩
       replace H : (spec_l5DrawRight.l1 k2 x3_1 (wrap64 ((wrap64 (x4_1 + 1)) + (wrap64 (Int.tdiv t404 3)))) x5_1 y419 (wrap64 (x7_2 + 1)) s0_0 t417 t418) = some (r1, r2, r3) := by first | (rw [hy419]; with_reducible exact H) | (have H2_ := (Option.bind_some _ _).symm.trans H; rw [hy419]; with_reducible exact H2_) | (have H2_ := (Option.bind_some _ _).symm.trans H; with_reducible exact H2_) | with_reducible exact H | (rw [hy419]; exact H) | exact H
       have Ny419 := Aside0.mk hy419; clear hy419; have H' := Aside0.mk H; clear H
       go_wp2_with (first | ((with_reducible refine gate_callee (f := 44) rfl ?_); refine gB (some 23) Try.func44 #[.pointer (some ⟨g, 0, none⟩), .int .i64 3] ?_; (with_reducible refine (spec_l1Below.calls g s0_0 x1001_2 x1002_2 3 t410 t411 t412 w0 _ ?side1 ?side2 A9.out).mono ?_); (case side1 => repeat (first | (with_reducible first | exact HI0.out | apply IsS68.alloc | apply IsS68.drewN | apply IsS68.drew | apply IsS68.set_1 | apply IsS68.set_2) | exact HI0.out)); (case side2 => repeat (first | (with_reducible first | exact HB.out | apply below_alloc | apply pw_below_drewN | apply below_drew1 | refine below_set ?_ (IsS68.ge HI0.out)) | exact HB.out)); rintro e w13 ⟨rfl, hi, hb, hk⟩; refine ⟨_, rfl, ?_⟩; replace HO_6 := Aside0.mk (Kd.R_mono (Kd.R_keep (IsS68.apart (show IsS68 w0 _ g s0_0 x1001_2 x1002_2 from y0_9) (rI HO_6.out) (by decide)) hk (fun _ h => h.2)) (fun _ h => h.1)); replace HK := kt HK hk; replace HB := Aside0.mk (hb); replace HI0 := Aside0.mk (hi); (try clear hb); (try clear hb2); (try clear hk); (try clear hi)) | ((with_reducible refine gate_callee (f := 75) rfl ?_); refine gB (some 29) Try.func75 #[.pointer (some ⟨g, 0, none⟩)] ?_; (with_reducible refine (spec_l2DrawRight.calls g s0_0 t411 t412 t413 t414 t415 t416 t417 t418 w0 _ ?side1 ?side2 A11.out).mono ?_); (case side1 => repeat (first | (with_reducible first | exact HI0.out | apply IsS68.alloc | apply IsS68.drewN | apply IsS68.drew | apply IsS68.set_1 | apply IsS68.set_2) | exact HI0.out)); (case side2 => repeat (first | (with_reducible first | exact HB.out | apply below_alloc | apply pw_below_drewN | apply below_drew1 | refine below_set ?_ (IsS68.ge HI0.out)) | exact HB.out)); rintro e w14 ⟨rfl, hi, hb, hk⟩; refine ⟨_, rfl, ?_⟩; replace HO_6 := Aside0.mk (Kd.R_mono (Kd.R_keep (IsS68.apart (show IsS68 w0 _ g s0_0 t411 t412 from y0_9) (rI HO_6.out) (by decide)) hk (fun _ h => h.2)) (fun _ h => h.1)); replace HK := kt HK hk; replace HB := Aside0.mk (hb); replace HI0 := Aside0.mk (hi); (try clear hb); (try clear hb2); (try clear hk); (try clear hi)) | ((with_reducible refine gate_builtin (b := .append) (xs := #[.tmp 27, .tmp 30]) rfl ?_); at_builtin; refine Kd.R_append k87 w.heap.size rfl (.tmp 27) (.tmp 30) 85 87 (.agg #[(.int .i64 0), (.int .i64 0), (.int .i64 0), (.int .i64 0)]) 32 rfl Try.underlying85 info87 rfl (by decide) (by omega) u6 x6_2 (⟨t413, t414, t415, t416⟩ : S87) [.int .i64 t413, .int .i64 t414, .int .i64 t415, .int .i64 t416] (fun _ => True) (fun _ => False) rfl rfl ?aP (fun _ hk => hk.elim) ?aF ?aO (Below.refl _ _) ?aS ?aL ?_; (case aP => exact k87_mkM _ _ _ (⟨t413, t414, t415, t416⟩ : S87)); (case aF => exact (fun _ _ => trivial)); (case aO => exact (rI HO_6.out)); (case aS => exact (keep_size (w := w) (g := g) (row := none) (hI HK.out))); (case aL => have := LMc12.out; omega); intro v420 w15 ho hb hg hat; rw [← Ny419.out] at ho; have n0_ := Aside0.mk (IsS68.grown y0_9 hg (IsS68.own_ne HI0.out HO_6.out (by decide))); have n1_ := Aside0.mk (below_weaken y0_8 HL.out hb); have n2_ := Aside0.mk (KeepBut.trans (hI HK.out) (KeepBut.of_grown hg g) (Kd.R_base2 HO_6.out)); have n3_ := Aside0.mk (ho); clear HI0; clear HB; clear HK; clear HO_6; have HI0 := n0_; have HB := n1_; have HK := n2_; have HO421 := n3_; clear n0_ n1_ n2_ n3_; clear ho hb hg hat))
       go_roundg k2
       case measure => have := HK1.out; have := HK2.out; omega
       case rel => exact ⟨(y419), (wrap64 (x7_2 + 1)), (t417), (t418), y0_21, H', ⟨by have := HK1.out; have := HK2.out; omega⟩, ⟨by (with_reducible repeat (first | apply Kd.R_alloc | apply Kd.R_drewN | apply Kd.R_drew)); exact HO421.out⟩, ⟨y0_9⟩, ⟨hI HK.out⟩, ⟨y0_8⟩⟩
      rw [if_neg c10] at H
      have c10b0 : decide (x7_2 < t410) = false := decide_eq_false c10; clear c10; obtain ⟨t422, A160, H⟩ := Option.bind_eq_some_iff.mp H
      try dsimp only at H
      have A16 := Aside0.mk A160; clear A160; have H' := Aside0.mk H; clear H
      go_wp2_with (first | ((with_reducible refine gate_callee (f := 44) rfl ?_); refine gB (some 23) Try.func44 #[.pointer (some ⟨g, 0, none⟩), .int .i64 3] ?_; (with_reducible refine (spec_l1Below.calls g s0_0 x1001_2 x1002_2 3 t410 t411 t412 w0 _ ?side1 ?side2 A9.out).mono ?_); (case side1 => repeat (first | (with_reducible first | exact HI0.out | apply IsS68.alloc | apply IsS68.drewN | apply IsS68.drew | apply IsS68.set_1 | apply IsS68.set_2) | exact HI0.out)); (case side2 => repeat (first | (with_reducible first | exact HB.out | apply below_alloc | apply pw_below_drewN | apply below_drew1 | refine below_set ?_ (IsS68.ge HI0.out)) | exact HB.out)); rintro e w17 ⟨rfl, hi, hb, hk⟩; refine ⟨_, rfl, ?_⟩; replace HO_6 := Aside0.mk (Kd.R_mono (Kd.R_keep (IsS68.apart (show IsS68 w0 _ g s0_0 x1001_2 x1002_2 from y0_9) (rI HO_6.out) (by decide)) hk (fun _ h => h.2)) (fun _ h => h.1)); replace HK := kt HK hk; replace HB := Aside0.mk (hb); replace HI0 := Aside0.mk (hi); (try clear hb); (try clear hb2); (try clear hk); (try clear hi); obtain ⟨Ao18, co18, eo18⟩ := Kd.R_slice HO_6.out; subst eo18) | ((with_reducible refine gate_callee (f := 76) rfl ?_); refine gB (some 35) Try.func76 #[.string x3_1, .int .i64 (wrap64 ((wrap64 (x4_1 + 1)) + (wrap64 (Int.tdiv t404 3)))), .slice Ao18 x6_2.length co18] ?_; (with_reducible refine (spec_NameOf.calls k2 x3_1 (wrap64 ((wrap64 (x4_1 + 1)) + (wrap64 (Int.tdiv t404 3)))) _ _ x6_2 t422 _ ?side1 ?side2 A16.out).mono ?_); (case side1 => repeat (first | exact (Kd.R_reads' HO_6.out).2.2 | (with_reducible refine Kd.C_alloc ?_ _) | (with_reducible refine Kd.C_drewN ?_ _) | (with_reducible refine Kd.C_drew ?_))); (case side2 => exact (Kd.R_reads' HO_6.out).2.1); rintro e w19 ⟨rfl, hb⟩; refine ⟨_, rfl, ?_⟩; replace HO_6 := rb HO_6 hb; replace HK := kb HK hb; replace HB := Aside0.mk (below_step y0_8 hb); replace HI0 := Aside0.mk (IsS68.below y0_9 hb); (try clear hb); (try clear hb2); (try clear hk); (try clear hi)))
      go_roundg k2
      case measure => have := HK1.out; have := HK2.out; omega
      case rel => exact ⟨(t422), ((wrap64 ((wrap64 (x4_1 + 1)) + (wrap64 (Int.tdiv t404 3))))), (wrap64 (x5_1 + 1)), (t411), (t412), y0_21, y0_21, y0_21, H', ⟨by have := HK1.out; have := HK2.out; omega⟩, ⟨y0_9⟩, ⟨hI HK.out⟩, ⟨y0_8⟩⟩
   rw [if_neg c3] at H
   have c3b0 : decide (x5_1 < t401) = false := decide_eq_false c3; clear c3
   simp only [Option.some.injEq, Prod.mk.injEq] at H
   obtain ⟨rfl, rfl, rfl⟩ := H
   go_wp2_with (first | ((with_reducible refine gate_callee (f := 44) rfl ?_); refine gB (some 10) Try.func44 #[.pointer (some ⟨g, 0, none⟩), .int .i64 6] ?_; (with_reducible refine (spec_l1Below.calls g s0_0 x1001_1 x1002_1 6 t401 t402 t403 w0 _ ?side1 ?side2 A2.out).mono ?_); (case side1 => repeat (first | (with_reducible first | exact HI0.out | apply IsS68.alloc | apply IsS68.drewN | apply IsS68.drew | apply IsS68.set_1 | apply IsS68.set_2) | exact HI0.out)); (case side2 => repeat (first | (with_reducible first | exact HB.out | apply below_alloc | apply pw_below_drewN | apply below_drew1 | refine below_set ?_ (IsS68.ge HI0.out)) | exact HB.out)); rintro e w20 ⟨rfl, hi, hb, hk⟩; refine ⟨_, rfl, ?_⟩; replace HK := kt HK hk; replace HB := Aside0.mk (hb); replace HI0 := Aside0.mk (hi); (try clear hb); (try clear hb2); (try clear hk); (try clear hi)))
   go_ret
   exact ⟨y0_16, y0_9, y0_8, hI HK.out⟩

/-! ### spec_l1Max: function 69 -/
def spec_l1Max.f (a0 : Int) (a1 : Int) : Option (Int) := if a0 > a1 then (some a0) else (some a1)
set_option maxHeartbeats 8000000 in
set_option maxRecDepth 100000 in
theorem spec_l1Max.calls (a0 : Int) (a1 : Int) (r : Int) (w : World) (h : spec_l1Max.f a0 a1 = some r) :
  Calls Try.prog 69 #[.int .i64 a0, .int .i64 a1] w fun e w' => e = .returned (.int .i64 r) ∧ Drawn0 w w' := by
 have H : (if a0 > a1 then (some a0) else (some a1)) = some r := h; clear h
 by_cases c3 : a0 > a1
 ·
  rw [if_pos c3] at H
  have c3b0 : decide (a1 < a0) = true := decide_eq_true c3; clear c3; obtain rfl := Option.some.inj H
  go_enter Try.func69, Try.ntmps69
  go_wp2
  go_ret
  exact ⟨y0_21, y0_18⟩
 rw [if_neg c3] at H
 have c3b0 : decide (a1 < a0) = false := decide_eq_false c3; clear c3; obtain rfl := Option.some.inj H
 go_enter Try.func69, Try.ntmps69
 go_wp2
 go_ret
 exact ⟨y0_21, y0_18⟩

end Go.Proofs.Ytemjmefacifdeaa.PFnDropsBelow
