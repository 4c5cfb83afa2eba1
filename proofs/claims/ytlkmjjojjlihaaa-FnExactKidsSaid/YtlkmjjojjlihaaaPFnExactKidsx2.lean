-- By a program of this session, out of the translation (the print of the kit, with turns of its own). Lean checks it.
import Derived.Test.YtlkmjjojjlihaaaPFnExactKidsx0
import Derived.Test.YtlkmjjojjlihaaaPFnExactKidsx1
namespace Go.Proofs.Ytlkmjjojjlihaaa.PFnExactKids
open Go.RowKit Go.Proofs.YtlkmjjojjlihaaaW.PrintWords Go.Proofs.YtlkmjjojjlihaaaW.PrintLast Go.Proofs.YtlkmjjojjlihaaaW.PrintMore
attribute [local go_sem] max2_int min2_int max_two min_two max_three min_three max_four min_four   -- for this text's walks alone
set_option linter.unusedVariables false
set_option linter.unusedSimpArgs false

/-! ### spec_Kids: function 44 -/
mutual
def spec_Kids.l0 : Nat → Int → Int → List Int → Int → Int → Int → Option (List Int)
  | 0, _, _, _, _, _, _ => none
  | k + 1, x1, x2, x7, x8, x121000, x121001 => if x8 < x121000 then (spec_Kids.j1 k x1 x2 x7 x8 (decide (x2 ≥ 0)) x121000 x121001) else (spec_Kids.j1 k x1 x2 x7 x8 false x121000 x121001)
def spec_Kids.j1 : Nat → Int → Int → List Int → Int → Bool → Int → Int → Option (List Int)
  | 0, _, _, _, _, _, _, _ => none
  | k + 1, x1, x2, x7, x8, x21, x121000, x121001 => if x21 = true then ((spec_Up.f x121000 x121001 x1 x8).bind fun t125 => (if t125 = x2 then (if x7.length < 17592186044416 then (spec_Kids.l0 k x1 x2 (x7 ++ [x8]) (wrap64 (x8 + 1)) x121000 x121001) else (none)) else (spec_Kids.l0 k x1 x2 x7 (wrap64 (x8 + 1)) x121000 x121001))) else (some x7)
end
def spec_Kids.f (k : Nat) (a0_0 : Int) (a0_1 : Int) (a1 : Int) (a2 : Int) : Option (List Int) := (some (([] : List Int) : List Int)).bind fun y121 => ((spec_ConfOk.f a0_0 a0_1).bind fun t124 => (if t124 = true then (spec_Kids.l0 k a1 a2 y121 0 a0_0 a0_1) else (some y121)))
theorem spec_Kids.mono_l : ∀ k, (∀ y0 y1 y2 y3 y4 y5, LeO (spec_Kids.l0 k y0 y1 y2 y3 y4 y5) (spec_Kids.l0 (k + 1) y0 y1 y2 y3 y4 y5)) ∧ (∀ y0 y1 y2 y3 y4 y5 y6, LeO (spec_Kids.j1 k y0 y1 y2 y3 y4 y5 y6) (spec_Kids.j1 (k + 1) y0 y1 y2 y3 y4 y5 y6))
  | 0 => ⟨fun _ _ _ _ _ _ r h => by simp [spec_Kids.l0] at h, fun _ _ _ _ _ _ _ r h => by simp [spec_Kids.j1] at h⟩
  | k + 1 => by
    obtain ⟨ih0, ih1⟩ := spec_Kids.mono_l k
    refine ⟨?_, ?_⟩
    · intro y0 y1 y2 y3 y4 y5
      unfold spec_Kids.l0
      repeat' first
      | (with_reducible exact ih0 _ _ _ _ _ _)
      | (with_reducible exact ih1 _ _ _ _ _ _ _)
      | (with_reducible exact LeO.refl _)
      | (with_reducible exact LeO.none _)
      | (with_reducible refine LeO.ite ?_ ?_)
      | (with_reducible refine LeO.bind ?_ (fun _ => ?_))
      | exact ih0 _ _ _ _ _ _
      | exact ih1 _ _ _ _ _ _ _
      | exact LeO.none _
      | refine LeO.ite ?_ ?_
      | refine LeO.bind ?_ (fun _ => ?_)
    · intro y0 y1 y2 y3 y4 y5 y6
      unfold spec_Kids.j1
      repeat' first
      | (with_reducible exact ih0 _ _ _ _ _ _)
      | (with_reducible exact ih1 _ _ _ _ _ _ _)
      | (with_reducible exact LeO.refl _)
      | (with_reducible exact LeO.none _)
      | (with_reducible refine LeO.ite ?_ ?_)
      | (with_reducible refine LeO.bind ?_ (fun _ => ?_))
      | exact ih0 _ _ _ _ _ _
      | exact ih1 _ _ _ _ _ _ _
      | exact LeO.none _
      | refine LeO.ite ?_ ?_
      | refine LeO.bind ?_ (fun _ => ?_)
theorem spec_Kids.mono : ∀ a0 a1 a2 a3 k, LeO (spec_Kids.f k a0 a1 a2 a3) (spec_Kids.f (k + 1) a0 a1 a2 a3) := by
  intro a0 a1 a2 a3 k
  obtain ⟨ih0, ih1⟩ := spec_Kids.mono_l k
  unfold spec_Kids.f
  repeat' first
      | (with_reducible exact ih0 _ _ _ _ _ _)
      | (with_reducible exact ih1 _ _ _ _ _ _ _)
      | (with_reducible exact LeO.refl _)
      | (with_reducible exact LeO.none _)
      | (with_reducible refine LeO.ite ?_ ?_)
      | (with_reducible refine LeO.bind ?_ (fun _ => ?_))
      | exact ih0 _ _ _ _ _ _
      | exact ih1 _ _ _ _ _ _ _
      | exact LeO.none _
      | refine LeO.ite ?_ ?_
      | refine LeO.bind ?_ (fun _ => ?_)
set_option maxHeartbeats 8000000 in
set_option maxRecDepth 100000 in
theorem spec_Kids.calls (k : Nat) (a0_0 : Int) (a0_1 : Int) (a1 : Int) (a2 : Int) (r : List Int) (w : World) (h : spec_Kids.f k a0_0 a0_1 a1 a2 = some r) :
    Calls Try.prog 44 #[.agg #[.int .i64 a0_0, .int .i64 a0_1], .int .i64 a1, .int .i64 a2] w fun e w' => ∃ v0_ : Value, e = .returned (v0_) ∧ Kd.R (Kd.int .i64) 3 w' w.heap.size (fun _ => True) v0_ r ∧ Below w.heap.size w w' := by
  have hu25 := Try.underlying25
  have HB := Aside0.mk (Below.refl w.heap.size w)
  have H : ((some (([] : List Int) : List Int)).bind fun y121 => ((spec_ConfOk.f a0_0 a0_1).bind fun t124 => (if t124 = true then (spec_Kids.l0 k a1 a2 y121 0 a0_0 a0_1) else (some y121)))) = some r := h
  clear h
  obtain ⟨y121, hy121⟩ : ∃ y_ : List Int, y_ = (([] : List Int)) := ⟨_, rfl⟩
  replace H : ((spec_ConfOk.f a0_0 a0_1).bind fun t124 => (if t124 = true then (spec_Kids.l0 k a1 a2 y121 0 a0_0 a0_1) else (some y121))) = some r := by first | (rw [hy121]; with_reducible exact H) | (have H2_ := (Option.bind_some _ _).symm.trans H; rw [hy121]; with_reducible exact H2_) | (have H2_ := (Option.bind_some _ _).symm.trans H; with_reducible exact H2_) | with_reducible exact H | (rw [hy121]; exact H) | exact H
  have Ny121 := Aside0.mk hy121
  clear hy121
  replace H := Option.bind_eq_some_iff.mp H
  obtain ⟨t124, A40, H⟩ := H
  replace H : (if t124 = true then (spec_Kids.l0 k a1 a2 y121 0 a0_0 a0_1) else (some y121)) = some r := H
  have A4 := Aside0.mk A40
  clear A40
  by_cases c5 : t124 = true
  · subst c5
    have H1 : (spec_Kids.l0 k a1 a2 y121 0 a0_0 a0_1) = some r := by rw [if_pos rfl] at H; exact H
    clear H
    have H := H1
    clear H1
    have H' := Aside0.mk H
    clear H
    go_enter Try.func44, Try.ntmps44
    go_wp2_with (first | ((with_reducible refine gate_dst (N := 3) rfl ?_); refine box_event ?hg (N := 3) ?hd (cs := #[.int .i64 a0_0, .int .i64 a0_1]) (t := 25) ?hr ?_; (case hd => rfl); (case hg => rfl); (case hr => first | (go_simp; done) | (go_simp; rfl)); intro gb120 hg w6 hbox hb; have BK120 := Aside0.mk (hbox); have GW120 := Aside0.mk ((by rw [hg]; exact (below_size (bI HB.out)) : w.heap.size ≤ gb120)); have GE120 := Aside0.mk ((by rw [hg]; exact (below_size (bI HB.out)) : w.heap.size ≤ gb120)); have GI120 := GeI.mk GE120.out; replace HB := Aside0.mk (below_step (bI HB.out) hb); clear hb hbox hg) | ((with_reducible refine gate_dst (N := 9) rfl ?_); refine Kd.R_lit (Kd.int .i64) _ 3 ?hg (N := 9) ?hd (xs := ([] : List Int)) (inner := []) (ok := fun _ => True) (okp := fun _ => True) ?hr ?hp (fun _ hk => hk) trivial (Below.refl _ _) (Nat.le_refl _) (by simp) ?_; (case hd => rfl); (case hg => rfl); (case hr => first | (go_simp; done) | (go_simp; rfl)); (case hp => exact (Reps.none _ _)); intro v122 w7 ho8 hb hg_ hnew_; clear hg_ hnew_; (first | rw [← Ny121.out] at ho8 | (simp only [Int.reduceToNat] at ho8; rw [← Ny121.out] at ho8)); have HO123 := Aside0.mk (Kd.R_lower ho8 (below_size (bI HB.out))); replace BK120 := Aside0.mk (blk_below (g := gb120) (o := .cells #[.int .i64 a0_0, .int .i64 a0_1] 25 (0, 0)) (kI BK120.out) hb); replace HB := Aside0.mk (below_step (bI HB.out) hb); clear hb ho8; have hcz9_0 : w7.cell? ⟨gb120, 0, none⟩ = some (.int .i64 a0_0) := (blk_cell BK120.out 0).trans rfl; have hcz9_1 : w7.cell? ⟨gb120, 1, none⟩ = some (.int .i64 a0_1) := (blk_cell BK120.out 1).trans rfl; have hfz9_0 := blk_frozen BK120.out 0; have hfz9_1 := blk_frozen BK120.out 1) | ((with_reducible refine gate_callee (f := 59) rfl ?_); refine goesL_ (some 11) rfl rfl Try.func59 (by kernel_rfl) rfl #[.agg #[.int .i64 a0_0, .int .i64 a0_1]] rfl (by (try simp only [List.map_toArray, List.map_cons, List.map_nil]); first | done | rfl | (simp only [List.length_drop, List.length_take]; rfl)) ?_; (with_reducible refine (spec_ConfOk.calls a0_0 a0_1 true _ A4.out).mono ?_); rintro e w10 ⟨rfl, hb⟩; refine ⟨_, rfl, ?_⟩; replace HO123 := Aside0.mk (Kd.R_below (rI HO123.out) hb); replace BK120 := Aside0.mk (blk_below (g := gb120) (o := .cells #[.int .i64 a0_0, .int .i64 a0_1] 25 (0, 0)) (kI BK120.out) hb); replace HB := Aside0.mk (below_step (bI HB.out) hb); (try clear hb); (try clear hb2); (try clear hk); (try clear hi)))
    go_loopg [7, 8] k (fun kq v7 v8 w' => ∃ (x7_1 : List Int) (x8_1 : Int), v8 = .int .i64 x8_1 ∧ Aside0 (spec_Kids.l0 kq a1 a2 x7_1 x8_1 a0_0 a0_1 = some r) ∧ Aside0 (kq ≤ k) ∧ Aside0 (Kd.R (Kd.int .i64) 3 w' w.heap.size (fun _ => True) v7 x7_1) ∧ Aside0 (w'.heap[gb120]? = some (.cells #[.int .i64 a0_0, .int .i64 a0_1] 25 (0, 0))) ∧ Aside0 (Below w.heap.size w w'))
    case atStart => exact ⟨(y121), (0), (by first | rfl | (simp; done) | (simp [*]; done)), H', ⟨Nat.le_refl _⟩, ⟨by (with_reducible repeat (first | apply Kd.R_alloc | apply Kd.R_drewN | apply Kd.R_drew)); exact HO123.out⟩, ⟨by (with_reducible repeat (first | refine blk_drewN ?_ _ | refine blk_drew ?_ | refine blk_alloc ?_ _)); exact BK120.out⟩, ⟨bI HB.out⟩⟩
    case round =>
      clear H'
      try clear p2
      try clear c4
      try clear c5
      try clear hcz9_0
      try clear hcz9_1
      try clear hfz9_0
      try clear hfz9_1
      obtain ⟨x7_1, x8_1, rfl, HA, HK1, HO_7, BK120, HB⟩ := hrel
      cases gk with
      | zero => exact absurd HA.out (by simp [spec_Kids.l0])
      | succ k1 =>
        have H := HA.out
        clear HA
        simp only [spec_Kids.l0] at H
        have HC11 := Aside0.mk H
        clear H
        go_upto_region 5 with (fail)
        go_cut [21] (fun v21 wc => ∃ (kq : Nat) (x21_10 : Bool), v21 = .bool x21_10 ∧ Aside0 (spec_Kids.j1 kq a1 a2 x7_1 x8_1 x21_10 a0_0 a0_1 = some r) ∧ Aside0 (kq ≤ k1) ∧ Aside0 (Kd.R (Kd.int .i64) 3 wc w.heap.size (fun _ => True) u7 x7_1) ∧ Aside0 (wc.heap[gb120]? = some (.cells #[.int .i64 a0_0, .int .i64 a0_1] 25 (0, 0))) ∧ Aside0 (Below w.heap.size w wc))
        case first =>
          have H := HC11.out
          clear HC11
          by_cases c12 : x8_1 < a0_0
          · rw [if_pos c12] at H
            have c12b0 : decide (x8_1 < a0_0) = true := decide_eq_true c12
            clear c12
            (first | rw [c12b0] | (simp only [i64_w, i32_w]; rw [c12b0]) | skip)
            have H' := Aside0.mk H
            clear H
            have hcz13_0 : wr.cell? ⟨gb120, 0, none⟩ = some (.int .i64 a0_0) := (blk_cell BK120.out 0).trans rfl
            have hcz13_1 : wr.cell? ⟨gb120, 1, none⟩ = some (.int .i64 a0_1) := (blk_cell BK120.out 1).trans rfl
            have hfz13_0 := blk_frozen BK120.out 0
            have hfz13_1 := blk_frozen BK120.out 1
            go_wp2
            go_meet
            case rel => exact ⟨_, (decide (a2 ≥ 0)), (by first | rfl | (simp; done) | (simp [*]; done)), H', ⟨by have := HK1.out; first | omega | exact Nat.le_refl _⟩, ⟨by (with_reducible repeat (first | apply Kd.R_alloc | apply Kd.R_drewN | apply Kd.R_drew)); exact HO_7.out⟩, ⟨by (with_reducible repeat (first | refine blk_drewN ?_ _ | refine blk_drew ?_ | refine blk_alloc ?_ _)); exact BK120.out⟩, ⟨bI HB.out⟩⟩
          · rw [if_neg c12] at H
            have c12b0 : decide (x8_1 < a0_0) = false := decide_eq_false c12
            clear c12
            (first | rw [c12b0] | (simp only [i64_w, i32_w]; rw [c12b0]) | skip)
            have H' := Aside0.mk H
            clear H
            have hcz14_0 : wr.cell? ⟨gb120, 0, none⟩ = some (.int .i64 a0_0) := (blk_cell BK120.out 0).trans rfl
            have hcz14_1 : wr.cell? ⟨gb120, 1, none⟩ = some (.int .i64 a0_1) := (blk_cell BK120.out 1).trans rfl
            have hfz14_0 := blk_frozen BK120.out 0
            have hfz14_1 := blk_frozen BK120.out 1
            go_wp2
            go_meet
            case rel => exact ⟨_, (false), (by first | rfl | (simp; done) | (simp [*]; done)), H', ⟨by have := HK1.out; first | omega | exact Nat.le_refl _⟩, ⟨by (with_reducible repeat (first | apply Kd.R_alloc | apply Kd.R_drewN | apply Kd.R_drew)); exact HO_7.out⟩, ⟨by (with_reducible repeat (first | refine blk_drewN ?_ _ | refine blk_drew ?_ | refine blk_alloc ?_ _)); exact BK120.out⟩, ⟨bI HB.out⟩⟩
        case rest =>
          clear HC11
          try clear c1
          try clear p2
          try clear c4
          try clear c5
          try clear c12
          try clear c12b0
          try clear hcz13_0
          try clear hcz13_1
          try clear hcz14_0
          try clear hcz14_1
          try clear hcz9_0
          try clear hcz9_1
          try clear hfz13_0
          try clear hfz13_1
          try clear hfz14_0
          try clear hfz14_1
          try clear hfz9_0
          try clear hfz9_1
          try clear p2
          obtain ⟨kq, x21_10, rfl, HA, HJ10, HO_7, BK120, HB⟩ := hcut
          cases kq with
          | zero => exact absurd HA.out (by simp [spec_Kids.j1])
          | succ kj10 =>
            have H := HA.out
            clear HA
            simp only [spec_Kids.j1] at H
            by_cases c15 : x21_10 = true
            · subst c15
              have H1 : ((spec_Up.f a0_0 a0_1 a1 x8_1).bind fun t125 => (if t125 = a2 then (if x7_1.length < 17592186044416 then (spec_Kids.l0 kj10 a1 a2 (x7_1 ++ [x8_1]) (wrap64 (x8_1 + 1)) a0_0 a0_1) else (none)) else (spec_Kids.l0 kj10 a1 a2 x7_1 (wrap64 (x8_1 + 1)) a0_0 a0_1))) = some r := by rw [if_pos rfl] at H; exact H
              clear H
              have H := H1
              clear H1
              replace H := Option.bind_eq_some_iff.mp H
              obtain ⟨t125, A160, H⟩ := H
              replace H : (if t125 = a2 then (if x7_1.length < 17592186044416 then (spec_Kids.l0 kj10 a1 a2 (x7_1 ++ [x8_1]) (wrap64 (x8_1 + 1)) a0_0 a0_1) else (none)) else (spec_Kids.l0 kj10 a1 a2 x7_1 (wrap64 (x8_1 + 1)) a0_0 a0_1)) = some r := H
              have A16 := Aside0.mk A160
              clear A160
              by_cases c17 : t125 = a2
              · rw [if_pos c17] at H
                have c17b0 : (t125 == a2) = true := beq_iff_eq.mpr c17
                have c17b1 : (t125 != a2) = false := bne_eq_false_iff_eq.mpr c17
                clear c17
                by_cases c18 : x7_1.length < 17592186044416
                rotate_left
                · rw [if_neg c18] at H
                  exact absurd H (by simp)
                rw [if_pos c18] at H
                have LMc18 := Aside0.mk c18
                clear c18
                obtain ⟨y126, hy126⟩ : ∃ y_ : List Int, y_ = (x7_1 ++ [x8_1]) := ⟨_, rfl⟩
                replace H : (spec_Kids.l0 kj10 a1 a2 y126 (wrap64 (x8_1 + 1)) a0_0 a0_1) = some r := by first | (rw [hy126]; with_reducible exact H) | (have H2_ := (Option.bind_some _ _).symm.trans H; rw [hy126]; with_reducible exact H2_) | (have H2_ := (Option.bind_some _ _).symm.trans H; with_reducible exact H2_) | with_reducible exact H | (rw [hy126]; exact H) | exact H
                have Ny126 := Aside0.mk hy126
                clear hy126
                have H' := Aside0.mk H
                clear H
                have hcz19_0 : wc.cell? ⟨gb120, 0, none⟩ = some (.int .i64 a0_0) := (blk_cell BK120.out 0).trans rfl
                have hcz19_1 : wc.cell? ⟨gb120, 1, none⟩ = some (.int .i64 a0_1) := (blk_cell BK120.out 1).trans rfl
                have hfz19_0 := blk_frozen BK120.out 0
                have hfz19_1 := blk_frozen BK120.out 1
                go_wp2_with (first | ((with_reducible refine gate_callee (f := 22) rfl ?_); refine goesL_ (some 27) rfl rfl Try.func22 (by kernel_rfl) rfl #[.agg #[.int .i64 a0_0, .int .i64 a0_1], .int .i64 a1, .int .i64 x8_1] rfl (by (try simp only [List.map_toArray, List.map_cons, List.map_nil]); first | done | rfl | (simp only [List.length_drop, List.length_take]; rfl)) ?_; (with_reducible refine (spec_Up.calls a0_0 a0_1 a1 x8_1 t125 _ A16.out).mono ?_); rintro e w20 ⟨rfl, hb⟩; refine ⟨_, rfl, ?_⟩; replace HO_7 := Aside0.mk (Kd.R_below (rI HO_7.out) hb); replace BK120 := Aside0.mk (blk_below (g := gb120) (o := .cells #[.int .i64 a0_0, .int .i64 a0_1] 25 (0, 0)) (kI BK120.out) hb); replace HB := Aside0.mk (below_step (bI HB.out) hb); (try clear hb); (try clear hb2); (try clear hk); (try clear hi)) | ((with_reducible refine gate_builtin (b := .append) (xs := #[.tmp 30, .tmp 32]) rfl ?_); at_builtin; refine Kd.R_append (Kd.int .i64) (w0 := w) w.heap.size rfl (.tmp 30) (.tmp 32) 39 3 (.int .i64 0) 8 rfl Try.underlying39 info3 rfl (by decide) (by omega) u7 x7_1 x8_1 [.int .i64 x8_1] (fun _ => True) (fun _ => False) rfl rfl ?aP (fun _ hk => hk.elim) ?aF ?aO ?aB ?aS ?aL ?_; (case aP => exact rfl); (case aB => exact (bI HB.out)); (case aF => exact (fun _ _ => trivial)); (case aO => exact (rI HO_7.out)); (case aS => exact (below_size (bI HB.out))); (case aL => have := LMc18.out; omega); intro v127 w21 ho hb hg hat; rw [← Ny126.out] at ho; have n0_ := Aside0.mk (blk_grown (g := gb120) (o := .cells #[.int .i64 a0_0, .int .i64 a0_1] 25 (0, 0)) (kI BK120.out) hg (Kd.R_ne HO_7.out BK120.out (by decide))); have n1_ := Aside0.mk (hb); have n2_ := Aside0.mk (ho); clear BK120; clear HB; clear HO_7; have BK120 := n0_; have HB := n1_; have HO128 := n2_; clear n0_ n1_ n2_; clear ho hb hg hat))
                go_roundg kj10
                case measure => have := HK1.out; have := HJ10.out; omega
                case rel => exact ⟨(y126), (wrap64 (x8_1 + 1)), (by first | rfl | (simp; done) | (simp [*]; done)), H', ⟨by have := HK1.out; have := HJ10.out; omega⟩, ⟨by (with_reducible repeat (first | apply Kd.R_alloc | apply Kd.R_drewN | apply Kd.R_drew)); exact HO128.out⟩, ⟨by (with_reducible repeat (first | refine blk_drewN ?_ _ | refine blk_drew ?_ | refine blk_alloc ?_ _)); exact BK120.out⟩, ⟨bI HB.out⟩⟩
              · rw [if_neg c17] at H
                have c17b0 : (t125 == a2) = false := beq_eq_false_iff_ne.mpr c17
                have c17b1 : (t125 != a2) = true := bne_iff_ne.mpr c17
                have H' := Aside0.mk H
                clear H
                have hcz22_0 : wc.cell? ⟨gb120, 0, none⟩ = some (.int .i64 a0_0) := (blk_cell BK120.out 0).trans rfl
                have hcz22_1 : wc.cell? ⟨gb120, 1, none⟩ = some (.int .i64 a0_1) := (blk_cell BK120.out 1).trans rfl
                have hfz22_0 := blk_frozen BK120.out 0
                have hfz22_1 := blk_frozen BK120.out 1
                go_wp2_with (first | ((with_reducible refine gate_callee (f := 22) rfl ?_); refine goesL_ (some 27) rfl rfl Try.func22 (by kernel_rfl) rfl #[.agg #[.int .i64 a0_0, .int .i64 a0_1], .int .i64 a1, .int .i64 x8_1] rfl (by (try simp only [List.map_toArray, List.map_cons, List.map_nil]); first | done | rfl | (simp only [List.length_drop, List.length_take]; rfl)) ?_; (with_reducible refine (spec_Up.calls a0_0 a0_1 a1 x8_1 t125 _ A16.out).mono ?_); rintro e w23 ⟨rfl, hb⟩; refine ⟨_, rfl, ?_⟩; replace HO_7 := Aside0.mk (Kd.R_below (rI HO_7.out) hb); replace BK120 := Aside0.mk (blk_below (g := gb120) (o := .cells #[.int .i64 a0_0, .int .i64 a0_1] 25 (0, 0)) (kI BK120.out) hb); replace HB := Aside0.mk (below_step (bI HB.out) hb); (try clear hb); (try clear hb2); (try clear hk); (try clear hi)))
                go_roundg kj10
                case measure => have := HK1.out; have := HJ10.out; omega
                case rel => exact ⟨(x7_1), (wrap64 (x8_1 + 1)), (by first | rfl | (simp; done) | (simp [*]; done)), H', ⟨by have := HK1.out; have := HJ10.out; omega⟩, ⟨by (with_reducible repeat (first | apply Kd.R_alloc | apply Kd.R_drewN | apply Kd.R_drew)); exact HO_7.out⟩, ⟨by (with_reducible repeat (first | refine blk_drewN ?_ _ | refine blk_drew ?_ | refine blk_alloc ?_ _)); exact BK120.out⟩, ⟨bI HB.out⟩⟩
            · replace c15 := Bool.eq_false_iff.mpr c15
              subst c15
              have H1 : (some x7_1) = some r := by rw [if_neg (show ¬ (false = true) by decide)] at H; exact H
              clear H
              have H := H1
              clear H1
              obtain rfl := Option.some.inj H
              go_wp2
              go_ret
              exact ⟨_, by first | rfl | (simp [errW_none, errW_some] <;> rfl) | (simp [*, errW_none, errW_some] <;> rfl), by (with_reducible repeat (first | apply Kd.R_alloc | apply Kd.R_drewN | apply Kd.R_drew)); exact HO_7.out, bI HB.out⟩
  · replace c5 := Bool.eq_false_iff.mpr c5
    subst c5
    have H1 : (some y121) = some r := by rw [if_neg (show ¬ (false = true) by decide)] at H; exact H
    clear H
    have H := H1
    clear H1
    obtain rfl := Option.some.inj H
    go_enter Try.func44, Try.ntmps44
    go_wp2_with (first | ((with_reducible refine gate_dst (N := 3) rfl ?_); refine box_event ?hg (N := 3) ?hd (cs := #[.int .i64 a0_0, .int .i64 a0_1]) (t := 25) ?hr ?_; (case hd => rfl); (case hg => rfl); (case hr => first | (go_simp; done) | (go_simp; rfl)); intro gb120 hg w24 hbox hb; have BK120 := Aside0.mk (hbox); have GW120 := Aside0.mk ((by rw [hg]; exact (below_size (bI HB.out)) : w.heap.size ≤ gb120)); have GE120 := Aside0.mk ((by rw [hg]; exact (below_size (bI HB.out)) : w.heap.size ≤ gb120)); have GI120 := GeI.mk GE120.out; replace HB := Aside0.mk (below_step (bI HB.out) hb); clear hb hbox hg) | ((with_reducible refine gate_dst (N := 9) rfl ?_); refine Kd.R_lit (Kd.int .i64) _ 3 ?hg (N := 9) ?hd (xs := ([] : List Int)) (inner := []) (ok := fun _ => True) (okp := fun _ => True) ?hr ?hp (fun _ hk => hk) trivial (Below.refl _ _) (Nat.le_refl _) (by simp) ?_; (case hd => rfl); (case hg => rfl); (case hr => first | (go_simp; done) | (go_simp; rfl)); (case hp => exact (Reps.none _ _)); intro v122 w25 ho26 hb hg_ hnew_; clear hg_ hnew_; (first | rw [← Ny121.out] at ho26 | (simp only [Int.reduceToNat] at ho26; rw [← Ny121.out] at ho26)); have HO123 := Aside0.mk (Kd.R_lower ho26 (below_size (bI HB.out))); replace BK120 := Aside0.mk (blk_below (g := gb120) (o := .cells #[.int .i64 a0_0, .int .i64 a0_1] 25 (0, 0)) (kI BK120.out) hb); replace HB := Aside0.mk (below_step (bI HB.out) hb); clear hb ho26; have hcz27_0 : w25.cell? ⟨gb120, 0, none⟩ = some (.int .i64 a0_0) := (blk_cell BK120.out 0).trans rfl; have hcz27_1 : w25.cell? ⟨gb120, 1, none⟩ = some (.int .i64 a0_1) := (blk_cell BK120.out 1).trans rfl; have hfz27_0 := blk_frozen BK120.out 0; have hfz27_1 := blk_frozen BK120.out 1) | ((with_reducible refine gate_callee (f := 59) rfl ?_); refine goesL_ (some 11) rfl rfl Try.func59 (by kernel_rfl) rfl #[.agg #[.int .i64 a0_0, .int .i64 a0_1]] rfl (by (try simp only [List.map_toArray, List.map_cons, List.map_nil]); first | done | rfl | (simp only [List.length_drop, List.length_take]; rfl)) ?_; (with_reducible refine (spec_ConfOk.calls a0_0 a0_1 false _ A4.out).mono ?_); rintro e w28 ⟨rfl, hb⟩; refine ⟨_, rfl, ?_⟩; replace HO123 := Aside0.mk (Kd.R_below (rI HO123.out) hb); replace BK120 := Aside0.mk (blk_below (g := gb120) (o := .cells #[.int .i64 a0_0, .int .i64 a0_1] 25 (0, 0)) (kI BK120.out) hb); replace HB := Aside0.mk (below_step (bI HB.out) hb); (try clear hb); (try clear hb2); (try clear hk); (try clear hi)))
    go_ret
    exact ⟨_, by first | rfl | (simp [errW_none, errW_some] <;> rfl) | (simp [*, errW_none, errW_some] <;> rfl), by (with_reducible repeat (first | apply Kd.R_alloc | apply Kd.R_drewN | apply Kd.R_drew)); exact HO123.out, bI HB.out⟩

/-! ### impl_within: function 62 -/
def impl_within.f (a0 : Int) (a1 : Int) (a2 : Int) : Option (Bool) := if a0 ≥ a1 then (some (decide (a0 ≤ a2))) else (some false)
set_option maxHeartbeats 8000000 in
set_option maxRecDepth 100000 in
theorem impl_within.calls (a0 : Int) (a1 : Int) (a2 : Int) (r : Bool) (w : World) (h : impl_within.f a0 a1 a2 = some r) :
    Calls Try.prog 62 #[.int .i64 a0, .int .i64 a1, .int .i64 a2] w fun e w' => e = .returned (.bool r) ∧ Drawn0 w w' := by
  have H : (if a0 ≥ a1 then (some (decide (a0 ≤ a2))) else (some false)) = some r := h
  clear h
  by_cases c4 : a0 ≥ a1
  · rw [if_pos c4] at H
    have c4b0 : decide (a1 ≤ a0) = true := decide_eq_true c4
    clear c4
    obtain rfl := Option.some.inj H
    go_enter Try.func62, Try.ntmps62
    go_wp2
    go_ret
    exact ⟨by first | rfl | (simp; done) | (simp [*]; done), by repeat (first | exact Drawn0.refl _ | apply Drawn0.step)⟩
  · rw [if_neg c4] at H
    have c4b0 : decide (a1 ≤ a0) = false := decide_eq_false c4
    clear c4
    obtain rfl := Option.some.inj H
    go_enter Try.func62, Try.ntmps62
    go_wp2
    go_ret
    exact ⟨by first | rfl | (simp; done) | (simp [*]; done), by repeat (first | exact Drawn0.refl _ | apply Drawn0.step)⟩

/-! ### impl_ConfOk: function 60 -/
def impl_ConfOk.f (a0_0 : Int) (a0_1 : Int) : Option (Bool) := (impl_within.f a0_0 4 7).bind fun t130 => (if t130 = true then ((impl_within.f a0_1 1 6).bind fun t131 => (some t131)) else (some false))
set_option maxHeartbeats 8000000 in
set_option maxRecDepth 100000 in
theorem impl_ConfOk.calls (a0_0 : Int) (a0_1 : Int) (r : Bool) (w : World) (h : impl_ConfOk.f a0_0 a0_1 = some r) :
    Calls Try.prog 60 #[.agg #[.int .i64 a0_0, .int .i64 a0_1]] w fun e w' => e = .returned (.bool r) ∧ Below w.heap.size w w' := by
  have hu25 := Try.underlying25
  have HB := Aside0.mk (Below.refl w.heap.size w)
  have H : ((impl_within.f a0_0 4 7).bind fun t130 => (if t130 = true then ((impl_within.f a0_1 1 6).bind fun t131 => (some t131)) else (some false))) = some r := h
  clear h
  replace H := Option.bind_eq_some_iff.mp H
  obtain ⟨t130, A20, H⟩ := H
  replace H : (if t130 = true then ((impl_within.f a0_1 1 6).bind fun t131 => (some t131)) else (some false)) = some r := H
  have A2 := Aside0.mk A20
  clear A20
  by_cases c3 : t130 = true
  · subst c3
    have H1 : ((impl_within.f a0_1 1 6).bind fun t131 => (some t131)) = some r := by rw [if_pos rfl] at H; exact H
    clear H
    have H := H1
    clear H1
    replace H := Option.bind_eq_some_iff.mp H
    obtain ⟨t131, A40, H⟩ := H
    replace H : (some t131) = some r := H
    have A4 := Aside0.mk A40
    clear A40
    obtain rfl := Option.some.inj H
    go_enter Try.func60, Try.ntmps60
    go_wp2_with (first | ((with_reducible refine gate_dst (N := 1) rfl ?_); refine box_event ?hg (N := 1) ?hd (cs := #[.int .i64 a0_0, .int .i64 a0_1]) (t := 25) ?hr ?_; (case hd => rfl); (case hg => rfl); (case hr => first | (go_simp; done) | (go_simp; rfl)); intro gb129 hg w5 hbox hb; have BK129 := Aside0.mk (hbox); have GW129 := Aside0.mk ((by rw [hg]; exact (below_size (bI HB.out)) : w.heap.size ≤ gb129)); have GE129 := Aside0.mk ((by rw [hg]; exact (below_size (bI HB.out)) : w.heap.size ≤ gb129)); have GI129 := GeI.mk GE129.out; replace HB := Aside0.mk (below_step (bI HB.out) hb); clear hb hbox hg; have hcz6_0 : w5.cell? ⟨gb129, 0, none⟩ = some (.int .i64 a0_0) := (blk_cell BK129.out 0).trans rfl; have hcz6_1 : w5.cell? ⟨gb129, 1, none⟩ = some (.int .i64 a0_1) := (blk_cell BK129.out 1).trans rfl; have hfz6_0 := blk_frozen BK129.out 0; have hfz6_1 := blk_frozen BK129.out 1) | ((with_reducible refine gate_callee (f := 62) rfl ?_); refine goesL_ (some 5) rfl rfl Try.func62 (by kernel_rfl) rfl #[.int .i64 a0_0, .int .i64 4, .int .i64 7] rfl (by (try simp only [List.map_toArray, List.map_cons, List.map_nil]); first | done | rfl | (simp only [List.length_drop, List.length_take]; rfl)) ?_; (with_reducible refine (impl_within.calls a0_0 4 7 true _ A2.out).mono ?_); rintro e w' ⟨rfl, ⟨nd, rfl⟩⟩; refine ⟨_, rfl, ?_⟩) | (go_at_call 62; (with_reducible refine (impl_within.calls a0_1 1 6 t131 _ A4.out).mono ?_); rintro e w' ⟨rfl, ⟨nd, rfl⟩⟩))
    go_ret
    exact ⟨by first | rfl | (simp [errW_none, errW_some] <;> rfl) | (simp [*, errW_none, errW_some] <;> rfl), bI HB.out⟩
  · replace c3 := Bool.eq_false_iff.mpr c3
    subst c3
    have H1 : (some false) = some r := by rw [if_neg (show ¬ (false = true) by decide)] at H; exact H
    clear H
    have H := H1
    clear H1
    obtain rfl := Option.some.inj H
    go_enter Try.func60, Try.ntmps60
    go_wp2_with (first | ((with_reducible refine gate_dst (N := 1) rfl ?_); refine box_event ?hg (N := 1) ?hd (cs := #[.int .i64 a0_0, .int .i64 a0_1]) (t := 25) ?hr ?_; (case hd => rfl); (case hg => rfl); (case hr => first | (go_simp; done) | (go_simp; rfl)); intro gb129 hg w7 hbox hb; have BK129 := Aside0.mk (hbox); have GW129 := Aside0.mk ((by rw [hg]; exact (below_size (bI HB.out)) : w.heap.size ≤ gb129)); have GE129 := Aside0.mk ((by rw [hg]; exact (below_size (bI HB.out)) : w.heap.size ≤ gb129)); have GI129 := GeI.mk GE129.out; replace HB := Aside0.mk (below_step (bI HB.out) hb); clear hb hbox hg; have hcz8_0 : w7.cell? ⟨gb129, 0, none⟩ = some (.int .i64 a0_0) := (blk_cell BK129.out 0).trans rfl; have hcz8_1 : w7.cell? ⟨gb129, 1, none⟩ = some (.int .i64 a0_1) := (blk_cell BK129.out 1).trans rfl; have hfz8_0 := blk_frozen BK129.out 0; have hfz8_1 := blk_frozen BK129.out 1) | ((with_reducible refine gate_callee (f := 62) rfl ?_); refine goesL_ (some 5) rfl rfl Try.func62 (by kernel_rfl) rfl #[.int .i64 a0_0, .int .i64 4, .int .i64 7] rfl (by (try simp only [List.map_toArray, List.map_cons, List.map_nil]); first | done | rfl | (simp only [List.length_drop, List.length_take]; rfl)) ?_; (with_reducible refine (impl_within.calls a0_0 4 7 false _ A2.out).mono ?_); rintro e w' ⟨rfl, ⟨nd, rfl⟩⟩; refine ⟨_, rfl, ?_⟩))
    go_ret
    exact ⟨by first | rfl | (simp [errW_none, errW_some] <;> rfl) | (simp [*, errW_none, errW_some] <;> rfl), bI HB.out⟩

/-! ### impl_Seat: function 19 -/
def impl_Seat.f (a0_0 : Int) (a0_1 : Int) (a1 : Int) (a2 : Int) : Option (Int) := (impl_ConfOk.f a0_0 a0_1).bind fun t133 => (if t133 = true then (if a1 < 0 then (some (-1)) else ((impl_within.f a2 0 (wrap64 (a0_0 - 1))).bind fun t134 => (if t134 = true then (if a0_0 = 0 then (none) else (some (Int.tmod (wrap64 ((wrap64 (a2 - (Int.tmod a1 a0_0))) + a0_0)) a0_0))) else (some (-1))))) else (some (-1)))
set_option maxHeartbeats 8000000 in
set_option maxRecDepth 100000 in
theorem impl_Seat.calls (a0_0 : Int) (a0_1 : Int) (a1 : Int) (a2 : Int) (r : Int) (w : World) (h : impl_Seat.f a0_0 a0_1 a1 a2 = some r) :
    Calls Try.prog 19 #[.agg #[.int .i64 a0_0, .int .i64 a0_1], .int .i64 a1, .int .i64 a2] w fun e w' => e = .returned (.int .i64 r) ∧ Below w.heap.size w w' := by
  have hu25 := Try.underlying25
  have HB := Aside0.mk (Below.refl w.heap.size w)
  have H : ((impl_ConfOk.f a0_0 a0_1).bind fun t133 => (if t133 = true then (if a1 < 0 then (some (-1)) else ((impl_within.f a2 0 (wrap64 (a0_0 - 1))).bind fun t134 => (if t134 = true then (if a0_0 = 0 then (none) else (some (Int.tmod (wrap64 ((wrap64 (a2 - (Int.tmod a1 a0_0))) + a0_0)) a0_0))) else (some (-1))))) else (some (-1)))) = some r := h
  clear h
  replace H := Option.bind_eq_some_iff.mp H
  obtain ⟨t133, A40, H⟩ := H
  replace H : (if t133 = true then (if a1 < 0 then (some (-1)) else ((impl_within.f a2 0 (wrap64 (a0_0 - 1))).bind fun t134 => (if t134 = true then (if a0_0 = 0 then (none) else (some (Int.tmod (wrap64 ((wrap64 (a2 - (Int.tmod a1 a0_0))) + a0_0)) a0_0))) else (some (-1))))) else (some (-1))) = some r := H
  have A4 := Aside0.mk A40
  clear A40
  by_cases c5 : t133 = true
  · subst c5
    have H1 : (if a1 < 0 then (some (-1)) else ((impl_within.f a2 0 (wrap64 (a0_0 - 1))).bind fun t134 => (if t134 = true then (if a0_0 = 0 then (none) else (some (Int.tmod (wrap64 ((wrap64 (a2 - (Int.tmod a1 a0_0))) + a0_0)) a0_0))) else (some (-1))))) = some r := by rw [if_pos rfl] at H; exact H
    clear H
    have H := H1
    clear H1
    by_cases c6 : a1 < 0
    · rw [if_pos c6] at H
      have c6b0 : decide (a1 < 0) = true := decide_eq_true c6
      clear c6
      obtain rfl := Option.some.inj H
      go_enter Try.func19, Try.ntmps19
      go_wp2_with (first | ((with_reducible refine gate_dst (N := 3) rfl ?_); refine box_event ?hg (N := 3) ?hd (cs := #[.int .i64 a0_0, .int .i64 a0_1]) (t := 25) ?hr ?_; (case hd => rfl); (case hg => rfl); (case hr => first | (go_simp; done) | (go_simp; rfl)); intro gb132 hg w7 hbox hb; have BK132 := Aside0.mk (hbox); have GW132 := Aside0.mk ((by rw [hg]; exact (below_size (bI HB.out)) : w.heap.size ≤ gb132)); have GE132 := Aside0.mk ((by rw [hg]; exact (below_size (bI HB.out)) : w.heap.size ≤ gb132)); have GI132 := GeI.mk GE132.out; replace HB := Aside0.mk (below_step (bI HB.out) hb); clear hb hbox hg; have hcz8_0 : w7.cell? ⟨gb132, 0, none⟩ = some (.int .i64 a0_0) := (blk_cell BK132.out 0).trans rfl; have hcz8_1 : w7.cell? ⟨gb132, 1, none⟩ = some (.int .i64 a0_1) := (blk_cell BK132.out 1).trans rfl; have hfz8_0 := blk_frozen BK132.out 0; have hfz8_1 := blk_frozen BK132.out 1) | (go_at_call 60; (with_reducible refine (impl_ConfOk.calls a0_0 a0_1 true _ A4.out).mono ?_); rintro e w9 ⟨rfl, hb⟩; replace BK132 := Aside0.mk (blk_below (g := gb132) (o := .cells #[.int .i64 a0_0, .int .i64 a0_1] 25 (0, 0)) (kI BK132.out) hb); replace HB := Aside0.mk (below_step (bI HB.out) hb); (try clear hb); (try clear hb2); (try clear hk); (try clear hi)))
      repeat (go_quiet (first | ((with_reducible refine gate_dst (N := 3) rfl ?_); refine box_event ?hg (N := 3) ?hd (cs := #[.int .i64 a0_0, .int .i64 a0_1]) (t := 25) ?hr ?_; (case hd => rfl); (case hg => rfl); (case hr => first | (go_simp; done) | (go_simp; rfl)); intro gb132 hg w7 hbox hb; have BK132 := Aside0.mk (hbox); have GW132 := Aside0.mk ((by rw [hg]; exact (below_size (bI HB.out)) : w.heap.size ≤ gb132)); have GE132 := Aside0.mk ((by rw [hg]; exact (below_size (bI HB.out)) : w.heap.size ≤ gb132)); have GI132 := GeI.mk GE132.out; replace HB := Aside0.mk (below_step (bI HB.out) hb); clear hb hbox hg; have hcz8_0 : w7.cell? ⟨gb132, 0, none⟩ = some (.int .i64 a0_0) := (blk_cell BK132.out 0).trans rfl; have hcz8_1 : w7.cell? ⟨gb132, 1, none⟩ = some (.int .i64 a0_1) := (blk_cell BK132.out 1).trans rfl; have hfz8_0 := blk_frozen BK132.out 0; have hfz8_1 := blk_frozen BK132.out 1) | (go_at_call 60; (with_reducible refine (impl_ConfOk.calls a0_0 a0_1 true _ A4.out).mono ?_); rintro e w9 ⟨rfl, hb⟩; replace BK132 := Aside0.mk (blk_below (g := gb132) (o := .cells #[.int .i64 a0_0, .int .i64 a0_1] 25 (0, 0)) (kI BK132.out) hb); replace HB := Aside0.mk (below_step (bI HB.out) hb); (try clear hb); (try clear hb2); (try clear hk); (try clear hi))); try go_wp2_with (first | ((with_reducible refine gate_dst (N := 3) rfl ?_); refine box_event ?hg (N := 3) ?hd (cs := #[.int .i64 a0_0, .int .i64 a0_1]) (t := 25) ?hr ?_; (case hd => rfl); (case hg => rfl); (case hr => first | (go_simp; done) | (go_simp; rfl)); intro gb132 hg w7 hbox hb; have BK132 := Aside0.mk (hbox); have GW132 := Aside0.mk ((by rw [hg]; exact (below_size (bI HB.out)) : w.heap.size ≤ gb132)); have GE132 := Aside0.mk ((by rw [hg]; exact (below_size (bI HB.out)) : w.heap.size ≤ gb132)); have GI132 := GeI.mk GE132.out; replace HB := Aside0.mk (below_step (bI HB.out) hb); clear hb hbox hg; have hcz8_0 : w7.cell? ⟨gb132, 0, none⟩ = some (.int .i64 a0_0) := (blk_cell BK132.out 0).trans rfl; have hcz8_1 : w7.cell? ⟨gb132, 1, none⟩ = some (.int .i64 a0_1) := (blk_cell BK132.out 1).trans rfl; have hfz8_0 := blk_frozen BK132.out 0; have hfz8_1 := blk_frozen BK132.out 1) | (go_at_call 60; (with_reducible refine (impl_ConfOk.calls a0_0 a0_1 true _ A4.out).mono ?_); rintro e w9 ⟨rfl, hb⟩; replace BK132 := Aside0.mk (blk_below (g := gb132) (o := .cells #[.int .i64 a0_0, .int .i64 a0_1] 25 (0, 0)) (kI BK132.out) hb); replace HB := Aside0.mk (below_step (bI HB.out) hb); (try clear hb); (try clear hb2); (try clear hk); (try clear hi))))
      go_ret
      exact ⟨by first | rfl | (simp [errW_none, errW_some] <;> rfl) | (simp [*, errW_none, errW_some] <;> rfl), bI HB.out⟩
    · rw [if_neg c6] at H
      have c6b0 : decide (a1 < 0) = false := decide_eq_false c6
      clear c6
      replace H := Option.bind_eq_some_iff.mp H
      obtain ⟨t134, A100, H⟩ := H
      replace H : (if t134 = true then (if a0_0 = 0 then (none) else (some (Int.tmod (wrap64 ((wrap64 (a2 - (Int.tmod a1 a0_0))) + a0_0)) a0_0))) else (some (-1))) = some r := H
      have A10 := Aside0.mk A100
      clear A100
      by_cases c11 : t134 = true
      · subst c11
        have H1 : (if a0_0 = 0 then (none) else (some (Int.tmod (wrap64 ((wrap64 (a2 - (Int.tmod a1 a0_0))) + a0_0)) a0_0))) = some r := by rw [if_pos rfl] at H; exact H
        clear H
        have H := H1
        clear H1
        by_cases c12 : a0_0 = 0
        · rw [if_pos c12] at H
          exact absurd H (by simp)
        rw [if_neg c12] at H
        have c12b0 : (a0_0 == 0) = false := beq_eq_false_iff_ne.mpr c12
        have c12b1 : (a0_0 != 0) = true := bne_iff_ne.mpr c12
        obtain rfl := Option.some.inj H
        go_enter Try.func19, Try.ntmps19
        go_wp2_with (first | ((with_reducible refine gate_dst (N := 3) rfl ?_); refine box_event ?hg (N := 3) ?hd (cs := #[.int .i64 a0_0, .int .i64 a0_1]) (t := 25) ?hr ?_; (case hd => rfl); (case hg => rfl); (case hr => first | (go_simp; done) | (go_simp; rfl)); intro gb132 hg w13 hbox hb; have BK132 := Aside0.mk (hbox); have GW132 := Aside0.mk ((by rw [hg]; exact (below_size (bI HB.out)) : w.heap.size ≤ gb132)); have GE132 := Aside0.mk ((by rw [hg]; exact (below_size (bI HB.out)) : w.heap.size ≤ gb132)); have GI132 := GeI.mk GE132.out; replace HB := Aside0.mk (below_step (bI HB.out) hb); clear hb hbox hg; have hcz14_0 : w13.cell? ⟨gb132, 0, none⟩ = some (.int .i64 a0_0) := (blk_cell BK132.out 0).trans rfl; have hcz14_1 : w13.cell? ⟨gb132, 1, none⟩ = some (.int .i64 a0_1) := (blk_cell BK132.out 1).trans rfl; have hfz14_0 := blk_frozen BK132.out 0; have hfz14_1 := blk_frozen BK132.out 1) | (go_at_call 60; (with_reducible refine (impl_ConfOk.calls a0_0 a0_1 true _ A4.out).mono ?_); rintro e w15 ⟨rfl, hb⟩; replace BK132 := Aside0.mk (blk_below (g := gb132) (o := .cells #[.int .i64 a0_0, .int .i64 a0_1] 25 (0, 0)) (kI BK132.out) hb); replace HB := Aside0.mk (below_step (bI HB.out) hb); (try clear hb); (try clear hb2); (try clear hk); (try clear hi); have hcz16_0 : w15.cell? ⟨gb132, 0, none⟩ = some (.int .i64 a0_0) := (blk_cell BK132.out 0).trans rfl; have hcz16_1 : w15.cell? ⟨gb132, 1, none⟩ = some (.int .i64 a0_1) := (blk_cell BK132.out 1).trans rfl; have hfz16_0 := blk_frozen BK132.out 0; have hfz16_1 := blk_frozen BK132.out 1) | (go_at_call 62; (with_reducible refine (impl_within.calls a2 0 (wrap64 (a0_0 - 1)) true _ A10.out).mono ?_); rintro e w' ⟨rfl, ⟨nd, rfl⟩⟩; (try first | exact ⟨rfl, _, World.drewN_drewN _ _ _⟩ | exact ⟨rfl, _, Eq.trans (World.drewN_drewN _ _ _) (congrArg (World.drewN _) (Nat.add_assoc _ _ _))⟩)))
        repeat (go_quiet (first | ((with_reducible refine gate_dst (N := 3) rfl ?_); refine box_event ?hg (N := 3) ?hd (cs := #[.int .i64 a0_0, .int .i64 a0_1]) (t := 25) ?hr ?_; (case hd => rfl); (case hg => rfl); (case hr => first | (go_simp; done) | (go_simp; rfl)); intro gb132 hg w13 hbox hb; have BK132 := Aside0.mk (hbox); have GW132 := Aside0.mk ((by rw [hg]; exact (below_size (bI HB.out)) : w.heap.size ≤ gb132)); have GE132 := Aside0.mk ((by rw [hg]; exact (below_size (bI HB.out)) : w.heap.size ≤ gb132)); have GI132 := GeI.mk GE132.out; replace HB := Aside0.mk (below_step (bI HB.out) hb); clear hb hbox hg; have hcz14_0 : w13.cell? ⟨gb132, 0, none⟩ = some (.int .i64 a0_0) := (blk_cell BK132.out 0).trans rfl; have hcz14_1 : w13.cell? ⟨gb132, 1, none⟩ = some (.int .i64 a0_1) := (blk_cell BK132.out 1).trans rfl; have hfz14_0 := blk_frozen BK132.out 0; have hfz14_1 := blk_frozen BK132.out 1) | (go_at_call 60; (with_reducible refine (impl_ConfOk.calls a0_0 a0_1 true _ A4.out).mono ?_); rintro e w15 ⟨rfl, hb⟩; replace BK132 := Aside0.mk (blk_below (g := gb132) (o := .cells #[.int .i64 a0_0, .int .i64 a0_1] 25 (0, 0)) (kI BK132.out) hb); replace HB := Aside0.mk (below_step (bI HB.out) hb); (try clear hb); (try clear hb2); (try clear hk); (try clear hi); have hcz16_0 : w15.cell? ⟨gb132, 0, none⟩ = some (.int .i64 a0_0) := (blk_cell BK132.out 0).trans rfl; have hcz16_1 : w15.cell? ⟨gb132, 1, none⟩ = some (.int .i64 a0_1) := (blk_cell BK132.out 1).trans rfl; have hfz16_0 := blk_frozen BK132.out 0; have hfz16_1 := blk_frozen BK132.out 1) | (go_at_call 62; (with_reducible refine (impl_within.calls a2 0 (wrap64 (a0_0 - 1)) true _ A10.out).mono ?_); rintro e w' ⟨rfl, ⟨nd, rfl⟩⟩; (try first | exact ⟨rfl, _, World.drewN_drewN _ _ _⟩ | exact ⟨rfl, _, Eq.trans (World.drewN_drewN _ _ _) (congrArg (World.drewN _) (Nat.add_assoc _ _ _))⟩))); try go_wp2_with (first | ((with_reducible refine gate_dst (N := 3) rfl ?_); refine box_event ?hg (N := 3) ?hd (cs := #[.int .i64 a0_0, .int .i64 a0_1]) (t := 25) ?hr ?_; (case hd => rfl); (case hg => rfl); (case hr => first | (go_simp; done) | (go_simp; rfl)); intro gb132 hg w13 hbox hb; have BK132 := Aside0.mk (hbox); have GW132 := Aside0.mk ((by rw [hg]; exact (below_size (bI HB.out)) : w.heap.size ≤ gb132)); have GE132 := Aside0.mk ((by rw [hg]; exact (below_size (bI HB.out)) : w.heap.size ≤ gb132)); have GI132 := GeI.mk GE132.out; replace HB := Aside0.mk (below_step (bI HB.out) hb); clear hb hbox hg; have hcz14_0 : w13.cell? ⟨gb132, 0, none⟩ = some (.int .i64 a0_0) := (blk_cell BK132.out 0).trans rfl; have hcz14_1 : w13.cell? ⟨gb132, 1, none⟩ = some (.int .i64 a0_1) := (blk_cell BK132.out 1).trans rfl; have hfz14_0 := blk_frozen BK132.out 0; have hfz14_1 := blk_frozen BK132.out 1) | (go_at_call 60; (with_reducible refine (impl_ConfOk.calls a0_0 a0_1 true _ A4.out).mono ?_); rintro e w15 ⟨rfl, hb⟩; replace BK132 := Aside0.mk (blk_below (g := gb132) (o := .cells #[.int .i64 a0_0, .int .i64 a0_1] 25 (0, 0)) (kI BK132.out) hb); replace HB := Aside0.mk (below_step (bI HB.out) hb); (try clear hb); (try clear hb2); (try clear hk); (try clear hi); have hcz16_0 : w15.cell? ⟨gb132, 0, none⟩ = some (.int .i64 a0_0) := (blk_cell BK132.out 0).trans rfl; have hcz16_1 : w15.cell? ⟨gb132, 1, none⟩ = some (.int .i64 a0_1) := (blk_cell BK132.out 1).trans rfl; have hfz16_0 := blk_frozen BK132.out 0; have hfz16_1 := blk_frozen BK132.out 1) | (go_at_call 62; (with_reducible refine (impl_within.calls a2 0 (wrap64 (a0_0 - 1)) true _ A10.out).mono ?_); rintro e w' ⟨rfl, ⟨nd, rfl⟩⟩; (try first | exact ⟨rfl, _, World.drewN_drewN _ _ _⟩ | exact ⟨rfl, _, Eq.trans (World.drewN_drewN _ _ _) (congrArg (World.drewN _) (Nat.add_assoc _ _ _))⟩))))
        go_ret
        exact ⟨by first | rfl | (simp [errW_none, errW_some] <;> rfl) | (simp [*, errW_none, errW_some] <;> rfl), bI HB.out⟩
      · replace c11 := Bool.eq_false_iff.mpr c11
        subst c11
        have H1 : (some (-1)) = some r := by rw [if_neg (show ¬ (false = true) by decide)] at H; exact H
        clear H
        have H := H1
        clear H1
        obtain rfl := Option.some.inj H
        go_enter Try.func19, Try.ntmps19
        go_wp2_with (first | ((with_reducible refine gate_dst (N := 3) rfl ?_); refine box_event ?hg (N := 3) ?hd (cs := #[.int .i64 a0_0, .int .i64 a0_1]) (t := 25) ?hr ?_; (case hd => rfl); (case hg => rfl); (case hr => first | (go_simp; done) | (go_simp; rfl)); intro gb132 hg w17 hbox hb; have BK132 := Aside0.mk (hbox); have GW132 := Aside0.mk ((by rw [hg]; exact (below_size (bI HB.out)) : w.heap.size ≤ gb132)); have GE132 := Aside0.mk ((by rw [hg]; exact (below_size (bI HB.out)) : w.heap.size ≤ gb132)); have GI132 := GeI.mk GE132.out; replace HB := Aside0.mk (below_step (bI HB.out) hb); clear hb hbox hg; have hcz18_0 : w17.cell? ⟨gb132, 0, none⟩ = some (.int .i64 a0_0) := (blk_cell BK132.out 0).trans rfl; have hcz18_1 : w17.cell? ⟨gb132, 1, none⟩ = some (.int .i64 a0_1) := (blk_cell BK132.out 1).trans rfl; have hfz18_0 := blk_frozen BK132.out 0; have hfz18_1 := blk_frozen BK132.out 1) | (go_at_call 60; (with_reducible refine (impl_ConfOk.calls a0_0 a0_1 true _ A4.out).mono ?_); rintro e w19 ⟨rfl, hb⟩; replace BK132 := Aside0.mk (blk_below (g := gb132) (o := .cells #[.int .i64 a0_0, .int .i64 a0_1] 25 (0, 0)) (kI BK132.out) hb); replace HB := Aside0.mk (below_step (bI HB.out) hb); (try clear hb); (try clear hb2); (try clear hk); (try clear hi); have hcz20_0 : w19.cell? ⟨gb132, 0, none⟩ = some (.int .i64 a0_0) := (blk_cell BK132.out 0).trans rfl; have hcz20_1 : w19.cell? ⟨gb132, 1, none⟩ = some (.int .i64 a0_1) := (blk_cell BK132.out 1).trans rfl; have hfz20_0 := blk_frozen BK132.out 0; have hfz20_1 := blk_frozen BK132.out 1) | (go_at_call 62; (with_reducible refine (impl_within.calls a2 0 (wrap64 (a0_0 - 1)) false _ A10.out).mono ?_); rintro e w' ⟨rfl, ⟨nd, rfl⟩⟩; (try first | exact ⟨rfl, _, World.drewN_drewN _ _ _⟩ | exact ⟨rfl, _, Eq.trans (World.drewN_drewN _ _ _) (congrArg (World.drewN _) (Nat.add_assoc _ _ _))⟩)))
        repeat (go_quiet (first | ((with_reducible refine gate_dst (N := 3) rfl ?_); refine box_event ?hg (N := 3) ?hd (cs := #[.int .i64 a0_0, .int .i64 a0_1]) (t := 25) ?hr ?_; (case hd => rfl); (case hg => rfl); (case hr => first | (go_simp; done) | (go_simp; rfl)); intro gb132 hg w17 hbox hb; have BK132 := Aside0.mk (hbox); have GW132 := Aside0.mk ((by rw [hg]; exact (below_size (bI HB.out)) : w.heap.size ≤ gb132)); have GE132 := Aside0.mk ((by rw [hg]; exact (below_size (bI HB.out)) : w.heap.size ≤ gb132)); have GI132 := GeI.mk GE132.out; replace HB := Aside0.mk (below_step (bI HB.out) hb); clear hb hbox hg; have hcz18_0 : w17.cell? ⟨gb132, 0, none⟩ = some (.int .i64 a0_0) := (blk_cell BK132.out 0).trans rfl; have hcz18_1 : w17.cell? ⟨gb132, 1, none⟩ = some (.int .i64 a0_1) := (blk_cell BK132.out 1).trans rfl; have hfz18_0 := blk_frozen BK132.out 0; have hfz18_1 := blk_frozen BK132.out 1) | (go_at_call 60; (with_reducible refine (impl_ConfOk.calls a0_0 a0_1 true _ A4.out).mono ?_); rintro e w19 ⟨rfl, hb⟩; replace BK132 := Aside0.mk (blk_below (g := gb132) (o := .cells #[.int .i64 a0_0, .int .i64 a0_1] 25 (0, 0)) (kI BK132.out) hb); replace HB := Aside0.mk (below_step (bI HB.out) hb); (try clear hb); (try clear hb2); (try clear hk); (try clear hi); have hcz20_0 : w19.cell? ⟨gb132, 0, none⟩ = some (.int .i64 a0_0) := (blk_cell BK132.out 0).trans rfl; have hcz20_1 : w19.cell? ⟨gb132, 1, none⟩ = some (.int .i64 a0_1) := (blk_cell BK132.out 1).trans rfl; have hfz20_0 := blk_frozen BK132.out 0; have hfz20_1 := blk_frozen BK132.out 1) | (go_at_call 62; (with_reducible refine (impl_within.calls a2 0 (wrap64 (a0_0 - 1)) false _ A10.out).mono ?_); rintro e w' ⟨rfl, ⟨nd, rfl⟩⟩; (try first | exact ⟨rfl, _, World.drewN_drewN _ _ _⟩ | exact ⟨rfl, _, Eq.trans (World.drewN_drewN _ _ _) (congrArg (World.drewN _) (Nat.add_assoc _ _ _))⟩))); try go_wp2_with (first | ((with_reducible refine gate_dst (N := 3) rfl ?_); refine box_event ?hg (N := 3) ?hd (cs := #[.int .i64 a0_0, .int .i64 a0_1]) (t := 25) ?hr ?_; (case hd => rfl); (case hg => rfl); (case hr => first | (go_simp; done) | (go_simp; rfl)); intro gb132 hg w17 hbox hb; have BK132 := Aside0.mk (hbox); have GW132 := Aside0.mk ((by rw [hg]; exact (below_size (bI HB.out)) : w.heap.size ≤ gb132)); have GE132 := Aside0.mk ((by rw [hg]; exact (below_size (bI HB.out)) : w.heap.size ≤ gb132)); have GI132 := GeI.mk GE132.out; replace HB := Aside0.mk (below_step (bI HB.out) hb); clear hb hbox hg; have hcz18_0 : w17.cell? ⟨gb132, 0, none⟩ = some (.int .i64 a0_0) := (blk_cell BK132.out 0).trans rfl; have hcz18_1 : w17.cell? ⟨gb132, 1, none⟩ = some (.int .i64 a0_1) := (blk_cell BK132.out 1).trans rfl; have hfz18_0 := blk_frozen BK132.out 0; have hfz18_1 := blk_frozen BK132.out 1) | (go_at_call 60; (with_reducible refine (impl_ConfOk.calls a0_0 a0_1 true _ A4.out).mono ?_); rintro e w19 ⟨rfl, hb⟩; replace BK132 := Aside0.mk (blk_below (g := gb132) (o := .cells #[.int .i64 a0_0, .int .i64 a0_1] 25 (0, 0)) (kI BK132.out) hb); replace HB := Aside0.mk (below_step (bI HB.out) hb); (try clear hb); (try clear hb2); (try clear hk); (try clear hi); have hcz20_0 : w19.cell? ⟨gb132, 0, none⟩ = some (.int .i64 a0_0) := (blk_cell BK132.out 0).trans rfl; have hcz20_1 : w19.cell? ⟨gb132, 1, none⟩ = some (.int .i64 a0_1) := (blk_cell BK132.out 1).trans rfl; have hfz20_0 := blk_frozen BK132.out 0; have hfz20_1 := blk_frozen BK132.out 1) | (go_at_call 62; (with_reducible refine (impl_within.calls a2 0 (wrap64 (a0_0 - 1)) false _ A10.out).mono ?_); rintro e w' ⟨rfl, ⟨nd, rfl⟩⟩; (try first | exact ⟨rfl, _, World.drewN_drewN _ _ _⟩ | exact ⟨rfl, _, Eq.trans (World.drewN_drewN _ _ _) (congrArg (World.drewN _) (Nat.add_assoc _ _ _))⟩))))
        go_ret
        exact ⟨by first | rfl | (simp [errW_none, errW_some] <;> rfl) | (simp [*, errW_none, errW_some] <;> rfl), bI HB.out⟩
  · replace c5 := Bool.eq_false_iff.mpr c5
    subst c5
    have H1 : (some (-1)) = some r := by rw [if_neg (show ¬ (false = true) by decide)] at H; exact H
    clear H
    have H := H1
    clear H1
    obtain rfl := Option.some.inj H
    go_enter Try.func19, Try.ntmps19
    go_wp2_with (first | ((with_reducible refine gate_dst (N := 3) rfl ?_); refine box_event ?hg (N := 3) ?hd (cs := #[.int .i64 a0_0, .int .i64 a0_1]) (t := 25) ?hr ?_; (case hd => rfl); (case hg => rfl); (case hr => first | (go_simp; done) | (go_simp; rfl)); intro gb132 hg w21 hbox hb; have BK132 := Aside0.mk (hbox); have GW132 := Aside0.mk ((by rw [hg]; exact (below_size (bI HB.out)) : w.heap.size ≤ gb132)); have GE132 := Aside0.mk ((by rw [hg]; exact (below_size (bI HB.out)) : w.heap.size ≤ gb132)); have GI132 := GeI.mk GE132.out; replace HB := Aside0.mk (below_step (bI HB.out) hb); clear hb hbox hg; have hcz22_0 : w21.cell? ⟨gb132, 0, none⟩ = some (.int .i64 a0_0) := (blk_cell BK132.out 0).trans rfl; have hcz22_1 : w21.cell? ⟨gb132, 1, none⟩ = some (.int .i64 a0_1) := (blk_cell BK132.out 1).trans rfl; have hfz22_0 := blk_frozen BK132.out 0; have hfz22_1 := blk_frozen BK132.out 1) | (go_at_call 60; (with_reducible refine (impl_ConfOk.calls a0_0 a0_1 false _ A4.out).mono ?_); rintro e w23 ⟨rfl, hb⟩; replace BK132 := Aside0.mk (blk_below (g := gb132) (o := .cells #[.int .i64 a0_0, .int .i64 a0_1] 25 (0, 0)) (kI BK132.out) hb); replace HB := Aside0.mk (below_step (bI HB.out) hb); (try clear hb); (try clear hb2); (try clear hk); (try clear hi)))
    repeat (go_quiet (first | ((with_reducible refine gate_dst (N := 3) rfl ?_); refine box_event ?hg (N := 3) ?hd (cs := #[.int .i64 a0_0, .int .i64 a0_1]) (t := 25) ?hr ?_; (case hd => rfl); (case hg => rfl); (case hr => first | (go_simp; done) | (go_simp; rfl)); intro gb132 hg w21 hbox hb; have BK132 := Aside0.mk (hbox); have GW132 := Aside0.mk ((by rw [hg]; exact (below_size (bI HB.out)) : w.heap.size ≤ gb132)); have GE132 := Aside0.mk ((by rw [hg]; exact (below_size (bI HB.out)) : w.heap.size ≤ gb132)); have GI132 := GeI.mk GE132.out; replace HB := Aside0.mk (below_step (bI HB.out) hb); clear hb hbox hg; have hcz22_0 : w21.cell? ⟨gb132, 0, none⟩ = some (.int .i64 a0_0) := (blk_cell BK132.out 0).trans rfl; have hcz22_1 : w21.cell? ⟨gb132, 1, none⟩ = some (.int .i64 a0_1) := (blk_cell BK132.out 1).trans rfl; have hfz22_0 := blk_frozen BK132.out 0; have hfz22_1 := blk_frozen BK132.out 1) | (go_at_call 60; (with_reducible refine (impl_ConfOk.calls a0_0 a0_1 false _ A4.out).mono ?_); rintro e w23 ⟨rfl, hb⟩; replace BK132 := Aside0.mk (blk_below (g := gb132) (o := .cells #[.int .i64 a0_0, .int .i64 a0_1] 25 (0, 0)) (kI BK132.out) hb); replace HB := Aside0.mk (below_step (bI HB.out) hb); (try clear hb); (try clear hb2); (try clear hk); (try clear hi))); try go_wp2_with (first | ((with_reducible refine gate_dst (N := 3) rfl ?_); refine box_event ?hg (N := 3) ?hd (cs := #[.int .i64 a0_0, .int .i64 a0_1]) (t := 25) ?hr ?_; (case hd => rfl); (case hg => rfl); (case hr => first | (go_simp; done) | (go_simp; rfl)); intro gb132 hg w21 hbox hb; have BK132 := Aside0.mk (hbox); have GW132 := Aside0.mk ((by rw [hg]; exact (below_size (bI HB.out)) : w.heap.size ≤ gb132)); have GE132 := Aside0.mk ((by rw [hg]; exact (below_size (bI HB.out)) : w.heap.size ≤ gb132)); have GI132 := GeI.mk GE132.out; replace HB := Aside0.mk (below_step (bI HB.out) hb); clear hb hbox hg; have hcz22_0 : w21.cell? ⟨gb132, 0, none⟩ = some (.int .i64 a0_0) := (blk_cell BK132.out 0).trans rfl; have hcz22_1 : w21.cell? ⟨gb132, 1, none⟩ = some (.int .i64 a0_1) := (blk_cell BK132.out 1).trans rfl; have hfz22_0 := blk_frozen BK132.out 0; have hfz22_1 := blk_frozen BK132.out 1) | (go_at_call 60; (with_reducible refine (impl_ConfOk.calls a0_0 a0_1 false _ A4.out).mono ?_); rintro e w23 ⟨rfl, hb⟩; replace BK132 := Aside0.mk (blk_below (g := gb132) (o := .cells #[.int .i64 a0_0, .int .i64 a0_1] 25 (0, 0)) (kI BK132.out) hb); replace HB := Aside0.mk (below_step (bI HB.out) hb); (try clear hb); (try clear hb2); (try clear hk); (try clear hi))))
    go_ret
    exact ⟨by first | rfl | (simp [errW_none, errW_some] <;> rfl) | (simp [*, errW_none, errW_some] <;> rfl), bI HB.out⟩

/-! ### impl_Sits: function 21 -/
def impl_Sits.f (a0_0 : Int) (a0_1 : Int) (a1 : Int) (a2 : Int) : Option (Int) := (impl_ConfOk.f a0_0 a0_1).bind fun t136 => (if t136 = true then (if a1 < 0 then (some (-1)) else ((impl_within.f a2 0 (wrap64 (a0_0 - 1))).bind fun t137 => (if t137 = true then (if a0_0 = 0 then (none) else (some (Int.tmod (wrap64 ((Int.tmod a1 a0_0) + a2)) a0_0))) else (some (-1))))) else (some (-1)))
set_option maxHeartbeats 8000000 in
set_option maxRecDepth 100000 in
theorem impl_Sits.calls (a0_0 : Int) (a0_1 : Int) (a1 : Int) (a2 : Int) (r : Int) (w : World) (h : impl_Sits.f a0_0 a0_1 a1 a2 = some r) :
    Calls Try.prog 21 #[.agg #[.int .i64 a0_0, .int .i64 a0_1], .int .i64 a1, .int .i64 a2] w fun e w' => e = .returned (.int .i64 r) ∧ Below w.heap.size w w' := by
  have hu25 := Try.underlying25
  have HB := Aside0.mk (Below.refl w.heap.size w)
  have H : ((impl_ConfOk.f a0_0 a0_1).bind fun t136 => (if t136 = true then (if a1 < 0 then (some (-1)) else ((impl_within.f a2 0 (wrap64 (a0_0 - 1))).bind fun t137 => (if t137 = true then (if a0_0 = 0 then (none) else (some (Int.tmod (wrap64 ((Int.tmod a1 a0_0) + a2)) a0_0))) else (some (-1))))) else (some (-1)))) = some r := h
  clear h
  replace H := Option.bind_eq_some_iff.mp H
  obtain ⟨t136, A40, H⟩ := H
  replace H : (if t136 = true then (if a1 < 0 then (some (-1)) else ((impl_within.f a2 0 (wrap64 (a0_0 - 1))).bind fun t137 => (if t137 = true then (if a0_0 = 0 then (none) else (some (Int.tmod (wrap64 ((Int.tmod a1 a0_0) + a2)) a0_0))) else (some (-1))))) else (some (-1))) = some r := H
  have A4 := Aside0.mk A40
  clear A40
  by_cases c5 : t136 = true
  · subst c5
    have H1 : (if a1 < 0 then (some (-1)) else ((impl_within.f a2 0 (wrap64 (a0_0 - 1))).bind fun t137 => (if t137 = true then (if a0_0 = 0 then (none) else (some (Int.tmod (wrap64 ((Int.tmod a1 a0_0) + a2)) a0_0))) else (some (-1))))) = some r := by rw [if_pos rfl] at H; exact H
    clear H
    have H := H1
    clear H1
    by_cases c6 : a1 < 0
    · rw [if_pos c6] at H
      have c6b0 : decide (a1 < 0) = true := decide_eq_true c6
      clear c6
      obtain rfl := Option.some.inj H
      go_enter Try.func21, Try.ntmps21
      go_wp2_with (first | ((with_reducible refine gate_dst (N := 3) rfl ?_); refine box_event ?hg (N := 3) ?hd (cs := #[.int .i64 a0_0, .int .i64 a0_1]) (t := 25) ?hr ?_; (case hd => rfl); (case hg => rfl); (case hr => first | (go_simp; done) | (go_simp; rfl)); intro gb135 hg w7 hbox hb; have BK135 := Aside0.mk (hbox); have GW135 := Aside0.mk ((by rw [hg]; exact (below_size (bI HB.out)) : w.heap.size ≤ gb135)); have GE135 := Aside0.mk ((by rw [hg]; exact (below_size (bI HB.out)) : w.heap.size ≤ gb135)); have GI135 := GeI.mk GE135.out; replace HB := Aside0.mk (below_step (bI HB.out) hb); clear hb hbox hg; have hcz8_0 : w7.cell? ⟨gb135, 0, none⟩ = some (.int .i64 a0_0) := (blk_cell BK135.out 0).trans rfl; have hcz8_1 : w7.cell? ⟨gb135, 1, none⟩ = some (.int .i64 a0_1) := (blk_cell BK135.out 1).trans rfl; have hfz8_0 := blk_frozen BK135.out 0; have hfz8_1 := blk_frozen BK135.out 1) | (go_at_call 60; (with_reducible refine (impl_ConfOk.calls a0_0 a0_1 true _ A4.out).mono ?_); rintro e w9 ⟨rfl, hb⟩; replace BK135 := Aside0.mk (blk_below (g := gb135) (o := .cells #[.int .i64 a0_0, .int .i64 a0_1] 25 (0, 0)) (kI BK135.out) hb); replace HB := Aside0.mk (below_step (bI HB.out) hb); (try clear hb); (try clear hb2); (try clear hk); (try clear hi)))
      repeat (go_quiet (first | ((with_reducible refine gate_dst (N := 3) rfl ?_); refine box_event ?hg (N := 3) ?hd (cs := #[.int .i64 a0_0, .int .i64 a0_1]) (t := 25) ?hr ?_; (case hd => rfl); (case hg => rfl); (case hr => first | (go_simp; done) | (go_simp; rfl)); intro gb135 hg w7 hbox hb; have BK135 := Aside0.mk (hbox); have GW135 := Aside0.mk ((by rw [hg]; exact (below_size (bI HB.out)) : w.heap.size ≤ gb135)); have GE135 := Aside0.mk ((by rw [hg]; exact (below_size (bI HB.out)) : w.heap.size ≤ gb135)); have GI135 := GeI.mk GE135.out; replace HB := Aside0.mk (below_step (bI HB.out) hb); clear hb hbox hg; have hcz8_0 : w7.cell? ⟨gb135, 0, none⟩ = some (.int .i64 a0_0) := (blk_cell BK135.out 0).trans rfl; have hcz8_1 : w7.cell? ⟨gb135, 1, none⟩ = some (.int .i64 a0_1) := (blk_cell BK135.out 1).trans rfl; have hfz8_0 := blk_frozen BK135.out 0; have hfz8_1 := blk_frozen BK135.out 1) | (go_at_call 60; (with_reducible refine (impl_ConfOk.calls a0_0 a0_1 true _ A4.out).mono ?_); rintro e w9 ⟨rfl, hb⟩; replace BK135 := Aside0.mk (blk_below (g := gb135) (o := .cells #[.int .i64 a0_0, .int .i64 a0_1] 25 (0, 0)) (kI BK135.out) hb); replace HB := Aside0.mk (below_step (bI HB.out) hb); (try clear hb); (try clear hb2); (try clear hk); (try clear hi))); try go_wp2_with (first | ((with_reducible refine gate_dst (N := 3) rfl ?_); refine box_event ?hg (N := 3) ?hd (cs := #[.int .i64 a0_0, .int .i64 a0_1]) (t := 25) ?hr ?_; (case hd => rfl); (case hg => rfl); (case hr => first | (go_simp; done) | (go_simp; rfl)); intro gb135 hg w7 hbox hb; have BK135 := Aside0.mk (hbox); have GW135 := Aside0.mk ((by rw [hg]; exact (below_size (bI HB.out)) : w.heap.size ≤ gb135)); have GE135 := Aside0.mk ((by rw [hg]; exact (below_size (bI HB.out)) : w.heap.size ≤ gb135)); have GI135 := GeI.mk GE135.out; replace HB := Aside0.mk (below_step (bI HB.out) hb); clear hb hbox hg; have hcz8_0 : w7.cell? ⟨gb135, 0, none⟩ = some (.int .i64 a0_0) := (blk_cell BK135.out 0).trans rfl; have hcz8_1 : w7.cell? ⟨gb135, 1, none⟩ = some (.int .i64 a0_1) := (blk_cell BK135.out 1).trans rfl; have hfz8_0 := blk_frozen BK135.out 0; have hfz8_1 := blk_frozen BK135.out 1) | (go_at_call 60; (with_reducible refine (impl_ConfOk.calls a0_0 a0_1 true _ A4.out).mono ?_); rintro e w9 ⟨rfl, hb⟩; replace BK135 := Aside0.mk (blk_below (g := gb135) (o := .cells #[.int .i64 a0_0, .int .i64 a0_1] 25 (0, 0)) (kI BK135.out) hb); replace HB := Aside0.mk (below_step (bI HB.out) hb); (try clear hb); (try clear hb2); (try clear hk); (try clear hi))))
      go_ret
      exact ⟨by first | rfl | (simp [errW_none, errW_some] <;> rfl) | (simp [*, errW_none, errW_some] <;> rfl), bI HB.out⟩
    · rw [if_neg c6] at H
      have c6b0 : decide (a1 < 0) = false := decide_eq_false c6
      clear c6
      replace H := Option.bind_eq_some_iff.mp H
      obtain ⟨t137, A100, H⟩ := H
      replace H : (if t137 = true then (if a0_0 = 0 then (none) else (some (Int.tmod (wrap64 ((Int.tmod a1 a0_0) + a2)) a0_0))) else (some (-1))) = some r := H
      have A10 := Aside0.mk A100
      clear A100
      by_cases c11 : t137 = true
      · subst c11
        have H1 : (if a0_0 = 0 then (none) else (some (Int.tmod (wrap64 ((Int.tmod a1 a0_0) + a2)) a0_0))) = some r := by rw [if_pos rfl] at H; exact H
        clear H
        have H := H1
        clear H1
        by_cases c12 : a0_0 = 0
        · rw [if_pos c12] at H
          exact absurd H (by simp)
        rw [if_neg c12] at H
        have c12b0 : (a0_0 == 0) = false := beq_eq_false_iff_ne.mpr c12
        have c12b1 : (a0_0 != 0) = true := bne_iff_ne.mpr c12
        obtain rfl := Option.some.inj H
        go_enter Try.func21, Try.ntmps21
        go_wp2_with (first | ((with_reducible refine gate_dst (N := 3) rfl ?_); refine box_event ?hg (N := 3) ?hd (cs := #[.int .i64 a0_0, .int .i64 a0_1]) (t := 25) ?hr ?_; (case hd => rfl); (case hg => rfl); (case hr => first | (go_simp; done) | (go_simp; rfl)); intro gb135 hg w13 hbox hb; have BK135 := Aside0.mk (hbox); have GW135 := Aside0.mk ((by rw [hg]; exact (below_size (bI HB.out)) : w.heap.size ≤ gb135)); have GE135 := Aside0.mk ((by rw [hg]; exact (below_size (bI HB.out)) : w.heap.size ≤ gb135)); have GI135 := GeI.mk GE135.out; replace HB := Aside0.mk (below_step (bI HB.out) hb); clear hb hbox hg; have hcz14_0 : w13.cell? ⟨gb135, 0, none⟩ = some (.int .i64 a0_0) := (blk_cell BK135.out 0).trans rfl; have hcz14_1 : w13.cell? ⟨gb135, 1, none⟩ = some (.int .i64 a0_1) := (blk_cell BK135.out 1).trans rfl; have hfz14_0 := blk_frozen BK135.out 0; have hfz14_1 := blk_frozen BK135.out 1) | (go_at_call 60; (with_reducible refine (impl_ConfOk.calls a0_0 a0_1 true _ A4.out).mono ?_); rintro e w15 ⟨rfl, hb⟩; replace BK135 := Aside0.mk (blk_below (g := gb135) (o := .cells #[.int .i64 a0_0, .int .i64 a0_1] 25 (0, 0)) (kI BK135.out) hb); replace HB := Aside0.mk (below_step (bI HB.out) hb); (try clear hb); (try clear hb2); (try clear hk); (try clear hi); have hcz16_0 : w15.cell? ⟨gb135, 0, none⟩ = some (.int .i64 a0_0) := (blk_cell BK135.out 0).trans rfl; have hcz16_1 : w15.cell? ⟨gb135, 1, none⟩ = some (.int .i64 a0_1) := (blk_cell BK135.out 1).trans rfl; have hfz16_0 := blk_frozen BK135.out 0; have hfz16_1 := blk_frozen BK135.out 1) | (go_at_call 62; (with_reducible refine (impl_within.calls a2 0 (wrap64 (a0_0 - 1)) true _ A10.out).mono ?_); rintro e w' ⟨rfl, ⟨nd, rfl⟩⟩; (try first | exact ⟨rfl, _, World.drewN_drewN _ _ _⟩ | exact ⟨rfl, _, Eq.trans (World.drewN_drewN _ _ _) (congrArg (World.drewN _) (Nat.add_assoc _ _ _))⟩)))
        repeat (go_quiet (first | ((with_reducible refine gate_dst (N := 3) rfl ?_); refine box_event ?hg (N := 3) ?hd (cs := #[.int .i64 a0_0, .int .i64 a0_1]) (t := 25) ?hr ?_; (case hd => rfl); (case hg => rfl); (case hr => first | (go_simp; done) | (go_simp; rfl)); intro gb135 hg w13 hbox hb; have BK135 := Aside0.mk (hbox); have GW135 := Aside0.mk ((by rw [hg]; exact (below_size (bI HB.out)) : w.heap.size ≤ gb135)); have GE135 := Aside0.mk ((by rw [hg]; exact (below_size (bI HB.out)) : w.heap.size ≤ gb135)); have GI135 := GeI.mk GE135.out; replace HB := Aside0.mk (below_step (bI HB.out) hb); clear hb hbox hg; have hcz14_0 : w13.cell? ⟨gb135, 0, none⟩ = some (.int .i64 a0_0) := (blk_cell BK135.out 0).trans rfl; have hcz14_1 : w13.cell? ⟨gb135, 1, none⟩ = some (.int .i64 a0_1) := (blk_cell BK135.out 1).trans rfl; have hfz14_0 := blk_frozen BK135.out 0; have hfz14_1 := blk_frozen BK135.out 1) | (go_at_call 60; (with_reducible refine (impl_ConfOk.calls a0_0 a0_1 true _ A4.out).mono ?_); rintro e w15 ⟨rfl, hb⟩; replace BK135 := Aside0.mk (blk_below (g := gb135) (o := .cells #[.int .i64 a0_0, .int .i64 a0_1] 25 (0, 0)) (kI BK135.out) hb); replace HB := Aside0.mk (below_step (bI HB.out) hb); (try clear hb); (try clear hb2); (try clear hk); (try clear hi); have hcz16_0 : w15.cell? ⟨gb135, 0, none⟩ = some (.int .i64 a0_0) := (blk_cell BK135.out 0).trans rfl; have hcz16_1 : w15.cell? ⟨gb135, 1, none⟩ = some (.int .i64 a0_1) := (blk_cell BK135.out 1).trans rfl; have hfz16_0 := blk_frozen BK135.out 0; have hfz16_1 := blk_frozen BK135.out 1) | (go_at_call 62; (with_reducible refine (impl_within.calls a2 0 (wrap64 (a0_0 - 1)) true _ A10.out).mono ?_); rintro e w' ⟨rfl, ⟨nd, rfl⟩⟩; (try first | exact ⟨rfl, _, World.drewN_drewN _ _ _⟩ | exact ⟨rfl, _, Eq.trans (World.drewN_drewN _ _ _) (congrArg (World.drewN _) (Nat.add_assoc _ _ _))⟩))); try go_wp2_with (first | ((with_reducible refine gate_dst (N := 3) rfl ?_); refine box_event ?hg (N := 3) ?hd (cs := #[.int .i64 a0_0, .int .i64 a0_1]) (t := 25) ?hr ?_; (case hd => rfl); (case hg => rfl); (case hr => first | (go_simp; done) | (go_simp; rfl)); intro gb135 hg w13 hbox hb; have BK135 := Aside0.mk (hbox); have GW135 := Aside0.mk ((by rw [hg]; exact (below_size (bI HB.out)) : w.heap.size ≤ gb135)); have GE135 := Aside0.mk ((by rw [hg]; exact (below_size (bI HB.out)) : w.heap.size ≤ gb135)); have GI135 := GeI.mk GE135.out; replace HB := Aside0.mk (below_step (bI HB.out) hb); clear hb hbox hg; have hcz14_0 : w13.cell? ⟨gb135, 0, none⟩ = some (.int .i64 a0_0) := (blk_cell BK135.out 0).trans rfl; have hcz14_1 : w13.cell? ⟨gb135, 1, none⟩ = some (.int .i64 a0_1) := (blk_cell BK135.out 1).trans rfl; have hfz14_0 := blk_frozen BK135.out 0; have hfz14_1 := blk_frozen BK135.out 1) | (go_at_call 60; (with_reducible refine (impl_ConfOk.calls a0_0 a0_1 true _ A4.out).mono ?_); rintro e w15 ⟨rfl, hb⟩; replace BK135 := Aside0.mk (blk_below (g := gb135) (o := .cells #[.int .i64 a0_0, .int .i64 a0_1] 25 (0, 0)) (kI BK135.out) hb); replace HB := Aside0.mk (below_step (bI HB.out) hb); (try clear hb); (try clear hb2); (try clear hk); (try clear hi); have hcz16_0 : w15.cell? ⟨gb135, 0, none⟩ = some (.int .i64 a0_0) := (blk_cell BK135.out 0).trans rfl; have hcz16_1 : w15.cell? ⟨gb135, 1, none⟩ = some (.int .i64 a0_1) := (blk_cell BK135.out 1).trans rfl; have hfz16_0 := blk_frozen BK135.out 0; have hfz16_1 := blk_frozen BK135.out 1) | (go_at_call 62; (with_reducible refine (impl_within.calls a2 0 (wrap64 (a0_0 - 1)) true _ A10.out).mono ?_); rintro e w' ⟨rfl, ⟨nd, rfl⟩⟩; (try first | exact ⟨rfl, _, World.drewN_drewN _ _ _⟩ | exact ⟨rfl, _, Eq.trans (World.drewN_drewN _ _ _) (congrArg (World.drewN _) (Nat.add_assoc _ _ _))⟩))))
        go_ret
        exact ⟨by first | rfl | (simp [errW_none, errW_some] <;> rfl) | (simp [*, errW_none, errW_some] <;> rfl), bI HB.out⟩
      · replace c11 := Bool.eq_false_iff.mpr c11
        subst c11
        have H1 : (some (-1)) = some r := by rw [if_neg (show ¬ (false = true) by decide)] at H; exact H
        clear H
        have H := H1
        clear H1
        obtain rfl := Option.some.inj H
        go_enter Try.func21, Try.ntmps21
        go_wp2_with (first | ((with_reducible refine gate_dst (N := 3) rfl ?_); refine box_event ?hg (N := 3) ?hd (cs := #[.int .i64 a0_0, .int .i64 a0_1]) (t := 25) ?hr ?_; (case hd => rfl); (case hg => rfl); (case hr => first | (go_simp; done) | (go_simp; rfl)); intro gb135 hg w17 hbox hb; have BK135 := Aside0.mk (hbox); have GW135 := Aside0.mk ((by rw [hg]; exact (below_size (bI HB.out)) : w.heap.size ≤ gb135)); have GE135 := Aside0.mk ((by rw [hg]; exact (below_size (bI HB.out)) : w.heap.size ≤ gb135)); have GI135 := GeI.mk GE135.out; replace HB := Aside0.mk (below_step (bI HB.out) hb); clear hb hbox hg; have hcz18_0 : w17.cell? ⟨gb135, 0, none⟩ = some (.int .i64 a0_0) := (blk_cell BK135.out 0).trans rfl; have hcz18_1 : w17.cell? ⟨gb135, 1, none⟩ = some (.int .i64 a0_1) := (blk_cell BK135.out 1).trans rfl; have hfz18_0 := blk_frozen BK135.out 0; have hfz18_1 := blk_frozen BK135.out 1) | (go_at_call 60; (with_reducible refine (impl_ConfOk.calls a0_0 a0_1 true _ A4.out).mono ?_); rintro e w19 ⟨rfl, hb⟩; replace BK135 := Aside0.mk (blk_below (g := gb135) (o := .cells #[.int .i64 a0_0, .int .i64 a0_1] 25 (0, 0)) (kI BK135.out) hb); replace HB := Aside0.mk (below_step (bI HB.out) hb); (try clear hb); (try clear hb2); (try clear hk); (try clear hi); have hcz20_0 : w19.cell? ⟨gb135, 0, none⟩ = some (.int .i64 a0_0) := (blk_cell BK135.out 0).trans rfl; have hcz20_1 : w19.cell? ⟨gb135, 1, none⟩ = some (.int .i64 a0_1) := (blk_cell BK135.out 1).trans rfl; have hfz20_0 := blk_frozen BK135.out 0; have hfz20_1 := blk_frozen BK135.out 1) | (go_at_call 62; (with_reducible refine (impl_within.calls a2 0 (wrap64 (a0_0 - 1)) false _ A10.out).mono ?_); rintro e w' ⟨rfl, ⟨nd, rfl⟩⟩; (try first | exact ⟨rfl, _, World.drewN_drewN _ _ _⟩ | exact ⟨rfl, _, Eq.trans (World.drewN_drewN _ _ _) (congrArg (World.drewN _) (Nat.add_assoc _ _ _))⟩)))
        repeat (go_quiet (first | ((with_reducible refine gate_dst (N := 3) rfl ?_); refine box_event ?hg (N := 3) ?hd (cs := #[.int .i64 a0_0, .int .i64 a0_1]) (t := 25) ?hr ?_; (case hd => rfl); (case hg => rfl); (case hr => first | (go_simp; done) | (go_simp; rfl)); intro gb135 hg w17 hbox hb; have BK135 := Aside0.mk (hbox); have GW135 := Aside0.mk ((by rw [hg]; exact (below_size (bI HB.out)) : w.heap.size ≤ gb135)); have GE135 := Aside0.mk ((by rw [hg]; exact (below_size (bI HB.out)) : w.heap.size ≤ gb135)); have GI135 := GeI.mk GE135.out; replace HB := Aside0.mk (below_step (bI HB.out) hb); clear hb hbox hg; have hcz18_0 : w17.cell? ⟨gb135, 0, none⟩ = some (.int .i64 a0_0) := (blk_cell BK135.out 0).trans rfl; have hcz18_1 : w17.cell? ⟨gb135, 1, none⟩ = some (.int .i64 a0_1) := (blk_cell BK135.out 1).trans rfl; have hfz18_0 := blk_frozen BK135.out 0; have hfz18_1 := blk_frozen BK135.out 1) | (go_at_call 60; (with_reducible refine (impl_ConfOk.calls a0_0 a0_1 true _ A4.out).mono ?_); rintro e w19 ⟨rfl, hb⟩; replace BK135 := Aside0.mk (blk_below (g := gb135) (o := .cells #[.int .i64 a0_0, .int .i64 a0_1] 25 (0, 0)) (kI BK135.out) hb); replace HB := Aside0.mk (below_step (bI HB.out) hb); (try clear hb); (try clear hb2); (try clear hk); (try clear hi); have hcz20_0 : w19.cell? ⟨gb135, 0, none⟩ = some (.int .i64 a0_0) := (blk_cell BK135.out 0).trans rfl; have hcz20_1 : w19.cell? ⟨gb135, 1, none⟩ = some (.int .i64 a0_1) := (blk_cell BK135.out 1).trans rfl; have hfz20_0 := blk_frozen BK135.out 0; have hfz20_1 := blk_frozen BK135.out 1) | (go_at_call 62; (with_reducible refine (impl_within.calls a2 0 (wrap64 (a0_0 - 1)) false _ A10.out).mono ?_); rintro e w' ⟨rfl, ⟨nd, rfl⟩⟩; (try first | exact ⟨rfl, _, World.drewN_drewN _ _ _⟩ | exact ⟨rfl, _, Eq.trans (World.drewN_drewN _ _ _) (congrArg (World.drewN _) (Nat.add_assoc _ _ _))⟩))); try go_wp2_with (first | ((with_reducible refine gate_dst (N := 3) rfl ?_); refine box_event ?hg (N := 3) ?hd (cs := #[.int .i64 a0_0, .int .i64 a0_1]) (t := 25) ?hr ?_; (case hd => rfl); (case hg => rfl); (case hr => first | (go_simp; done) | (go_simp; rfl)); intro gb135 hg w17 hbox hb; have BK135 := Aside0.mk (hbox); have GW135 := Aside0.mk ((by rw [hg]; exact (below_size (bI HB.out)) : w.heap.size ≤ gb135)); have GE135 := Aside0.mk ((by rw [hg]; exact (below_size (bI HB.out)) : w.heap.size ≤ gb135)); have GI135 := GeI.mk GE135.out; replace HB := Aside0.mk (below_step (bI HB.out) hb); clear hb hbox hg; have hcz18_0 : w17.cell? ⟨gb135, 0, none⟩ = some (.int .i64 a0_0) := (blk_cell BK135.out 0).trans rfl; have hcz18_1 : w17.cell? ⟨gb135, 1, none⟩ = some (.int .i64 a0_1) := (blk_cell BK135.out 1).trans rfl; have hfz18_0 := blk_frozen BK135.out 0; have hfz18_1 := blk_frozen BK135.out 1) | (go_at_call 60; (with_reducible refine (impl_ConfOk.calls a0_0 a0_1 true _ A4.out).mono ?_); rintro e w19 ⟨rfl, hb⟩; replace BK135 := Aside0.mk (blk_below (g := gb135) (o := .cells #[.int .i64 a0_0, .int .i64 a0_1] 25 (0, 0)) (kI BK135.out) hb); replace HB := Aside0.mk (below_step (bI HB.out) hb); (try clear hb); (try clear hb2); (try clear hk); (try clear hi); have hcz20_0 : w19.cell? ⟨gb135, 0, none⟩ = some (.int .i64 a0_0) := (blk_cell BK135.out 0).trans rfl; have hcz20_1 : w19.cell? ⟨gb135, 1, none⟩ = some (.int .i64 a0_1) := (blk_cell BK135.out 1).trans rfl; have hfz20_0 := blk_frozen BK135.out 0; have hfz20_1 := blk_frozen BK135.out 1) | (go_at_call 62; (with_reducible refine (impl_within.calls a2 0 (wrap64 (a0_0 - 1)) false _ A10.out).mono ?_); rintro e w' ⟨rfl, ⟨nd, rfl⟩⟩; (try first | exact ⟨rfl, _, World.drewN_drewN _ _ _⟩ | exact ⟨rfl, _, Eq.trans (World.drewN_drewN _ _ _) (congrArg (World.drewN _) (Nat.add_assoc _ _ _))⟩))))
        go_ret
        exact ⟨by first | rfl | (simp [errW_none, errW_some] <;> rfl) | (simp [*, errW_none, errW_some] <;> rfl), bI HB.out⟩
  · replace c5 := Bool.eq_false_iff.mpr c5
    subst c5
    have H1 : (some (-1)) = some r := by rw [if_neg (show ¬ (false = true) by decide)] at H; exact H
    clear H
    have H := H1
    clear H1
    obtain rfl := Option.some.inj H
    go_enter Try.func21, Try.ntmps21
    go_wp2_with (first | ((with_reducible refine gate_dst (N := 3) rfl ?_); refine box_event ?hg (N := 3) ?hd (cs := #[.int .i64 a0_0, .int .i64 a0_1]) (t := 25) ?hr ?_; (case hd => rfl); (case hg => rfl); (case hr => first | (go_simp; done) | (go_simp; rfl)); intro gb135 hg w21 hbox hb; have BK135 := Aside0.mk (hbox); have GW135 := Aside0.mk ((by rw [hg]; exact (below_size (bI HB.out)) : w.heap.size ≤ gb135)); have GE135 := Aside0.mk ((by rw [hg]; exact (below_size (bI HB.out)) : w.heap.size ≤ gb135)); have GI135 := GeI.mk GE135.out; replace HB := Aside0.mk (below_step (bI HB.out) hb); clear hb hbox hg; have hcz22_0 : w21.cell? ⟨gb135, 0, none⟩ = some (.int .i64 a0_0) := (blk_cell BK135.out 0).trans rfl; have hcz22_1 : w21.cell? ⟨gb135, 1, none⟩ = some (.int .i64 a0_1) := (blk_cell BK135.out 1).trans rfl; have hfz22_0 := blk_frozen BK135.out 0; have hfz22_1 := blk_frozen BK135.out 1) | (go_at_call 60; (with_reducible refine (impl_ConfOk.calls a0_0 a0_1 false _ A4.out).mono ?_); rintro e w23 ⟨rfl, hb⟩; replace BK135 := Aside0.mk (blk_below (g := gb135) (o := .cells #[.int .i64 a0_0, .int .i64 a0_1] 25 (0, 0)) (kI BK135.out) hb); replace HB := Aside0.mk (below_step (bI HB.out) hb); (try clear hb); (try clear hb2); (try clear hk); (try clear hi)))
    repeat (go_quiet (first | ((with_reducible refine gate_dst (N := 3) rfl ?_); refine box_event ?hg (N := 3) ?hd (cs := #[.int .i64 a0_0, .int .i64 a0_1]) (t := 25) ?hr ?_; (case hd => rfl); (case hg => rfl); (case hr => first | (go_simp; done) | (go_simp; rfl)); intro gb135 hg w21 hbox hb; have BK135 := Aside0.mk (hbox); have GW135 := Aside0.mk ((by rw [hg]; exact (below_size (bI HB.out)) : w.heap.size ≤ gb135)); have GE135 := Aside0.mk ((by rw [hg]; exact (below_size (bI HB.out)) : w.heap.size ≤ gb135)); have GI135 := GeI.mk GE135.out; replace HB := Aside0.mk (below_step (bI HB.out) hb); clear hb hbox hg; have hcz22_0 : w21.cell? ⟨gb135, 0, none⟩ = some (.int .i64 a0_0) := (blk_cell BK135.out 0).trans rfl; have hcz22_1 : w21.cell? ⟨gb135, 1, none⟩ = some (.int .i64 a0_1) := (blk_cell BK135.out 1).trans rfl; have hfz22_0 := blk_frozen BK135.out 0; have hfz22_1 := blk_frozen BK135.out 1) | (go_at_call 60; (with_reducible refine (impl_ConfOk.calls a0_0 a0_1 false _ A4.out).mono ?_); rintro e w23 ⟨rfl, hb⟩; replace BK135 := Aside0.mk (blk_below (g := gb135) (o := .cells #[.int .i64 a0_0, .int .i64 a0_1] 25 (0, 0)) (kI BK135.out) hb); replace HB := Aside0.mk (below_step (bI HB.out) hb); (try clear hb); (try clear hb2); (try clear hk); (try clear hi))); try go_wp2_with (first | ((with_reducible refine gate_dst (N := 3) rfl ?_); refine box_event ?hg (N := 3) ?hd (cs := #[.int .i64 a0_0, .int .i64 a0_1]) (t := 25) ?hr ?_; (case hd => rfl); (case hg => rfl); (case hr => first | (go_simp; done) | (go_simp; rfl)); intro gb135 hg w21 hbox hb; have BK135 := Aside0.mk (hbox); have GW135 := Aside0.mk ((by rw [hg]; exact (below_size (bI HB.out)) : w.heap.size ≤ gb135)); have GE135 := Aside0.mk ((by rw [hg]; exact (below_size (bI HB.out)) : w.heap.size ≤ gb135)); have GI135 := GeI.mk GE135.out; replace HB := Aside0.mk (below_step (bI HB.out) hb); clear hb hbox hg; have hcz22_0 : w21.cell? ⟨gb135, 0, none⟩ = some (.int .i64 a0_0) := (blk_cell BK135.out 0).trans rfl; have hcz22_1 : w21.cell? ⟨gb135, 1, none⟩ = some (.int .i64 a0_1) := (blk_cell BK135.out 1).trans rfl; have hfz22_0 := blk_frozen BK135.out 0; have hfz22_1 := blk_frozen BK135.out 1) | (go_at_call 60; (with_reducible refine (impl_ConfOk.calls a0_0 a0_1 false _ A4.out).mono ?_); rintro e w23 ⟨rfl, hb⟩; replace BK135 := Aside0.mk (blk_below (g := gb135) (o := .cells #[.int .i64 a0_0, .int .i64 a0_1] 25 (0, 0)) (kI BK135.out) hb); replace HB := Aside0.mk (below_step (bI HB.out) hb); (try clear hb); (try clear hb2); (try clear hk); (try clear hi))))
    go_ret
    exact ⟨by first | rfl | (simp [errW_none, errW_some] <;> rfl) | (simp [*, errW_none, errW_some] <;> rfl), bI HB.out⟩

/-! ### impl_Up: function 23 -/
def impl_Up.f (a0_0 : Int) (a0_1 : Int) (a1 : Int) (a2 : Int) : Option (Int) := (impl_Seat.f a0_0 a0_1 a1 a2).bind fun t139 => (if t139 < 1 then (some (-1)) else (if a0_1 = 0 then (none) else ((impl_Sits.f a0_0 a0_1 a1 (wrap64 (Int.tdiv (wrap64 (t139 - 1)) a0_1))).bind fun t140 => (some t140))))
def impl_Up.T4 : Bool × List (List Nat × List Nat) := (true, [([], []), ([], []), ([], []), ([2], [2]), ([], []), ([4], [4]), ([3, 5], [3, 5]), ([0, 1, 6], [0, 1, 6]), ([7, 7, 0, 1, 2, 3, 4, 5, 6, 7], [7])])
def impl_Up.B4 : List Nat := [0, 0, 0, 4, 0, 16, 60, 127, 255]
theorem impl_Up.tab4 : rtab .any (opsOf Try.f23 4) = impl_Up.T4 := by kernel_rfl
theorem impl_Up.bits4 : waitsOk impl_Up.T4.2 impl_Up.B4 = true := by kernel_rfl
set_option maxHeartbeats 8000000 in
set_option maxRecDepth 100000 in
theorem impl_Up.calls (a0_0 : Int) (a0_1 : Int) (a1 : Int) (a2 : Int) (r : Int) (w : World) (h : impl_Up.f a0_0 a0_1 a1 a2 = some r) :
    Calls Try.prog 23 #[.agg #[.int .i64 a0_0, .int .i64 a0_1], .int .i64 a1, .int .i64 a2] w fun e w' => e = .returned (.int .i64 r) ∧ Below w.heap.size w w' := by
  have hu25 := Try.underlying25
  have HB := Aside0.mk (Below.refl w.heap.size w)
  have H : ((impl_Seat.f a0_0 a0_1 a1 a2).bind fun t139 => (if t139 < 1 then (some (-1)) else (if a0_1 = 0 then (none) else ((impl_Sits.f a0_0 a0_1 a1 (wrap64 (Int.tdiv (wrap64 (t139 - 1)) a0_1))).bind fun t140 => (some t140))))) = some r := h
  clear h
  replace H := Option.bind_eq_some_iff.mp H
  obtain ⟨t139, A40, H⟩ := H
  replace H : (if t139 < 1 then (some (-1)) else (if a0_1 = 0 then (none) else ((impl_Sits.f a0_0 a0_1 a1 (wrap64 (Int.tdiv (wrap64 (t139 - 1)) a0_1))).bind fun t140 => (some t140)))) = some r := H
  have A4 := Aside0.mk A40
  clear A40
  by_cases c5 : t139 < 1
  · rw [if_pos c5] at H
    have c5b0 : decide (t139 < 1) = true := decide_eq_true c5
    clear c5
    obtain rfl := Option.some.inj H
    go_enter Try.func23, Try.ntmps23
    go_wp2_with (first | ((with_reducible refine gate_dst (N := 3) rfl ?_); refine box_event ?hg (N := 3) ?hd (cs := #[.int .i64 a0_0, .int .i64 a0_1]) (t := 25) ?hr ?_; (case hd => rfl); (case hg => rfl); (case hr => first | (go_simp; done) | (go_simp; rfl)); intro gb138 hg w6 hbox hb; have BK138 := Aside0.mk (hbox); have GW138 := Aside0.mk ((by rw [hg]; exact (below_size (bI HB.out)) : w.heap.size ≤ gb138)); have GE138 := Aside0.mk ((by rw [hg]; exact (below_size (bI HB.out)) : w.heap.size ≤ gb138)); have GI138 := GeI.mk GE138.out; replace HB := Aside0.mk (below_step (bI HB.out) hb); clear hb hbox hg; have hcz7_0 : w6.cell? ⟨gb138, 0, none⟩ = some (.int .i64 a0_0) := (blk_cell BK138.out 0).trans rfl; have hcz7_1 : w6.cell? ⟨gb138, 1, none⟩ = some (.int .i64 a0_1) := (blk_cell BK138.out 1).trans rfl; have hfz7_0 := blk_frozen BK138.out 0; have hfz7_1 := blk_frozen BK138.out 1) | ((with_reducible refine gate_callee (f := 19) rfl ?_); refine goesL_ (some 11) rfl rfl Try.func19 (by kernel_rfl) rfl #[.agg #[.int .i64 a0_0, .int .i64 a0_1], .int .i64 a1, .int .i64 a2] rfl (by (try simp only [List.map_toArray, List.map_cons, List.map_nil]); first | done | rfl | (simp only [List.length_drop, List.length_take]; rfl)) ?_; (with_reducible refine (impl_Seat.calls a0_0 a0_1 a1 a2 t139 _ A4.out).mono ?_); rintro e w8 ⟨rfl, hb⟩; refine ⟨_, rfl, ?_⟩; replace BK138 := Aside0.mk (blk_below (g := gb138) (o := .cells #[.int .i64 a0_0, .int .i64 a0_1] 25 (0, 0)) (kI BK138.out) hb); replace HB := Aside0.mk (below_step (bI HB.out) hb); (try clear hb); (try clear hb2); (try clear hk); (try clear hi)))
    go_ret
    exact ⟨by first | rfl | (simp [errW_none, errW_some] <;> rfl) | (simp [*, errW_none, errW_some] <;> rfl), bI HB.out⟩
  · rw [if_neg c5] at H
    have c5b0 : decide (t139 < 1) = false := decide_eq_false c5
    clear c5
    by_cases c9 : a0_1 = 0
    · rw [if_pos c9] at H
      exact absurd H (by simp)
    rw [if_neg c9] at H
    have c9b0 : (a0_1 == 0) = false := beq_eq_false_iff_ne.mpr c9
    have c9b1 : (a0_1 != 0) = true := bne_iff_ne.mpr c9
    replace H := Option.bind_eq_some_iff.mp H
    obtain ⟨t140, A100, H⟩ := H
    replace H : (some t140) = some r := H
    have A10 := Aside0.mk A100
    clear A100
    obtain rfl := Option.some.inj H
    go_enter Try.func23, Try.ntmps23
    try go_wp2_with (first | ((with_reducible refine gate_dst (N := 3) rfl ?_); refine box_event ?hg (N := 3) ?hd (cs := #[.int .i64 a0_0, .int .i64 a0_1]) (t := 25) ?hr ?_; (case hd => rfl); (case hg => rfl); (case hr => first | (go_simp; done) | (go_simp; rfl)); intro gb138 hg w11 hbox hb; have BK138 := Aside0.mk (hbox); have GW138 := Aside0.mk ((by rw [hg]; exact (below_size (bI HB.out)) : w.heap.size ≤ gb138)); have GE138 := Aside0.mk ((by rw [hg]; exact (below_size (bI HB.out)) : w.heap.size ≤ gb138)); have GI138 := GeI.mk GE138.out; replace HB := Aside0.mk (below_step (bI HB.out) hb); clear hb hbox hg; have hcz12_0 : w11.cell? ⟨gb138, 0, none⟩ = some (.int .i64 a0_0) := (blk_cell BK138.out 0).trans rfl; have hcz12_1 : w11.cell? ⟨gb138, 1, none⟩ = some (.int .i64 a0_1) := (blk_cell BK138.out 1).trans rfl; have hfz12_0 := blk_frozen BK138.out 0; have hfz12_1 := blk_frozen BK138.out 1) | ((with_reducible refine gate_callee (f := 19) rfl ?_); refine goesL_ (some 11) rfl rfl Try.func19 (by kernel_rfl) rfl #[.agg #[.int .i64 a0_0, .int .i64 a0_1], .int .i64 a1, .int .i64 a2] rfl (by (try simp only [List.map_toArray, List.map_cons, List.map_nil]); first | done | rfl | (simp only [List.length_drop, List.length_take]; rfl)) ?_; (with_reducible refine (impl_Seat.calls a0_0 a0_1 a1 a2 t139 _ A4.out).mono ?_); rintro e w13 ⟨rfl, hb⟩; refine ⟨_, rfl, ?_⟩; replace BK138 := Aside0.mk (blk_below (g := gb138) (o := .cells #[.int .i64 a0_0, .int .i64 a0_1] 25 (0, 0)) (kI BK138.out) hb); replace HB := Aside0.mk (below_step (bI HB.out) hb); (try clear hb); (try clear hb2); (try clear hk); (try clear hi)))
    replace BK138 := Aside0.mk (blk_drew BK138.out)
    replace HB := Aside0.mk (below_drew1 HB.out)
    refine start_ (n := 9) (S := fun w' => w'.cell? ⟨gb138, 0, none⟩ = some (.int .i64 a0_0) ∧ w'.cell? ⟨gb138, 1, none⟩ = some (.int .i64 a0_1)) (ds := []) #[false, false, false, false, false, false, false, false, false] (by kernel_rfl) rfl rfl ⟨(blk_cell BK138.out 0).trans rfl, (blk_cell BK138.out 1).trans rfl⟩ (fun hHeld => ?_); refine with_tabW impl_Up.tab4 impl_Up.bits4 (fun HT_ HW_ => ?_)
    generalize w13.drew = w14 at BK138 HB hHeld ⊢
    refine pure_ (i := 1) (N := some 15) (v := ?_) (a' := ?_) #[false, true, false, false, false, false, false, false, false] rfl rfl (any_of HT_.out (by kernel_rfl)) (fun _ _ _ h => h) (Or.inl ⟨by rfl, ?_⟩) ?_ ?_
    rotate_left
    · intro w'
      go_simp
      with_reducible rfl
    rotate_left
    · simp only [Act.put, List.setIfInBounds_toArray, List.set_cons_zero, List.set_cons_succ, i64_w, i32_w]
      rfl
    refine pure_ (i := 2) (N := some 16) (v := ?_) (a' := ?_) #[false, true, true, false, false, false, false, false, false] rfl rfl (any_of HT_.out (by kernel_rfl)) (fun _ _ _ h => h) (Or.inl ⟨by rfl, ?_⟩) ?_ ?_
    rotate_left
    · intro w'
      go_simp
      with_reducible rfl
    rotate_left
    · simp only [Act.put, List.setIfInBounds_toArray, List.set_cons_zero, List.set_cons_succ, i64_w, i32_w]
      rfl
    refine pure_ (i := 3) (N := some 17) (v := ?_) (a' := ?_) #[false, true, true, true, false, false, false, false, false] rfl rfl (any_of HT_.out (by kernel_rfl)) (fun _ _ _ h => h) (Or.inl ⟨by rfl, ?_⟩) ?_ ?_
    rotate_left
    · intro w'
      go_simp
      with_reducible rfl
    rotate_left
    · simp only [Act.put, List.setIfInBounds_toArray, List.set_cons_zero, List.set_cons_succ, i64_w, i32_w]
      rfl
    refine pure_ (i := 4) (N := some 18) (v := ?_) (a' := ?_) #[false, true, true, true, true, false, false, false, false] rfl rfl (any_of HT_.out (by kernel_rfl)) (fun _ _ _ h => h) (Or.inl ⟨by rfl, ?_⟩) ?_ ?_
    rotate_left
    · intro w'
      go_simp
      with_reducible rfl
    rotate_left
    · simp only [Act.put, List.setIfInBounds_toArray, List.set_cons_zero, List.set_cons_succ, i64_w, i32_w]
      rfl
    refine take_ (i := 0) (N := some 14) (v := ?_) (a' := ?_) #[true, true, true, true, true, false, false, false, false] rfl rfl (take_ofW HT_.out HW_.out (by kernel_rfl)) (fun _ _ _ h => h) (Or.inl ⟨by rfl, ?_⟩) hHeld ?_ ?_
    rotate_left
    · rintro w' ⟨s0, s1⟩
      go_simp
      with_reducible rfl
    rotate_left
    · simp only [Act.put, List.setIfInBounds_toArray, List.set_cons_zero, List.set_cons_succ, i64_w, i32_w]
      rfl
    refine take_ (i := 5) (N := some 19) (v := ?_) (a' := ?_) #[true, true, true, true, true, true, false, false, false] rfl rfl (take_ofW HT_.out HW_.out (by kernel_rfl)) (fun _ _ _ h => h) (Or.inl ⟨by rfl, ?_⟩) hHeld ?_ ?_
    rotate_left
    · rintro w' ⟨s0, s1⟩
      go_simp
      with_reducible rfl
    rotate_left
    · simp only [Act.put, List.setIfInBounds_toArray, List.set_cons_zero, List.set_cons_succ, i64_w, i32_w]
      rfl
    refine pure_ (i := 6) (N := some 20) (v := ?_) (a' := ?_) #[true, true, true, true, true, true, true, false, false] rfl rfl (any_of HT_.out (by kernel_rfl)) (fun _ _ _ h => h) (Or.inl ⟨by rfl, ?_⟩) ?_ ?_
    rotate_left
    · intro w'
      go_simp
      with_reducible rfl
    rotate_left
    · simp only [Act.put, List.setIfInBounds_toArray, List.set_cons_zero, List.set_cons_succ, i64_w, i32_w]
      rfl
    refine one_ (i := 7) (N := some 21) #[true, true, true, true, true, true, true, true, false] rfl rfl (one_of HT_.out (by kernel_rfl)) (by decide) (fun K hK => ?_)
    refine goes_ Try.func21 (by kernel_rfl) rfl #[.agg #[.int .i64 a0_0, .int .i64 a0_1], .int .i64 a1, .int .i64 (wrap64 (Int.tdiv (wrap64 (t139 - 1)) a0_1))] (by rfl) rfl rfl (by (try simp only [List.map_toArray, List.map_cons, List.map_nil]); first | done | rfl | (simp only [List.length_drop, List.length_take]; rfl)) ?_
    with_reducible refine (impl_Sits.calls a0_0 a0_1 a1 (wrap64 (Int.tdiv (wrap64 (t139 - 1)) a0_1)) t140 _ A10.out).mono ?_
    rintro e w15 ⟨rfl, hb⟩
    refine ⟨_, rfl, ?_⟩
    replace BK138 := Aside0.mk (blk_below (g := gb138) (o := .cells #[.int .i64 a0_0, .int .i64 a0_1] 25 (0, 0)) (kI BK138.out) hb)
    replace HB := Aside0.mk (below_step (bI HB.out) hb)
    (try clear hb)
    (try clear hb2)
    (try clear hk)
    (try clear hi)
    refine hK.out _ _ ⟨(blk_cell BK138.out 0).trans rfl, (blk_cell BK138.out 1).trans rfl⟩ (fun hHeld => ?_)
    clear hK K
    refine norm_ (a' := ?_) ?_ ?_
    rotate_left
    · show Act.put _ (some 21) _ = _
      simp only [Act.put, List.setIfInBounds_toArray, List.set_cons_zero, List.set_cons_succ, i64_w, i32_w]
      rfl
    refine pure_ (i := 8) (N := some 6) (v := ?_) (a' := ?_) #[true, true, true, true, true, true, true, true, true] rfl rfl (any_of HT_.out (by kernel_rfl)) (fun _ _ _ h => h) (Or.inl ⟨by rfl, ?_⟩) ?_ ?_
    rotate_left
    · intro w'
      go_simp
      with_reducible rfl
    rotate_left
    · simp only [Act.put, List.setIfInBounds_toArray, List.set_cons_zero, List.set_cons_succ, i64_w, i32_w]
      rfl
    refine done_ (done_of HT_.out (by kernel_rfl)) ?_
    try go_wp2
    go_ret
    exact ⟨by first | rfl | (simp [errW_none, errW_some] <;> rfl) | (simp [*, errW_none, errW_some] <;> rfl), bI HB.out⟩

/-! ### impl_Kids: function 45 -/
mutual
def impl_Kids.l0 : Nat → Int → Int → List Int → Int → Int → Int → Option (List Int)
  | 0, _, _, _, _, _, _ => none
  | k + 1, x1, x2, x7, x8, x142000, x142001 => (impl_Seat.f x142000 x142001 x1 x2).bind fun t142 => (if t142 ≥ 0 then (impl_Kids.j1 k x1 x2 x7 x8 (decide (x8 < x142000)) x142000 x142001) else (impl_Kids.j1 k x1 x2 x7 x8 false x142000 x142001))
def impl_Kids.j1 : Nat → Int → Int → List Int → Int → Bool → Int → Int → Option (List Int)
  | 0, _, _, _, _, _, _, _ => none
  | k + 1, x1, x2, x7, x8, x19, x142000, x142001 => if x19 = true then ((impl_Up.f x142000 x142001 x1 x8).bind fun t143 => (if t143 = x2 then (if x7.length < 17592186044416 then (impl_Kids.l0 k x1 x2 (x7 ++ [x8]) (wrap64 (x8 + 1)) x142000 x142001) else (none)) else (impl_Kids.l0 k x1 x2 x7 (wrap64 (x8 + 1)) x142000 x142001))) else (some x7)
end
def impl_Kids.f (k : Nat) (a0_0 : Int) (a0_1 : Int) (a1 : Int) (a2 : Int) : Option (List Int) := impl_Kids.l0 k a1 a2 ([] : List Int) 0 a0_0 a0_1
theorem impl_Kids.mono_l : ∀ k, (∀ y0 y1 y2 y3 y4 y5, LeO (impl_Kids.l0 k y0 y1 y2 y3 y4 y5) (impl_Kids.l0 (k + 1) y0 y1 y2 y3 y4 y5)) ∧ (∀ y0 y1 y2 y3 y4 y5 y6, LeO (impl_Kids.j1 k y0 y1 y2 y3 y4 y5 y6) (impl_Kids.j1 (k + 1) y0 y1 y2 y3 y4 y5 y6))
  | 0 => ⟨fun _ _ _ _ _ _ r h => by simp [impl_Kids.l0] at h, fun _ _ _ _ _ _ _ r h => by simp [impl_Kids.j1] at h⟩
  | k + 1 => by
    obtain ⟨ih0, ih1⟩ := impl_Kids.mono_l k
    refine ⟨?_, ?_⟩
    · intro y0 y1 y2 y3 y4 y5
      unfold impl_Kids.l0
      repeat' first
      | (with_reducible exact ih0 _ _ _ _ _ _)
      | (with_reducible exact ih1 _ _ _ _ _ _ _)
      | (with_reducible exact LeO.refl _)
      | (with_reducible exact LeO.none _)
      | (with_reducible refine LeO.ite ?_ ?_)
      | (with_reducible refine LeO.bind ?_ (fun _ => ?_))
      | exact ih0 _ _ _ _ _ _
      | exact ih1 _ _ _ _ _ _ _
      | exact LeO.none _
      | refine LeO.ite ?_ ?_
      | refine LeO.bind ?_ (fun _ => ?_)
    · intro y0 y1 y2 y3 y4 y5 y6
      unfold impl_Kids.j1
      repeat' first
      | (with_reducible exact ih0 _ _ _ _ _ _)
      | (with_reducible exact ih1 _ _ _ _ _ _ _)
      | (with_reducible exact LeO.refl _)
      | (with_reducible exact LeO.none _)
      | (with_reducible refine LeO.ite ?_ ?_)
      | (with_reducible refine LeO.bind ?_ (fun _ => ?_))
      | exact ih0 _ _ _ _ _ _
      | exact ih1 _ _ _ _ _ _ _
      | exact LeO.none _
      | refine LeO.ite ?_ ?_
      | refine LeO.bind ?_ (fun _ => ?_)
theorem impl_Kids.mono : ∀ a0 a1 a2 a3 k, LeO (impl_Kids.f k a0 a1 a2 a3) (impl_Kids.f (k + 1) a0 a1 a2 a3) := by
  intro a0 a1 a2 a3 k
  obtain ⟨ih0, ih1⟩ := impl_Kids.mono_l k
  unfold impl_Kids.f
  repeat' first
      | (with_reducible exact ih0 _ _ _ _ _ _)
      | (with_reducible exact ih1 _ _ _ _ _ _ _)
      | (with_reducible exact LeO.refl _)
      | (with_reducible exact LeO.none _)
      | (with_reducible refine LeO.ite ?_ ?_)
      | (with_reducible refine LeO.bind ?_ (fun _ => ?_))
      | exact ih0 _ _ _ _ _ _
      | exact ih1 _ _ _ _ _ _ _
      | exact LeO.none _
      | refine LeO.ite ?_ ?_
      | refine LeO.bind ?_ (fun _ => ?_)
set_option maxHeartbeats 8000000 in
set_option maxRecDepth 100000 in
theorem impl_Kids.calls (k : Nat) (a0_0 : Int) (a0_1 : Int) (a1 : Int) (a2 : Int) (r : List Int) (w : World) (h : impl_Kids.f k a0_0 a0_1 a1 a2 = some r) :
    Calls Try.prog 45 #[.agg #[.int .i64 a0_0, .int .i64 a0_1], .int .i64 a1, .int .i64 a2] w fun e w' => ∃ v0_ : Value, e = .returned (v0_) ∧ Kd.R (Kd.int .i64) 3 w' w.heap.size (fun _ => True) v0_ r ∧ Below w.heap.size w w' := by
  have hu25 := Try.underlying25
  have HB := Aside0.mk (Below.refl w.heap.size w)
  have H : (impl_Kids.l0 k a1 a2 ([] : List Int) 0 a0_0 a0_1) = some r := h
  clear h
  have H' := Aside0.mk H
  clear H
  go_enter Try.func45, Try.ntmps45
  go_wp2_with (first | ((with_reducible refine gate_dst (N := 3) rfl ?_); refine box_event ?hg (N := 3) ?hd (cs := #[.int .i64 a0_0, .int .i64 a0_1]) (t := 25) ?hr ?_; (case hd => rfl); (case hg => rfl); (case hr => first | (go_simp; done) | (go_simp; rfl)); intro gb141 hg w4 hbox hb; have BK141 := Aside0.mk (hbox); have GW141 := Aside0.mk ((by rw [hg]; exact (below_size (bI HB.out)) : w.heap.size ≤ gb141)); have GE141 := Aside0.mk ((by rw [hg]; exact (below_size (bI HB.out)) : w.heap.size ≤ gb141)); have GI141 := GeI.mk GE141.out; replace HB := Aside0.mk (below_step (bI HB.out) hb); clear hb hbox hg))
  go_loopg [7, 8] k (fun kq v7 v8 w' => ∃ (x7_1 : List Int) (x8_1 : Int), v8 = .int .i64 x8_1 ∧ Aside0 (impl_Kids.l0 kq a1 a2 x7_1 x8_1 a0_0 a0_1 = some r) ∧ Aside0 (kq ≤ k) ∧ Aside0 (Kd.R (Kd.int .i64) 3 w' w.heap.size (fun _ => True) v7 x7_1) ∧ Aside0 (w'.heap[gb141]? = some (.cells #[.int .i64 a0_0, .int .i64 a0_1] 25 (0, 0))) ∧ Aside0 (Below w.heap.size w w'))
  case atStart => exact ⟨(([] : List Int)), (0), (by first | rfl | (simp; done) | (simp [*]; done)), H', ⟨Nat.le_refl _⟩, ⟨by first | exact Kd.R_nil _ _ _ _ _ | exact Kd.N_nil _ _ _ _ _ | exact Kd.V_nil _ _ _ _ _ | exact Kd.Q_nil _ _ _ _ _ | exact Kd.S_nil _ _ _ _ _⟩, ⟨by (with_reducible repeat (first | refine blk_drewN ?_ _ | refine blk_drew ?_ | refine blk_alloc ?_ _)); exact BK141.out⟩, ⟨bI HB.out⟩⟩
  case round =>
    clear H'
    try clear p2
    try clear c4
    obtain ⟨x7_1, x8_1, rfl, HA, HK1, HO_7, BK141, HB⟩ := hrel
    cases gk with
    | zero => exact absurd HA.out (by simp [impl_Kids.l0])
    | succ k1 =>
      have H := HA.out
      clear HA
      simp only [impl_Kids.l0] at H
      have HC5 := Aside0.mk H
      clear H
      go_upto_region 3 with (fail)
      go_cut [19] (fun v19 wc => ∃ (kq : Nat) (x19_4 : Bool), v19 = .bool x19_4 ∧ Aside0 (impl_Kids.j1 kq a1 a2 x7_1 x8_1 x19_4 a0_0 a0_1 = some r) ∧ Aside0 (kq ≤ k1) ∧ Aside0 (Kd.R (Kd.int .i64) 3 wc w.heap.size (fun _ => True) u7 x7_1) ∧ Aside0 (wc.heap[gb141]? = some (.cells #[.int .i64 a0_0, .int .i64 a0_1] 25 (0, 0))) ∧ Aside0 (Below w.heap.size w wc))
      case first =>
        have H := HC5.out
        clear HC5
        replace H := Option.bind_eq_some_iff.mp H
        obtain ⟨t142, A60, H⟩ := H
        replace H : (if t142 ≥ 0 then (impl_Kids.j1 k1 a1 a2 x7_1 x8_1 (decide (x8_1 < a0_0)) a0_0 a0_1) else (impl_Kids.j1 k1 a1 a2 x7_1 x8_1 false a0_0 a0_1)) = some r := H
        have A6 := Aside0.mk A60
        clear A60
        by_cases c7 : t142 ≥ 0
        · rw [if_pos c7] at H
          have c7b0 : decide (0 ≤ t142) = true := decide_eq_true c7
          clear c7
          (first | rw [c7b0] | (simp only [i64_w, i32_w]; rw [c7b0]) | skip)
          have H' := Aside0.mk H
          clear H
          have hcz8_0 : wr.cell? ⟨gb141, 0, none⟩ = some (.int .i64 a0_0) := (blk_cell BK141.out 0).trans rfl
          have hcz8_1 : wr.cell? ⟨gb141, 1, none⟩ = some (.int .i64 a0_1) := (blk_cell BK141.out 1).trans rfl
          have hfz8_0 := blk_frozen BK141.out 0
          have hfz8_1 := blk_frozen BK141.out 1
          go_wp2_with (first | ((with_reducible refine gate_callee (f := 19) rfl ?_); refine goesL_ (some 12) rfl rfl Try.func19 (by kernel_rfl) rfl #[.agg #[.int .i64 a0_0, .int .i64 a0_1], .int .i64 a1, .int .i64 a2] rfl (by (try simp only [List.map_toArray, List.map_cons, List.map_nil]); first | done | rfl | (simp only [List.length_drop, List.length_take]; rfl)) ?_; (with_reducible refine (impl_Seat.calls a0_0 a0_1 a1 a2 t142 _ A6.out).mono ?_); rintro e w9 ⟨rfl, hb⟩; refine ⟨_, rfl, ?_⟩; replace HO_7 := Aside0.mk (Kd.R_below (rI HO_7.out) hb); replace BK141 := Aside0.mk (blk_below (g := gb141) (o := .cells #[.int .i64 a0_0, .int .i64 a0_1] 25 (0, 0)) (kI BK141.out) hb); replace HB := Aside0.mk (below_step (bI HB.out) hb); (try clear hb); (try clear hb2); (try clear hk); (try clear hi); have hcz10_0 : w9.cell? ⟨gb141, 0, none⟩ = some (.int .i64 a0_0) := (blk_cell BK141.out 0).trans rfl; have hcz10_1 : w9.cell? ⟨gb141, 1, none⟩ = some (.int .i64 a0_1) := (blk_cell BK141.out 1).trans rfl; have hfz10_0 := blk_frozen BK141.out 0; have hfz10_1 := blk_frozen BK141.out 1))
          go_meet
          case rel => exact ⟨_, (decide (x8_1 < a0_0)), (by first | rfl | (simp; done) | (simp [*]; done)), H', ⟨by have := HK1.out; first | omega | exact Nat.le_refl _⟩, ⟨by (with_reducible repeat (first | apply Kd.R_alloc | apply Kd.R_drewN | apply Kd.R_drew)); exact HO_7.out⟩, ⟨by (with_reducible repeat (first | refine blk_drewN ?_ _ | refine blk_drew ?_ | refine blk_alloc ?_ _)); exact BK141.out⟩, ⟨bI HB.out⟩⟩
        · rw [if_neg c7] at H
          have c7b0 : decide (0 ≤ t142) = false := decide_eq_false c7
          clear c7
          (first | rw [c7b0] | (simp only [i64_w, i32_w]; rw [c7b0]) | skip)
          have H' := Aside0.mk H
          clear H
          have hcz11_0 : wr.cell? ⟨gb141, 0, none⟩ = some (.int .i64 a0_0) := (blk_cell BK141.out 0).trans rfl
          have hcz11_1 : wr.cell? ⟨gb141, 1, none⟩ = some (.int .i64 a0_1) := (blk_cell BK141.out 1).trans rfl
          have hfz11_0 := blk_frozen BK141.out 0
          have hfz11_1 := blk_frozen BK141.out 1
          go_wp2_with (first | ((with_reducible refine gate_callee (f := 19) rfl ?_); refine goesL_ (some 12) rfl rfl Try.func19 (by kernel_rfl) rfl #[.agg #[.int .i64 a0_0, .int .i64 a0_1], .int .i64 a1, .int .i64 a2] rfl (by (try simp only [List.map_toArray, List.map_cons, List.map_nil]); first | done | rfl | (simp only [List.length_drop, List.length_take]; rfl)) ?_; (with_reducible refine (impl_Seat.calls a0_0 a0_1 a1 a2 t142 _ A6.out).mono ?_); rintro e w12 ⟨rfl, hb⟩; refine ⟨_, rfl, ?_⟩; replace HO_7 := Aside0.mk (Kd.R_below (rI HO_7.out) hb); replace BK141 := Aside0.mk (blk_below (g := gb141) (o := .cells #[.int .i64 a0_0, .int .i64 a0_1] 25 (0, 0)) (kI BK141.out) hb); replace HB := Aside0.mk (below_step (bI HB.out) hb); (try clear hb); (try clear hb2); (try clear hk); (try clear hi)))
          go_meet
          case rel => exact ⟨_, (false), (by first | rfl | (simp; done) | (simp [*]; done)), H', ⟨by have := HK1.out; first | omega | exact Nat.le_refl _⟩, ⟨by (with_reducible repeat (first | apply Kd.R_alloc | apply Kd.R_drewN | apply Kd.R_drew)); exact HO_7.out⟩, ⟨by (with_reducible repeat (first | refine blk_drewN ?_ _ | refine blk_drew ?_ | refine blk_alloc ?_ _)); exact BK141.out⟩, ⟨bI HB.out⟩⟩
      case rest =>
        clear HC5
        try clear c1
        try clear p2
        try clear c4
        try clear c7
        try clear c7b0
        try clear hcz10_0
        try clear hcz10_1
        try clear hcz11_0
        try clear hcz11_1
        try clear hcz8_0
        try clear hcz8_1
        try clear hfz10_0
        try clear hfz10_1
        try clear hfz11_0
        try clear hfz11_1
        try clear hfz8_0
        try clear hfz8_1
        try clear p2
        obtain ⟨kq, x19_4, rfl, HA, HJ4, HO_7, BK141, HB⟩ := hcut
        cases kq with
        | zero => exact absurd HA.out (by simp [impl_Kids.j1])
        | succ kj4 =>
          have H := HA.out
          clear HA
          simp only [impl_Kids.j1] at H
          by_cases c13 : x19_4 = true
          · subst c13
            have H1 : ((impl_Up.f a0_0 a0_1 a1 x8_1).bind fun t143 => (if t143 = a2 then (if x7_1.length < 17592186044416 then (impl_Kids.l0 kj4 a1 a2 (x7_1 ++ [x8_1]) (wrap64 (x8_1 + 1)) a0_0 a0_1) else (none)) else (impl_Kids.l0 kj4 a1 a2 x7_1 (wrap64 (x8_1 + 1)) a0_0 a0_1))) = some r := by rw [if_pos rfl] at H; exact H
            clear H
            have H := H1
            clear H1
            replace H := Option.bind_eq_some_iff.mp H
            obtain ⟨t143, A140, H⟩ := H
            replace H : (if t143 = a2 then (if x7_1.length < 17592186044416 then (impl_Kids.l0 kj4 a1 a2 (x7_1 ++ [x8_1]) (wrap64 (x8_1 + 1)) a0_0 a0_1) else (none)) else (impl_Kids.l0 kj4 a1 a2 x7_1 (wrap64 (x8_1 + 1)) a0_0 a0_1)) = some r := H
            have A14 := Aside0.mk A140
            clear A140
            by_cases c15 : t143 = a2
            · rw [if_pos c15] at H
              have c15b0 : (t143 == a2) = true := beq_iff_eq.mpr c15
              have c15b1 : (t143 != a2) = false := bne_eq_false_iff_eq.mpr c15
              clear c15
              by_cases c16 : x7_1.length < 17592186044416
              rotate_left
              · rw [if_neg c16] at H
                exact absurd H (by simp)
              rw [if_pos c16] at H
              have LMc16 := Aside0.mk c16
              clear c16
              obtain ⟨y144, hy144⟩ : ∃ y_ : List Int, y_ = (x7_1 ++ [x8_1]) := ⟨_, rfl⟩
              replace H : (impl_Kids.l0 kj4 a1 a2 y144 (wrap64 (x8_1 + 1)) a0_0 a0_1) = some r := by first | (rw [hy144]; with_reducible exact H) | (have H2_ := (Option.bind_some _ _).symm.trans H; rw [hy144]; with_reducible exact H2_) | (have H2_ := (Option.bind_some _ _).symm.trans H; with_reducible exact H2_) | with_reducible exact H | (rw [hy144]; exact H) | exact H
              have Ny144 := Aside0.mk hy144
              clear hy144
              have H' := Aside0.mk H
              clear H
              have hcz17_0 : wc.cell? ⟨gb141, 0, none⟩ = some (.int .i64 a0_0) := (blk_cell BK141.out 0).trans rfl
              have hcz17_1 : wc.cell? ⟨gb141, 1, none⟩ = some (.int .i64 a0_1) := (blk_cell BK141.out 1).trans rfl
              have hfz17_0 := blk_frozen BK141.out 0
              have hfz17_1 := blk_frozen BK141.out 1
              go_wp2_with (first | ((with_reducible refine gate_callee (f := 23) rfl ?_); refine goesL_ (some 25) rfl rfl Try.func23 (by kernel_rfl) rfl #[.agg #[.int .i64 a0_0, .int .i64 a0_1], .int .i64 a1, .int .i64 x8_1] rfl (by (try simp only [List.map_toArray, List.map_cons, List.map_nil]); first | done | rfl | (simp only [List.length_drop, List.length_take]; rfl)) ?_; (with_reducible refine (impl_Up.calls a0_0 a0_1 a1 x8_1 t143 _ A14.out).mono ?_); rintro e w18 ⟨rfl, hb⟩; refine ⟨_, rfl, ?_⟩; replace HO_7 := Aside0.mk (Kd.R_below (rI HO_7.out) hb); replace BK141 := Aside0.mk (blk_below (g := gb141) (o := .cells #[.int .i64 a0_0, .int .i64 a0_1] 25 (0, 0)) (kI BK141.out) hb); replace HB := Aside0.mk (below_step (bI HB.out) hb); (try clear hb); (try clear hb2); (try clear hk); (try clear hi)) | ((with_reducible refine gate_builtin (b := .append) (xs := #[.tmp 28, .tmp 30]) rfl ?_); at_builtin; refine Kd.R_append (Kd.int .i64) (w0 := w) w.heap.size rfl (.tmp 28) (.tmp 30) 39 3 (.int .i64 0) 8 rfl Try.underlying39 info3 rfl (by decide) (by omega) u7 x7_1 x8_1 [.int .i64 x8_1] (fun _ => True) (fun _ => False) rfl rfl ?aP (fun _ hk => hk.elim) ?aF ?aO ?aB ?aS ?aL ?_; (case aP => exact rfl); (case aB => exact (bI HB.out)); (case aF => exact (fun _ _ => trivial)); (case aO => exact (rI HO_7.out)); (case aS => exact (below_size (bI HB.out))); (case aL => have := LMc16.out; omega); intro v145 w19 ho hb hg hat; rw [← Ny144.out] at ho; have n0_ := Aside0.mk (blk_grown (g := gb141) (o := .cells #[.int .i64 a0_0, .int .i64 a0_1] 25 (0, 0)) (kI BK141.out) hg (Kd.R_ne HO_7.out BK141.out (by decide))); have n1_ := Aside0.mk (hb); have n2_ := Aside0.mk (ho); clear BK141; clear HB; clear HO_7; have BK141 := n0_; have HB := n1_; have HO146 := n2_; clear n0_ n1_ n2_; clear ho hb hg hat))
              go_roundg kj4
              case measure => have := HK1.out; have := HJ4.out; omega
              case rel => exact ⟨(y144), (wrap64 (x8_1 + 1)), (by first | rfl | (simp; done) | (simp [*]; done)), H', ⟨by have := HK1.out; have := HJ4.out; omega⟩, ⟨by (with_reducible repeat (first | apply Kd.R_alloc | apply Kd.R_drewN | apply Kd.R_drew)); exact HO146.out⟩, ⟨by (with_reducible repeat (first | refine blk_drewN ?_ _ | refine blk_drew ?_ | refine blk_alloc ?_ _)); exact BK141.out⟩, ⟨bI HB.out⟩⟩
            · rw [if_neg c15] at H
              have c15b0 : (t143 == a2) = false := beq_eq_false_iff_ne.mpr c15
              have c15b1 : (t143 != a2) = true := bne_iff_ne.mpr c15
              have H' := Aside0.mk H
              clear H
              have hcz20_0 : wc.cell? ⟨gb141, 0, none⟩ = some (.int .i64 a0_0) := (blk_cell BK141.out 0).trans rfl
              have hcz20_1 : wc.cell? ⟨gb141, 1, none⟩ = some (.int .i64 a0_1) := (blk_cell BK141.out 1).trans rfl
              have hfz20_0 := blk_frozen BK141.out 0
              have hfz20_1 := blk_frozen BK141.out 1
              go_wp2_with (first | ((with_reducible refine gate_callee (f := 23) rfl ?_); refine goesL_ (some 25) rfl rfl Try.func23 (by kernel_rfl) rfl #[.agg #[.int .i64 a0_0, .int .i64 a0_1], .int .i64 a1, .int .i64 x8_1] rfl (by (try simp only [List.map_toArray, List.map_cons, List.map_nil]); first | done | rfl | (simp only [List.length_drop, List.length_take]; rfl)) ?_; (with_reducible refine (impl_Up.calls a0_0 a0_1 a1 x8_1 t143 _ A14.out).mono ?_); rintro e w21 ⟨rfl, hb⟩; refine ⟨_, rfl, ?_⟩; replace HO_7 := Aside0.mk (Kd.R_below (rI HO_7.out) hb); replace BK141 := Aside0.mk (blk_below (g := gb141) (o := .cells #[.int .i64 a0_0, .int .i64 a0_1] 25 (0, 0)) (kI BK141.out) hb); replace HB := Aside0.mk (below_step (bI HB.out) hb); (try clear hb); (try clear hb2); (try clear hk); (try clear hi)))
              go_roundg kj4
              case measure => have := HK1.out; have := HJ4.out; omega
              case rel => exact ⟨(x7_1), (wrap64 (x8_1 + 1)), (by first | rfl | (simp; done) | (simp [*]; done)), H', ⟨by have := HK1.out; have := HJ4.out; omega⟩, ⟨by (with_reducible repeat (first | apply Kd.R_alloc | apply Kd.R_drewN | apply Kd.R_drew)); exact HO_7.out⟩, ⟨by (with_reducible repeat (first | refine blk_drewN ?_ _ | refine blk_drew ?_ | refine blk_alloc ?_ _)); exact BK141.out⟩, ⟨bI HB.out⟩⟩
          · replace c13 := Bool.eq_false_iff.mpr c13
            subst c13
            have H1 : (some x7_1) = some r := by rw [if_neg (show ¬ (false = true) by decide)] at H; exact H
            clear H
            have H := H1
            clear H1
            obtain rfl := Option.some.inj H
            go_wp2
            go_ret
            exact ⟨_, by first | rfl | (simp [errW_none, errW_some] <;> rfl) | (simp [*, errW_none, errW_some] <;> rfl), by (with_reducible repeat (first | apply Kd.R_alloc | apply Kd.R_drewN | apply Kd.R_drew)); exact HO_7.out, bI HB.out⟩

end Go.Proofs.Ytlkmjjojjlihaaa.PFnExactKids
