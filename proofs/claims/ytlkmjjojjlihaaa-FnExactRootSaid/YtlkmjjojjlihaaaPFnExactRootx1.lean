-- By a program of this session, out of the translation (the print of the kit, with turns of its own). Lean checks it.
import Derived.Test.YtlkmjjojjlihaaaPFnExactRootx0
namespace Go.Proofs.Ytlkmjjojjlihaaa.PFnExactRoot
open Go.RowKit Go.Proofs.YtlkmjjojjlihaaaW.PrintWords Go.Proofs.YtlkmjjojjlihaaaW.PrintLast Go.Proofs.YtlkmjjojjlihaaaW.PrintMore
attribute [local go_sem] max2_int min2_int max_two min_two max_three min_three max_four min_four   -- for this text's walks alone
set_option linter.unusedVariables false
set_option linter.unusedSimpArgs false

/-! ### spec_l1In: function 61 -/
def spec_l1In.f (a0 : Int) (a1 : Int) (a2 : Int) : Option (Bool) := if a0 ≥ a1 then (some (decide (a0 ≤ a2))) else (some false)
set_option maxHeartbeats 8000000 in
set_option maxRecDepth 100000 in
theorem spec_l1In.calls (a0 : Int) (a1 : Int) (a2 : Int) (r : Bool) (w : World) (h : spec_l1In.f a0 a1 a2 = some r) :
    Calls Try.prog 61 #[.int .i64 a0, .int .i64 a1, .int .i64 a2] w fun e w' => e = .returned (.bool r) ∧ Drawn0 w w' := by
  have H : (if a0 ≥ a1 then (some (decide (a0 ≤ a2))) else (some false)) = some r := h
  clear h
  by_cases c4 : a0 ≥ a1
  · rw [if_pos c4] at H
    have c4b0 : decide (a1 ≤ a0) = true := decide_eq_true c4
    clear c4
    obtain rfl := Option.some.inj H
    go_enter Try.func61, Try.ntmps61
    go_wp2
    go_ret
    exact ⟨by first | rfl | (simp; done) | (simp [*]; done), by repeat (first | exact Drawn0.refl _ | apply Drawn0.step)⟩
  · rw [if_neg c4] at H
    have c4b0 : decide (a1 ≤ a0) = false := decide_eq_false c4
    clear c4
    obtain rfl := Option.some.inj H
    go_enter Try.func61, Try.ntmps61
    go_wp2
    go_ret
    exact ⟨by first | rfl | (simp; done) | (simp [*]; done), by repeat (first | exact Drawn0.refl _ | apply Drawn0.step)⟩

/-! ### spec_ConfOk: function 59 -/
def spec_ConfOk.f (a0_0 : Int) (a0_1 : Int) : Option (Bool) := (spec_l1In.f a0_0 4 7).bind fun t102 => (if t102 = true then ((spec_l1In.f a0_1 1 6).bind fun t103 => (some t103)) else (some false))
set_option maxHeartbeats 8000000 in
set_option maxRecDepth 100000 in
theorem spec_ConfOk.calls (a0_0 : Int) (a0_1 : Int) (r : Bool) (w : World) (h : spec_ConfOk.f a0_0 a0_1 = some r) :
    Calls Try.prog 59 #[.agg #[.int .i64 a0_0, .int .i64 a0_1]] w fun e w' => e = .returned (.bool r) ∧ Below w.heap.size w w' := by
  have hu25 := Try.underlying25
  have HB := Aside0.mk (Below.refl w.heap.size w)
  have H : ((spec_l1In.f a0_0 4 7).bind fun t102 => (if t102 = true then ((spec_l1In.f a0_1 1 6).bind fun t103 => (some t103)) else (some false))) = some r := h
  clear h
  replace H := Option.bind_eq_some_iff.mp H
  obtain ⟨t102, A20, H⟩ := H
  replace H : (if t102 = true then ((spec_l1In.f a0_1 1 6).bind fun t103 => (some t103)) else (some false)) = some r := H
  have A2 := Aside0.mk A20
  clear A20
  by_cases c3 : t102 = true
  · subst c3
    have H1 : ((spec_l1In.f a0_1 1 6).bind fun t103 => (some t103)) = some r := by rw [if_pos rfl] at H; exact H
    clear H
    have H := H1
    clear H1
    replace H := Option.bind_eq_some_iff.mp H
    obtain ⟨t103, A40, H⟩ := H
    replace H : (some t103) = some r := H
    have A4 := Aside0.mk A40
    clear A40
    obtain rfl := Option.some.inj H
    go_enter Try.func59, Try.ntmps59
    go_wp2_with (first | ((with_reducible refine gate_dst (N := 1) rfl ?_); refine box_event ?hg (N := 1) ?hd (cs := #[.int .i64 a0_0, .int .i64 a0_1]) (t := 25) ?hr ?_; (case hd => rfl); (case hg => rfl); (case hr => first | (go_simp; done) | (go_simp; rfl)); intro gb101 hg w5 hbox hb; have BK101 := Aside0.mk (hbox); have GW101 := Aside0.mk ((by rw [hg]; exact (below_size (bI HB.out)) : w.heap.size ≤ gb101)); have GE101 := Aside0.mk ((by rw [hg]; exact (below_size (bI HB.out)) : w.heap.size ≤ gb101)); have GI101 := GeI.mk GE101.out; replace HB := Aside0.mk (below_step (bI HB.out) hb); clear hb hbox hg; have hcz6_0 : w5.cell? ⟨gb101, 0, none⟩ = some (.int .i64 a0_0) := (blk_cell BK101.out 0).trans rfl; have hcz6_1 : w5.cell? ⟨gb101, 1, none⟩ = some (.int .i64 a0_1) := (blk_cell BK101.out 1).trans rfl; have hfz6_0 := blk_frozen BK101.out 0; have hfz6_1 := blk_frozen BK101.out 1) | ((with_reducible refine gate_callee (f := 61) rfl ?_); refine goesL_ (some 5) rfl rfl Try.func61 (by kernel_rfl) rfl #[.int .i64 a0_0, .int .i64 4, .int .i64 7] rfl (by (try simp only [List.map_toArray, List.map_cons, List.map_nil]); first | done | rfl | (simp only [List.length_drop, List.length_take]; rfl)) ?_; (with_reducible refine (spec_l1In.calls a0_0 4 7 true _ A2.out).mono ?_); rintro e w' ⟨rfl, ⟨nd, rfl⟩⟩; refine ⟨_, rfl, ?_⟩) | (go_at_call 61; (with_reducible refine (spec_l1In.calls a0_1 1 6 t103 _ A4.out).mono ?_); rintro e w' ⟨rfl, ⟨nd, rfl⟩⟩))
    go_ret
    exact ⟨by first | rfl | (simp [errW_none, errW_some] <;> rfl) | (simp [*, errW_none, errW_some] <;> rfl), bI HB.out⟩
  · replace c3 := Bool.eq_false_iff.mpr c3
    subst c3
    have H1 : (some false) = some r := by rw [if_neg (show ¬ (false = true) by decide)] at H; exact H
    clear H
    have H := H1
    clear H1
    obtain rfl := Option.some.inj H
    go_enter Try.func59, Try.ntmps59
    go_wp2_with (first | ((with_reducible refine gate_dst (N := 1) rfl ?_); refine box_event ?hg (N := 1) ?hd (cs := #[.int .i64 a0_0, .int .i64 a0_1]) (t := 25) ?hr ?_; (case hd => rfl); (case hg => rfl); (case hr => first | (go_simp; done) | (go_simp; rfl)); intro gb101 hg w7 hbox hb; have BK101 := Aside0.mk (hbox); have GW101 := Aside0.mk ((by rw [hg]; exact (below_size (bI HB.out)) : w.heap.size ≤ gb101)); have GE101 := Aside0.mk ((by rw [hg]; exact (below_size (bI HB.out)) : w.heap.size ≤ gb101)); have GI101 := GeI.mk GE101.out; replace HB := Aside0.mk (below_step (bI HB.out) hb); clear hb hbox hg; have hcz8_0 : w7.cell? ⟨gb101, 0, none⟩ = some (.int .i64 a0_0) := (blk_cell BK101.out 0).trans rfl; have hcz8_1 : w7.cell? ⟨gb101, 1, none⟩ = some (.int .i64 a0_1) := (blk_cell BK101.out 1).trans rfl; have hfz8_0 := blk_frozen BK101.out 0; have hfz8_1 := blk_frozen BK101.out 1) | ((with_reducible refine gate_callee (f := 61) rfl ?_); refine goesL_ (some 5) rfl rfl Try.func61 (by kernel_rfl) rfl #[.int .i64 a0_0, .int .i64 4, .int .i64 7] rfl (by (try simp only [List.map_toArray, List.map_cons, List.map_nil]); first | done | rfl | (simp only [List.length_drop, List.length_take]; rfl)) ?_; (with_reducible refine (spec_l1In.calls a0_0 4 7 false _ A2.out).mono ?_); rintro e w' ⟨rfl, ⟨nd, rfl⟩⟩; refine ⟨_, rfl, ?_⟩))
    go_ret
    exact ⟨by first | rfl | (simp [errW_none, errW_some] <;> rfl) | (simp [*, errW_none, errW_some] <;> rfl), bI HB.out⟩

/-! ### spec_Root: function 15 -/
def spec_Root.f (a0_0 : Int) (a0_1 : Int) (a1 : Int) : Option (Int) := (spec_ConfOk.f a0_0 a0_1).bind fun t105 => (if t105 = true then (if a1 < 0 then (some (-1)) else (if a0_0 = 0 then (none) else (some (Int.tmod a1 a0_0)))) else (some (-1)))
set_option maxHeartbeats 8000000 in
set_option maxRecDepth 100000 in
theorem spec_Root.calls (a0_0 : Int) (a0_1 : Int) (a1 : Int) (r : Int) (w : World) (h : spec_Root.f a0_0 a0_1 a1 = some r) :
    Calls Try.prog 15 #[.agg #[.int .i64 a0_0, .int .i64 a0_1], .int .i64 a1] w fun e w' => e = .returned (.int .i64 r) ∧ Below w.heap.size w w' := by
  have hu25 := Try.underlying25
  have HB := Aside0.mk (Below.refl w.heap.size w)
  have H : ((spec_ConfOk.f a0_0 a0_1).bind fun t105 => (if t105 = true then (if a1 < 0 then (some (-1)) else (if a0_0 = 0 then (none) else (some (Int.tmod a1 a0_0)))) else (some (-1)))) = some r := h
  clear h
  replace H := Option.bind_eq_some_iff.mp H
  obtain ⟨t105, A30, H⟩ := H
  replace H : (if t105 = true then (if a1 < 0 then (some (-1)) else (if a0_0 = 0 then (none) else (some (Int.tmod a1 a0_0)))) else (some (-1))) = some r := H
  have A3 := Aside0.mk A30
  clear A30
  by_cases c4 : t105 = true
  · subst c4
    have H1 : (if a1 < 0 then (some (-1)) else (if a0_0 = 0 then (none) else (some (Int.tmod a1 a0_0)))) = some r := by rw [if_pos rfl] at H; exact H
    clear H
    have H := H1
    clear H1
    by_cases c5 : a1 < 0
    · rw [if_pos c5] at H
      have c5b0 : decide (a1 < 0) = true := decide_eq_true c5
      clear c5
      obtain rfl := Option.some.inj H
      go_enter Try.func15, Try.ntmps15
      go_wp2_with (first | ((with_reducible refine gate_dst (N := 2) rfl ?_); refine box_event ?hg (N := 2) ?hd (cs := #[.int .i64 a0_0, .int .i64 a0_1]) (t := 25) ?hr ?_; (case hd => rfl); (case hg => rfl); (case hr => first | (go_simp; done) | (go_simp; rfl)); intro gb104 hg w6 hbox hb; have BK104 := Aside0.mk (hbox); have GW104 := Aside0.mk ((by rw [hg]; exact (below_size (bI HB.out)) : w.heap.size ≤ gb104)); have GE104 := Aside0.mk ((by rw [hg]; exact (below_size (bI HB.out)) : w.heap.size ≤ gb104)); have GI104 := GeI.mk GE104.out; replace HB := Aside0.mk (below_step (bI HB.out) hb); clear hb hbox hg; have hcz7_0 : w6.cell? ⟨gb104, 0, none⟩ = some (.int .i64 a0_0) := (blk_cell BK104.out 0).trans rfl; have hcz7_1 : w6.cell? ⟨gb104, 1, none⟩ = some (.int .i64 a0_1) := (blk_cell BK104.out 1).trans rfl; have hfz7_0 := blk_frozen BK104.out 0; have hfz7_1 := blk_frozen BK104.out 1) | ((with_reducible refine gate_callee (f := 59) rfl ?_); refine goesL_ (some 6) rfl rfl Try.func59 (by kernel_rfl) rfl #[.agg #[.int .i64 a0_0, .int .i64 a0_1]] rfl (by (try simp only [List.map_toArray, List.map_cons, List.map_nil]); first | done | rfl | (simp only [List.length_drop, List.length_take]; rfl)) ?_; (with_reducible refine (spec_ConfOk.calls a0_0 a0_1 true _ A3.out).mono ?_); rintro e w8 ⟨rfl, hb⟩; refine ⟨_, rfl, ?_⟩; replace BK104 := Aside0.mk (blk_below (g := gb104) (o := .cells #[.int .i64 a0_0, .int .i64 a0_1] 25 (0, 0)) (kI BK104.out) hb); replace HB := Aside0.mk (below_step (bI HB.out) hb); (try clear hb); (try clear hb2); (try clear hk); (try clear hi)))
      go_ret
      exact ⟨by first | rfl | (simp [errW_none, errW_some] <;> rfl) | (simp [*, errW_none, errW_some] <;> rfl), bI HB.out⟩
    · rw [if_neg c5] at H
      have c5b0 : decide (a1 < 0) = false := decide_eq_false c5
      clear c5
      by_cases c9 : a0_0 = 0
      · rw [if_pos c9] at H
        exact absurd H (by simp)
      rw [if_neg c9] at H
      have c9b0 : (a0_0 == 0) = false := beq_eq_false_iff_ne.mpr c9
      have c9b1 : (a0_0 != 0) = true := bne_iff_ne.mpr c9
      obtain rfl := Option.some.inj H
      go_enter Try.func15, Try.ntmps15
      go_wp2_with (first | ((with_reducible refine gate_dst (N := 2) rfl ?_); refine box_event ?hg (N := 2) ?hd (cs := #[.int .i64 a0_0, .int .i64 a0_1]) (t := 25) ?hr ?_; (case hd => rfl); (case hg => rfl); (case hr => first | (go_simp; done) | (go_simp; rfl)); intro gb104 hg w10 hbox hb; have BK104 := Aside0.mk (hbox); have GW104 := Aside0.mk ((by rw [hg]; exact (below_size (bI HB.out)) : w.heap.size ≤ gb104)); have GE104 := Aside0.mk ((by rw [hg]; exact (below_size (bI HB.out)) : w.heap.size ≤ gb104)); have GI104 := GeI.mk GE104.out; replace HB := Aside0.mk (below_step (bI HB.out) hb); clear hb hbox hg; have hcz11_0 : w10.cell? ⟨gb104, 0, none⟩ = some (.int .i64 a0_0) := (blk_cell BK104.out 0).trans rfl; have hcz11_1 : w10.cell? ⟨gb104, 1, none⟩ = some (.int .i64 a0_1) := (blk_cell BK104.out 1).trans rfl; have hfz11_0 := blk_frozen BK104.out 0; have hfz11_1 := blk_frozen BK104.out 1) | ((with_reducible refine gate_callee (f := 59) rfl ?_); refine goesL_ (some 6) rfl rfl Try.func59 (by kernel_rfl) rfl #[.agg #[.int .i64 a0_0, .int .i64 a0_1]] rfl (by (try simp only [List.map_toArray, List.map_cons, List.map_nil]); first | done | rfl | (simp only [List.length_drop, List.length_take]; rfl)) ?_; (with_reducible refine (spec_ConfOk.calls a0_0 a0_1 true _ A3.out).mono ?_); rintro e w12 ⟨rfl, hb⟩; refine ⟨_, rfl, ?_⟩; replace BK104 := Aside0.mk (blk_below (g := gb104) (o := .cells #[.int .i64 a0_0, .int .i64 a0_1] 25 (0, 0)) (kI BK104.out) hb); replace HB := Aside0.mk (below_step (bI HB.out) hb); (try clear hb); (try clear hb2); (try clear hk); (try clear hi); have hcz13_0 : w12.cell? ⟨gb104, 0, none⟩ = some (.int .i64 a0_0) := (blk_cell BK104.out 0).trans rfl; have hcz13_1 : w12.cell? ⟨gb104, 1, none⟩ = some (.int .i64 a0_1) := (blk_cell BK104.out 1).trans rfl; have hfz13_0 := blk_frozen BK104.out 0; have hfz13_1 := blk_frozen BK104.out 1))
      go_ret
      exact ⟨by first | rfl | (simp [errW_none, errW_some] <;> rfl) | (simp [*, errW_none, errW_some] <;> rfl), bI HB.out⟩
  · replace c4 := Bool.eq_false_iff.mpr c4
    subst c4
    have H1 : (some (-1)) = some r := by rw [if_neg (show ¬ (false = true) by decide)] at H; exact H
    clear H
    have H := H1
    clear H1
    obtain rfl := Option.some.inj H
    go_enter Try.func15, Try.ntmps15
    go_wp2_with (first | ((with_reducible refine gate_dst (N := 2) rfl ?_); refine box_event ?hg (N := 2) ?hd (cs := #[.int .i64 a0_0, .int .i64 a0_1]) (t := 25) ?hr ?_; (case hd => rfl); (case hg => rfl); (case hr => first | (go_simp; done) | (go_simp; rfl)); intro gb104 hg w14 hbox hb; have BK104 := Aside0.mk (hbox); have GW104 := Aside0.mk ((by rw [hg]; exact (below_size (bI HB.out)) : w.heap.size ≤ gb104)); have GE104 := Aside0.mk ((by rw [hg]; exact (below_size (bI HB.out)) : w.heap.size ≤ gb104)); have GI104 := GeI.mk GE104.out; replace HB := Aside0.mk (below_step (bI HB.out) hb); clear hb hbox hg; have hcz15_0 : w14.cell? ⟨gb104, 0, none⟩ = some (.int .i64 a0_0) := (blk_cell BK104.out 0).trans rfl; have hcz15_1 : w14.cell? ⟨gb104, 1, none⟩ = some (.int .i64 a0_1) := (blk_cell BK104.out 1).trans rfl; have hfz15_0 := blk_frozen BK104.out 0; have hfz15_1 := blk_frozen BK104.out 1) | ((with_reducible refine gate_callee (f := 59) rfl ?_); refine goesL_ (some 6) rfl rfl Try.func59 (by kernel_rfl) rfl #[.agg #[.int .i64 a0_0, .int .i64 a0_1]] rfl (by (try simp only [List.map_toArray, List.map_cons, List.map_nil]); first | done | rfl | (simp only [List.length_drop, List.length_take]; rfl)) ?_; (with_reducible refine (spec_ConfOk.calls a0_0 a0_1 false _ A3.out).mono ?_); rintro e w16 ⟨rfl, hb⟩; refine ⟨_, rfl, ?_⟩; replace BK104 := Aside0.mk (blk_below (g := gb104) (o := .cells #[.int .i64 a0_0, .int .i64 a0_1] 25 (0, 0)) (kI BK104.out) hb); replace HB := Aside0.mk (below_step (bI HB.out) hb); (try clear hb); (try clear hb2); (try clear hk); (try clear hi)))
    go_ret
    exact ⟨by first | rfl | (simp [errW_none, errW_some] <;> rfl) | (simp [*, errW_none, errW_some] <;> rfl), bI HB.out⟩

/-! ### laws_toConf: function 16 -/
def laws_toConf.f (a0_0 : Int) (a0_1 : Int) : Option (Int × Int) := some (a0_0, a0_1)
set_option maxHeartbeats 8000000 in
set_option maxRecDepth 100000 in
theorem laws_toConf.calls (a0_0 : Int) (a0_1 : Int) (r1 : Int) (r2 : Int) (w : World) (h : laws_toConf.f a0_0 a0_1 = some (r1, r2)) :
    Calls Try.prog 16 #[.agg #[.int .i64 a0_0, .int .i64 a0_1]] w fun e w' => e = .returned (.agg #[.int .i64 r1, .int .i64 r2]) ∧ Below w.heap.size w w' := by
  have hu23 := Try.underlying23
  have hu25 := Try.underlying25
  have HB := Aside0.mk (Below.refl w.heap.size w)
  have H : (some (a0_0, a0_1)) = some (r1, r2) := h
  clear h
  simp only [Option.some.injEq, Prod.mk.injEq] at H
  obtain ⟨rfl, rfl⟩ := H
  go_enter Try.func16, Try.ntmps16
  go_wp2_with (first | ((with_reducible refine gate_dst (N := 1) rfl ?_); refine box_event ?hg (N := 1) ?hd (cs := #[.int .i64 a0_0, .int .i64 a0_1]) (t := 23) ?hr ?_; (case hd => rfl); (case hg => rfl); (case hr => first | (go_simp; done) | (go_simp; rfl)); intro gb106 hg w2 hbox hb; have BK106 := Aside0.mk (hbox); have GW106 := Aside0.mk ((by rw [hg]; exact (below_size (bI HB.out)) : w.heap.size ≤ gb106)); have GE106 := Aside0.mk ((by rw [hg]; exact (below_size (bI HB.out)) : w.heap.size ≤ gb106)); have GI106 := GeI.mk GE106.out; replace HB := Aside0.mk (below_step (bI HB.out) hb); clear hb hbox hg) | ((with_reducible refine gate_dst (N := 2) rfl ?_); refine box_event ?hg (N := 2) ?hd (cs := #[.int .i64 0, .int .i64 0]) (t := 25) ?hr ?_; (case hd => rfl); (case hg => rfl); (case hr => first | (go_simp; done) | (go_simp; rfl)); intro gb107 hg w3 hbox hb; have BK107 := Aside0.mk (hbox); have GW107 := Aside0.mk ((by rw [hg]; exact (below_size (bI HB.out)) : w.heap.size ≤ gb107)); have GE107 := Aside0.mk ((by rw [hg]; exact (below_size (bI HB.out)) : w.heap.size ≤ gb107)); have GI107 := GeI.mk GE107.out; replace HB := Aside0.mk (below_step (bI HB.out) hb); have NB106_107 := Aside0.mk ((by rw [hg]; exact Nat.ne_of_lt (blk_lt (g := gb106) (o := .cells #[.int .i64 a0_0, .int .i64 a0_1] 23 (0, 0)) (kI BK106.out)) : gb106 ≠ gb107)); have NB107_106 := Aside0.mk ((by rw [hg]; exact Nat.ne_of_gt (blk_lt (g := gb106) (o := .cells #[.int .i64 a0_0, .int .i64 a0_1] 23 (0, 0)) (kI BK106.out)) : gb107 ≠ gb106)); replace BK106 := Aside0.mk (blk_below (g := gb106) (o := .cells #[.int .i64 a0_0, .int .i64 a0_1] 23 (0, 0)) (kI BK106.out) hb); clear hb hbox hg) | ((with_reducible refine gate_dst (N := 3) rfl ?_); refine box_event ?hg (N := 3) ?hd (cs := #[.int .i64 0, .int .i64 0]) (t := 25) ?hr ?_; (case hd => rfl); (case hg => rfl); (case hr => first | (go_simp; done) | (go_simp; rfl)); intro gb108 hg w4 hbox hb; have BK108 := Aside0.mk (hbox); have GW108 := Aside0.mk ((by rw [hg]; exact (below_size (bI HB.out)) : w.heap.size ≤ gb108)); have GE108 := Aside0.mk ((by rw [hg]; exact (below_size (bI HB.out)) : w.heap.size ≤ gb108)); have GI108 := GeI.mk GE108.out; replace HB := Aside0.mk (below_step (bI HB.out) hb); have NB106_108 := Aside0.mk ((by rw [hg]; exact Nat.ne_of_lt (blk_lt (g := gb106) (o := .cells #[.int .i64 a0_0, .int .i64 a0_1] 23 (0, 0)) (kI BK106.out)) : gb106 ≠ gb108)); have NB108_106 := Aside0.mk ((by rw [hg]; exact Nat.ne_of_gt (blk_lt (g := gb106) (o := .cells #[.int .i64 a0_0, .int .i64 a0_1] 23 (0, 0)) (kI BK106.out)) : gb108 ≠ gb106)); replace BK106 := Aside0.mk (blk_below (g := gb106) (o := .cells #[.int .i64 a0_0, .int .i64 a0_1] 23 (0, 0)) (kI BK106.out) hb); have NB107_108 := Aside0.mk ((by rw [hg]; exact Nat.ne_of_lt (blk_lt (g := gb107) (o := .cells #[.int .i64 0, .int .i64 0] 25 (0, 0)) (kI BK107.out)) : gb107 ≠ gb108)); have NB108_107 := Aside0.mk ((by rw [hg]; exact Nat.ne_of_gt (blk_lt (g := gb107) (o := .cells #[.int .i64 0, .int .i64 0] 25 (0, 0)) (kI BK107.out)) : gb108 ≠ gb107)); replace BK107 := Aside0.mk (blk_below (g := gb107) (o := .cells #[.int .i64 0, .int .i64 0] 25 (0, 0)) (kI BK107.out) hb); clear hb hbox hg; have hnb5 := NB106_107.out; have hnc5 := NB107_106.out; have hnb6 := NB106_108.out; have hnc6 := NB108_106.out; have hcz7_0 : w4.cell? ⟨gb106, 0, none⟩ = some (.int .i64 a0_0) := (blk_cell BK106.out 0).trans rfl; have hcz7_1 : w4.cell? ⟨gb106, 1, none⟩ = some (.int .i64 a0_1) := (blk_cell BK106.out 1).trans rfl; have hfz7_0 := blk_frozen BK106.out 0; have hfz7_1 := blk_frozen BK106.out 1; have hnb8 := NB108_107.out; have hnc8 := NB107_108.out; have hcz9_0 : w4.cell? ⟨gb108, 0, none⟩ = some (.int .i64 0) := (blk_cell BK108.out 0).trans rfl; have hcz9_1 : w4.cell? ⟨gb108, 1, none⟩ = some (.int .i64 0) := (blk_cell BK108.out 1).trans rfl; have hfz9_0 := blk_frozen BK108.out 0; have hfz9_1 := blk_frozen BK108.out 1; have hcz10_0 : w4.cell? ⟨gb107, 0, none⟩ = some (.int .i64 0) := (blk_cell BK107.out 0).trans rfl; have hcz10_1 : w4.cell? ⟨gb107, 1, none⟩ = some (.int .i64 0) := (blk_cell BK107.out 1).trans rfl; have hfz10_0 := blk_frozen BK107.out 0; have hfz10_1 := blk_frozen BK107.out 1))
  refine bodyPost_ret (results_cell_row rfl _ _ gb107 25 #[.int .i64 a0_0, .int .i64 a0_1] (0, 0) _ rfl (by (with_reducible repeat (first | refine blk_drewN ?_ _ | refine blk_drew ?_ | refine blk_alloc ?_ _)); refine blk_put (cs := #[.int .i64 a0_0, .int .i64 0]) ?_ 1 _ rfl; (with_reducible repeat (first | refine blk_drewN ?_ _ | refine blk_drew ?_ | refine blk_alloc ?_ _)); refine blk_put (cs := #[.int .i64 0, .int .i64 0]) ?_ 0 _ rfl; (with_reducible repeat (first | refine blk_drewN ?_ _ | refine blk_drew ?_ | refine blk_alloc ?_ _)); refine blk_far ?_ NB107_108.out _; (with_reducible repeat (first | refine blk_drewN ?_ _ | refine blk_drew ?_ | refine blk_alloc ?_ _)); refine blk_far ?_ NB107_108.out _; (with_reducible repeat (first | refine blk_drewN ?_ _ | refine blk_drew ?_ | refine blk_alloc ?_ _)); exact BK107.out) Try.underlying25 rfl (by kernel_rfl)) rfl ?_
  exact ⟨by first | rfl | (simp [errW_none, errW_some] <;> rfl) | (simp [*, errW_none, errW_some] <;> rfl), bI HB.out⟩

/-! ### impl_within: function 62 -/
def impl_within.f (a0 : Int) (a1 : Int) (a2 : Int) : Option (Bool) := if a0 ≥ a1 then (some (decide (a0 ≤ a2))) else (some false)
set_option maxHeartbeats 8000000 in
set_option maxRecDepth 100000 in
theorem impl_within.calls (a0 : Int) (a1 : Int) (a2 : Int) (r : Bool) (w : World) (h : impl_within.f a0 a1 a2 = some r) :
    Calls Try.prog 62 #[.int .i64 a0, .int .i64 a1, .int .i64 a2] w fun e w' => e = .returned (.bool r) ∧ Drawn0 w w' := by
  have H : (if a0 ≥ a1 then (some (decide (a0 ≤ a2))) else (some false)) = some r := h
  clear h
  by_cases c4 : a0 ≥ a1
  · rw [if_pos c4] at H
    have c4b0 : decide (a1 ≤ a0) = true := decide_eq_true c4
    clear c4
    obtain rfl := Option.some.inj H
    go_enter Try.func62, Try.ntmps62
    go_wp2
    go_ret
    exact ⟨by first | rfl | (simp; done) | (simp [*]; done), by repeat (first | exact Drawn0.refl _ | apply Drawn0.step)⟩
  · rw [if_neg c4] at H
    have c4b0 : decide (a1 ≤ a0) = false := decide_eq_false c4
    clear c4
    obtain rfl := Option.some.inj H
    go_enter Try.func62, Try.ntmps62
    go_wp2
    go_ret
    exact ⟨by first | rfl | (simp; done) | (simp [*]; done), by repeat (first | exact Drawn0.refl _ | apply Drawn0.step)⟩

/-! ### impl_ConfOk: function 60 -/
def impl_ConfOk.f (a0_0 : Int) (a0_1 : Int) : Option (Bool) := (impl_within.f a0_0 4 7).bind fun t110 => (if t110 = true then ((impl_within.f a0_1 1 6).bind fun t111 => (some t111)) else (some false))
set_option maxHeartbeats 8000000 in
set_option maxRecDepth 100000 in
theorem impl_ConfOk.calls (a0_0 : Int) (a0_1 : Int) (r : Bool) (w : World) (h : impl_ConfOk.f a0_0 a0_1 = some r) :
    Calls Try.prog 60 #[.agg #[.int .i64 a0_0, .int .i64 a0_1]] w fun e w' => e = .returned (.bool r) ∧ Below w.heap.size w w' := by
  have hu25 := Try.underlying25
  have HB := Aside0.mk (Below.refl w.heap.size w)
  have H : ((impl_within.f a0_0 4 7).bind fun t110 => (if t110 = true then ((impl_within.f a0_1 1 6).bind fun t111 => (some t111)) else (some false))) = some r := h
  clear h
  replace H := Option.bind_eq_some_iff.mp H
  obtain ⟨t110, A20, H⟩ := H
  replace H : (if t110 = true then ((impl_within.f a0_1 1 6).bind fun t111 => (some t111)) else (some false)) = some r := H
  have A2 := Aside0.mk A20
  clear A20
  by_cases c3 : t110 = true
  · subst c3
    have H1 : ((impl_within.f a0_1 1 6).bind fun t111 => (some t111)) = some r := by rw [if_pos rfl] at H; exact H
    clear H
    have H := H1
    clear H1
    replace H := Option.bind_eq_some_iff.mp H
    obtain ⟨t111, A40, H⟩ := H
    replace H : (some t111) = some r := H
    have A4 := Aside0.mk A40
    clear A40
    obtain rfl := Option.some.inj H
    go_enter Try.func60, Try.ntmps60
    go_wp2_with (first | ((with_reducible refine gate_dst (N := 1) rfl ?_); refine box_event ?hg (N := 1) ?hd (cs := #[.int .i64 a0_0, .int .i64 a0_1]) (t := 25) ?hr ?_; (case hd => rfl); (case hg => rfl); (case hr => first | (go_simp; done) | (go_simp; rfl)); intro gb109 hg w5 hbox hb; have BK109 := Aside0.mk (hbox); have GW109 := Aside0.mk ((by rw [hg]; exact (below_size (bI HB.out)) : w.heap.size ≤ gb109)); have GE109 := Aside0.mk ((by rw [hg]; exact (below_size (bI HB.out)) : w.heap.size ≤ gb109)); have GI109 := GeI.mk GE109.out; replace HB := Aside0.mk (below_step (bI HB.out) hb); clear hb hbox hg; have hcz6_0 : w5.cell? ⟨gb109, 0, none⟩ = some (.int .i64 a0_0) := (blk_cell BK109.out 0).trans rfl; have hcz6_1 : w5.cell? ⟨gb109, 1, none⟩ = some (.int .i64 a0_1) := (blk_cell BK109.out 1).trans rfl; have hfz6_0 := blk_frozen BK109.out 0; have hfz6_1 := blk_frozen BK109.out 1) | ((with_reducible refine gate_callee (f := 62) rfl ?_); refine goesL_ (some 5) rfl rfl Try.func62 (by kernel_rfl) rfl #[.int .i64 a0_0, .int .i64 4, .int .i64 7] rfl (by (try simp only [List.map_toArray, List.map_cons, List.map_nil]); first | done | rfl | (simp only [List.length_drop, List.length_take]; rfl)) ?_; (with_reducible refine (impl_within.calls a0_0 4 7 true _ A2.out).mono ?_); rintro e w' ⟨rfl, ⟨nd, rfl⟩⟩; refine ⟨_, rfl, ?_⟩) | (go_at_call 62; (with_reducible refine (impl_within.calls a0_1 1 6 t111 _ A4.out).mono ?_); rintro e w' ⟨rfl, ⟨nd, rfl⟩⟩))
    go_ret
    exact ⟨by first | rfl | (simp [errW_none, errW_some] <;> rfl) | (simp [*, errW_none, errW_some] <;> rfl), bI HB.out⟩
  · replace c3 := Bool.eq_false_iff.mpr c3
    subst c3
    have H1 : (some false) = some r := by rw [if_neg (show ¬ (false = true) by decide)] at H; exact H
    clear H
    have H := H1
    clear H1
    obtain rfl := Option.some.inj H
    go_enter Try.func60, Try.ntmps60
    go_wp2_with (first | ((with_reducible refine gate_dst (N := 1) rfl ?_); refine box_event ?hg (N := 1) ?hd (cs := #[.int .i64 a0_0, .int .i64 a0_1]) (t := 25) ?hr ?_; (case hd => rfl); (case hg => rfl); (case hr => first | (go_simp; done) | (go_simp; rfl)); intro gb109 hg w7 hbox hb; have BK109 := Aside0.mk (hbox); have GW109 := Aside0.mk ((by rw [hg]; exact (below_size (bI HB.out)) : w.heap.size ≤ gb109)); have GE109 := Aside0.mk ((by rw [hg]; exact (below_size (bI HB.out)) : w.heap.size ≤ gb109)); have GI109 := GeI.mk GE109.out; replace HB := Aside0.mk (below_step (bI HB.out) hb); clear hb hbox hg; have hcz8_0 : w7.cell? ⟨gb109, 0, none⟩ = some (.int .i64 a0_0) := (blk_cell BK109.out 0).trans rfl; have hcz8_1 : w7.cell? ⟨gb109, 1, none⟩ = some (.int .i64 a0_1) := (blk_cell BK109.out 1).trans rfl; have hfz8_0 := blk_frozen BK109.out 0; have hfz8_1 := blk_frozen BK109.out 1) | ((with_reducible refine gate_callee (f := 62) rfl ?_); refine goesL_ (some 5) rfl rfl Try.func62 (by kernel_rfl) rfl #[.int .i64 a0_0, .int .i64 4, .int .i64 7] rfl (by (try simp only [List.map_toArray, List.map_cons, List.map_nil]); first | done | rfl | (simp only [List.length_drop, List.length_take]; rfl)) ?_; (with_reducible refine (impl_within.calls a0_0 4 7 false _ A2.out).mono ?_); rintro e w' ⟨rfl, ⟨nd, rfl⟩⟩; refine ⟨_, rfl, ?_⟩))
    go_ret
    exact ⟨by first | rfl | (simp [errW_none, errW_some] <;> rfl) | (simp [*, errW_none, errW_some] <;> rfl), bI HB.out⟩

/-! ### impl_Root: function 17 -/
def impl_Root.f (a0_0 : Int) (a0_1 : Int) (a1 : Int) : Option (Int) := (impl_ConfOk.f a0_0 a0_1).bind fun t113 => (if t113 = true then (if a1 < 0 then (some (-1)) else (if a0_0 = 0 then (none) else (some (Int.tmod a1 a0_0)))) else (some (-1)))
set_option maxHeartbeats 8000000 in
set_option maxRecDepth 100000 in
theorem impl_Root.calls (a0_0 : Int) (a0_1 : Int) (a1 : Int) (r : Int) (w : World) (h : impl_Root.f a0_0 a0_1 a1 = some r) :
    Calls Try.prog 17 #[.agg #[.int .i64 a0_0, .int .i64 a0_1], .int .i64 a1] w fun e w' => e = .returned (.int .i64 r) ∧ Below w.heap.size w w' := by
  have hu25 := Try.underlying25
  have HB := Aside0.mk (Below.refl w.heap.size w)
  have H : ((impl_ConfOk.f a0_0 a0_1).bind fun t113 => (if t113 = true then (if a1 < 0 then (some (-1)) else (if a0_0 = 0 then (none) else (some (Int.tmod a1 a0_0)))) else (some (-1)))) = some r := h
  clear h
  replace H := Option.bind_eq_some_iff.mp H
  obtain ⟨t113, A30, H⟩ := H
  replace H : (if t113 = true then (if a1 < 0 then (some (-1)) else (if a0_0 = 0 then (none) else (some (Int.tmod a1 a0_0)))) else (some (-1))) = some r := H
  have A3 := Aside0.mk A30
  clear A30
  by_cases c4 : t113 = true
  · subst c4
    have H1 : (if a1 < 0 then (some (-1)) else (if a0_0 = 0 then (none) else (some (Int.tmod a1 a0_0)))) = some r := by rw [if_pos rfl] at H; exact H
    clear H
    have H := H1
    clear H1
    by_cases c5 : a1 < 0
    · rw [if_pos c5] at H
      have c5b0 : decide (a1 < 0) = true := decide_eq_true c5
      clear c5
      obtain rfl := Option.some.inj H
      go_enter Try.func17, Try.ntmps17
      go_wp2_with (first | ((with_reducible refine gate_dst (N := 2) rfl ?_); refine box_event ?hg (N := 2) ?hd (cs := #[.int .i64 a0_0, .int .i64 a0_1]) (t := 25) ?hr ?_; (case hd => rfl); (case hg => rfl); (case hr => first | (go_simp; done) | (go_simp; rfl)); intro gb112 hg w6 hbox hb; have BK112 := Aside0.mk (hbox); have GW112 := Aside0.mk ((by rw [hg]; exact (below_size (bI HB.out)) : w.heap.size ≤ gb112)); have GE112 := Aside0.mk ((by rw [hg]; exact (below_size (bI HB.out)) : w.heap.size ≤ gb112)); have GI112 := GeI.mk GE112.out; replace HB := Aside0.mk (below_step (bI HB.out) hb); clear hb hbox hg; have hcz7_0 : w6.cell? ⟨gb112, 0, none⟩ = some (.int .i64 a0_0) := (blk_cell BK112.out 0).trans rfl; have hcz7_1 : w6.cell? ⟨gb112, 1, none⟩ = some (.int .i64 a0_1) := (blk_cell BK112.out 1).trans rfl; have hfz7_0 := blk_frozen BK112.out 0; have hfz7_1 := blk_frozen BK112.out 1) | ((with_reducible refine gate_callee (f := 60) rfl ?_); refine goesL_ (some 6) rfl rfl Try.func60 (by kernel_rfl) rfl #[.agg #[.int .i64 a0_0, .int .i64 a0_1]] rfl (by (try simp only [List.map_toArray, List.map_cons, List.map_nil]); first | done | rfl | (simp only [List.length_drop, List.length_take]; rfl)) ?_; (with_reducible refine (impl_ConfOk.calls a0_0 a0_1 true _ A3.out).mono ?_); rintro e w8 ⟨rfl, hb⟩; refine ⟨_, rfl, ?_⟩; replace BK112 := Aside0.mk (blk_below (g := gb112) (o := .cells #[.int .i64 a0_0, .int .i64 a0_1] 25 (0, 0)) (kI BK112.out) hb); replace HB := Aside0.mk (below_step (bI HB.out) hb); (try clear hb); (try clear hb2); (try clear hk); (try clear hi)))
      go_ret
      exact ⟨by first | rfl | (simp [errW_none, errW_some] <;> rfl) | (simp [*, errW_none, errW_some] <;> rfl), bI HB.out⟩
    · rw [if_neg c5] at H
      have c5b0 : decide (a1 < 0) = false := decide_eq_false c5
      clear c5
      by_cases c9 : a0_0 = 0
      · rw [if_pos c9] at H
        exact absurd H (by simp)
      rw [if_neg c9] at H
      have c9b0 : (a0_0 == 0) = false := beq_eq_false_iff_ne.mpr c9
      have c9b1 : (a0_0 != 0) = true := bne_iff_ne.mpr c9
      obtain rfl := Option.some.inj H
      go_enter Try.func17, Try.ntmps17
      go_wp2_with (first | ((with_reducible refine gate_dst (N := 2) rfl ?_); refine box_event ?hg (N := 2) ?hd (cs := #[.int .i64 a0_0, .int .i64 a0_1]) (t := 25) ?hr ?_; (case hd => rfl); (case hg => rfl); (case hr => first | (go_simp; done) | (go_simp; rfl)); intro gb112 hg w10 hbox hb; have BK112 := Aside0.mk (hbox); have GW112 := Aside0.mk ((by rw [hg]; exact (below_size (bI HB.out)) : w.heap.size ≤ gb112)); have GE112 := Aside0.mk ((by rw [hg]; exact (below_size (bI HB.out)) : w.heap.size ≤ gb112)); have GI112 := GeI.mk GE112.out; replace HB := Aside0.mk (below_step (bI HB.out) hb); clear hb hbox hg; have hcz11_0 : w10.cell? ⟨gb112, 0, none⟩ = some (.int .i64 a0_0) := (blk_cell BK112.out 0).trans rfl; have hcz11_1 : w10.cell? ⟨gb112, 1, none⟩ = some (.int .i64 a0_1) := (blk_cell BK112.out 1).trans rfl; have hfz11_0 := blk_frozen BK112.out 0; have hfz11_1 := blk_frozen BK112.out 1) | ((with_reducible refine gate_callee (f := 60) rfl ?_); refine goesL_ (some 6) rfl rfl Try.func60 (by kernel_rfl) rfl #[.agg #[.int .i64 a0_0, .int .i64 a0_1]] rfl (by (try simp only [List.map_toArray, List.map_cons, List.map_nil]); first | done | rfl | (simp only [List.length_drop, List.length_take]; rfl)) ?_; (with_reducible refine (impl_ConfOk.calls a0_0 a0_1 true _ A3.out).mono ?_); rintro e w12 ⟨rfl, hb⟩; refine ⟨_, rfl, ?_⟩; replace BK112 := Aside0.mk (blk_below (g := gb112) (o := .cells #[.int .i64 a0_0, .int .i64 a0_1] 25 (0, 0)) (kI BK112.out) hb); replace HB := Aside0.mk (below_step (bI HB.out) hb); (try clear hb); (try clear hb2); (try clear hk); (try clear hi); have hcz13_0 : w12.cell? ⟨gb112, 0, none⟩ = some (.int .i64 a0_0) := (blk_cell BK112.out 0).trans rfl; have hcz13_1 : w12.cell? ⟨gb112, 1, none⟩ = some (.int .i64 a0_1) := (blk_cell BK112.out 1).trans rfl; have hfz13_0 := blk_frozen BK112.out 0; have hfz13_1 := blk_frozen BK112.out 1))
      go_ret
      exact ⟨by first | rfl | (simp [errW_none, errW_some] <;> rfl) | (simp [*, errW_none, errW_some] <;> rfl), bI HB.out⟩
  · replace c4 := Bool.eq_false_iff.mpr c4
    subst c4
    have H1 : (some (-1)) = some r := by rw [if_neg (show ¬ (false = true) by decide)] at H; exact H
    clear H
    have H := H1
    clear H1
    obtain rfl := Option.some.inj H
    go_enter Try.func17, Try.ntmps17
    go_wp2_with (first | ((with_reducible refine gate_dst (N := 2) rfl ?_); refine box_event ?hg (N := 2) ?hd (cs := #[.int .i64 a0_0, .int .i64 a0_1]) (t := 25) ?hr ?_; (case hd => rfl); (case hg => rfl); (case hr => first | (go_simp; done) | (go_simp; rfl)); intro gb112 hg w14 hbox hb; have BK112 := Aside0.mk (hbox); have GW112 := Aside0.mk ((by rw [hg]; exact (below_size (bI HB.out)) : w.heap.size ≤ gb112)); have GE112 := Aside0.mk ((by rw [hg]; exact (below_size (bI HB.out)) : w.heap.size ≤ gb112)); have GI112 := GeI.mk GE112.out; replace HB := Aside0.mk (below_step (bI HB.out) hb); clear hb hbox hg; have hcz15_0 : w14.cell? ⟨gb112, 0, none⟩ = some (.int .i64 a0_0) := (blk_cell BK112.out 0).trans rfl; have hcz15_1 : w14.cell? ⟨gb112, 1, none⟩ = some (.int .i64 a0_1) := (blk_cell BK112.out 1).trans rfl; have hfz15_0 := blk_frozen BK112.out 0; have hfz15_1 := blk_frozen BK112.out 1) | ((with_reducible refine gate_callee (f := 60) rfl ?_); refine goesL_ (some 6) rfl rfl Try.func60 (by kernel_rfl) rfl #[.agg #[.int .i64 a0_0, .int .i64 a0_1]] rfl (by (try simp only [List.map_toArray, List.map_cons, List.map_nil]); first | done | rfl | (simp only [List.length_drop, List.length_take]; rfl)) ?_; (with_reducible refine (impl_ConfOk.calls a0_0 a0_1 false _ A3.out).mono ?_); rintro e w16 ⟨rfl, hb⟩; refine ⟨_, rfl, ?_⟩; replace BK112 := Aside0.mk (blk_below (g := gb112) (o := .cells #[.int .i64 a0_0, .int .i64 a0_1] 25 (0, 0)) (kI BK112.out) hb); replace HB := Aside0.mk (below_step (bI HB.out) hb); (try clear hb); (try clear hb2); (try clear hk); (try clear hi)))
    go_ret
    exact ⟨by first | rfl | (simp [errW_none, errW_some] <;> rfl) | (simp [*, errW_none, errW_some] <;> rfl), bI HB.out⟩

/-! ### laws_FnExactRoot: function 3 -/
def laws_FnExactRoot.f (a0_0 : Int) (a0_1 : Int) (a1 : Int) : Option (Bool) := (laws_toConf.f a0_0 a0_1).bind fun bt115 => ((spec_Root.f bt115.1 bt115.2 a1).bind fun t117 => ((laws_toConf.f a0_0 a0_1).bind fun bt118 => ((impl_Root.f bt118.1 bt118.2 a1).bind fun t120 => (if t120 = t117 then (some true) else (some false)))))
set_option maxHeartbeats 8000000 in
set_option maxRecDepth 100000 in
theorem laws_FnExactRoot.calls (a0_0 : Int) (a0_1 : Int) (a1 : Int) (r : Bool) (hrt : Aside0 (r = true)) (w : World) (h : laws_FnExactRoot.f a0_0 a0_1 a1 = some r) :
    Calls Try.prog 3 #[.agg #[.int .i64 a0_0, .int .i64 a0_1], .int .i64 a1] w fun e w' => e = .returned (.bool r) ∧ Below w.heap.size w w' := by
  have hu23 := Try.underlying23
  have HB := Aside0.mk (Below.refl w.heap.size w)
  have H : ((laws_toConf.f a0_0 a0_1).bind fun bt115 => ((spec_Root.f bt115.1 bt115.2 a1).bind fun t117 => ((laws_toConf.f a0_0 a0_1).bind fun bt118 => ((impl_Root.f bt118.1 bt118.2 a1).bind fun t120 => (if t120 = t117 then (some true) else (some false)))))) = some r := h
  clear h
  replace H := Option.bind_eq_some_iff.mp H
  obtain ⟨⟨t115, t116⟩, A30, H⟩ := H
  replace H : ((spec_Root.f t115 t116 a1).bind fun t117 => ((laws_toConf.f a0_0 a0_1).bind fun bt118 => ((impl_Root.f bt118.1 bt118.2 a1).bind fun t120 => (if t120 = t117 then (some true) else (some false))))) = some r := H
  have A3 := Aside0.mk A30
  clear A30
  replace H := Option.bind_eq_some_iff.mp H
  obtain ⟨t117, A40, H⟩ := H
  replace H : ((laws_toConf.f a0_0 a0_1).bind fun bt118 => ((impl_Root.f bt118.1 bt118.2 a1).bind fun t120 => (if t120 = t117 then (some true) else (some false)))) = some r := H
  have A4 := Aside0.mk A40
  clear A40
  replace H := Option.bind_eq_some_iff.mp H
  obtain ⟨⟨t118, t119⟩, A50, H⟩ := H
  replace H : ((impl_Root.f t118 t119 a1).bind fun t120 => (if t120 = t117 then (some true) else (some false))) = some r := H
  have A5 := Aside0.mk A50
  clear A50
  replace H := Option.bind_eq_some_iff.mp H
  obtain ⟨t120, A60, H⟩ := H
  replace H : (if t120 = t117 then (some true) else (some false)) = some r := H
  have A6 := Aside0.mk A60
  clear A60
  by_cases c7 : t120 = t117
  · rw [if_pos c7] at H
    have c7b0 : (t120 == t117) = true := beq_iff_eq.mpr c7
    have c7b1 : (t120 != t117) = false := bne_eq_false_iff_eq.mpr c7
    clear c7
    obtain rfl := Option.some.inj H
    go_enter Try.func3, Try.ntmps3
    go_wp2_with (first | ((with_reducible refine gate_dst (N := 2) rfl ?_); refine box_event ?hg (N := 2) ?hd (cs := #[.int .i64 a0_0, .int .i64 a0_1]) (t := 23) ?hr ?_; (case hd => rfl); (case hg => rfl); (case hr => first | (go_simp; done) | (go_simp; rfl)); intro gb114 hg w8 hbox hb; have BK114 := Aside0.mk (hbox); have GW114 := Aside0.mk ((by rw [hg]; exact (below_size (bI HB.out)) : w.heap.size ≤ gb114)); have GE114 := Aside0.mk ((by rw [hg]; exact (below_size (bI HB.out)) : w.heap.size ≤ gb114)); have GI114 := GeI.mk GE114.out; replace HB := Aside0.mk (below_step (bI HB.out) hb); clear hb hbox hg; have hcz9_0 : w8.cell? ⟨gb114, 0, none⟩ = some (.int .i64 a0_0) := (blk_cell BK114.out 0).trans rfl; have hcz9_1 : w8.cell? ⟨gb114, 1, none⟩ = some (.int .i64 a0_1) := (blk_cell BK114.out 1).trans rfl; have hfz9_0 := blk_frozen BK114.out 0; have hfz9_1 := blk_frozen BK114.out 1) | ((with_reducible refine gate_callee (f := 16) rfl ?_); refine goesL_ (some 8) rfl rfl Try.func16 (by kernel_rfl) rfl #[.agg #[.int .i64 a0_0, .int .i64 a0_1]] rfl (by (try simp only [List.map_toArray, List.map_cons, List.map_nil]); first | done | rfl | (simp only [List.length_drop, List.length_take]; rfl)) ?_; (with_reducible refine (laws_toConf.calls a0_0 a0_1 t115 t116 _ A3.out).mono ?_); rintro e w10 ⟨rfl, hb⟩; refine ⟨_, rfl, ?_⟩; replace BK114 := Aside0.mk (blk_below (g := gb114) (o := .cells #[.int .i64 a0_0, .int .i64 a0_1] 23 (0, 0)) (kI BK114.out) hb); replace HB := Aside0.mk (below_step (bI HB.out) hb); (try clear hb); (try clear hb2); (try clear hk); (try clear hi)) | ((with_reducible refine gate_callee (f := 15) rfl ?_); refine goesL_ (some 10) rfl rfl Try.func15 (by kernel_rfl) rfl #[.agg #[.int .i64 t115, .int .i64 t116], .int .i64 a1] rfl (by (try simp only [List.map_toArray, List.map_cons, List.map_nil]); first | done | rfl | (simp only [List.length_drop, List.length_take]; rfl)) ?_; (with_reducible refine (spec_Root.calls t115 t116 a1 t117 _ A4.out).mono ?_); rintro e w11 ⟨rfl, hb⟩; refine ⟨_, rfl, ?_⟩; replace BK114 := Aside0.mk (blk_below (g := gb114) (o := .cells #[.int .i64 a0_0, .int .i64 a0_1] 23 (0, 0)) (kI BK114.out) hb); replace HB := Aside0.mk (below_step (bI HB.out) hb); (try clear hb); (try clear hb2); (try clear hk); (try clear hi); have hcz12_0 : w11.cell? ⟨gb114, 0, none⟩ = some (.int .i64 a0_0) := (blk_cell BK114.out 0).trans rfl; have hcz12_1 : w11.cell? ⟨gb114, 1, none⟩ = some (.int .i64 a0_1) := (blk_cell BK114.out 1).trans rfl; have hfz12_0 := blk_frozen BK114.out 0; have hfz12_1 := blk_frozen BK114.out 1) | ((with_reducible refine gate_callee (f := 16) rfl ?_); refine goesL_ (some 12) rfl rfl Try.func16 (by kernel_rfl) rfl #[.agg #[.int .i64 a0_0, .int .i64 a0_1]] rfl (by (try simp only [List.map_toArray, List.map_cons, List.map_nil]); first | done | rfl | (simp only [List.length_drop, List.length_take]; rfl)) ?_; (with_reducible refine (laws_toConf.calls a0_0 a0_1 t118 t119 _ A5.out).mono ?_); rintro e w13 ⟨rfl, hb⟩; refine ⟨_, rfl, ?_⟩; replace BK114 := Aside0.mk (blk_below (g := gb114) (o := .cells #[.int .i64 a0_0, .int .i64 a0_1] 23 (0, 0)) (kI BK114.out) hb); replace HB := Aside0.mk (below_step (bI HB.out) hb); (try clear hb); (try clear hb2); (try clear hk); (try clear hi)) | ((with_reducible refine gate_callee (f := 17) rfl ?_); refine goesL_ (some 14) rfl rfl Try.func17 (by kernel_rfl) rfl #[.agg #[.int .i64 t118, .int .i64 t119], .int .i64 a1] rfl (by (try simp only [List.map_toArray, List.map_cons, List.map_nil]); first | done | rfl | (simp only [List.length_drop, List.length_take]; rfl)) ?_; (with_reducible refine (impl_Root.calls t118 t119 a1 t120 _ A6.out).mono ?_); rintro e w14 ⟨rfl, hb⟩; refine ⟨_, rfl, ?_⟩; replace BK114 := Aside0.mk (blk_below (g := gb114) (o := .cells #[.int .i64 a0_0, .int .i64 a0_1] 23 (0, 0)) (kI BK114.out) hb); replace HB := Aside0.mk (below_step (bI HB.out) hb); (try clear hb); (try clear hb2); (try clear hk); (try clear hi)))
    go_ret
    exact ⟨by first | rfl | (simp [errW_none, errW_some] <;> rfl) | (simp [*, errW_none, errW_some] <;> rfl), bI HB.out⟩
  · rw [if_neg c7] at H
    have c7b0 : (t120 == t117) = false := beq_eq_false_iff_ne.mpr c7
    have c7b1 : (t120 != t117) = true := bne_iff_ne.mpr c7
    exact absurd (hrt.out.symm.trans (Option.some.inj H).symm) (by decide)

end Go.Proofs.Ytlkmjjojjlihaaa.PFnExactRoot
