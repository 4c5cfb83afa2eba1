-- By a program of this session, out of the translation (the print of the kit, with turns of its own). Lean checks it.
import Derived.Test.YtjbkdffimfbdnaaPFnTreesx0
namespace Go.Proofs.Ytjbkdffimfbdnaa.PFnTrees
open Go.RowKit Go.Proofs.YtjbkdffimfbdnaaW.PrintWords Go.Proofs.YtjbkdffimfbdnaaW.PrintLast Go.Proofs.YtjbkdffimfbdnaaW.PrintMore
attribute [local go_sem] max2_int min2_int max_two min_two max_three min_three max_four min_four   -- for this text's walks alone
set_option linter.unusedVariables false
set_option linter.unusedSimpArgs false

/-! ### spec_l1In: function 77 -/
def spec_l1In.f (a0 : Int) (a1 : Int) (a2 : Int) : Option (Bool) := if a0 ≥ a1 then (some (decide (a0 ≤ a2))) else (some false)
set_option maxHeartbeats 8000000 in
set_option maxRecDepth 100000 in
theorem spec_l1In.calls (a0 : Int) (a1 : Int) (a2 : Int) (r : Bool) (w : World) (h : spec_l1In.f a0 a1 a2 = some r) :
    Calls Try.prog 77 #[.int .i64 a0, .int .i64 a1, .int .i64 a2] w fun e w' => e = .returned (.bool r) ∧ Drawn0 w w' := by
  have H : (if a0 ≥ a1 then (some (decide (a0 ≤ a2))) else (some false)) = some r := h
  clear h
  by_cases c4 : a0 ≥ a1
  · rw [if_pos c4] at H
    have c4b0 : decide (a1 ≤ a0) = true := decide_eq_true c4
    clear c4
    obtain rfl := Option.some.inj H
    go_enter Try.func77, Try.ntmps77
    go_wp2
    go_ret
    exact ⟨by first | rfl | (simp; done) | (simp [*]; done), by repeat (first | exact Drawn0.refl _ | apply Drawn0.step)⟩
  · rw [if_neg c4] at H
    have c4b0 : decide (a1 ≤ a0) = false := decide_eq_false c4
    clear c4
    obtain rfl := Option.some.inj H
    go_enter Try.func77, Try.ntmps77
    go_wp2
    go_ret
    exact ⟨by first | rfl | (simp; done) | (simp [*]; done), by repeat (first | exact Drawn0.refl _ | apply Drawn0.step)⟩

/-! ### spec_ConfOk: function 69 -/
def spec_ConfOk.f (a0_0 : Int) (a0_1 : Int) : Option (Bool) := (spec_l1In.f a0_0 4 7).bind fun t102 => (if t102 = true then ((spec_l1In.f a0_1 1 6).bind fun t103 => (some t103)) else (some false))
set_option maxHeartbeats 8000000 in
set_option maxRecDepth 100000 in
theorem spec_ConfOk.calls (a0_0 : Int) (a0_1 : Int) (r : Bool) (w : World) (h : spec_ConfOk.f a0_0 a0_1 = some r) :
    Calls Try.prog 69 #[.agg #[.int .i64 a0_0, .int .i64 a0_1]] w fun e w' => e = .returned (.bool r) ∧ Below w.heap.size w w' := by
  have hu37 := Try.underlying37
  have HB := Aside0.mk (Below.refl w.heap.size w)
  have H : ((spec_l1In.f a0_0 4 7).bind fun t102 => (if t102 = true then ((spec_l1In.f a0_1 1 6).bind fun t103 => (some t103)) else (some false))) = some r := h
  clear h
  obtain ⟨t102, A20, H⟩ := Option.bind_eq_some_iff.mp H
  try dsimp only at H
  have A2 := Aside0.mk A20
  clear A20
  by_cases c3 : t102 = true
  · subst c3
    rw [if_pos rfl] at H
    obtain ⟨t103, A40, H⟩ := Option.bind_eq_some_iff.mp H
    try dsimp only at H
    have A4 := Aside0.mk A40
    clear A40
    obtain rfl := Option.some.inj H
    go_enter Try.func69, Try.ntmps69
    go_wp2_with (first | ((with_reducible refine gate_dst (N := 1) rfl ?_); refine box_event ?hg (N := 1) ?hd (cs := #[.int .i64 a0_0, .int .i64 a0_1]) (t := 37) ?hr ?_; (case hd => rfl); (case hg => rfl); (case hr => first | (go_simp; done) | (go_simp; rfl)); intro gb101 hg w5 hbox hb; have BK101 := Aside0.mk (hbox); have GW101 := Aside0.mk ((by rw [hg]; exact (below_size (bI HB.out)) : w.heap.size ≤ gb101)); have GJ101 := GeI.mk GW101.out; have GE101 := Aside0.mk ((by rw [hg]; exact (below_size (bI HB.out)) : w.heap.size ≤ gb101)); have GI101 := GeI.mk GE101.out; replace HB := Aside0.mk (below_step (bI HB.out) hb); clear hb hbox hg; have hcz6_0 := bc0 BK101.out; have hcz6_1 := bc1 BK101.out; have hfz6_0 := blk_frozen BK101.out 0; have hfz6_1 := blk_frozen BK101.out 1) | ((with_reducible refine gate_callee (f := 77) rfl ?_); refine goesL_ (some 5) rfl rfl Try.func77 (by kernel_rfl) rfl #[.int .i64 a0_0, .int .i64 4, .int .i64 7] rfl (by (try simp only [List.map_toArray, List.map_cons, List.map_nil]); first | done | rfl | (simp only [List.length_drop, List.length_take]; rfl)) ?_; (with_reducible refine (spec_l1In.calls a0_0 4 7 true _ A2.out).mono ?_); rintro e w' ⟨rfl, ⟨nd, rfl⟩⟩; refine ⟨_, rfl, ?_⟩) | (go_at_call 77; (with_reducible refine (spec_l1In.calls a0_1 1 6 t103 _ A4.out).mono ?_); rintro e w' ⟨rfl, ⟨nd, rfl⟩⟩))
    go_ret
    exact ⟨by first | rfl | (simp [errW_none, errW_some] <;> rfl) | (simp [*, errW_none, errW_some] <;> rfl), bI HB.out⟩
  · replace c3 := Bool.eq_false_iff.mpr c3
    subst c3
    rw [if_neg (show ¬ (false = true) by decide)] at H
    obtain rfl := Option.some.inj H
    go_enter Try.func69, Try.ntmps69
    go_wp2_with (first | ((with_reducible refine gate_dst (N := 1) rfl ?_); refine box_event ?hg (N := 1) ?hd (cs := #[.int .i64 a0_0, .int .i64 a0_1]) (t := 37) ?hr ?_; (case hd => rfl); (case hg => rfl); (case hr => first | (go_simp; done) | (go_simp; rfl)); intro gb101 hg w7 hbox hb; have BK101 := Aside0.mk (hbox); have GW101 := Aside0.mk ((by rw [hg]; exact (below_size (bI HB.out)) : w.heap.size ≤ gb101)); have GJ101 := GeI.mk GW101.out; have GE101 := Aside0.mk ((by rw [hg]; exact (below_size (bI HB.out)) : w.heap.size ≤ gb101)); have GI101 := GeI.mk GE101.out; replace HB := Aside0.mk (below_step (bI HB.out) hb); clear hb hbox hg; have hcz8_0 := bc0 BK101.out; have hcz8_1 := bc1 BK101.out; have hfz8_0 := blk_frozen BK101.out 0; have hfz8_1 := blk_frozen BK101.out 1) | ((with_reducible refine gate_callee (f := 77) rfl ?_); refine goesL_ (some 5) rfl rfl Try.func77 (by kernel_rfl) rfl #[.int .i64 a0_0, .int .i64 4, .int .i64 7] rfl (by (try simp only [List.map_toArray, List.map_cons, List.map_nil]); first | done | rfl | (simp only [List.length_drop, List.length_take]; rfl)) ?_; (with_reducible refine (spec_l1In.calls a0_0 4 7 false _ A2.out).mono ?_); rintro e w' ⟨rfl, ⟨nd, rfl⟩⟩; refine ⟨_, rfl, ?_⟩))
    go_ret
    exact ⟨by first | rfl | (simp [errW_none, errW_some] <;> rfl) | (simp [*, errW_none, errW_some] <;> rfl), bI HB.out⟩

/-! ### spec_Seat: function 51 -/
def spec_Seat.f (a0_0 : Int) (a0_1 : Int) (a1 : Int) (a2 : Int) : Option (Int) := (spec_ConfOk.f a0_0 a0_1).bind fun t105 => (if t105 = true then (if a1 < 0 then (some (-1)) else ((spec_l1In.f a2 0 (wrap64 (a0_0 - 1))).bind fun t106 => (if t106 = true then (if a0_0 = 0 then (none) else (some (Int.tmod (wrap64 ((wrap64 (a2 + a0_0)) - (Int.tmod a1 a0_0))) a0_0))) else (some (-1))))) else (some (-1)))
set_option maxHeartbeats 8000000 in
set_option maxRecDepth 100000 in
theorem spec_Seat.calls (a0_0 : Int) (a0_1 : Int) (a1 : Int) (a2 : Int) (r : Int) (w : World) (h : spec_Seat.f a0_0 a0_1 a1 a2 = some r) :
    Calls Try.prog 51 #[.agg #[.int .i64 a0_0, .int .i64 a0_1], .int .i64 a1, .int .i64 a2] w fun e w' => e = .returned (.int .i64 r) ∧ Below w.heap.size w w' := by
  have hu37 := Try.underlying37
  have HB := Aside0.mk (Below.refl w.heap.size w)
  have H : ((spec_ConfOk.f a0_0 a0_1).bind fun t105 => (if t105 = true then (if a1 < 0 then (some (-1)) else ((spec_l1In.f a2 0 (wrap64 (a0_0 - 1))).bind fun t106 => (if t106 = true then (if a0_0 = 0 then (none) else (some (Int.tmod (wrap64 ((wrap64 (a2 + a0_0)) - (Int.tmod a1 a0_0))) a0_0))) else (some (-1))))) else (some (-1)))) = some r := h
  clear h
  obtain ⟨t105, A40, H⟩ := Option.bind_eq_some_iff.mp H
  try dsimp only at H
  have A4 := Aside0.mk A40
  clear A40
  by_cases c5 : t105 = true
  · subst c5
    rw [if_pos rfl] at H
    by_cases c6 : a1 < 0
    · rw [if_pos c6] at H
      have c6b0 : decide (a1 < 0) = true := decide_eq_true c6
      clear c6
      obtain rfl := Option.some.inj H
      go_enter Try.func51, Try.ntmps51
      go_wp2_with (first | ((with_reducible refine gate_dst (N := 3) rfl ?_); refine box_event ?hg (N := 3) ?hd (cs := #[.int .i64 a0_0, .int .i64 a0_1]) (t := 37) ?hr ?_; (case hd => rfl); (case hg => rfl); (case hr => first | (go_simp; done) | (go_simp; rfl)); intro gb104 hg w7 hbox hb; have BK104 := Aside0.mk (hbox); have GW104 := Aside0.mk ((by rw [hg]; exact (below_size (bI HB.out)) : w.heap.size ≤ gb104)); have GJ104 := GeI.mk GW104.out; have GE104 := Aside0.mk ((by rw [hg]; exact (below_size (bI HB.out)) : w.heap.size ≤ gb104)); have GI104 := GeI.mk GE104.out; replace HB := Aside0.mk (below_step (bI HB.out) hb); clear hb hbox hg; have hcz8_0 := bc0 BK104.out; have hcz8_1 := bc1 BK104.out; have hfz8_0 := blk_frozen BK104.out 0; have hfz8_1 := blk_frozen BK104.out 1) | (go_at_call 69; (with_reducible refine (spec_ConfOk.calls a0_0 a0_1 true _ A4.out).mono ?_); rintro e w9 ⟨rfl, hb⟩; replace BK104 := Aside0.mk (blk_below (g := gb104) (o := .cells #[.int .i64 a0_0, .int .i64 a0_1] 37 (0, 0)) (kI BK104.out) hb); replace HB := Aside0.mk (below_step (bI HB.out) hb); (try clear hb); (try clear hb2); (try clear hk); (try clear hi)))
      repeat (go_quiet (first | ((with_reducible refine gate_dst (N := 3) rfl ?_); refine box_event ?hg (N := 3) ?hd (cs := #[.int .i64 a0_0, .int .i64 a0_1]) (t := 37) ?hr ?_; (case hd => rfl); (case hg => rfl); (case hr => first | (go_simp; done) | (go_simp; rfl)); intro gb104 hg w7 hbox hb; have BK104 := Aside0.mk (hbox); have GW104 := Aside0.mk ((by rw [hg]; exact (below_size (bI HB.out)) : w.heap.size ≤ gb104)); have GJ104 := GeI.mk GW104.out; have GE104 := Aside0.mk ((by rw [hg]; exact (below_size (bI HB.out)) : w.heap.size ≤ gb104)); have GI104 := GeI.mk GE104.out; replace HB := Aside0.mk (below_step (bI HB.out) hb); clear hb hbox hg; have hcz8_0 := bc0 BK104.out; have hcz8_1 := bc1 BK104.out; have hfz8_0 := blk_frozen BK104.out 0; have hfz8_1 := blk_frozen BK104.out 1) | (go_at_call 69; (with_reducible refine (spec_ConfOk.calls a0_0 a0_1 true _ A4.out).mono ?_); rintro e w9 ⟨rfl, hb⟩; replace BK104 := Aside0.mk (blk_below (g := gb104) (o := .cells #[.int .i64 a0_0, .int .i64 a0_1] 37 (0, 0)) (kI BK104.out) hb); replace HB := Aside0.mk (below_step (bI HB.out) hb); (try clear hb); (try clear hb2); (try clear hk); (try clear hi))); try go_wp2_with (first | ((with_reducible refine gate_dst (N := 3) rfl ?_); refine box_event ?hg (N := 3) ?hd (cs := #[.int .i64 a0_0, .int .i64 a0_1]) (t := 37) ?hr ?_; (case hd => rfl); (case hg => rfl); (case hr => first | (go_simp; done) | (go_simp; rfl)); intro gb104 hg w7 hbox hb; have BK104 := Aside0.mk (hbox); have GW104 := Aside0.mk ((by rw [hg]; exact (below_size (bI HB.out)) : w.heap.size ≤ gb104)); have GJ104 := GeI.mk GW104.out; have GE104 := Aside0.mk ((by rw [hg]; exact (below_size (bI HB.out)) : w.heap.size ≤ gb104)); have GI104 := GeI.mk GE104.out; replace HB := Aside0.mk (below_step (bI HB.out) hb); clear hb hbox hg; have hcz8_0 := bc0 BK104.out; have hcz8_1 := bc1 BK104.out; have hfz8_0 := blk_frozen BK104.out 0; have hfz8_1 := blk_frozen BK104.out 1) | (go_at_call 69; (with_reducible refine (spec_ConfOk.calls a0_0 a0_1 true _ A4.out).mono ?_); rintro e w9 ⟨rfl, hb⟩; replace BK104 := Aside0.mk (blk_below (g := gb104) (o := .cells #[.int .i64 a0_0, .int .i64 a0_1] 37 (0, 0)) (kI BK104.out) hb); replace HB := Aside0.mk (below_step (bI HB.out) hb); (try clear hb); (try clear hb2); (try clear hk); (try clear hi))))
      go_ret
      exact ⟨by first | rfl | (simp [errW_none, errW_some] <;> rfl) | (simp [*, errW_none, errW_some] <;> rfl), bI HB.out⟩
    · rw [if_neg c6] at H
      have c6b0 : decide (a1 < 0) = false := decide_eq_false c6
      clear c6
      obtain ⟨t106, A100, H⟩ := Option.bind_eq_some_iff.mp H
      try dsimp only at H
      have A10 := Aside0.mk A100
      clear A100
      by_cases c11 : t106 = true
      · subst c11
        rw [if_pos rfl] at H
        by_cases c12 : a0_0 = 0
        · rw [if_pos c12] at H
          exact absurd H (by simp)
        rw [if_neg c12] at H
        have c12b0 : (a0_0 == 0) = false := beq_eq_false_iff_ne.mpr c12
        have c12b1 : (a0_0 != 0) = true := bne_iff_ne.mpr c12
        obtain rfl := Option.some.inj H
        go_enter Try.func51, Try.ntmps51
        go_wp2_with (first | ((with_reducible refine gate_dst (N := 3) rfl ?_); refine box_event ?hg (N := 3) ?hd (cs := #[.int .i64 a0_0, .int .i64 a0_1]) (t := 37) ?hr ?_; (case hd => rfl); (case hg => rfl); (case hr => first | (go_simp; done) | (go_simp; rfl)); intro gb104 hg w13 hbox hb; have BK104 := Aside0.mk (hbox); have GW104 := Aside0.mk ((by rw [hg]; exact (below_size (bI HB.out)) : w.heap.size ≤ gb104)); have GJ104 := GeI.mk GW104.out; have GE104 := Aside0.mk ((by rw [hg]; exact (below_size (bI HB.out)) : w.heap.size ≤ gb104)); have GI104 := GeI.mk GE104.out; replace HB := Aside0.mk (below_step (bI HB.out) hb); clear hb hbox hg; have hcz14_0 := bc0 BK104.out; have hcz14_1 := bc1 BK104.out; have hfz14_0 := blk_frozen BK104.out 0; have hfz14_1 := blk_frozen BK104.out 1) | (go_at_call 69; (with_reducible refine (spec_ConfOk.calls a0_0 a0_1 true _ A4.out).mono ?_); rintro e w15 ⟨rfl, hb⟩; replace BK104 := Aside0.mk (blk_below (g := gb104) (o := .cells #[.int .i64 a0_0, .int .i64 a0_1] 37 (0, 0)) (kI BK104.out) hb); replace HB := Aside0.mk (below_step (bI HB.out) hb); (try clear hb); (try clear hb2); (try clear hk); (try clear hi); have hcz16_0 := bc0 BK104.out; have hcz16_1 := bc1 BK104.out; have hfz16_0 := blk_frozen BK104.out 0; have hfz16_1 := blk_frozen BK104.out 1) | (go_at_call 77; (with_reducible refine (spec_l1In.calls a2 0 (wrap64 (a0_0 - 1)) true _ A10.out).mono ?_); rintro e w' ⟨rfl, ⟨nd, rfl⟩⟩; (try first | exact ⟨rfl, _, World.drewN_drewN _ _ _⟩ | exact ⟨rfl, _, Eq.trans (World.drewN_drewN _ _ _) (congrArg (World.drewN _) (Nat.add_assoc _ _ _))⟩)))
        repeat (go_quiet (first | ((with_reducible refine gate_dst (N := 3) rfl ?_); refine box_event ?hg (N := 3) ?hd (cs := #[.int .i64 a0_0, .int .i64 a0_1]) (t := 37) ?hr ?_; (case hd => rfl); (case hg => rfl); (case hr => first | (go_simp; done) | (go_simp; rfl)); intro gb104 hg w13 hbox hb; have BK104 := Aside0.mk (hbox); have GW104 := Aside0.mk ((by rw [hg]; exact (below_size (bI HB.out)) : w.heap.size ≤ gb104)); have GJ104 := GeI.mk GW104.out; have GE104 := Aside0.mk ((by rw [hg]; exact (below_size (bI HB.out)) : w.heap.size ≤ gb104)); have GI104 := GeI.mk GE104.out; replace HB := Aside0.mk (below_step (bI HB.out) hb); clear hb hbox hg; have hcz14_0 := bc0 BK104.out; have hcz14_1 := bc1 BK104.out; have hfz14_0 := blk_frozen BK104.out 0; have hfz14_1 := blk_frozen BK104.out 1) | (go_at_call 69; (with_reducible refine (spec_ConfOk.calls a0_0 a0_1 true _ A4.out).mono ?_); rintro e w15 ⟨rfl, hb⟩; replace BK104 := Aside0.mk (blk_below (g := gb104) (o := .cells #[.int .i64 a0_0, .int .i64 a0_1] 37 (0, 0)) (kI BK104.out) hb); replace HB := Aside0.mk (below_step (bI HB.out) hb); (try clear hb); (try clear hb2); (try clear hk); (try clear hi); have hcz16_0 := bc0 BK104.out; have hcz16_1 := bc1 BK104.out; have hfz16_0 := blk_frozen BK104.out 0; have hfz16_1 := blk_frozen BK104.out 1) | (go_at_call 77; (with_reducible refine (spec_l1In.calls a2 0 (wrap64 (a0_0 - 1)) true _ A10.out).mono ?_); rintro e w' ⟨rfl, ⟨nd, rfl⟩⟩; (try first | exact ⟨rfl, _, World.drewN_drewN _ _ _⟩ | exact ⟨rfl, _, Eq.trans (World.drewN_drewN _ _ _) (congrArg (World.drewN _) (Nat.add_assoc _ _ _))⟩))); try go_wp2_with (first | ((with_reducible refine gate_dst (N := 3) rfl ?_); refine box_event ?hg (N := 3) ?hd (cs := #[.int .i64 a0_0, .int .i64 a0_1]) (t := 37) ?hr ?_; (case hd => rfl); (case hg => rfl); (case hr => first | (go_simp; done) | (go_simp; rfl)); intro gb104 hg w13 hbox hb; have BK104 := Aside0.mk (hbox); have GW104 := Aside0.mk ((by rw [hg]; exact (below_size (bI HB.out)) : w.heap.size ≤ gb104)); have GJ104 := GeI.mk GW104.out; have GE104 := Aside0.mk ((by rw [hg]; exact (below_size (bI HB.out)) : w.heap.size ≤ gb104)); have GI104 := GeI.mk GE104.out; replace HB := Aside0.mk (below_step (bI HB.out) hb); clear hb hbox hg; have hcz14_0 := bc0 BK104.out; have hcz14_1 := bc1 BK104.out; have hfz14_0 := blk_frozen BK104.out 0; have hfz14_1 := blk_frozen BK104.out 1) | (go_at_call 69; (with_reducible refine (spec_ConfOk.calls a0_0 a0_1 true _ A4.out).mono ?_); rintro e w15 ⟨rfl, hb⟩; replace BK104 := Aside0.mk (blk_below (g := gb104) (o := .cells #[.int .i64 a0_0, .int .i64 a0_1] 37 (0, 0)) (kI BK104.out) hb); replace HB := Aside0.mk (below_step (bI HB.out) hb); (try clear hb); (try clear hb2); (try clear hk); (try clear hi); have hcz16_0 := bc0 BK104.out; have hcz16_1 := bc1 BK104.out; have hfz16_0 := blk_frozen BK104.out 0; have hfz16_1 := blk_frozen BK104.out 1) | (go_at_call 77; (with_reducible refine (spec_l1In.calls a2 0 (wrap64 (a0_0 - 1)) true _ A10.out).mono ?_); rintro e w' ⟨rfl, ⟨nd, rfl⟩⟩; (try first | exact ⟨rfl, _, World.drewN_drewN _ _ _⟩ | exact ⟨rfl, _, Eq.trans (World.drewN_drewN _ _ _) (congrArg (World.drewN _) (Nat.add_assoc _ _ _))⟩))))
        go_ret
        exact ⟨by first | rfl | (simp [errW_none, errW_some] <;> rfl) | (simp [*, errW_none, errW_some] <;> rfl), bI HB.out⟩
      · replace c11 := Bool.eq_false_iff.mpr c11
        subst c11
        rw [if_neg (show ¬ (false = true) by decide)] at H
        obtain rfl := Option.some.inj H
        go_enter Try.func51, Try.ntmps51
        go_wp2_with (first | ((with_reducible refine gate_dst (N := 3) rfl ?_); refine box_event ?hg (N := 3) ?hd (cs := #[.int .i64 a0_0, .int .i64 a0_1]) (t := 37) ?hr ?_; (case hd => rfl); (case hg => rfl); (case hr => first | (go_simp; done) | (go_simp; rfl)); intro gb104 hg w17 hbox hb; have BK104 := Aside0.mk (hbox); have GW104 := Aside0.mk ((by rw [hg]; exact (below_size (bI HB.out)) : w.heap.size ≤ gb104)); have GJ104 := GeI.mk GW104.out; have GE104 := Aside0.mk ((by rw [hg]; exact (below_size (bI HB.out)) : w.heap.size ≤ gb104)); have GI104 := GeI.mk GE104.out; replace HB := Aside0.mk (below_step (bI HB.out) hb); clear hb hbox hg; have hcz18_0 := bc0 BK104.out; have hcz18_1 := bc1 BK104.out; have hfz18_0 := blk_frozen BK104.out 0; have hfz18_1 := blk_frozen BK104.out 1) | (go_at_call 69; (with_reducible refine (spec_ConfOk.calls a0_0 a0_1 true _ A4.out).mono ?_); rintro e w19 ⟨rfl, hb⟩; replace BK104 := Aside0.mk (blk_below (g := gb104) (o := .cells #[.int .i64 a0_0, .int .i64 a0_1] 37 (0, 0)) (kI BK104.out) hb); replace HB := Aside0.mk (below_step (bI HB.out) hb); (try clear hb); (try clear hb2); (try clear hk); (try clear hi); have hcz20_0 := bc0 BK104.out; have hcz20_1 := bc1 BK104.out; have hfz20_0 := blk_frozen BK104.out 0; have hfz20_1 := blk_frozen BK104.out 1) | (go_at_call 77; (with_reducible refine (spec_l1In.calls a2 0 (wrap64 (a0_0 - 1)) false _ A10.out).mono ?_); rintro e w' ⟨rfl, ⟨nd, rfl⟩⟩; (try first | exact ⟨rfl, _, World.drewN_drewN _ _ _⟩ | exact ⟨rfl, _, Eq.trans (World.drewN_drewN _ _ _) (congrArg (World.drewN _) (Nat.add_assoc _ _ _))⟩)))
        repeat (go_quiet (first | ((with_reducible refine gate_dst (N := 3) rfl ?_); refine box_event ?hg (N := 3) ?hd (cs := #[.int .i64 a0_0, .int .i64 a0_1]) (t := 37) ?hr ?_; (case hd => rfl); (case hg => rfl); (case hr => first | (go_simp; done) | (go_simp; rfl)); intro gb104 hg w17 hbox hb; have BK104 := Aside0.mk (hbox); have GW104 := Aside0.mk ((by rw [hg]; exact (below_size (bI HB.out)) : w.heap.size ≤ gb104)); have GJ104 := GeI.mk GW104.out; have GE104 := Aside0.mk ((by rw [hg]; exact (below_size (bI HB.out)) : w.heap.size ≤ gb104)); have GI104 := GeI.mk GE104.out; replace HB := Aside0.mk (below_step (bI HB.out) hb); clear hb hbox hg; have hcz18_0 := bc0 BK104.out; have hcz18_1 := bc1 BK104.out; have hfz18_0 := blk_frozen BK104.out 0; have hfz18_1 := blk_frozen BK104.out 1) | (go_at_call 69; (with_reducible refine (spec_ConfOk.calls a0_0 a0_1 true _ A4.out).mono ?_); rintro e w19 ⟨rfl, hb⟩; replace BK104 := Aside0.mk (blk_below (g := gb104) (o := .cells #[.int .i64 a0_0, .int .i64 a0_1] 37 (0, 0)) (kI BK104.out) hb); replace HB := Aside0.mk (below_step (bI HB.out) hb); (try clear hb); (try clear hb2); (try clear hk); (try clear hi); have hcz20_0 := bc0 BK104.out; have hcz20_1 := bc1 BK104.out; have hfz20_0 := blk_frozen BK104.out 0; have hfz20_1 := blk_frozen BK104.out 1) | (go_at_call 77; (with_reducible refine (spec_l1In.calls a2 0 (wrap64 (a0_0 - 1)) false _ A10.out).mono ?_); rintro e w' ⟨rfl, ⟨nd, rfl⟩⟩; (try first | exact ⟨rfl, _, World.drewN_drewN _ _ _⟩ | exact ⟨rfl, _, Eq.trans (World.drewN_drewN _ _ _) (congrArg (World.drewN _) (Nat.add_assoc _ _ _))⟩))); try go_wp2_with (first | ((with_reducible refine gate_dst (N := 3) rfl ?_); refine box_event ?hg (N := 3) ?hd (cs := #[.int .i64 a0_0, .int .i64 a0_1]) (t := 37) ?hr ?_; (case hd => rfl); (case hg => rfl); (case hr => first | (go_simp; done) | (go_simp; rfl)); intro gb104 hg w17 hbox hb; have BK104 := Aside0.mk (hbox); have GW104 := Aside0.mk ((by rw [hg]; exact (below_size (bI HB.out)) : w.heap.size ≤ gb104)); have GJ104 := GeI.mk GW104.out; have GE104 := Aside0.mk ((by rw [hg]; exact (below_size (bI HB.out)) : w.heap.size ≤ gb104)); have GI104 := GeI.mk GE104.out; replace HB := Aside0.mk (below_step (bI HB.out) hb); clear hb hbox hg; have hcz18_0 := bc0 BK104.out; have hcz18_1 := bc1 BK104.out; have hfz18_0 := blk_frozen BK104.out 0; have hfz18_1 := blk_frozen BK104.out 1) | (go_at_call 69; (with_reducible refine (spec_ConfOk.calls a0_0 a0_1 true _ A4.out).mono ?_); rintro e w19 ⟨rfl, hb⟩; replace BK104 := Aside0.mk (blk_below (g := gb104) (o := .cells #[.int .i64 a0_0, .int .i64 a0_1] 37 (0, 0)) (kI BK104.out) hb); replace HB := Aside0.mk (below_step (bI HB.out) hb); (try clear hb); (try clear hb2); (try clear hk); (try clear hi); have hcz20_0 := bc0 BK104.out; have hcz20_1 := bc1 BK104.out; have hfz20_0 := blk_frozen BK104.out 0; have hfz20_1 := blk_frozen BK104.out 1) | (go_at_call 77; (with_reducible refine (spec_l1In.calls a2 0 (wrap64 (a0_0 - 1)) false _ A10.out).mono ?_); rintro e w' ⟨rfl, ⟨nd, rfl⟩⟩; (try first | exact ⟨rfl, _, World.drewN_drewN _ _ _⟩ | exact ⟨rfl, _, Eq.trans (World.drewN_drewN _ _ _) (congrArg (World.drewN _) (Nat.add_assoc _ _ _))⟩))))
        go_ret
        exact ⟨by first | rfl | (simp [errW_none, errW_some] <;> rfl) | (simp [*, errW_none, errW_some] <;> rfl), bI HB.out⟩
  · replace c5 := Bool.eq_false_iff.mpr c5
    subst c5
    rw [if_neg (show ¬ (false = true) by decide)] at H
    obtain rfl := Option.some.inj H
    go_enter Try.func51, Try.ntmps51
    go_wp2_with (first | ((with_reducible refine gate_dst (N := 3) rfl ?_); refine box_event ?hg (N := 3) ?hd (cs := #[.int .i64 a0_0, .int .i64 a0_1]) (t := 37) ?hr ?_; (case hd => rfl); (case hg => rfl); (case hr => first | (go_simp; done) | (go_simp; rfl)); intro gb104 hg w21 hbox hb; have BK104 := Aside0.mk (hbox); have GW104 := Aside0.mk ((by rw [hg]; exact (below_size (bI HB.out)) : w.heap.size ≤ gb104)); have GJ104 := GeI.mk GW104.out; have GE104 := Aside0.mk ((by rw [hg]; exact (below_size (bI HB.out)) : w.heap.size ≤ gb104)); have GI104 := GeI.mk GE104.out; replace HB := Aside0.mk (below_step (bI HB.out) hb); clear hb hbox hg; have hcz22_0 := bc0 BK104.out; have hcz22_1 := bc1 BK104.out; have hfz22_0 := blk_frozen BK104.out 0; have hfz22_1 := blk_frozen BK104.out 1) | (go_at_call 69; (with_reducible refine (spec_ConfOk.calls a0_0 a0_1 false _ A4.out).mono ?_); rintro e w23 ⟨rfl, hb⟩; replace BK104 := Aside0.mk (blk_below (g := gb104) (o := .cells #[.int .i64 a0_0, .int .i64 a0_1] 37 (0, 0)) (kI BK104.out) hb); replace HB := Aside0.mk (below_step (bI HB.out) hb); (try clear hb); (try clear hb2); (try clear hk); (try clear hi)))
    repeat (go_quiet (first | ((with_reducible refine gate_dst (N := 3) rfl ?_); refine box_event ?hg (N := 3) ?hd (cs := #[.int .i64 a0_0, .int .i64 a0_1]) (t := 37) ?hr ?_; (case hd => rfl); (case hg => rfl); (case hr => first | (go_simp; done) | (go_simp; rfl)); intro gb104 hg w21 hbox hb; have BK104 := Aside0.mk (hbox); have GW104 := Aside0.mk ((by rw [hg]; exact (below_size (bI HB.out)) : w.heap.size ≤ gb104)); have GJ104 := GeI.mk GW104.out; have GE104 := Aside0.mk ((by rw [hg]; exact (below_size (bI HB.out)) : w.heap.size ≤ gb104)); have GI104 := GeI.mk GE104.out; replace HB := Aside0.mk (below_step (bI HB.out) hb); clear hb hbox hg; have hcz22_0 := bc0 BK104.out; have hcz22_1 := bc1 BK104.out; have hfz22_0 := blk_frozen BK104.out 0; have hfz22_1 := blk_frozen BK104.out 1) | (go_at_call 69; (with_reducible refine (spec_ConfOk.calls a0_0 a0_1 false _ A4.out).mono ?_); rintro e w23 ⟨rfl, hb⟩; replace BK104 := Aside0.mk (blk_below (g := gb104) (o := .cells #[.int .i64 a0_0, .int .i64 a0_1] 37 (0, 0)) (kI BK104.out) hb); replace HB := Aside0.mk (below_step (bI HB.out) hb); (try clear hb); (try clear hb2); (try clear hk); (try clear hi))); try go_wp2_with (first | ((with_reducible refine gate_dst (N := 3) rfl ?_); refine box_event ?hg (N := 3) ?hd (cs := #[.int .i64 a0_0, .int .i64 a0_1]) (t := 37) ?hr ?_; (case hd => rfl); (case hg => rfl); (case hr => first | (go_simp; done) | (go_simp; rfl)); intro gb104 hg w21 hbox hb; have BK104 := Aside0.mk (hbox); have GW104 := Aside0.mk ((by rw [hg]; exact (below_size (bI HB.out)) : w.heap.size ≤ gb104)); have GJ104 := GeI.mk GW104.out; have GE104 := Aside0.mk ((by rw [hg]; exact (below_size (bI HB.out)) : w.heap.size ≤ gb104)); have GI104 := GeI.mk GE104.out; replace HB := Aside0.mk (below_step (bI HB.out) hb); clear hb hbox hg; have hcz22_0 := bc0 BK104.out; have hcz22_1 := bc1 BK104.out; have hfz22_0 := blk_frozen BK104.out 0; have hfz22_1 := blk_frozen BK104.out 1) | (go_at_call 69; (with_reducible refine (spec_ConfOk.calls a0_0 a0_1 false _ A4.out).mono ?_); rintro e w23 ⟨rfl, hb⟩; replace BK104 := Aside0.mk (blk_below (g := gb104) (o := .cells #[.int .i64 a0_0, .int .i64 a0_1] 37 (0, 0)) (kI BK104.out) hb); replace HB := Aside0.mk (below_step (bI HB.out) hb); (try clear hb); (try clear hb2); (try clear hk); (try clear hi))))
    go_ret
    exact ⟨by first | rfl | (simp [errW_none, errW_some] <;> rfl) | (simp [*, errW_none, errW_some] <;> rfl), bI HB.out⟩

/-! ### spec_Sits: function 49 -/
def spec_Sits.f (a0_0 : Int) (a0_1 : Int) (a1 : Int) (a2 : Int) : Option (Int) := (spec_ConfOk.f a0_0 a0_1).bind fun t108 => (if t108 = true then (if a1 < 0 then (some (-1)) else ((spec_l1In.f a2 0 (wrap64 (a0_0 - 1))).bind fun t109 => (if t109 = true then (if a0_0 = 0 then (none) else (some (Int.tmod (wrap64 ((Int.tmod a1 a0_0) + a2)) a0_0))) else (some (-1))))) else (some (-1)))
set_option maxHeartbeats 8000000 in
set_option maxRecDepth 100000 in
theorem spec_Sits.calls (a0_0 : Int) (a0_1 : Int) (a1 : Int) (a2 : Int) (r : Int) (w : World) (h : spec_Sits.f a0_0 a0_1 a1 a2 = some r) :
    Calls Try.prog 49 #[.agg #[.int .i64 a0_0, .int .i64 a0_1], .int .i64 a1, .int .i64 a2] w fun e w' => e = .returned (.int .i64 r) ∧ Below w.heap.size w w' := by
  have hu37 := Try.underlying37
  have HB := Aside0.mk (Below.refl w.heap.size w)
  have H : ((spec_ConfOk.f a0_0 a0_1).bind fun t108 => (if t108 = true then (if a1 < 0 then (some (-1)) else ((spec_l1In.f a2 0 (wrap64 (a0_0 - 1))).bind fun t109 => (if t109 = true then (if a0_0 = 0 then (none) else (some (Int.tmod (wrap64 ((Int.tmod a1 a0_0) + a2)) a0_0))) else (some (-1))))) else (some (-1)))) = some r := h
  clear h
  obtain ⟨t108, A40, H⟩ := Option.bind_eq_some_iff.mp H
  try dsimp only at H
  have A4 := Aside0.mk A40
  clear A40
  by_cases c5 : t108 = true
  · subst c5
    rw [if_pos rfl] at H
    by_cases c6 : a1 < 0
    · rw [if_pos c6] at H
      have c6b0 : decide (a1 < 0) = true := decide_eq_true c6
      clear c6
      obtain rfl := Option.some.inj H
      go_enter Try.func49, Try.ntmps49
      go_wp2_with (first | ((with_reducible refine gate_dst (N := 3) rfl ?_); refine box_event ?hg (N := 3) ?hd (cs := #[.int .i64 a0_0, .int .i64 a0_1]) (t := 37) ?hr ?_; (case hd => rfl); (case hg => rfl); (case hr => first | (go_simp; done) | (go_simp; rfl)); intro gb107 hg w7 hbox hb; have BK107 := Aside0.mk (hbox); have GW107 := Aside0.mk ((by rw [hg]; exact (below_size (bI HB.out)) : w.heap.size ≤ gb107)); have GJ107 := GeI.mk GW107.out; have GE107 := Aside0.mk ((by rw [hg]; exact (below_size (bI HB.out)) : w.heap.size ≤ gb107)); have GI107 := GeI.mk GE107.out; replace HB := Aside0.mk (below_step (bI HB.out) hb); clear hb hbox hg; have hcz8_0 := bc0 BK107.out; have hcz8_1 := bc1 BK107.out; have hfz8_0 := blk_frozen BK107.out 0; have hfz8_1 := blk_frozen BK107.out 1) | (go_at_call 69; (with_reducible refine (spec_ConfOk.calls a0_0 a0_1 true _ A4.out).mono ?_); rintro e w9 ⟨rfl, hb⟩; replace BK107 := Aside0.mk (blk_below (g := gb107) (o := .cells #[.int .i64 a0_0, .int .i64 a0_1] 37 (0, 0)) (kI BK107.out) hb); replace HB := Aside0.mk (below_step (bI HB.out) hb); (try clear hb); (try clear hb2); (try clear hk); (try clear hi)))
      repeat (go_quiet (first | ((with_reducible refine gate_dst (N := 3) rfl ?_); refine box_event ?hg (N := 3) ?hd (cs := #[.int .i64 a0_0, .int .i64 a0_1]) (t := 37) ?hr ?_; (case hd => rfl); (case hg => rfl); (case hr => first | (go_simp; done) | (go_simp; rfl)); intro gb107 hg w7 hbox hb; have BK107 := Aside0.mk (hbox); have GW107 := Aside0.mk ((by rw [hg]; exact (below_size (bI HB.out)) : w.heap.size ≤ gb107)); have GJ107 := GeI.mk GW107.out; have GE107 := Aside0.mk ((by rw [hg]; exact (below_size (bI HB.out)) : w.heap.size ≤ gb107)); have GI107 := GeI.mk GE107.out; replace HB := Aside0.mk (below_step (bI HB.out) hb); clear hb hbox hg; have hcz8_0 := bc0 BK107.out; have hcz8_1 := bc1 BK107.out; have hfz8_0 := blk_frozen BK107.out 0; have hfz8_1 := blk_frozen BK107.out 1) | (go_at_call 69; (with_reducible refine (spec_ConfOk.calls a0_0 a0_1 true _ A4.out).mono ?_); rintro e w9 ⟨rfl, hb⟩; replace BK107 := Aside0.mk (blk_below (g := gb107) (o := .cells #[.int .i64 a0_0, .int .i64 a0_1] 37 (0, 0)) (kI BK107.out) hb); replace HB := Aside0.mk (below_step (bI HB.out) hb); (try clear hb); (try clear hb2); (try clear hk); (try clear hi))); try go_wp2_with (first | ((with_reducible refine gate_dst (N := 3) rfl ?_); refine box_event ?hg (N := 3) ?hd (cs := #[.int .i64 a0_0, .int .i64 a0_1]) (t := 37) ?hr ?_; (case hd => rfl); (case hg => rfl); (case hr => first | (go_simp; done) | (go_simp; rfl)); intro gb107 hg w7 hbox hb; have BK107 := Aside0.mk (hbox); have GW107 := Aside0.mk ((by rw [hg]; exact (below_size (bI HB.out)) : w.heap.size ≤ gb107)); have GJ107 := GeI.mk GW107.out; have GE107 := Aside0.mk ((by rw [hg]; exact (below_size (bI HB.out)) : w.heap.size ≤ gb107)); have GI107 := GeI.mk GE107.out; replace HB := Aside0.mk (below_step (bI HB.out) hb); clear hb hbox hg; have hcz8_0 := bc0 BK107.out; have hcz8_1 := bc1 BK107.out; have hfz8_0 := blk_frozen BK107.out 0; have hfz8_1 := blk_frozen BK107.out 1) | (go_at_call 69; (with_reducible refine (spec_ConfOk.calls a0_0 a0_1 true _ A4.out).mono ?_); rintro e w9 ⟨rfl, hb⟩; replace BK107 := Aside0.mk (blk_below (g := gb107) (o := .cells #[.int .i64 a0_0, .int .i64 a0_1] 37 (0, 0)) (kI BK107.out) hb); replace HB := Aside0.mk (below_step (bI HB.out) hb); (try clear hb); (try clear hb2); (try clear hk); (try clear hi))))
      go_ret
      exact ⟨by first | rfl | (simp [errW_none, errW_some] <;> rfl) | (simp [*, errW_none, errW_some] <;> rfl), bI HB.out⟩
    · rw [if_neg c6] at H
      have c6b0 : decide (a1 < 0) = false := decide_eq_false c6
      clear c6
      obtain ⟨t109, A100, H⟩ := Option.bind_eq_some_iff.mp H
      try dsimp only at H
      have A10 := Aside0.mk A100
      clear A100
      by_cases c11 : t109 = true
      · subst c11
        rw [if_pos rfl] at H
        by_cases c12 : a0_0 = 0
        · rw [if_pos c12] at H
          exact absurd H (by simp)
        rw [if_neg c12] at H
        have c12b0 : (a0_0 == 0) = false := beq_eq_false_iff_ne.mpr c12
        have c12b1 : (a0_0 != 0) = true := bne_iff_ne.mpr c12
        obtain rfl := Option.some.inj H
        go_enter Try.func49, Try.ntmps49
        go_wp2_with (first | ((with_reducible refine gate_dst (N := 3) rfl ?_); refine box_event ?hg (N := 3) ?hd (cs := #[.int .i64 a0_0, .int .i64 a0_1]) (t := 37) ?hr ?_; (case hd => rfl); (case hg => rfl); (case hr => first | (go_simp; done) | (go_simp; rfl)); intro gb107 hg w13 hbox hb; have BK107 := Aside0.mk (hbox); have GW107 := Aside0.mk ((by rw [hg]; exact (below_size (bI HB.out)) : w.heap.size ≤ gb107)); have GJ107 := GeI.mk GW107.out; have GE107 := Aside0.mk ((by rw [hg]; exact (below_size (bI HB.out)) : w.heap.size ≤ gb107)); have GI107 := GeI.mk GE107.out; replace HB := Aside0.mk (below_step (bI HB.out) hb); clear hb hbox hg; have hcz14_0 := bc0 BK107.out; have hcz14_1 := bc1 BK107.out; have hfz14_0 := blk_frozen BK107.out 0; have hfz14_1 := blk_frozen BK107.out 1) | (go_at_call 69; (with_reducible refine (spec_ConfOk.calls a0_0 a0_1 true _ A4.out).mono ?_); rintro e w15 ⟨rfl, hb⟩; replace BK107 := Aside0.mk (blk_below (g := gb107) (o := .cells #[.int .i64 a0_0, .int .i64 a0_1] 37 (0, 0)) (kI BK107.out) hb); replace HB := Aside0.mk (below_step (bI HB.out) hb); (try clear hb); (try clear hb2); (try clear hk); (try clear hi); have hcz16_0 := bc0 BK107.out; have hcz16_1 := bc1 BK107.out; have hfz16_0 := blk_frozen BK107.out 0; have hfz16_1 := blk_frozen BK107.out 1) | (go_at_call 77; (with_reducible refine (spec_l1In.calls a2 0 (wrap64 (a0_0 - 1)) true _ A10.out).mono ?_); rintro e w' ⟨rfl, ⟨nd, rfl⟩⟩; (try first | exact ⟨rfl, _, World.drewN_drewN _ _ _⟩ | exact ⟨rfl, _, Eq.trans (World.drewN_drewN _ _ _) (congrArg (World.drewN _) (Nat.add_assoc _ _ _))⟩)))
        repeat (go_quiet (first | ((with_reducible refine gate_dst (N := 3) rfl ?_); refine box_event ?hg (N := 3) ?hd (cs := #[.int .i64 a0_0, .int .i64 a0_1]) (t := 37) ?hr ?_; (case hd => rfl); (case hg => rfl); (case hr => first | (go_simp; done) | (go_simp; rfl)); intro gb107 hg w13 hbox hb; have BK107 := Aside0.mk (hbox); have GW107 := Aside0.mk ((by rw [hg]; exact (below_size (bI HB.out)) : w.heap.size ≤ gb107)); have GJ107 := GeI.mk GW107.out; have GE107 := Aside0.mk ((by rw [hg]; exact (below_size (bI HB.out)) : w.heap.size ≤ gb107)); have GI107 := GeI.mk GE107.out; replace HB := Aside0.mk (below_step (bI HB.out) hb); clear hb hbox hg; have hcz14_0 := bc0 BK107.out; have hcz14_1 := bc1 BK107.out; have hfz14_0 := blk_frozen BK107.out 0; have hfz14_1 := blk_frozen BK107.out 1) | (go_at_call 69; (with_reducible refine (spec_ConfOk.calls a0_0 a0_1 true _ A4.out).mono ?_); rintro e w15 ⟨rfl, hb⟩; replace BK107 := Aside0.mk (blk_below (g := gb107) (o := .cells #[.int .i64 a0_0, .int .i64 a0_1] 37 (0, 0)) (kI BK107.out) hb); replace HB := Aside0.mk (below_step (bI HB.out) hb); (try clear hb); (try clear hb2); (try clear hk); (try clear hi); have hcz16_0 := bc0 BK107.out; have hcz16_1 := bc1 BK107.out; have hfz16_0 := blk_frozen BK107.out 0; have hfz16_1 := blk_frozen BK107.out 1) | (go_at_call 77; (with_reducible refine (spec_l1In.calls a2 0 (wrap64 (a0_0 - 1)) true _ A10.out).mono ?_); rintro e w' ⟨rfl, ⟨nd, rfl⟩⟩; (try first | exact ⟨rfl, _, World.drewN_drewN _ _ _⟩ | exact ⟨rfl, _, Eq.trans (World.drewN_drewN _ _ _) (congrArg (World.drewN _) (Nat.add_assoc _ _ _))⟩))); try go_wp2_with (first | ((with_reducible refine gate_dst (N := 3) rfl ?_); refine box_event ?hg (N := 3) ?hd (cs := #[.int .i64 a0_0, .int .i64 a0_1]) (t := 37) ?hr ?_; (case hd => rfl); (case hg => rfl); (case hr => first | (go_simp; done) | (go_simp; rfl)); intro gb107 hg w13 hbox hb; have BK107 := Aside0.mk (hbox); have GW107 := Aside0.mk ((by rw [hg]; exact (below_size (bI HB.out)) : w.heap.size ≤ gb107)); have GJ107 := GeI.mk GW107.out; have GE107 := Aside0.mk ((by rw [hg]; exact (below_size (bI HB.out)) : w.heap.size ≤ gb107)); have GI107 := GeI.mk GE107.out; replace HB := Aside0.mk (below_step (bI HB.out) hb); clear hb hbox hg; have hcz14_0 := bc0 BK107.out; have hcz14_1 := bc1 BK107.out; have hfz14_0 := blk_frozen BK107.out 0; have hfz14_1 := blk_frozen BK107.out 1) | (go_at_call 69; (with_reducible refine (spec_ConfOk.calls a0_0 a0_1 true _ A4.out).mono ?_); rintro e w15 ⟨rfl, hb⟩; replace BK107 := Aside0.mk (blk_below (g := gb107) (o := .cells #[.int .i64 a0_0, .int .i64 a0_1] 37 (0, 0)) (kI BK107.out) hb); replace HB := Aside0.mk (below_step (bI HB.out) hb); (try clear hb); (try clear hb2); (try clear hk); (try clear hi); have hcz16_0 := bc0 BK107.out; have hcz16_1 := bc1 BK107.out; have hfz16_0 := blk_frozen BK107.out 0; have hfz16_1 := blk_frozen BK107.out 1) | (go_at_call 77; (with_reducible refine (spec_l1In.calls a2 0 (wrap64 (a0_0 - 1)) true _ A10.out).mono ?_); rintro e w' ⟨rfl, ⟨nd, rfl⟩⟩; (try first | exact ⟨rfl, _, World.drewN_drewN _ _ _⟩ | exact ⟨rfl, _, Eq.trans (World.drewN_drewN _ _ _) (congrArg (World.drewN _) (Nat.add_assoc _ _ _))⟩))))
        go_ret
        exact ⟨by first | rfl | (simp [errW_none, errW_some] <;> rfl) | (simp [*, errW_none, errW_some] <;> rfl), bI HB.out⟩
      · replace c11 := Bool.eq_false_iff.mpr c11
        subst c11
        rw [if_neg (show ¬ (false = true) by decide)] at H
        obtain rfl := Option.some.inj H
        go_enter Try.func49, Try.ntmps49
        go_wp2_with (first | ((with_reducible refine gate_dst (N := 3) rfl ?_); refine box_event ?hg (N := 3) ?hd (cs := #[.int .i64 a0_0, .int .i64 a0_1]) (t := 37) ?hr ?_; (case hd => rfl); (case hg => rfl); (case hr => first | (go_simp; done) | (go_simp; rfl)); intro gb107 hg w17 hbox hb; have BK107 := Aside0.mk (hbox); have GW107 := Aside0.mk ((by rw [hg]; exact (below_size (bI HB.out)) : w.heap.size ≤ gb107)); have GJ107 := GeI.mk GW107.out; have GE107 := Aside0.mk ((by rw [hg]; exact (below_size (bI HB.out)) : w.heap.size ≤ gb107)); have GI107 := GeI.mk GE107.out; replace HB := Aside0.mk (below_step (bI HB.out) hb); clear hb hbox hg; have hcz18_0 := bc0 BK107.out; have hcz18_1 := bc1 BK107.out; have hfz18_0 := blk_frozen BK107.out 0; have hfz18_1 := blk_frozen BK107.out 1) | (go_at_call 69; (with_reducible refine (spec_ConfOk.calls a0_0 a0_1 true _ A4.out).mono ?_); rintro e w19 ⟨rfl, hb⟩; replace BK107 := Aside0.mk (blk_below (g := gb107) (o := .cells #[.int .i64 a0_0, .int .i64 a0_1] 37 (0, 0)) (kI BK107.out) hb); replace HB := Aside0.mk (below_step (bI HB.out) hb); (try clear hb); (try clear hb2); (try clear hk); (try clear hi); have hcz20_0 := bc0 BK107.out; have hcz20_1 := bc1 BK107.out; have hfz20_0 := blk_frozen BK107.out 0; have hfz20_1 := blk_frozen BK107.out 1) | (go_at_call 77; (with_reducible refine (spec_l1In.calls a2 0 (wrap64 (a0_0 - 1)) false _ A10.out).mono ?_); rintro e w' ⟨rfl, ⟨nd, rfl⟩⟩; (try first | exact ⟨rfl, _, World.drewN_drewN _ _ _⟩ | exact ⟨rfl, _, Eq.trans (World.drewN_drewN _ _ _) (congrArg (World.drewN _) (Nat.add_assoc _ _ _))⟩)))
        repeat (go_quiet (first | ((with_reducible refine gate_dst (N := 3) rfl ?_); refine box_event ?hg (N := 3) ?hd (cs := #[.int .i64 a0_0, .int .i64 a0_1]) (t := 37) ?hr ?_; (case hd => rfl); (case hg => rfl); (case hr => first | (go_simp; done) | (go_simp; rfl)); intro gb107 hg w17 hbox hb; have BK107 := Aside0.mk (hbox); have GW107 := Aside0.mk ((by rw [hg]; exact (below_size (bI HB.out)) : w.heap.size ≤ gb107)); have GJ107 := GeI.mk GW107.out; have GE107 := Aside0.mk ((by rw [hg]; exact (below_size (bI HB.out)) : w.heap.size ≤ gb107)); have GI107 := GeI.mk GE107.out; replace HB := Aside0.mk (below_step (bI HB.out) hb); clear hb hbox hg; have hcz18_0 := bc0 BK107.out; have hcz18_1 := bc1 BK107.out; have hfz18_0 := blk_frozen BK107.out 0; have hfz18_1 := blk_frozen BK107.out 1) | (go_at_call 69; (with_reducible refine (spec_ConfOk.calls a0_0 a0_1 true _ A4.out).mono ?_); rintro e w19 ⟨rfl, hb⟩; replace BK107 := Aside0.mk (blk_below (g := gb107) (o := .cells #[.int .i64 a0_0, .int .i64 a0_1] 37 (0, 0)) (kI BK107.out) hb); replace HB := Aside0.mk (below_step (bI HB.out) hb); (try clear hb); (try clear hb2); (try clear hk); (try clear hi); have hcz20_0 := bc0 BK107.out; have hcz20_1 := bc1 BK107.out; have hfz20_0 := blk_frozen BK107.out 0; have hfz20_1 := blk_frozen BK107.out 1) | (go_at_call 77; (with_reducible refine (spec_l1In.calls a2 0 (wrap64 (a0_0 - 1)) false _ A10.out).mono ?_); rintro e w' ⟨rfl, ⟨nd, rfl⟩⟩; (try first | exact ⟨rfl, _, World.drewN_drewN _ _ _⟩ | exact ⟨rfl, _, Eq.trans (World.drewN_drewN _ _ _) (congrArg (World.drewN _) (Nat.add_assoc _ _ _))⟩))); try go_wp2_with (first | ((with_reducible refine gate_dst (N := 3) rfl ?_); refine box_event ?hg (N := 3) ?hd (cs := #[.int .i64 a0_0, .int .i64 a0_1]) (t := 37) ?hr ?_; (case hd => rfl); (case hg => rfl); (case hr => first | (go_simp; done) | (go_simp; rfl)); intro gb107 hg w17 hbox hb; have BK107 := Aside0.mk (hbox); have GW107 := Aside0.mk ((by rw [hg]; exact (below_size (bI HB.out)) : w.heap.size ≤ gb107)); have GJ107 := GeI.mk GW107.out; have GE107 := Aside0.mk ((by rw [hg]; exact (below_size (bI HB.out)) : w.heap.size ≤ gb107)); have GI107 := GeI.mk GE107.out; replace HB := Aside0.mk (below_step (bI HB.out) hb); clear hb hbox hg; have hcz18_0 := bc0 BK107.out; have hcz18_1 := bc1 BK107.out; have hfz18_0 := blk_frozen BK107.out 0; have hfz18_1 := blk_frozen BK107.out 1) | (go_at_call 69; (with_reducible refine (spec_ConfOk.calls a0_0 a0_1 true _ A4.out).mono ?_); rintro e w19 ⟨rfl, hb⟩; replace BK107 := Aside0.mk (blk_below (g := gb107) (o := .cells #[.int .i64 a0_0, .int .i64 a0_1] 37 (0, 0)) (kI BK107.out) hb); replace HB := Aside0.mk (below_step (bI HB.out) hb); (try clear hb); (try clear hb2); (try clear hk); (try clear hi); have hcz20_0 := bc0 BK107.out; have hcz20_1 := bc1 BK107.out; have hfz20_0 := blk_frozen BK107.out 0; have hfz20_1 := blk_frozen BK107.out 1) | (go_at_call 77; (with_reducible refine (spec_l1In.calls a2 0 (wrap64 (a0_0 - 1)) false _ A10.out).mono ?_); rintro e w' ⟨rfl, ⟨nd, rfl⟩⟩; (try first | exact ⟨rfl, _, World.drewN_drewN _ _ _⟩ | exact ⟨rfl, _, Eq.trans (World.drewN_drewN _ _ _) (congrArg (World.drewN _) (Nat.add_assoc _ _ _))⟩))))
        go_ret
        exact ⟨by first | rfl | (simp [errW_none, errW_some] <;> rfl) | (simp [*, errW_none, errW_some] <;> rfl), bI HB.out⟩
  · replace c5 := Bool.eq_false_iff.mpr c5
    subst c5
    rw [if_neg (show ¬ (false = true) by decide)] at H
    obtain rfl := Option.some.inj H
    go_enter Try.func49, Try.ntmps49
    go_wp2_with (first | ((with_reducible refine gate_dst (N := 3) rfl ?_); refine box_event ?hg (N := 3) ?hd (cs := #[.int .i64 a0_0, .int .i64 a0_1]) (t := 37) ?hr ?_; (case hd => rfl); (case hg => rfl); (case hr => first | (go_simp; done) | (go_simp; rfl)); intro gb107 hg w21 hbox hb; have BK107 := Aside0.mk (hbox); have GW107 := Aside0.mk ((by rw [hg]; exact (below_size (bI HB.out)) : w.heap.size ≤ gb107)); have GJ107 := GeI.mk GW107.out; have GE107 := Aside0.mk ((by rw [hg]; exact (below_size (bI HB.out)) : w.heap.size ≤ gb107)); have GI107 := GeI.mk GE107.out; replace HB := Aside0.mk (below_step (bI HB.out) hb); clear hb hbox hg; have hcz22_0 := bc0 BK107.out; have hcz22_1 := bc1 BK107.out; have hfz22_0 := blk_frozen BK107.out 0; have hfz22_1 := blk_frozen BK107.out 1) | (go_at_call 69; (with_reducible refine (spec_ConfOk.calls a0_0 a0_1 false _ A4.out).mono ?_); rintro e w23 ⟨rfl, hb⟩; replace BK107 := Aside0.mk (blk_below (g := gb107) (o := .cells #[.int .i64 a0_0, .int .i64 a0_1] 37 (0, 0)) (kI BK107.out) hb); replace HB := Aside0.mk (below_step (bI HB.out) hb); (try clear hb); (try clear hb2); (try clear hk); (try clear hi)))
    repeat (go_quiet (first | ((with_reducible refine gate_dst (N := 3) rfl ?_); refine box_event ?hg (N := 3) ?hd (cs := #[.int .i64 a0_0, .int .i64 a0_1]) (t := 37) ?hr ?_; (case hd => rfl); (case hg => rfl); (case hr => first | (go_simp; done) | (go_simp; rfl)); intro gb107 hg w21 hbox hb; have BK107 := Aside0.mk (hbox); have GW107 := Aside0.mk ((by rw [hg]; exact (below_size (bI HB.out)) : w.heap.size ≤ gb107)); have GJ107 := GeI.mk GW107.out; have GE107 := Aside0.mk ((by rw [hg]; exact (below_size (bI HB.out)) : w.heap.size ≤ gb107)); have GI107 := GeI.mk GE107.out; replace HB := Aside0.mk (below_step (bI HB.out) hb); clear hb hbox hg; have hcz22_0 := bc0 BK107.out; have hcz22_1 := bc1 BK107.out; have hfz22_0 := blk_frozen BK107.out 0; have hfz22_1 := blk_frozen BK107.out 1) | (go_at_call 69; (with_reducible refine (spec_ConfOk.calls a0_0 a0_1 false _ A4.out).mono ?_); rintro e w23 ⟨rfl, hb⟩; replace BK107 := Aside0.mk (blk_below (g := gb107) (o := .cells #[.int .i64 a0_0, .int .i64 a0_1] 37 (0, 0)) (kI BK107.out) hb); replace HB := Aside0.mk (below_step (bI HB.out) hb); (try clear hb); (try clear hb2); (try clear hk); (try clear hi))); try go_wp2_with (first | ((with_reducible refine gate_dst (N := 3) rfl ?_); refine box_event ?hg (N := 3) ?hd (cs := #[.int .i64 a0_0, .int .i64 a0_1]) (t := 37) ?hr ?_; (case hd => rfl); (case hg => rfl); (case hr => first | (go_simp; done) | (go_simp; rfl)); intro gb107 hg w21 hbox hb; have BK107 := Aside0.mk (hbox); have GW107 := Aside0.mk ((by rw [hg]; exact (below_size (bI HB.out)) : w.heap.size ≤ gb107)); have GJ107 := GeI.mk GW107.out; have GE107 := Aside0.mk ((by rw [hg]; exact (below_size (bI HB.out)) : w.heap.size ≤ gb107)); have GI107 := GeI.mk GE107.out; replace HB := Aside0.mk (below_step (bI HB.out) hb); clear hb hbox hg; have hcz22_0 := bc0 BK107.out; have hcz22_1 := bc1 BK107.out; have hfz22_0 := blk_frozen BK107.out 0; have hfz22_1 := blk_frozen BK107.out 1) | (go_at_call 69; (with_reducible refine (spec_ConfOk.calls a0_0 a0_1 false _ A4.out).mono ?_); rintro e w23 ⟨rfl, hb⟩; replace BK107 := Aside0.mk (blk_below (g := gb107) (o := .cells #[.int .i64 a0_0, .int .i64 a0_1] 37 (0, 0)) (kI BK107.out) hb); replace HB := Aside0.mk (below_step (bI HB.out) hb); (try clear hb); (try clear hb2); (try clear hk); (try clear hi))))
    go_ret
    exact ⟨by first | rfl | (simp [errW_none, errW_some] <;> rfl) | (simp [*, errW_none, errW_some] <;> rfl), bI HB.out⟩

/-! ### spec_Up: function 52 -/
def spec_Up.f (a0_0 : Int) (a0_1 : Int) (a1 : Int) (a2 : Int) : Option (Int) := (spec_Seat.f a0_0 a0_1 a1 a2).bind fun t111 => (if t111 ≤ 0 then (some (-1)) else (if a0_1 = 0 then (none) else ((spec_Sits.f a0_0 a0_1 a1 (wrap64 (Int.tdiv (wrap64 (t111 - 1)) a0_1))).bind fun t112 => (some t112))))
def spec_Up.T4 : Bool × List (List Nat × List Nat) := (true, [([], []), ([], []), ([], []), ([2], [2]), ([], []), ([4], [4]), ([3, 5], [3, 5]), ([0, 1, 6], [0, 1, 6]), ([7, 7, 0, 1, 2, 3, 4, 5, 6, 7], [7])])
def spec_Up.B4 : List Nat := [0, 0, 0, 4, 0, 16, 60, 127, 255]
theorem spec_Up.tab4 : rtab .any (opsOf Try.f52 4) = spec_Up.T4 := by kernel_rfl
theorem spec_Up.bits4 : waitsOk spec_Up.T4.2 spec_Up.B4 = true := by kernel_rfl
set_option maxHeartbeats 8000000 in
set_option maxRecDepth 100000 in
theorem spec_Up.calls (a0_0 : Int) (a0_1 : Int) (a1 : Int) (a2 : Int) (r : Int) (w : World) (h : spec_Up.f a0_0 a0_1 a1 a2 = some r) :
    Calls Try.prog 52 #[.agg #[.int .i64 a0_0, .int .i64 a0_1], .int .i64 a1, .int .i64 a2] w fun e w' => e = .returned (.int .i64 r) ∧ Below w.heap.size w w' := by
  have hu37 := Try.underlying37
  have HB := Aside0.mk (Below.refl w.heap.size w)
  have H : ((spec_Seat.f a0_0 a0_1 a1 a2).bind fun t111 => (if t111 ≤ 0 then (some (-1)) else (if a0_1 = 0 then (none) else ((spec_Sits.f a0_0 a0_1 a1 (wrap64 (Int.tdiv (wrap64 (t111 - 1)) a0_1))).bind fun t112 => (some t112))))) = some r := h
  clear h
  obtain ⟨t111, A40, H⟩ := Option.bind_eq_some_iff.mp H
  try dsimp only at H
  have A4 := Aside0.mk A40
  clear A40
  by_cases c5 : t111 ≤ 0
  · rw [if_pos c5] at H
    have c5b0 : decide (t111 ≤ 0) = true := decide_eq_true c5
    clear c5
    obtain rfl := Option.some.inj H
    go_enter Try.func52, Try.ntmps52
    go_wp2_with (first | ((with_reducible refine gate_dst (N := 3) rfl ?_); refine box_event ?hg (N := 3) ?hd (cs := #[.int .i64 a0_0, .int .i64 a0_1]) (t := 37) ?hr ?_; (case hd => rfl); (case hg => rfl); (case hr => first | (go_simp; done) | (go_simp; rfl)); intro gb110 hg w6 hbox hb; have BK110 := Aside0.mk (hbox); have GW110 := Aside0.mk ((by rw [hg]; exact (below_size (bI HB.out)) : w.heap.size ≤ gb110)); have GJ110 := GeI.mk GW110.out; have GE110 := Aside0.mk ((by rw [hg]; exact (below_size (bI HB.out)) : w.heap.size ≤ gb110)); have GI110 := GeI.mk GE110.out; replace HB := Aside0.mk (below_step (bI HB.out) hb); clear hb hbox hg; have hcz7_0 := bc0 BK110.out; have hcz7_1 := bc1 BK110.out; have hfz7_0 := blk_frozen BK110.out 0; have hfz7_1 := blk_frozen BK110.out 1) | ((with_reducible refine gate_callee (f := 51) rfl ?_); refine goesL_ (some 11) rfl rfl Try.func51 (by kernel_rfl) rfl #[.agg #[.int .i64 a0_0, .int .i64 a0_1], .int .i64 a1, .int .i64 a2] rfl (by (try simp only [List.map_toArray, List.map_cons, List.map_nil]); first | done | rfl | (simp only [List.length_drop, List.length_take]; rfl)) ?_; (with_reducible refine (spec_Seat.calls a0_0 a0_1 a1 a2 t111 _ A4.out).mono ?_); rintro e w8 ⟨rfl, hb⟩; refine ⟨_, rfl, ?_⟩; replace BK110 := Aside0.mk (blk_below (g := gb110) (o := .cells #[.int .i64 a0_0, .int .i64 a0_1] 37 (0, 0)) (kI BK110.out) hb); replace HB := Aside0.mk (below_step (bI HB.out) hb); (try clear hb); (try clear hb2); (try clear hk); (try clear hi)))
    go_ret
    exact ⟨by first | rfl | (simp [errW_none, errW_some] <;> rfl) | (simp [*, errW_none, errW_some] <;> rfl), bI HB.out⟩
  · rw [if_neg c5] at H
    have c5b0 : decide (t111 ≤ 0) = false := decide_eq_false c5
    clear c5
    by_cases c9 : a0_1 = 0
    · rw [if_pos c9] at H
      exact absurd H (by simp)
    rw [if_neg c9] at H
    have c9b0 : (a0_1 == 0) = false := beq_eq_false_iff_ne.mpr c9
    have c9b1 : (a0_1 != 0) = true := bne_iff_ne.mpr c9
    obtain ⟨t112, A100, H⟩ := Option.bind_eq_some_iff.mp H
    try dsimp only at H
    have A10 := Aside0.mk A100
    clear A100
    obtain rfl := Option.some.inj H
    go_enter Try.func52, Try.ntmps52
    try go_wp2_with (first | ((with_reducible refine gate_dst (N := 3) rfl ?_); refine box_event ?hg (N := 3) ?hd (cs := #[.int .i64 a0_0, .int .i64 a0_1]) (t := 37) ?hr ?_; (case hd => rfl); (case hg => rfl); (case hr => first | (go_simp; done) | (go_simp; rfl)); intro gb110 hg w11 hbox hb; have BK110 := Aside0.mk (hbox); have GW110 := Aside0.mk ((by rw [hg]; exact (below_size (bI HB.out)) : w.heap.size ≤ gb110)); have GJ110 := GeI.mk GW110.out; have GE110 := Aside0.mk ((by rw [hg]; exact (below_size (bI HB.out)) : w.heap.size ≤ gb110)); have GI110 := GeI.mk GE110.out; replace HB := Aside0.mk (below_step (bI HB.out) hb); clear hb hbox hg; have hcz12_0 := bc0 BK110.out; have hcz12_1 := bc1 BK110.out; have hfz12_0 := blk_frozen BK110.out 0; have hfz12_1 := blk_frozen BK110.out 1) | ((with_reducible refine gate_callee (f := 51) rfl ?_); refine goesL_ (some 11) rfl rfl Try.func51 (by kernel_rfl) rfl #[.agg #[.int .i64 a0_0, .int .i64 a0_1], .int .i64 a1, .int .i64 a2] rfl (by (try simp only [List.map_toArray, List.map_cons, List.map_nil]); first | done | rfl | (simp only [List.length_drop, List.length_take]; rfl)) ?_; (with_reducible refine (spec_Seat.calls a0_0 a0_1 a1 a2 t111 _ A4.out).mono ?_); rintro e w13 ⟨rfl, hb⟩; refine ⟨_, rfl, ?_⟩; replace BK110 := Aside0.mk (blk_below (g := gb110) (o := .cells #[.int .i64 a0_0, .int .i64 a0_1] 37 (0, 0)) (kI BK110.out) hb); replace HB := Aside0.mk (below_step (bI HB.out) hb); (try clear hb); (try clear hb2); (try clear hk); (try clear hi)))
    replace BK110 := Aside0.mk (blk_drew BK110.out)
    replace HB := Aside0.mk (below_drew1 HB.out)
    refine start_ (n := 9) (S := fun w' => w'.cell? ⟨gb110, 0, none⟩ = some (.int .i64 a0_0) ∧ w'.cell? ⟨gb110, 1, none⟩ = some (.int .i64 a0_1)) (ds := []) #[false, false, false, false, false, false, false, false, false] (by kernel_rfl) rfl rfl ⟨(blk_cell BK110.out 0).trans rfl, (blk_cell BK110.out 1).trans rfl⟩ (fun hHeld => ?_); refine with_tabW spec_Up.tab4 spec_Up.bits4 (fun HT_ HW_ => ?_)
    generalize w13.drew = w14 at BK110 HB hHeld ⊢
    refine pure_ (i := 1) (N := some 15) (v := ?_) (a' := ?_) #[false, true, false, false, false, false, false, false, false] rfl rfl (any_of HT_.out (by kernel_rfl)) (fun _ _ _ h => h) (Or.inl ⟨by rfl, ?_⟩) ?_ ?_
    rotate_left
    · intro w'
      go_simp
      with_reducible rfl
    rotate_left
    · simp only [Act.put, List.setIfInBounds_toArray, List.set_cons_zero, List.set_cons_succ, i64_w, i32_w]
      rfl
    refine pure_ (i := 2) (N := some 16) (v := ?_) (a' := ?_) #[false, true, true, false, false, false, false, false, false] rfl rfl (any_of HT_.out (by kernel_rfl)) (fun _ _ _ h => h) (Or.inl ⟨by rfl, ?_⟩) ?_ ?_
    rotate_left
    · intro w'
      go_simp
      with_reducible rfl
    rotate_left
    · simp only [Act.put, List.setIfInBounds_toArray, List.set_cons_zero, List.set_cons_succ, i64_w, i32_w]
      rfl
    refine pure_ (i := 3) (N := some 17) (v := ?_) (a' := ?_) #[false, true, true, true, false, false, false, false, false] rfl rfl (any_of HT_.out (by kernel_rfl)) (fun _ _ _ h => h) (Or.inl ⟨by rfl, ?_⟩) ?_ ?_
    rotate_left
    · intro w'
      go_simp
      with_reducible rfl
    rotate_left
    · simp only [Act.put, List.setIfInBounds_toArray, List.set_cons_zero, List.set_cons_succ, i64_w, i32_w]
      rfl
    refine pure_ (i := 4) (N := some 18) (v := ?_) (a' := ?_) #[false, true, true, true, true, false, false, false, false] rfl rfl (any_of HT_.out (by kernel_rfl)) (fun _ _ _ h => h) (Or.inl ⟨by rfl, ?_⟩) ?_ ?_
    rotate_left
    · intro w'
      go_simp
      with_reducible rfl
    rotate_left
    · simp only [Act.put, List.setIfInBounds_toArray, List.set_cons_zero, List.set_cons_succ, i64_w, i32_w]
      rfl
    refine take_ (i := 0) (N := some 14) (v := ?_) (a' := ?_) #[true, true, true, true, true, false, false, false, false] rfl rfl (take_ofW HT_.out HW_.out (by kernel_rfl)) (fun _ _ _ h => h) (Or.inl ⟨by rfl, ?_⟩) hHeld ?_ ?_
    rotate_left
    · rintro w' ⟨s0, s1⟩
      go_simp
      with_reducible rfl
    rotate_left
    · simp only [Act.put, List.setIfInBounds_toArray, List.set_cons_zero, List.set_cons_succ, i64_w, i32_w]
      rfl
    refine take_ (i := 5) (N := some 19) (v := ?_) (a' := ?_) #[true, true, true, true, true, true, false, false, false] rfl rfl (take_ofW HT_.out HW_.out (by kernel_rfl)) (fun _ _ _ h => h) (Or.inl ⟨by rfl, ?_⟩) hHeld ?_ ?_
    rotate_left
    · rintro w' ⟨s0, s1⟩
      go_simp
      with_reducible rfl
    rotate_left
    · simp only [Act.put, List.setIfInBounds_toArray, List.set_cons_zero, List.set_cons_succ, i64_w, i32_w]
      rfl
    refine pure_ (i := 6) (N := some 20) (v := ?_) (a' := ?_) #[true, true, true, true, true, true, true, false, false] rfl rfl (any_of HT_.out (by kernel_rfl)) (fun _ _ _ h => h) (Or.inl ⟨by rfl, ?_⟩) ?_ ?_
    rotate_left
    · intro w'
      go_simp
      with_reducible rfl
    rotate_left
    · simp only [Act.put, List.setIfInBounds_toArray, List.set_cons_zero, List.set_cons_succ, i64_w, i32_w]
      rfl
    refine one_ (i := 7) (N := some 21) #[true, true, true, true, true, true, true, true, false] rfl rfl (one_of HT_.out (by kernel_rfl)) (by decide) (fun K hK => ?_)
    refine goes_ Try.func49 (by kernel_rfl) rfl #[.agg #[.int .i64 a0_0, .int .i64 a0_1], .int .i64 a1, .int .i64 (wrap64 (Int.tdiv (wrap64 (t111 - 1)) a0_1))] (by rfl) rfl rfl (by (try simp only [List.map_toArray, List.map_cons, List.map_nil]); first | done | rfl | (simp only [List.length_drop, List.length_take]; rfl)) ?_
    with_reducible refine (spec_Sits.calls a0_0 a0_1 a1 (wrap64 (Int.tdiv (wrap64 (t111 - 1)) a0_1)) t112 _ A10.out).mono ?_
    rintro e w15 ⟨rfl, hb⟩
    refine ⟨_, rfl, ?_⟩
    replace BK110 := Aside0.mk (blk_below (g := gb110) (o := .cells #[.int .i64 a0_0, .int .i64 a0_1] 37 (0, 0)) (kI BK110.out) hb)
    replace HB := Aside0.mk (below_step (bI HB.out) hb)
    (try clear hb)
    (try clear hb2)
    (try clear hk)
    (try clear hi)
    refine hK.out _ _ ⟨(blk_cell BK110.out 0).trans rfl, (blk_cell BK110.out 1).trans rfl⟩ (fun hHeld => ?_)
    clear hK K
    refine norm_ (a' := ?_) ?_ ?_
    rotate_left
    · show Act.put _ (some 21) _ = _
      simp only [Act.put, List.setIfInBounds_toArray, List.set_cons_zero, List.set_cons_succ, i64_w, i32_w]
      rfl
    refine pure_ (i := 8) (N := some 6) (v := ?_) (a' := ?_) #[true, true, true, true, true, true, true, true, true] rfl rfl (any_of HT_.out (by kernel_rfl)) (fun _ _ _ h => h) (Or.inl ⟨by rfl, ?_⟩) ?_ ?_
    rotate_left
    · intro w'
      go_simp
      with_reducible rfl
    rotate_left
    · simp only [Act.put, List.setIfInBounds_toArray, List.set_cons_zero, List.set_cons_succ, i64_w, i32_w]
      rfl
    refine done_ (done_of HT_.out (by kernel_rfl)) ?_
    try go_wp2
    go_ret
    exact ⟨by first | rfl | (simp [errW_none, errW_some] <;> rfl) | (simp [*, errW_none, errW_some] <;> rfl), bI HB.out⟩

/-! ### spec_Way: function 46 -/
def spec_Way.l0 : Nat → Int → Int → List Int → Int → Int → Option (List Int)
  | 0, _, _, _, _, _ => none
  | k + 1, x1, x2, x7, x114000, x114001 => (spec_Seat.f x114000 x114001 x1 x2).bind fun t117 => (if t117 ≥ 0 then (if x7.length < 17592186044416 then ((spec_Up.f x114000 x114001 x1 x2).bind fun t121 => (spec_Way.l0 k x1 t121 (x7 ++ [x2]) x114000 x114001)) else (none)) else (some x7))
def spec_Way.f (k : Nat) (a0_0 : Int) (a0_1 : Int) (a1 : Int) (a2 : Int) : Option (List Int) := spec_Way.l0 k a1 a2 (([] : List Int)) a0_0 a0_1
theorem spec_Way.mono_l : ∀ k, (∀ y0 y1 y2 y3 y4, LeO (spec_Way.l0 k y0 y1 y2 y3 y4) (spec_Way.l0 (k + 1) y0 y1 y2 y3 y4))
  | 0 => fun _ _ _ _ _ r h => by simp [spec_Way.l0] at h
  | k + 1 => by
    have ih0 := spec_Way.mono_l k
    · intro y0 y1 y2 y3 y4
      unfold spec_Way.l0
      repeat' first
      | (with_reducible exact ih0 _ _ _ _ _)
      | (with_reducible exact LeO.refl _)
      | (with_reducible exact LeO.none _)
      | (with_reducible refine LeO.ite ?_ ?_)
      | (with_reducible refine LeO.bind ?_ (fun _ => ?_))
      | exact ih0 _ _ _ _ _
      | exact LeO.none _
      | refine LeO.ite ?_ ?_
      | refine LeO.bind ?_ (fun _ => ?_)
theorem spec_Way.mono : ∀ a0 a1 a2 a3 k, LeO (spec_Way.f k a0 a1 a2 a3) (spec_Way.f (k + 1) a0 a1 a2 a3) := by
  intro a0 a1 a2 a3 k
  have ih0 := spec_Way.mono_l k
  unfold spec_Way.f
  repeat' first
      | (with_reducible exact ih0 _ _ _ _ _)
      | (with_reducible exact LeO.refl _)
      | (with_reducible exact LeO.none _)
      | (with_reducible refine LeO.ite ?_ ?_)
      | (with_reducible refine LeO.bind ?_ (fun _ => ?_))
      | exact ih0 _ _ _ _ _
      | exact LeO.none _
      | refine LeO.ite ?_ ?_
      | refine LeO.bind ?_ (fun _ => ?_)
set_option maxHeartbeats 8000000 in
set_option maxRecDepth 100000 in
theorem spec_Way.calls (k : Nat) (a0_0 : Int) (a0_1 : Int) (a1 : Int) (a2 : Int) (r : List Int) (w : World) (h : spec_Way.f k a0_0 a0_1 a1 a2 = some r) :
    Calls Try.prog 46 #[.agg #[.int .i64 a0_0, .int .i64 a0_1], .int .i64 a1, .int .i64 a2] w fun e w' => ∃ v0_ : Value, e = .returned (v0_) ∧ Kd.R (Kd.int .i64) 3 w' w.heap.size (fun _ => True) v0_ r ∧ Below w.heap.size w w' := by
  have hu37 := Try.underlying37
  have HB := Aside0.mk (Below.refl w.heap.size w)
  have H : (spec_Way.l0 k a1 a2 (([] : List Int)) a0_0 a0_1) = some r := h
  clear h
  obtain ⟨y114, hy114⟩ : ∃ y_ : List Int, y_ = (([] : List Int)) := ⟨_, rfl⟩
  replace H : (spec_Way.l0 k a1 a2 y114 a0_0 a0_1) = some r := by first | (rw [hy114]; with_reducible exact H) | (have H2_ := (Option.bind_some _ _).symm.trans H; rw [hy114]; with_reducible exact H2_) | (have H2_ := (Option.bind_some _ _).symm.trans H; with_reducible exact H2_) | with_reducible exact H | (rw [hy114]; exact H) | exact H
  have Ny114 := Aside0.mk hy114
  clear hy114
  have H' := Aside0.mk H
  clear H
  go_enter Try.func46, Try.ntmps46
  go_wp2_with (first | ((with_reducible refine gate_dst (N := 3) rfl ?_); refine box_event ?hg (N := 3) ?hd (cs := #[.int .i64 a0_0, .int .i64 a0_1]) (t := 37) ?hr ?_; (case hd => rfl); (case hg => rfl); (case hr => first | (go_simp; done) | (go_simp; rfl)); intro gb113 hg w4 hbox hb; have BK113 := Aside0.mk (hbox); have GW113 := Aside0.mk ((by rw [hg]; exact (below_size (bI HB.out)) : w.heap.size ≤ gb113)); have GJ113 := GeI.mk GW113.out; have GE113 := Aside0.mk ((by rw [hg]; exact (below_size (bI HB.out)) : w.heap.size ≤ gb113)); have GI113 := GeI.mk GE113.out; replace HB := Aside0.mk (below_step (bI HB.out) hb); clear hb hbox hg) | ((with_reducible refine gate_dst (N := 8) rfl ?_); refine Kd.R_lit (Kd.int .i64) _ 3 ?hg (N := 8) ?hd (xs := ([] : List Int)) (inner := []) (ok := fun _ => True) (okp := fun _ => True) ?hr ?hp (fun _ hk => hk) trivial (Below.refl _ _) (Nat.le_refl _) (by simp) ?_; (case hd => rfl); (case hg => rfl); (case hr => first | (go_simp; done) | (go_simp; rfl)); (case hp => exact (Reps.none _ _)); intro v115 w5 ho6 hb hg_ hnew_; clear hg_ hnew_; (first | rw [← Ny114.out] at ho6 | (simp only [Int.reduceToNat] at ho6; rw [← Ny114.out] at ho6)); have HO116 := Aside0.mk (Kd.R_lower ho6 (below_size (bI HB.out))); replace BK113 := Aside0.mk (blk_below (g := gb113) (o := .cells #[.int .i64 a0_0, .int .i64 a0_1] 37 (0, 0)) (kI BK113.out) hb); replace HB := Aside0.mk (below_step (bI HB.out) hb); clear hb ho6))
  go_loopg [2, 7] k (fun kq v2 v7 w' => ∃ (x2_1 : Int) (x7_1 : List Int), v2 = .int .i64 x2_1 ∧ Aside0 (spec_Way.l0 kq a1 x2_1 x7_1 a0_0 a0_1 = some r) ∧ Aside0 (kq ≤ k) ∧ Aside0 (Kd.R (Kd.int .i64) 3 w' w.heap.size (fun _ => True) v7 x7_1) ∧ Aside0 (w'.heap[gb113]? = some (.cells #[.int .i64 a0_0, .int .i64 a0_1] 37 (0, 0))) ∧ Aside0 (Below w.heap.size w w'))
  case atStart => exact ⟨(a2), (y114), (by first | rfl | (simp; done) | (simp [*]; done)), H', ⟨Nat.le_refl _⟩, ⟨by (with_reducible repeat (first | apply Kd.R_alloc | apply Kd.R_drewN | apply Kd.R_drew)); exact HO116.out⟩, ⟨gI BK113.out⟩, ⟨bI HB.out⟩⟩
  case round =>
    clear H'
    try clear p2
    try clear c4
    obtain ⟨x2_1, x7_1, rfl, HA, HK1, HO_7, BK113, HB⟩ := hrel
    cases gk with
    | zero => exact absurd HA.out (by simp [spec_Way.l0])
    | succ k1 =>
      have H := HA.out
      clear HA
      simp only [spec_Way.l0] at H
      obtain ⟨t117, A70, H⟩ := Option.bind_eq_some_iff.mp H
      try dsimp only at H
      have A7 := Aside0.mk A70
      clear A70
      by_cases c8 : t117 ≥ 0
      · rw [if_pos c8] at H
        have c8b0 : decide (0 ≤ t117) = true := decide_eq_true c8
        clear c8
        by_cases c9 : x7_1.length < 17592186044416
        rotate_left
        · rw [if_neg c9] at H
          exact absurd H (by simp)
        rw [if_pos c9] at H
        have LMc9 := Aside0.mk c9
        clear c9
        obtain ⟨y118, hy118⟩ : ∃ y_ : List Int, y_ = (x7_1 ++ [x2_1]) := ⟨_, rfl⟩
        replace H : ((spec_Up.f a0_0 a0_1 a1 x2_1).bind fun t121 => (spec_Way.l0 k1 a1 t121 y118 a0_0 a0_1)) = some r := by first | (rw [hy118]; with_reducible exact H) | (have H2_ := (Option.bind_some _ _).symm.trans H; rw [hy118]; with_reducible exact H2_) | (have H2_ := (Option.bind_some _ _).symm.trans H; with_reducible exact H2_) | with_reducible exact H | (rw [hy118]; exact H) | exact H
        have Ny118 := Aside0.mk hy118
        clear hy118
        obtain ⟨t121, A100, H⟩ := Option.bind_eq_some_iff.mp H
        try dsimp only at H
        have A10 := Aside0.mk A100
        clear A100
        have H' := Aside0.mk H
        clear H
        have hcz11_0 := bc0 BK113.out
        have hcz11_1 := bc1 BK113.out
        have hfz11_0 := blk_frozen BK113.out 0
        have hfz11_1 := blk_frozen BK113.out 1
        go_wp2_with (first | ((with_reducible refine gate_callee (f := 51) rfl ?_); refine goesL_ (some 12) rfl rfl Try.func51 (by kernel_rfl) rfl #[.agg #[.int .i64 a0_0, .int .i64 a0_1], .int .i64 a1, .int .i64 x2_1] rfl (by (try simp only [List.map_toArray, List.map_cons, List.map_nil]); first | done | rfl | (simp only [List.length_drop, List.length_take]; rfl)) ?_; (with_reducible refine (spec_Seat.calls a0_0 a0_1 a1 x2_1 t117 _ A7.out).mono ?_); rintro e w12 ⟨rfl, hb⟩; refine ⟨_, rfl, ?_⟩; replace HO_7 := Aside0.mk (Kd.R_below (rI HO_7.out) hb); replace BK113 := Aside0.mk (blk_below (g := gb113) (o := .cells #[.int .i64 a0_0, .int .i64 a0_1] 37 (0, 0)) (kI BK113.out) hb); replace HB := Aside0.mk (below_step (bI HB.out) hb); (try clear hb); (try clear hb2); (try clear hk); (try clear hi)) | ((with_reducible refine gate_builtin (b := .append) (xs := #[.tmp 14, .tmp 16]) rfl ?_); at_builtin; refine Kd.R_append (Kd.int .i64) (w0 := w) w.heap.size rfl (.tmp 14) (.tmp 16) 22 3 (.int .i64 0) 8 rfl Try.underlying22 info3 rfl (by decide) (by omega) u7 x7_1 x2_1 [.int .i64 x2_1] (fun _ => True) (fun _ => False) rfl rfl ?aP (fun _ hk => hk.elim) ?aF ?aO ?aB ?aS ?aL ?_; (case aP => exact rfl); (case aB => exact (bI HB.out)); (case aF => exact (fun _ _ => trivial)); (case aO => exact (rI HO_7.out)); (case aS => exact (below_size (bI HB.out))); (case aL => have := LMc9.out; omega); intro v119 w13 ho hb hg hat; rw [← Ny118.out] at ho; have n0_ := Aside0.mk (blk_grown (g := gb113) (o := .cells #[.int .i64 a0_0, .int .i64 a0_1] 37 (0, 0)) (kI BK113.out) hg (Kd.R_ne HO_7.out BK113.out (by decide))); have n1_ := Aside0.mk (hb); have n2_ := Aside0.mk (ho); clear BK113; clear HB; clear HO_7; have BK113 := n0_; have HB := n1_; have HO120 := n2_; clear n0_ n1_ n2_; clear ho hb hg hat; have hcz14_0 := bc0 BK113.out; have hcz14_1 := bc1 BK113.out; have hfz14_0 := blk_frozen BK113.out 0; have hfz14_1 := blk_frozen BK113.out 1) | ((with_reducible refine gate_callee (f := 52) rfl ?_); refine goesL_ (some 21) rfl rfl Try.func52 (by kernel_rfl) rfl #[.agg #[.int .i64 a0_0, .int .i64 a0_1], .int .i64 a1, .int .i64 x2_1] rfl (by (try simp only [List.map_toArray, List.map_cons, List.map_nil]); first | done | rfl | (simp only [List.length_drop, List.length_take]; rfl)) ?_; (with_reducible refine (spec_Up.calls a0_0 a0_1 a1 x2_1 t121 _ A10.out).mono ?_); rintro e w15 ⟨rfl, hb⟩; refine ⟨_, rfl, ?_⟩; have n0_ := Aside0.mk (Kd.R_below (rI HO120.out) hb); have n1_ := Aside0.mk (blk_below (g := gb113) (o := .cells #[.int .i64 a0_0, .int .i64 a0_1] 37 (0, 0)) (kI BK113.out) hb); have n2_ := Aside0.mk (below_step (bI HB.out) hb); clear HO120; clear BK113; clear HB; have HO120 := n0_; have BK113 := n1_; have HB := n2_; clear n0_ n1_ n2_; (try clear hb); (try clear hb2); (try clear hk); (try clear hi)))
        go_roundg k1
        case measure => have := HK1.out; omega
        case rel => exact ⟨(t121), (y118), (by first | rfl | (simp; done) | (simp [*]; done)), H', ⟨by have := HK1.out; omega⟩, ⟨by (with_reducible repeat (first | apply Kd.R_alloc | apply Kd.R_drewN | apply Kd.R_drew)); exact HO120.out⟩, ⟨gI BK113.out⟩, ⟨bI HB.out⟩⟩
      · rw [if_neg c8] at H
        have c8b0 : decide (0 ≤ t117) = false := decide_eq_false c8
        clear c8
        obtain rfl := Option.some.inj H
        have hcz16_0 := bc0 BK113.out
        have hcz16_1 := bc1 BK113.out
        have hfz16_0 := blk_frozen BK113.out 0
        have hfz16_1 := blk_frozen BK113.out 1
        go_wp2_with (first | ((with_reducible refine gate_callee (f := 51) rfl ?_); refine goesL_ (some 12) rfl rfl Try.func51 (by kernel_rfl) rfl #[.agg #[.int .i64 a0_0, .int .i64 a0_1], .int .i64 a1, .int .i64 x2_1] rfl (by (try simp only [List.map_toArray, List.map_cons, List.map_nil]); first | done | rfl | (simp only [List.length_drop, List.length_take]; rfl)) ?_; (with_reducible refine (spec_Seat.calls a0_0 a0_1 a1 x2_1 t117 _ A7.out).mono ?_); rintro e w17 ⟨rfl, hb⟩; refine ⟨_, rfl, ?_⟩; replace HO_7 := Aside0.mk (Kd.R_below (rI HO_7.out) hb); replace BK113 := Aside0.mk (blk_below (g := gb113) (o := .cells #[.int .i64 a0_0, .int .i64 a0_1] 37 (0, 0)) (kI BK113.out) hb); replace HB := Aside0.mk (below_step (bI HB.out) hb); (try clear hb); (try clear hb2); (try clear hk); (try clear hi)))
        go_ret
        exact ⟨_, by first | rfl | (simp [errW_none, errW_some] <;> rfl) | (simp [*, errW_none, errW_some] <;> rfl), by (with_reducible repeat (first | apply Kd.R_alloc | apply Kd.R_drewN | apply Kd.R_drew)); exact HO_7.out, bI HB.out⟩

/-! ### spec_SetHas: function 70 -/
def spec_SetHas.l0 : Nat → List Int → Int → Int → Option (Bool)
  | 0, _, _, _ => none
  | k + 1, x0, x1, x5 => if x5 < (x0.length : Int) then (if 0 ≤ x5 then (if (rd x0 x5) = x1 then (some true) else (spec_SetHas.l0 k x0 x1 (wrap64 (x5 + 1)))) else (none)) else (some false)
def spec_SetHas.f (k : Nat) (l0 : List Int) (a1 : Int) : Option (Bool) := spec_SetHas.l0 k l0 a1 0
theorem spec_SetHas.mono_l : ∀ k, (∀ y0 y1 y2, LeO (spec_SetHas.l0 k y0 y1 y2) (spec_SetHas.l0 (k + 1) y0 y1 y2))
  | 0 => fun _ _ _ r h => by simp [spec_SetHas.l0] at h
  | k + 1 => by
    have ih0 := spec_SetHas.mono_l k
    · intro y0 y1 y2
      unfold spec_SetHas.l0
      repeat' first
      | (with_reducible exact ih0 _ _ _)
      | (with_reducible exact LeO.refl _)
      | (with_reducible exact LeO.none _)
      | (with_reducible refine LeO.ite ?_ ?_)
      | (with_reducible refine LeO.bind ?_ (fun _ => ?_))
      | exact ih0 _ _ _
      | exact LeO.none _
      | refine LeO.ite ?_ ?_
      | refine LeO.bind ?_ (fun _ => ?_)
theorem spec_SetHas.mono : ∀ a0 a1 k, LeO (spec_SetHas.f k a0 a1) (spec_SetHas.f (k + 1) a0 a1) := by
  intro a0 a1 k
  have ih0 := spec_SetHas.mono_l k
  unfold spec_SetHas.f
  repeat' first
      | (with_reducible exact ih0 _ _ _)
      | (with_reducible exact LeO.refl _)
      | (with_reducible exact LeO.none _)
      | (with_reducible refine LeO.ite ?_ ?_)
      | (with_reducible refine LeO.bind ?_ (fun _ => ?_))
      | exact ih0 _ _ _
      | exact LeO.none _
      | refine LeO.ite ?_ ?_
      | refine LeO.bind ?_ (fun _ => ?_)
set_option maxHeartbeats 8000000 in
set_option maxRecDepth 100000 in
theorem spec_SetHas.calls (k : Nat) (A0 : Option Addr) (c0 : Nat) (l0 : List Int) (a1 : Int) (r : Bool) (w : World) (hr0 : Kd.C (Kd.int .i64) w A0 l0.length l0) (hc0 : l0.length ≤ c0) (h : spec_SetHas.f k l0 a1 = some r) :
    Calls Try.prog 70 #[.slice A0 l0.length c0, .int .i64 a1] w fun e w' => e = .returned (.bool r) ∧ Drawn0 w w' := by
  have HR0 := Aside0.mk hr0
  have HC0 := Aside0.mk hc0
  clear hr0 hc0
  have H : (spec_SetHas.l0 k l0 a1 0) = some r := h
  clear h
  have H' := Aside0.mk H
  clear H
  go_enter Try.func70, Try.ntmps70
  go_wp2
  go_loopg [5] k (fun kq v5 w' => ∃ (x5_1 : Int), v5 = .int .i64 x5_1 ∧ Aside0 (spec_SetHas.l0 kq l0 a1 x5_1 = some r) ∧ Aside0 (kq ≤ k) ∧ Drawn0 w w')
  case atStart => exact ⟨(0), (by first | rfl | (simp; done) | (simp [*]; done)), H', ⟨Nat.le_refl _⟩, by repeat (first | exact Drawn0.refl _ | apply Drawn0.step)⟩
  case round =>
    clear H'
    try clear p2
    obtain ⟨x5_1, rfl, HA, HK1, ⟨m1, rfl⟩⟩ := hrel
    cases gk with
    | zero => exact absurd HA.out (by simp [spec_SetHas.l0])
    | succ k1 =>
      have H := HA.out
      clear HA
      simp only [spec_SetHas.l0] at H
      by_cases c3 : x5_1 < (l0.length : Int)
      · rw [if_pos c3] at H
        have c3b0 : decide (x5_1 < (l0.length : Int)) = true := decide_eq_true c3
        clear c3
        by_cases c4 : 0 ≤ x5_1
        rotate_left
        · rw [if_neg c4] at H
          exact absurd H (by simp)
        rw [if_pos c4] at H
        have c4b0 : decide (0 ≤ x5_1) = true := decide_eq_true c4
        clear c4
        by_cases c5 : (rd l0 x5_1) = a1
        · rw [if_pos c5] at H
          have c5b0 : ((rd l0 x5_1) == a1) = true := beq_iff_eq.mpr c5
          have c5b1 : ((rd l0 x5_1) != a1) = false := bne_eq_false_iff_eq.mpr c5
          clear c5
          obtain rfl := Option.some.inj H
          have p122 : 0 ≤ (x5_1 : Int) := of_decide_eq_true (by first | (with_reducible assumption) | assumption)
          have q122 : x5_1 < (l0.length : Int) := of_decide_eq_true (by first | (with_reducible assumption) | assumption)
          obtain ⟨ad122, e122, hx122_0⟩ := Kd.at_int HR0.out x5_1 p122 q122
          cases e122
          replace p122 := eq_true p122
          replace q122 := eq_true q122
          go_wp2
          go_ret
          exact ⟨by first | rfl | (simp; done) | (simp [*]; done), by repeat (first | exact Drawn0.refl _ | apply Drawn0.step)⟩
        · rw [if_neg c5] at H
          have c5b0 : ((rd l0 x5_1) == a1) = false := beq_eq_false_iff_ne.mpr c5
          have c5b1 : ((rd l0 x5_1) != a1) = true := bne_iff_ne.mpr c5
          have H' := Aside0.mk H
          clear H
          have p122 : 0 ≤ (x5_1 : Int) := of_decide_eq_true (by first | (with_reducible assumption) | assumption)
          have q122 : x5_1 < (l0.length : Int) := of_decide_eq_true (by first | (with_reducible assumption) | assumption)
          obtain ⟨ad122, e122, hx122_0⟩ := Kd.at_int HR0.out x5_1 p122 q122
          cases e122
          replace p122 := eq_true p122
          replace q122 := eq_true q122
          go_wp2
          go_roundg k1
          case measure => have := HK1.out; omega
          case rel => exact ⟨(wrap64 (x5_1 + 1)), (by first | rfl | (simp; done) | (simp [*]; done)), H', ⟨by have := HK1.out; omega⟩, by repeat (first | exact Drawn0.refl _ | apply Drawn0.step)⟩
      · rw [if_neg c3] at H
        have c3b0 : decide (x5_1 < (l0.length : Int)) = false := decide_eq_false c3
        clear c3
        obtain rfl := Option.some.inj H
        go_wp2
        go_ret
        exact ⟨by first | rfl | (simp; done) | (simp [*]; done), by repeat (first | exact Drawn0.refl _ | apply Drawn0.step)⟩

/-! ### spec_Under: function 17 -/
mutual
def spec_Under.l0 : Nat → Int → Int → List Int → Int → Int → Int → Option (List Int)
  | 0, _, _, _, _, _, _ => none
  | k + 1, x1, x2, x7, x8, x124000, x124001 => if x8 < x124000 then ((spec_Seat.f x124000 x124001 x1 x2).bind fun t128 => (spec_Under.j1 k x1 x2 x7 x8 (decide (t128 ≥ 0)) x124000 x124001)) else (spec_Under.j1 k x1 x2 x7 x8 false x124000 x124001)
def spec_Under.j1 : Nat → Int → Int → List Int → Int → Bool → Int → Int → Option (List Int)
  | 0, _, _, _, _, _, _, _ => none
  | k + 1, x1, x2, x7, x8, x24, x124000, x124001 => if x24 = true then ((spec_Way.f k x124000 x124001 x1 x8).bind fun t129 => ((spec_SetHas.f k t129 x2).bind fun t132 => (if t132 = true then (if x7.length < 17592186044416 then (spec_Under.l0 k x1 x2 (x7 ++ [x8]) (wrap64 (x8 + 1)) x124000 x124001) else (none)) else (spec_Under.l0 k x1 x2 x7 (wrap64 (x8 + 1)) x124000 x124001)))) else (some x7)
end
def spec_Under.f (k : Nat) (a0_0 : Int) (a0_1 : Int) (a1 : Int) (a2 : Int) : Option (List Int) := (some (([] : List Int) : List Int)).bind fun y124 => ((spec_ConfOk.f a0_0 a0_1).bind fun t127 => (if t127 = true then (spec_Under.l0 k a1 a2 y124 0 a0_0 a0_1) else (some y124)))
theorem spec_Under.mono_l : ∀ k, (∀ y0 y1 y2 y3 y4 y5, LeO (spec_Under.l0 k y0 y1 y2 y3 y4 y5) (spec_Under.l0 (k + 1) y0 y1 y2 y3 y4 y5)) ∧ (∀ y0 y1 y2 y3 y4 y5 y6, LeO (spec_Under.j1 k y0 y1 y2 y3 y4 y5 y6) (spec_Under.j1 (k + 1) y0 y1 y2 y3 y4 y5 y6))
  | 0 => ⟨fun _ _ _ _ _ _ r h => by simp [spec_Under.l0] at h, fun _ _ _ _ _ _ _ r h => by simp [spec_Under.j1] at h⟩
  | k + 1 => by
    obtain ⟨ih0, ih1⟩ := spec_Under.mono_l k
    refine ⟨?_, ?_⟩
    · intro y0 y1 y2 y3 y4 y5
      unfold spec_Under.l0
      repeat' first
      | (with_reducible exact ih0 _ _ _ _ _ _)
      | (with_reducible exact ih1 _ _ _ _ _ _ _)
      | (with_reducible exact spec_SetHas.mono _ _ _)
      | (with_reducible exact spec_Way.mono _ _ _ _ _)
      | (with_reducible exact LeO.refl _)
      | (with_reducible exact LeO.none _)
      | (with_reducible refine LeO.ite ?_ ?_)
      | (with_reducible refine LeO.bind ?_ (fun _ => ?_))
      | exact ih0 _ _ _ _ _ _
      | exact ih1 _ _ _ _ _ _ _
      | exact spec_SetHas.mono _ _ _
      | exact spec_Way.mono _ _ _ _ _
      | exact LeO.none _
      | refine LeO.ite ?_ ?_
      | refine LeO.bind ?_ (fun _ => ?_)
    · intro y0 y1 y2 y3 y4 y5 y6
      unfold spec_Under.j1
      repeat' first
      | (with_reducible exact ih0 _ _ _ _ _ _)
      | (with_reducible exact ih1 _ _ _ _ _ _ _)
      | (with_reducible exact spec_SetHas.mono _ _ _)
      | (with_reducible exact spec_Way.mono _ _ _ _ _)
      | (with_reducible exact LeO.refl _)
      | (with_reducible exact LeO.none _)
      | (with_reducible refine LeO.ite ?_ ?_)
      | (with_reducible refine LeO.bind ?_ (fun _ => ?_))
      | exact ih0 _ _ _ _ _ _
      | exact ih1 _ _ _ _ _ _ _
      | exact spec_SetHas.mono _ _ _
      | exact spec_Way.mono _ _ _ _ _
      | exact LeO.none _
      | refine LeO.ite ?_ ?_
      | refine LeO.bind ?_ (fun _ => ?_)
theorem spec_Under.mono : ∀ a0 a1 a2 a3 k, LeO (spec_Under.f k a0 a1 a2 a3) (spec_Under.f (k + 1) a0 a1 a2 a3) := by
  intro a0 a1 a2 a3 k
  obtain ⟨ih0, ih1⟩ := spec_Under.mono_l k
  unfold spec_Under.f
  repeat' first
      | (with_reducible exact ih0 _ _ _ _ _ _)
      | (with_reducible exact ih1 _ _ _ _ _ _ _)
      | (with_reducible exact spec_SetHas.mono _ _ _)
      | (with_reducible exact spec_Way.mono _ _ _ _ _)
      | (with_reducible exact LeO.refl _)
      | (with_reducible exact LeO.none _)
      | (with_reducible refine LeO.ite ?_ ?_)
      | (with_reducible refine LeO.bind ?_ (fun _ => ?_))
      | exact ih0 _ _ _ _ _ _
      | exact ih1 _ _ _ _ _ _ _
      | exact spec_SetHas.mono _ _ _
      | exact spec_Way.mono _ _ _ _ _
      | exact LeO.none _
      | refine LeO.ite ?_ ?_
      | refine LeO.bind ?_ (fun _ => ?_)
set_option maxHeartbeats 8000000 in
set_option maxRecDepth 100000 in
theorem spec_Under.calls (k : Nat) (a0_0 : Int) (a0_1 : Int) (a1 : Int) (a2 : Int) (r : List Int) (w : World) (h : spec_Under.f k a0_0 a0_1 a1 a2 = some r) :
    Calls Try.prog 17 #[.agg #[.int .i64 a0_0, .int .i64 a0_1], .int .i64 a1, .int .i64 a2] w fun e w' => ∃ v0_ : Value, e = .returned (v0_) ∧ Kd.R (Kd.int .i64) 3 w' w.heap.size (fun _ => True) v0_ r ∧ Below w.heap.size w w' := by
  have hu37 := Try.underlying37
  have HB := Aside0.mk (Below.refl w.heap.size w)
  have H : ((some (([] : List Int) : List Int)).bind fun y124 => ((spec_ConfOk.f a0_0 a0_1).bind fun t127 => (if t127 = true then (spec_Under.l0 k a1 a2 y124 0 a0_0 a0_1) else (some y124)))) = some r := h
  clear h
  obtain ⟨y124, hy124⟩ : ∃ y_ : List Int, y_ = (([] : List Int)) := ⟨_, rfl⟩
  replace H : ((spec_ConfOk.f a0_0 a0_1).bind fun t127 => (if t127 = true then (spec_Under.l0 k a1 a2 y124 0 a0_0 a0_1) else (some y124))) = some r := by first | (rw [hy124]; with_reducible exact H) | (have H2_ := (Option.bind_some _ _).symm.trans H; rw [hy124]; with_reducible exact H2_) | (have H2_ := (Option.bind_some _ _).symm.trans H; with_reducible exact H2_) | with_reducible exact H | (rw [hy124]; exact H) | exact H
  have Ny124 := Aside0.mk hy124
  clear hy124
  obtain ⟨t127, A40, H⟩ := Option.bind_eq_some_iff.mp H
  try dsimp only at H
  have A4 := Aside0.mk A40
  clear A40
  by_cases c5 : t127 = true
  · subst c5
    rw [if_pos rfl] at H
    have H' := Aside0.mk H
    clear H
    go_enter Try.func17, Try.ntmps17
    go_wp2_with (first | ((with_reducible refine gate_dst (N := 3) rfl ?_); refine box_event ?hg (N := 3) ?hd (cs := #[.int .i64 a0_0, .int .i64 a0_1]) (t := 37) ?hr ?_; (case hd => rfl); (case hg => rfl); (case hr => first | (go_simp; done) | (go_simp; rfl)); intro gb123 hg w6 hbox hb; have BK123 := Aside0.mk (hbox); have GW123 := Aside0.mk ((by rw [hg]; exact (below_size (bI HB.out)) : w.heap.size ≤ gb123)); have GJ123 := GeI.mk GW123.out; have GE123 := Aside0.mk ((by rw [hg]; exact (below_size (bI HB.out)) : w.heap.size ≤ gb123)); have GI123 := GeI.mk GE123.out; replace HB := Aside0.mk (below_step (bI HB.out) hb); clear hb hbox hg) | ((with_reducible refine gate_dst (N := 9) rfl ?_); refine Kd.R_lit (Kd.int .i64) _ 3 ?hg (N := 9) ?hd (xs := ([] : List Int)) (inner := []) (ok := fun _ => True) (okp := fun _ => True) ?hr ?hp (fun _ hk => hk) trivial (Below.refl _ _) (Nat.le_refl _) (by simp) ?_; (case hd => rfl); (case hg => rfl); (case hr => first | (go_simp; done) | (go_simp; rfl)); (case hp => exact (Reps.none _ _)); intro v125 w7 ho8 hb hg_ hnew_; clear hg_ hnew_; (first | rw [← Ny124.out] at ho8 | (simp only [Int.reduceToNat] at ho8; rw [← Ny124.out] at ho8)); have HO126 := Aside0.mk (Kd.R_lower ho8 (below_size (bI HB.out))); replace BK123 := Aside0.mk (blk_below (g := gb123) (o := .cells #[.int .i64 a0_0, .int .i64 a0_1] 37 (0, 0)) (kI BK123.out) hb); replace HB := Aside0.mk (below_step (bI HB.out) hb); clear hb ho8; have hcz9_0 := bc0 BK123.out; have hcz9_1 := bc1 BK123.out; have hfz9_0 := blk_frozen BK123.out 0; have hfz9_1 := blk_frozen BK123.out 1) | ((with_reducible refine gate_callee (f := 69) rfl ?_); refine goesL_ (some 11) rfl rfl Try.func69 (by kernel_rfl) rfl #[.agg #[.int .i64 a0_0, .int .i64 a0_1]] rfl (by (try simp only [List.map_toArray, List.map_cons, List.map_nil]); first | done | rfl | (simp only [List.length_drop, List.length_take]; rfl)) ?_; (with_reducible refine (spec_ConfOk.calls a0_0 a0_1 true _ A4.out).mono ?_); rintro e w10 ⟨rfl, hb⟩; refine ⟨_, rfl, ?_⟩; replace HO126 := Aside0.mk (Kd.R_below (rI HO126.out) hb); replace BK123 := Aside0.mk (blk_below (g := gb123) (o := .cells #[.int .i64 a0_0, .int .i64 a0_1] 37 (0, 0)) (kI BK123.out) hb); replace HB := Aside0.mk (below_step (bI HB.out) hb); (try clear hb); (try clear hb2); (try clear hk); (try clear hi)))
    go_loopg [7, 8] k (fun kq v7 v8 w' => ∃ (x7_1 : List Int) (x8_1 : Int), v8 = .int .i64 x8_1 ∧ Aside0 (spec_Under.l0 kq a1 a2 x7_1 x8_1 a0_0 a0_1 = some r) ∧ Aside0 (kq ≤ k) ∧ Aside0 (Kd.R (Kd.int .i64) 3 w' w.heap.size (fun _ => True) v7 x7_1) ∧ Aside0 (w'.heap[gb123]? = some (.cells #[.int .i64 a0_0, .int .i64 a0_1] 37 (0, 0))) ∧ Aside0 (Below w.heap.size w w'))
    case atStart => exact ⟨(y124), (0), (by first | rfl | (simp; done) | (simp [*]; done)), H', ⟨Nat.le_refl _⟩, ⟨by (with_reducible repeat (first | apply Kd.R_alloc | apply Kd.R_drewN | apply Kd.R_drew)); exact HO126.out⟩, ⟨gI BK123.out⟩, ⟨bI HB.out⟩⟩
    case round =>
      clear H'
      try clear c1
      try clear p2
      try clear c5
      try clear c6
      try clear hcz9_0
      try clear hcz9_1
      try clear hfz9_0
      try clear hfz9_1
      obtain ⟨x7_1, x8_1, rfl, HA, HK1, HO_7, BK123, HB⟩ := hrel
      cases gk with
      | zero => exact absurd HA.out (by simp [spec_Under.l0])
      | succ k1 =>
        have H := HA.out
        clear HA
        simp only [spec_Under.l0] at H
        have HC11 := Aside0.mk H
        clear H
        go_upto_region 5 with (fail)
        go_cut [24] (fun v24 wc => ∃ (kq : Nat) (x24_10 : Bool), v24 = .bool x24_10 ∧ Aside0 (spec_Under.j1 kq a1 a2 x7_1 x8_1 x24_10 a0_0 a0_1 = some r) ∧ Aside0 (kq ≤ k1) ∧ Aside0 (Kd.R (Kd.int .i64) 3 wc w.heap.size (fun _ => True) u7 x7_1) ∧ Aside0 (wc.heap[gb123]? = some (.cells #[.int .i64 a0_0, .int .i64 a0_1] 37 (0, 0))) ∧ Aside0 (Below w.heap.size w wc))
        case first =>
          have H := HC11.out
          clear HC11
          by_cases c12 : x8_1 < a0_0
          · rw [if_pos c12] at H
            have c12b0 : decide (x8_1 < a0_0) = true := decide_eq_true c12
            clear c12
            (first | rw [c12b0] | (simp only [i64_w, i32_w]; rw [c12b0]) | skip)
            obtain ⟨t128, A130, H⟩ := Option.bind_eq_some_iff.mp H
            try dsimp only at H
            have A13 := Aside0.mk A130
            clear A130
            have H' := Aside0.mk H
            clear H
            have hcz14_0 := bc0 BK123.out
            have hcz14_1 := bc1 BK123.out
            have hfz14_0 := blk_frozen BK123.out 0
            have hfz14_1 := blk_frozen BK123.out 1
            go_wp2_with (first | (go_at_call 51; (with_reducible refine (spec_Seat.calls a0_0 a0_1 a1 a2 t128 _ A13.out).mono ?_); rintro e w15 ⟨rfl, hb⟩; replace HO_7 := Aside0.mk (Kd.R_below (rI HO_7.out) hb); replace BK123 := Aside0.mk (blk_below (g := gb123) (o := .cells #[.int .i64 a0_0, .int .i64 a0_1] 37 (0, 0)) (kI BK123.out) hb); replace HB := Aside0.mk (below_step (bI HB.out) hb); (try clear hb); (try clear hb2); (try clear hk); (try clear hi)))
            go_meet
            case rel => exact ⟨_, (decide (t128 ≥ 0)), (by first | rfl | (simp; done) | (simp [*]; done)), H', ⟨by have := HK1.out; first | omega | exact Nat.le_refl _⟩, ⟨by (with_reducible repeat (first | apply Kd.R_alloc | apply Kd.R_drewN | apply Kd.R_drew)); exact HO_7.out⟩, ⟨gI BK123.out⟩, ⟨bI HB.out⟩⟩
          · rw [if_neg c12] at H
            have c12b0 : decide (x8_1 < a0_0) = false := decide_eq_false c12
            clear c12
            (first | rw [c12b0] | (simp only [i64_w, i32_w]; rw [c12b0]) | skip)
            have H' := Aside0.mk H
            clear H
            have hcz16_0 := bc0 BK123.out
            have hcz16_1 := bc1 BK123.out
            have hfz16_0 := blk_frozen BK123.out 0
            have hfz16_1 := blk_frozen BK123.out 1
            go_wp2
            go_meet
            case rel => exact ⟨_, (false), (by first | rfl | (simp; done) | (simp [*]; done)), H', ⟨by have := HK1.out; first | omega | exact Nat.le_refl _⟩, ⟨by (with_reducible repeat (first | apply Kd.R_alloc | apply Kd.R_drewN | apply Kd.R_drew)); exact HO_7.out⟩, ⟨gI BK123.out⟩, ⟨bI HB.out⟩⟩
        case rest =>
          clear HC11
          try clear c1
          try clear p2
          try clear c5
          try clear c6
          try clear c12
          try clear c12b0
          try clear hcz14_0
          try clear hcz14_1
          try clear hcz16_0
          try clear hcz16_1
          try clear hcz9_0
          try clear hcz9_1
          try clear hfz14_0
          try clear hfz14_1
          try clear hfz16_0
          try clear hfz16_1
          try clear hfz9_0
          try clear hfz9_1
          try clear p2
          obtain ⟨kq, x24_10, rfl, HA, HJ10, HO_7, BK123, HB⟩ := hcut
          cases kq with
          | zero => exact absurd HA.out (by simp [spec_Under.j1])
          | succ kj10 =>
            have H := HA.out
            clear HA
            simp only [spec_Under.j1] at H
            by_cases c17 : x24_10 = true
            · subst c17
              rw [if_pos rfl] at H
              obtain ⟨t129, A180, H⟩ := Option.bind_eq_some_iff.mp H
              try dsimp only at H
              have A18 := Aside0.mk A180
              clear A180
              obtain ⟨t132, A190, H⟩ := Option.bind_eq_some_iff.mp H
              try dsimp only at H
              have A19 := Aside0.mk A190
              clear A190
              by_cases c20 : t132 = true
              · subst c20
                rw [if_pos rfl] at H
                by_cases c21 : x7_1.length < 17592186044416
                rotate_left
                · rw [if_neg c21] at H
                  exact absurd H (by simp)
                rw [if_pos c21] at H
                have LMc21 := Aside0.mk c21
                clear c21
                obtain ⟨y133, hy133⟩ : ∃ y_ : List Int, y_ = (x7_1 ++ [x8_1]) := ⟨_, rfl⟩
                replace H : (spec_Under.l0 kj10 a1 a2 y133 (wrap64 (x8_1 + 1)) a0_0 a0_1) = some r := by first | (rw [hy133]; with_reducible exact H) | (have H2_ := (Option.bind_some _ _).symm.trans H; rw [hy133]; with_reducible exact H2_) | (have H2_ := (Option.bind_some _ _).symm.trans H; with_reducible exact H2_) | with_reducible exact H | (rw [hy133]; exact H) | exact H
                have Ny133 := Aside0.mk hy133
                clear hy133
                have H' := Aside0.mk H
                clear H
                have hcz22_0 := bc0 BK123.out
                have hcz22_1 := bc1 BK123.out
                have hfz22_0 := blk_frozen BK123.out 0
                have hfz22_1 := blk_frozen BK123.out 1
                go_wp2_with (first | ((with_reducible refine gate_callee (f := 46) rfl ?_); refine goesL_ (some 30) rfl rfl Try.func46 (by kernel_rfl) rfl #[.agg #[.int .i64 a0_0, .int .i64 a0_1], .int .i64 a1, .int .i64 x8_1] rfl (by (try simp only [List.map_toArray, List.map_cons, List.map_nil]); first | done | rfl | (simp only [List.length_drop, List.length_take]; rfl)) ?_; (with_reducible refine (spec_Way.calls kj10 a0_0 a0_1 a1 x8_1 t129 _ A18.out).mono ?_); rintro e w23 ⟨v130, rfl, ho0, hb⟩; refine ⟨_, rfl, ?_⟩; have HO131 := Aside0.mk (Kd.R_lower (Kd.R_new' ho0 (Kd.R_lt (rI HO_7.out))) (below_size (bI HB.out))); replace HO_7 := Aside0.mk (Kd.R_elder' (rI HO_7.out) (Kd.R_base ho0) hb); replace BK123 := Aside0.mk (blk_below (g := gb123) (o := .cells #[.int .i64 a0_0, .int .i64 a0_1] 37 (0, 0)) (kI BK123.out) hb); replace HB := Aside0.mk (below_step (bI HB.out) hb); (try clear hb); (try clear hb2); (try clear hk); (try clear hi); (try clear ho0); obtain ⟨Ao24, co24, eo24⟩ := Kd.R_slice HO131.out; subst eo24) | ((with_reducible refine gate_callee (f := 70) rfl ?_); refine goesL_ (some 32) rfl rfl Try.func70 (by kernel_rfl) rfl #[.slice Ao24 t129.length co24, .int .i64 a2] rfl (by (try simp only [List.map_toArray, List.map_cons, List.map_nil]); first | done | rfl | (simp only [List.length_drop, List.length_take]; rfl)) ?_; (with_reducible refine (spec_SetHas.calls kj10 _ _ t129 a2 true _ ?side1 ?side2 A19.out).mono ?_); (case side1 => repeat (first | exact (Kd.R_reads' HO131.out).2.2 | (with_reducible refine Kd.C_alloc ?_ _) | (with_reducible refine Kd.C_drewN ?_ _) | (with_reducible refine Kd.C_drew ?_))); (case side2 => exact (Kd.R_reads' HO131.out).2.1); rintro e w' ⟨rfl, ⟨nd, rfl⟩⟩; refine ⟨_, rfl, ?_⟩) | ((with_reducible refine gate_builtin (b := .append) (xs := #[.tmp 33, .tmp 35]) rfl ?_); at_builtin; refine Kd.R_append (Kd.int .i64) (w0 := w) w.heap.size rfl (.tmp 33) (.tmp 35) 22 3 (.int .i64 0) 8 rfl Try.underlying22 info3 rfl (by decide) (by omega) u7 x7_1 x8_1 [.int .i64 x8_1] (fun k_ => some k_ ≠ (.slice Ao24 t129.length co24 : Value).ownBlock) (fun _ => False) rfl rfl ?aP (fun _ hk => hk.elim) ?aF ?aO ?aB ?aS ?aL ?_; (case aP => exact rfl); (case aB => exact (bI HB.out)); (case aF => exact (fun k_ hk => Kd.fresh' (Kd.R_lt (rI HO131.out)) k_ hk)); (case aO => exact (rI (Kd.R_mono HO_7.out (fun _ hk => hk.2)))); (case aS => exact (below_size (bI HB.out))); (case aL => have := LMc21.out; omega); intro v134 w25 ho hb hg hat; rw [← Ny133.out] at ho; have n0_ := Aside0.mk (blk_grown (g := gb123) (o := .cells #[.int .i64 a0_0, .int .i64 a0_1] 37 (0, 0)) (kI BK123.out) hg (Kd.R_ne HO_7.out BK123.out (by decide))); have n1_ := Aside0.mk (Kd.R_after (ok := (fun _ => True)) (rI HO131.out) hg hat); have n2_ := Aside0.mk (hb); have n3_ := Aside0.mk (ho); clear BK123; clear HO131; clear HB; clear HO_7; have BK123 := n0_; have HO131 := n1_; have HB := n2_; have HO135 := n3_; clear n0_ n1_ n2_ n3_; clear ho hb hg hat))
                go_roundg kj10
                case measure => have := HK1.out; have := HJ10.out; omega
                case rel => exact ⟨(y133), (wrap64 (x8_1 + 1)), (by first | rfl | (simp; done) | (simp [*]; done)), H', ⟨by have := HK1.out; have := HJ10.out; omega⟩, ⟨by (with_reducible repeat (first | apply Kd.R_alloc | apply Kd.R_drewN | apply Kd.R_drew)); exact Kd.R_mono HO135.out (fun _ hk => trivial)⟩, ⟨gI BK123.out⟩, ⟨bI HB.out⟩⟩
              · replace c20 := Bool.eq_false_iff.mpr c20
                subst c20
                rw [if_neg (show ¬ (false = true) by decide)] at H
                have H' := Aside0.mk H
                clear H
                have hcz26_0 := bc0 BK123.out
                have hcz26_1 := bc1 BK123.out
                have hfz26_0 := blk_frozen BK123.out 0
                have hfz26_1 := blk_frozen BK123.out 1
                go_wp2_with (first | ((with_reducible refine gate_callee (f := 46) rfl ?_); refine goesL_ (some 30) rfl rfl Try.func46 (by kernel_rfl) rfl #[.agg #[.int .i64 a0_0, .int .i64 a0_1], .int .i64 a1, .int .i64 x8_1] rfl (by (try simp only [List.map_toArray, List.map_cons, List.map_nil]); first | done | rfl | (simp only [List.length_drop, List.length_take]; rfl)) ?_; (with_reducible refine (spec_Way.calls kj10 a0_0 a0_1 a1 x8_1 t129 _ A18.out).mono ?_); rintro e w27 ⟨v130, rfl, ho0, hb⟩; refine ⟨_, rfl, ?_⟩; have HO131 := Aside0.mk (Kd.R_lower (Kd.R_new' ho0 (Kd.R_lt (rI HO_7.out))) (below_size (bI HB.out))); replace HO_7 := Aside0.mk (Kd.R_elder' (rI HO_7.out) (Kd.R_base ho0) hb); replace BK123 := Aside0.mk (blk_below (g := gb123) (o := .cells #[.int .i64 a0_0, .int .i64 a0_1] 37 (0, 0)) (kI BK123.out) hb); replace HB := Aside0.mk (below_step (bI HB.out) hb); (try clear hb); (try clear hb2); (try clear hk); (try clear hi); (try clear ho0); obtain ⟨Ao28, co28, eo28⟩ := Kd.R_slice HO131.out; subst eo28) | ((with_reducible refine gate_callee (f := 70) rfl ?_); refine goesL_ (some 32) rfl rfl Try.func70 (by kernel_rfl) rfl #[.slice Ao28 t129.length co28, .int .i64 a2] rfl (by (try simp only [List.map_toArray, List.map_cons, List.map_nil]); first | done | rfl | (simp only [List.length_drop, List.length_take]; rfl)) ?_; (with_reducible refine (spec_SetHas.calls kj10 _ _ t129 a2 false _ ?side1 ?side2 A19.out).mono ?_); (case side1 => repeat (first | exact (Kd.R_reads' HO131.out).2.2 | (with_reducible refine Kd.C_alloc ?_ _) | (with_reducible refine Kd.C_drewN ?_ _) | (with_reducible refine Kd.C_drew ?_))); (case side2 => exact (Kd.R_reads' HO131.out).2.1); rintro e w' ⟨rfl, ⟨nd, rfl⟩⟩; refine ⟨_, rfl, ?_⟩))
                go_roundg kj10
                case measure => have := HK1.out; have := HJ10.out; omega
                case rel => exact ⟨(x7_1), (wrap64 (x8_1 + 1)), (by first | rfl | (simp; done) | (simp [*]; done)), H', ⟨by have := HK1.out; have := HJ10.out; omega⟩, ⟨by (with_reducible repeat (first | apply Kd.R_alloc | apply Kd.R_drewN | apply Kd.R_drew)); exact Kd.R_mono HO_7.out (fun _ hk => trivial)⟩, ⟨gI BK123.out⟩, ⟨bI HB.out⟩⟩
            · replace c17 := Bool.eq_false_iff.mpr c17
              subst c17
              rw [if_neg (show ¬ (false = true) by decide)] at H
              obtain rfl := Option.some.inj H
              go_wp2
              go_ret
              exact ⟨_, by first | rfl | (simp [errW_none, errW_some] <;> rfl) | (simp [*, errW_none, errW_some] <;> rfl), by (with_reducible repeat (first | apply Kd.R_alloc | apply Kd.R_drewN | apply Kd.R_drew)); exact HO_7.out, bI HB.out⟩
  · replace c5 := Bool.eq_false_iff.mpr c5
    subst c5
    rw [if_neg (show ¬ (false = true) by decide)] at H
    obtain rfl := Option.some.inj H
    go_enter Try.func17, Try.ntmps17
    go_wp2_with (first | ((with_reducible refine gate_dst (N := 3) rfl ?_); refine box_event ?hg (N := 3) ?hd (cs := #[.int .i64 a0_0, .int .i64 a0_1]) (t := 37) ?hr ?_; (case hd => rfl); (case hg => rfl); (case hr => first | (go_simp; done) | (go_simp; rfl)); intro gb123 hg w29 hbox hb; have BK123 := Aside0.mk (hbox); have GW123 := Aside0.mk ((by rw [hg]; exact (below_size (bI HB.out)) : w.heap.size ≤ gb123)); have GJ123 := GeI.mk GW123.out; have GE123 := Aside0.mk ((by rw [hg]; exact (below_size (bI HB.out)) : w.heap.size ≤ gb123)); have GI123 := GeI.mk GE123.out; replace HB := Aside0.mk (below_step (bI HB.out) hb); clear hb hbox hg) | ((with_reducible refine gate_dst (N := 9) rfl ?_); refine Kd.R_lit (Kd.int .i64) _ 3 ?hg (N := 9) ?hd (xs := ([] : List Int)) (inner := []) (ok := fun _ => True) (okp := fun _ => True) ?hr ?hp (fun _ hk => hk) trivial (Below.refl _ _) (Nat.le_refl _) (by simp) ?_; (case hd => rfl); (case hg => rfl); (case hr => first | (go_simp; done) | (go_simp; rfl)); (case hp => exact (Reps.none _ _)); intro v125 w30 ho31 hb hg_ hnew_; clear hg_ hnew_; (first | rw [← Ny124.out] at ho31 | (simp only [Int.reduceToNat] at ho31; rw [← Ny124.out] at ho31)); have HO126 := Aside0.mk (Kd.R_lower ho31 (below_size (bI HB.out))); replace BK123 := Aside0.mk (blk_below (g := gb123) (o := .cells #[.int .i64 a0_0, .int .i64 a0_1] 37 (0, 0)) (kI BK123.out) hb); replace HB := Aside0.mk (below_step (bI HB.out) hb); clear hb ho31; have hcz32_0 := bc0 BK123.out; have hcz32_1 := bc1 BK123.out; have hfz32_0 := blk_frozen BK123.out 0; have hfz32_1 := blk_frozen BK123.out 1) | ((with_reducible refine gate_callee (f := 69) rfl ?_); refine goesL_ (some 11) rfl rfl Try.func69 (by kernel_rfl) rfl #[.agg #[.int .i64 a0_0, .int .i64 a0_1]] rfl (by (try simp only [List.map_toArray, List.map_cons, List.map_nil]); first | done | rfl | (simp only [List.length_drop, List.length_take]; rfl)) ?_; (with_reducible refine (spec_ConfOk.calls a0_0 a0_1 false _ A4.out).mono ?_); rintro e w33 ⟨rfl, hb⟩; refine ⟨_, rfl, ?_⟩; replace HO126 := Aside0.mk (Kd.R_below (rI HO126.out) hb); replace BK123 := Aside0.mk (blk_below (g := gb123) (o := .cells #[.int .i64 a0_0, .int .i64 a0_1] 37 (0, 0)) (kI BK123.out) hb); replace HB := Aside0.mk (below_step (bI HB.out) hb); (try clear hb); (try clear hb2); (try clear hk); (try clear hi)))
    go_ret
    exact ⟨_, by first | rfl | (simp [errW_none, errW_some] <;> rfl) | (simp [*, errW_none, errW_some] <;> rfl), by (with_reducible repeat (first | apply Kd.R_alloc | apply Kd.R_drewN | apply Kd.R_drew)); exact HO126.out, bI HB.out⟩

/-! ### impl_within: function 76 -/
def impl_within.f (a0 : Int) (a1 : Int) (a2 : Int) : Option (Bool) := if a0 ≥ a1 then (some (decide (a0 ≤ a2))) else (some false)
set_option maxHeartbeats 8000000 in
set_option maxRecDepth 100000 in
theorem impl_within.calls (a0 : Int) (a1 : Int) (a2 : Int) (r : Bool) (w : World) (h : impl_within.f a0 a1 a2 = some r) :
    Calls Try.prog 76 #[.int .i64 a0, .int .i64 a1, .int .i64 a2] w fun e w' => e = .returned (.bool r) ∧ Drawn0 w w' := by
  have H : (if a0 ≥ a1 then (some (decide (a0 ≤ a2))) else (some false)) = some r := h
  clear h
  by_cases c4 : a0 ≥ a1
  · rw [if_pos c4] at H
    have c4b0 : decide (a1 ≤ a0) = true := decide_eq_true c4
    clear c4
    obtain rfl := Option.some.inj H
    go_enter Try.func76, Try.ntmps76
    go_wp2
    go_ret
    exact ⟨by first | rfl | (simp; done) | (simp [*]; done), by repeat (first | exact Drawn0.refl _ | apply Drawn0.step)⟩
  · rw [if_neg c4] at H
    have c4b0 : decide (a1 ≤ a0) = false := decide_eq_false c4
    clear c4
    obtain rfl := Option.some.inj H
    go_enter Try.func76, Try.ntmps76
    go_wp2
    go_ret
    exact ⟨by first | rfl | (simp; done) | (simp [*]; done), by repeat (first | exact Drawn0.refl _ | apply Drawn0.step)⟩

end Go.Proofs.Ytjbkdffimfbdnaa.PFnTrees
