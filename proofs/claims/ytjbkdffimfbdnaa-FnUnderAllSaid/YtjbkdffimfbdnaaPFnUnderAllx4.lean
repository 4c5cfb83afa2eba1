-- By a program of this session, out of the translation (the print of the kit, with turns of its own). Lean checks it.
import Derived.Test.YtjbkdffimfbdnaaPFnUnderAllx0
import Derived.Test.YtjbkdffimfbdnaaPFnUnderAllx1
import Derived.Test.YtjbkdffimfbdnaaPFnUnderAllx2
import Derived.Test.YtjbkdffimfbdnaaPFnUnderAllx3
namespace Go.Proofs.Ytjbkdffimfbdnaa.PFnUnderAll
open Go.RowKit Go.Proofs.YtjbkdffimfbdnaaW.PrintWords Go.Proofs.YtjbkdffimfbdnaaW.PrintLast Go.Proofs.YtjbkdffimfbdnaaW.PrintMore
attribute [local go_sem] max2_int min2_int max_two min_two max_three min_three max_four min_four   -- for this text's walks alone
set_option linter.unusedVariables false
set_option linter.unusedSimpArgs false

/-! ### impl_Common: function 40 -/
def impl_Common.l0 : Nat → List Int → Int → List Int → Int → Int → Option (Int)
  | 0, _, _, _, _, _ => none
  | k + 1, x1, x5, x8, x9, x10 => if x10 < x9 then (if 0 ≤ x10 then (if x10 < (x8.length : Int) then ((impl_SetHas.f k x1 (rd x8 x10)).bind fun t245 => (if t245 = true then (impl_Common.l0 k x1 (wrap64 (x5 + 1)) x8 x9 (wrap64 (x10 + 1))) else (impl_Common.l0 k x1 x5 x8 x9 (wrap64 (x10 + 1))))) else (none)) else (none)) else (some x5)
def impl_Common.f (k : Nat) (l0 : List Int) (l1 : List Int) : Option (Int) := impl_Common.l0 k l1 0 l0 (l0.length : Int) 0
theorem impl_Common.mono_l : ∀ k, (∀ y0 y1 y2 y3 y4, LeO (impl_Common.l0 k y0 y1 y2 y3 y4) (impl_Common.l0 (k + 1) y0 y1 y2 y3 y4))
  | 0 => fun _ _ _ _ _ r h => by simp [impl_Common.l0] at h
  | k + 1 => by
    have ih0 := impl_Common.mono_l k
    · intro y0 y1 y2 y3 y4
      unfold impl_Common.l0
      repeat' first
      | (with_reducible exact ih0 _ _ _ _ _)
      | (with_reducible exact impl_SetHas.mono _ _ _)
      | (with_reducible exact LeO.refl _)
      | (with_reducible exact LeO.none _)
      | (with_reducible refine LeO.ite ?_ ?_)
      | (with_reducible refine LeO.bind ?_ (fun _ => ?_))
      | exact ih0 _ _ _ _ _
      | exact impl_SetHas.mono _ _ _
      | exact LeO.none _
      | refine LeO.ite ?_ ?_
      | refine LeO.bind ?_ (fun _ => ?_)
theorem impl_Common.mono : ∀ a0 a1 k, LeO (impl_Common.f k a0 a1) (impl_Common.f (k + 1) a0 a1) := by
  intro a0 a1 k
  have ih0 := impl_Common.mono_l k
  unfold impl_Common.f
  repeat' first
      | (with_reducible exact ih0 _ _ _ _ _)
      | (with_reducible exact impl_SetHas.mono _ _ _)
      | (with_reducible exact LeO.refl _)
      | (with_reducible exact LeO.none _)
      | (with_reducible refine LeO.ite ?_ ?_)
      | (with_reducible refine LeO.bind ?_ (fun _ => ?_))
      | exact ih0 _ _ _ _ _
      | exact impl_SetHas.mono _ _ _
      | exact LeO.none _
      | refine LeO.ite ?_ ?_
      | refine LeO.bind ?_ (fun _ => ?_)
set_option maxHeartbeats 8000000 in
set_option maxRecDepth 100000 in
theorem impl_Common.calls (k : Nat) (A0 : Option Addr) (c0 : Nat) (l0 : List Int) (A1 : Option Addr) (c1 : Nat) (l1 : List Int) (r : Int) (w : World) (hr0 : Kd.C (Kd.int .i64) w A0 l0.length l0) (hc0 : l0.length ≤ c0) (hr1 : Kd.C (Kd.int .i64) w A1 l1.length l1) (hc1 : l1.length ≤ c1) (h : impl_Common.f k l0 l1 = some r) :
    Calls Try.prog 40 #[.slice A0 l0.length c0, .slice A1 l1.length c1] w fun e w' => e = .returned (.int .i64 r) ∧ Drawn0 w w' := by
  have HR0 := Aside0.mk hr0
  have HC0 := Aside0.mk hc0
  clear hr0 hc0
  have HR1 := Aside0.mk hr1
  have HC1 := Aside0.mk hc1
  clear hr1 hc1
  have H : (impl_Common.l0 k l1 0 l0 (l0.length : Int) 0) = some r := h
  clear h
  have H' := Aside0.mk H
  clear H
  go_enter Try.func40, Try.ntmps40
  go_wp2
  go_loopg [5, 10] k (fun kq v5 v10 w' => ∃ (x5_1 : Int) (x10_1 : Int), v5 = .int .i64 x5_1 ∧ v10 = .int .i64 x10_1 ∧ Aside0 (impl_Common.l0 kq l1 x5_1 l0 (l0.length : Int) x10_1 = some r) ∧ Aside0 (kq ≤ k) ∧ Drawn0 w w')
  case atStart => exact ⟨(0), (0), (by first | rfl | (simp; done) | (simp [*]; done)), (by first | rfl | (simp; done) | (simp [*]; done)), H', ⟨Nat.le_refl _⟩, by repeat (first | exact Drawn0.refl _ | apply Drawn0.step)⟩
  case round =>
    clear H'
    try clear c1
    try clear p2
    obtain ⟨x5_1, x10_1, rfl, rfl, HA, HK1, ⟨m1, rfl⟩⟩ := hrel
    cases gk with
    | zero => exact absurd HA.out (by simp [impl_Common.l0])
    | succ k1 =>
      have H := HA.out
      clear HA
      simp only [impl_Common.l0] at H
      by_cases c3 : x10_1 < (l0.length : Int)
      · rw [if_pos c3] at H
        have c3b0 : decide (x10_1 < (l0.length : Int)) = true := decide_eq_true c3
        clear c3
        by_cases c4 : 0 ≤ x10_1
        rotate_left
        · rw [if_neg c4] at H
          exact absurd H (by simp)
        rw [if_pos c4] at H
        have c4b0 : decide (0 ≤ x10_1) = true := decide_eq_true c4
        clear c4
        by_cases c5 : x10_1 < (l0.length : Int)
        rotate_left
        · rw [if_neg c5] at H
          exact absurd H (by simp)
        rw [if_pos c5] at H
        have c5b0 : decide (x10_1 < (l0.length : Int)) = true := decide_eq_true c5
        clear c5
        obtain ⟨t245, A60, H⟩ := Option.bind_eq_some_iff.mp H
        try dsimp only at H
        have A6 := Aside0.mk A60
        clear A60
        by_cases c7 : t245 = true
        · subst c7
          rw [if_pos rfl] at H
          have H' := Aside0.mk H
          clear H
          have p244 : 0 ≤ (x10_1 : Int) := of_decide_eq_true (by first | (with_reducible assumption) | assumption)
          have q244 : x10_1 < (l0.length : Int) := of_decide_eq_true (by first | (with_reducible assumption) | assumption)
          obtain ⟨ad244, e244, hx244_0⟩ := Kd.at_int HR0.out x10_1 p244 q244
          cases e244
          replace p244 := eq_true p244
          replace q244 := eq_true q244
          go_wp2_with (first | ((with_reducible refine gate_callee (f := 71) rfl ?_); refine goesL_ (some 16) rfl rfl Try.func71 (by kernel_rfl) rfl #[.slice A1 l1.length c1, .int .i64 (rd l0 x10_1)] rfl (by (try simp only [List.map_toArray, List.map_cons, List.map_nil]); first | done | rfl | (simp only [List.length_drop, List.length_take]; rfl)) ?_; (with_reducible refine (impl_SetHas.calls k1 _ _ l1 (rd l0 x10_1) true _ ?side1 ?side2 A6.out).mono ?_); (case side1 => exact cI HR1.out); (case side2 => exact HC1.out); rintro e w' ⟨rfl, ⟨nd, rfl⟩⟩; refine ⟨_, rfl, ?_⟩))
          go_roundg k1
          case measure => have := HK1.out; omega
          case rel => exact ⟨(wrap64 (x5_1 + 1)), (wrap64 (x10_1 + 1)), (by first | rfl | (simp; done) | (simp [*]; done)), (by first | rfl | (simp; done) | (simp [*]; done)), H', ⟨by have := HK1.out; omega⟩, by repeat (first | exact Drawn0.refl _ | apply Drawn0.step)⟩
        · replace c7 := Bool.eq_false_iff.mpr c7
          subst c7
          rw [if_neg (show ¬ (false = true) by decide)] at H
          have H' := Aside0.mk H
          clear H
          have p244 : 0 ≤ (x10_1 : Int) := of_decide_eq_true (by first | (with_reducible assumption) | assumption)
          have q244 : x10_1 < (l0.length : Int) := of_decide_eq_true (by first | (with_reducible assumption) | assumption)
          obtain ⟨ad244, e244, hx244_0⟩ := Kd.at_int HR0.out x10_1 p244 q244
          cases e244
          replace p244 := eq_true p244
          replace q244 := eq_true q244
          go_wp2_with (first | ((with_reducible refine gate_callee (f := 71) rfl ?_); refine goesL_ (some 16) rfl rfl Try.func71 (by kernel_rfl) rfl #[.slice A1 l1.length c1, .int .i64 (rd l0 x10_1)] rfl (by (try simp only [List.map_toArray, List.map_cons, List.map_nil]); first | done | rfl | (simp only [List.length_drop, List.length_take]; rfl)) ?_; (with_reducible refine (impl_SetHas.calls k1 _ _ l1 (rd l0 x10_1) false _ ?side1 ?side2 A6.out).mono ?_); (case side1 => exact cI HR1.out); (case side2 => exact HC1.out); rintro e w' ⟨rfl, ⟨nd, rfl⟩⟩; refine ⟨_, rfl, ?_⟩))
          go_roundg k1
          case measure => have := HK1.out; omega
          case rel => exact ⟨(x5_1), (wrap64 (x10_1 + 1)), (by first | rfl | (simp; done) | (simp [*]; done)), (by first | rfl | (simp; done) | (simp [*]; done)), H', ⟨by have := HK1.out; omega⟩, by repeat (first | exact Drawn0.refl _ | apply Drawn0.step)⟩
      · rw [if_neg c3] at H
        have c3b0 : decide (x10_1 < (l0.length : Int)) = false := decide_eq_false c3
        clear c3
        obtain rfl := Option.some.inj H
        go_wp2
        go_ret
        exact ⟨by first | rfl | (simp; done) | (simp [*]; done), by repeat (first | exact Drawn0.refl _ | apply Drawn0.step)⟩

/-! ### impl_Root: function 41 -/
def impl_Root.f (a0_0 : Int) (a0_1 : Int) (a1 : Int) : Option (Int) := (impl_ConfOk.f a0_0 a0_1).bind fun t247 => (if t247 = true then (if a1 < 0 then (some (-1)) else (if a0_0 = 0 then (none) else (some (Int.tmod a1 a0_0)))) else (some (-1)))
set_option maxHeartbeats 8000000 in
set_option maxRecDepth 100000 in
theorem impl_Root.calls (a0_0 : Int) (a0_1 : Int) (a1 : Int) (r : Int) (w : World) (h : impl_Root.f a0_0 a0_1 a1 = some r) :
    Calls Try.prog 41 #[.agg #[.int .i64 a0_0, .int .i64 a0_1], .int .i64 a1] w fun e w' => e = .returned (.int .i64 r) ∧ Below w.heap.size w w' := by
  have hu37 := Try.underlying37
  have HB := Aside0.mk (Below.refl w.heap.size w)
  have H : ((impl_ConfOk.f a0_0 a0_1).bind fun t247 => (if t247 = true then (if a1 < 0 then (some (-1)) else (if a0_0 = 0 then (none) else (some (Int.tmod a1 a0_0)))) else (some (-1)))) = some r := h
  clear h
  obtain ⟨t247, A30, H⟩ := Option.bind_eq_some_iff.mp H
  try dsimp only at H
  have A3 := Aside0.mk A30
  clear A30
  by_cases c4 : t247 = true
  · subst c4
    rw [if_pos rfl] at H
    by_cases c5 : a1 < 0
    · rw [if_pos c5] at H
      have c5b0 : decide (a1 < 0) = true := decide_eq_true c5
      clear c5
      obtain rfl := Option.some.inj H
      go_enter Try.func41, Try.ntmps41
      go_wp2_with (first | ((with_reducible refine gate_dst (N := 2) rfl ?_); refine box_event ?hg (N := 2) ?hd (cs := #[.int .i64 a0_0, .int .i64 a0_1]) (t := 37) ?hr ?_; (case hd => rfl); (case hg => rfl); (case hr => first | (go_simp; done) | (go_simp; rfl)); intro gb246 hg w6 hbox hb; have BK246 := Aside0.mk (hbox); have GW246 := Aside0.mk ((by rw [hg]; exact (below_size (bI HB.out)) : w.heap.size ≤ gb246)); have GJ246 := GeI.mk GW246.out; have GE246 := Aside0.mk ((by rw [hg]; exact (below_size (bI HB.out)) : w.heap.size ≤ gb246)); have GI246 := GeI.mk GE246.out; replace HB := Aside0.mk (below_step (bI HB.out) hb); clear hb hbox hg; have hcz7_0 := bc0 BK246.out; have hcz7_1 := bc1 BK246.out; have hfz7_0 := blk_frozen BK246.out 0; have hfz7_1 := blk_frozen BK246.out 1) | ((with_reducible refine gate_callee (f := 38) rfl ?_); refine goesL_ (some 6) rfl rfl Try.func38 (by kernel_rfl) rfl #[.agg #[.int .i64 a0_0, .int .i64 a0_1]] rfl (by (try simp only [List.map_toArray, List.map_cons, List.map_nil]); first | done | rfl | (simp only [List.length_drop, List.length_take]; rfl)) ?_; (with_reducible refine (impl_ConfOk.calls a0_0 a0_1 true _ A3.out).mono ?_); rintro e w8 ⟨rfl, hb⟩; refine ⟨_, rfl, ?_⟩; replace BK246 := Aside0.mk (blk_below (g := gb246) (o := .cells #[.int .i64 a0_0, .int .i64 a0_1] 37 (0, 0)) (kI BK246.out) hb); replace HB := Aside0.mk (below_step (bI HB.out) hb); (try clear hb); (try clear hb2); (try clear hk); (try clear hi)))
      go_ret
      exact ⟨by first | rfl | (simp [errW_none, errW_some] <;> rfl) | (simp [*, errW_none, errW_some] <;> rfl), bI HB.out⟩
    · rw [if_neg c5] at H
      have c5b0 : decide (a1 < 0) = false := decide_eq_false c5
      clear c5
      by_cases c9 : a0_0 = 0
      · rw [if_pos c9] at H
        exact absurd H (by simp)
      rw [if_neg c9] at H
      have c9b0 : (a0_0 == 0) = false := beq_eq_false_iff_ne.mpr c9
      have c9b1 : (a0_0 != 0) = true := bne_iff_ne.mpr c9
      obtain rfl := Option.some.inj H
      go_enter Try.func41, Try.ntmps41
      go_wp2_with (first | ((with_reducible refine gate_dst (N := 2) rfl ?_); refine box_event ?hg (N := 2) ?hd (cs := #[.int .i64 a0_0, .int .i64 a0_1]) (t := 37) ?hr ?_; (case hd => rfl); (case hg => rfl); (case hr => first | (go_simp; done) | (go_simp; rfl)); intro gb246 hg w10 hbox hb; have BK246 := Aside0.mk (hbox); have GW246 := Aside0.mk ((by rw [hg]; exact (below_size (bI HB.out)) : w.heap.size ≤ gb246)); have GJ246 := GeI.mk GW246.out; have GE246 := Aside0.mk ((by rw [hg]; exact (below_size (bI HB.out)) : w.heap.size ≤ gb246)); have GI246 := GeI.mk GE246.out; replace HB := Aside0.mk (below_step (bI HB.out) hb); clear hb hbox hg; have hcz11_0 := bc0 BK246.out; have hcz11_1 := bc1 BK246.out; have hfz11_0 := blk_frozen BK246.out 0; have hfz11_1 := blk_frozen BK246.out 1) | ((with_reducible refine gate_callee (f := 38) rfl ?_); refine goesL_ (some 6) rfl rfl Try.func38 (by kernel_rfl) rfl #[.agg #[.int .i64 a0_0, .int .i64 a0_1]] rfl (by (try simp only [List.map_toArray, List.map_cons, List.map_nil]); first | done | rfl | (simp only [List.length_drop, List.length_take]; rfl)) ?_; (with_reducible refine (impl_ConfOk.calls a0_0 a0_1 true _ A3.out).mono ?_); rintro e w12 ⟨rfl, hb⟩; refine ⟨_, rfl, ?_⟩; replace BK246 := Aside0.mk (blk_below (g := gb246) (o := .cells #[.int .i64 a0_0, .int .i64 a0_1] 37 (0, 0)) (kI BK246.out) hb); replace HB := Aside0.mk (below_step (bI HB.out) hb); (try clear hb); (try clear hb2); (try clear hk); (try clear hi); have hcz13_0 := bc0 BK246.out; have hcz13_1 := bc1 BK246.out; have hfz13_0 := blk_frozen BK246.out 0; have hfz13_1 := blk_frozen BK246.out 1))
      go_ret
      exact ⟨by first | rfl | (simp [errW_none, errW_some] <;> rfl) | (simp [*, errW_none, errW_some] <;> rfl), bI HB.out⟩
  · replace c4 := Bool.eq_false_iff.mpr c4
    subst c4
    rw [if_neg (show ¬ (false = true) by decide)] at H
    obtain rfl := Option.some.inj H
    go_enter Try.func41, Try.ntmps41
    go_wp2_with (first | ((with_reducible refine gate_dst (N := 2) rfl ?_); refine box_event ?hg (N := 2) ?hd (cs := #[.int .i64 a0_0, .int .i64 a0_1]) (t := 37) ?hr ?_; (case hd => rfl); (case hg => rfl); (case hr => first | (go_simp; done) | (go_simp; rfl)); intro gb246 hg w14 hbox hb; have BK246 := Aside0.mk (hbox); have GW246 := Aside0.mk ((by rw [hg]; exact (below_size (bI HB.out)) : w.heap.size ≤ gb246)); have GJ246 := GeI.mk GW246.out; have GE246 := Aside0.mk ((by rw [hg]; exact (below_size (bI HB.out)) : w.heap.size ≤ gb246)); have GI246 := GeI.mk GE246.out; replace HB := Aside0.mk (below_step (bI HB.out) hb); clear hb hbox hg; have hcz15_0 := bc0 BK246.out; have hcz15_1 := bc1 BK246.out; have hfz15_0 := blk_frozen BK246.out 0; have hfz15_1 := blk_frozen BK246.out 1) | ((with_reducible refine gate_callee (f := 38) rfl ?_); refine goesL_ (some 6) rfl rfl Try.func38 (by kernel_rfl) rfl #[.agg #[.int .i64 a0_0, .int .i64 a0_1]] rfl (by (try simp only [List.map_toArray, List.map_cons, List.map_nil]); first | done | rfl | (simp only [List.length_drop, List.length_take]; rfl)) ?_; (with_reducible refine (impl_ConfOk.calls a0_0 a0_1 false _ A3.out).mono ?_); rintro e w16 ⟨rfl, hb⟩; refine ⟨_, rfl, ?_⟩; replace BK246 := Aside0.mk (blk_below (g := gb246) (o := .cells #[.int .i64 a0_0, .int .i64 a0_1] 37 (0, 0)) (kI BK246.out) hb); replace HB := Aside0.mk (below_step (bI HB.out) hb); (try clear hb); (try clear hb2); (try clear hk); (try clear hi)))
    go_ret
    exact ⟨by first | rfl | (simp [errW_none, errW_some] <;> rfl) | (simp [*, errW_none, errW_some] <;> rfl), bI HB.out⟩

/-! ### laws_FnUnderAll: function 7 -/
def laws_FnUnderAll.f (k : Nat) (l0 : List Int) : Option (Bool) := (laws_big.f l0).bind fun t248 => (if t248 = true then (some true) else ((spec_DrawUnder.f k l0).bind fun bt249 => ((impl_Under.f k bt249.1 bt249.2.1 bt249.2.2.1 bt249.2.2.2).bind fun t254 => ((spec_Under.f k bt249.1 bt249.2.1 bt249.2.2.1 bt249.2.2.2).bind fun t257 => ((laws_sameInts.f k t254 t257).bind fun t260 => (if t260 = true then ((impl_ConfOk.f bt249.1 bt249.2.1).bind fun t261 => (if t261 = true then (if bt249.2.2.1 < 0 then (some ((t254.length : Int) == 0)) else ((impl_Up.f bt249.1 bt249.2.1 bt249.2.2.1 bt249.2.2.2).bind fun t262 => (if t262 ≥ 0 then ((impl_Under.f k bt249.1 bt249.2.1 bt249.2.2.1 t262).bind fun t263 => ((impl_Common.f k t254 t263).bind fun t266 => (if t266 = (t254.length : Int) then ((impl_Root.f bt249.1 bt249.2.1 bt249.2.2.1).bind fun t267 => ((impl_Under.f k bt249.1 bt249.2.1 bt249.2.2.1 t267).bind fun t268 => (some ((t268.length : Int) == bt249.1)))) else (some false)))) else ((impl_Root.f bt249.1 bt249.2.1 bt249.2.2.1).bind fun t271 => ((impl_Under.f k bt249.1 bt249.2.1 bt249.2.2.1 t271).bind fun t272 => (some ((t272.length : Int) == bt249.1))))))) else (some ((t254.length : Int) == 0)))) else (some false)))))))
theorem laws_FnUnderAll.mono : ∀ a0 k, LeO (laws_FnUnderAll.f k a0) (laws_FnUnderAll.f (k + 1) a0) := by
  intro a0 k
  unfold laws_FnUnderAll.f
  repeat' first
      | (with_reducible exact impl_Common.mono _ _ _)
      | (with_reducible exact impl_Under.mono _ _ _ _ _)
      | (with_reducible exact laws_sameInts.mono _ _ _)
      | (with_reducible exact spec_DrawUnder.mono _ _)
      | (with_reducible exact spec_Under.mono _ _ _ _ _)
      | (with_reducible exact LeO.refl _)
      | (with_reducible exact LeO.none _)
      | (with_reducible refine LeO.ite ?_ ?_)
      | (with_reducible refine LeO.bind ?_ (fun _ => ?_))
      | exact impl_Common.mono _ _ _
      | exact impl_Under.mono _ _ _ _ _
      | exact laws_sameInts.mono _ _ _
      | exact spec_DrawUnder.mono _ _
      | exact spec_Under.mono _ _ _ _ _
      | exact LeO.none _
      | refine LeO.ite ?_ ?_
      | refine LeO.bind ?_ (fun _ => ?_)
def laws_FnUnderAll.T12 : Bool × List (List Nat × List Nat) := (true, [([], []), ([], []), ([], []), ([], []), ([2, 3], [2, 3]), ([0, 1, 4, 4], [0, 1, 4]), ([5], [5]), ([], []), ([7], [7]), ([6, 8], [6, 8]), ([9, 5, 0, 1, 2, 3, 4, 5, 6, 7, 8, 9], [9])])
def laws_FnUnderAll.B12 : List Nat := [0, 0, 0, 0, 12, 31, 63, 0, 128, 511, 1023]
theorem laws_FnUnderAll.tab12 : rtab .any (opsOf Try.f7 12) = laws_FnUnderAll.T12 := by kernel_rfl
theorem laws_FnUnderAll.bits12 : waitsOk laws_FnUnderAll.T12.2 laws_FnUnderAll.B12 = true := by kernel_rfl
set_option maxHeartbeats 8000000 in
set_option maxRecDepth 100000 in
theorem laws_FnUnderAll.calls (k : Nat) (A0 : Option Addr) (c0 : Nat) (l0 : List Int) (r : Bool) (hrt : Aside0 (r = true)) (w : World) (hr0 : Kd.C (Kd.int .u8) w A0 l0.length l0) (hc0 : l0.length ≤ c0) (h : laws_FnUnderAll.f k l0 = some r) :
    Calls Try.prog 7 #[.slice A0 l0.length c0] w fun e w' => e = .returned (.bool r) ∧ Below w.heap.size w w' := by
  have hu37 := Try.underlying37
  have HR0 := Aside0.mk hr0
  have HC0 := Aside0.mk hc0
  clear hr0 hc0
  have HB := Aside0.mk (Below.refl w.heap.size w)
  have H : ((laws_big.f l0).bind fun t248 => (if t248 = true then (some true) else ((spec_DrawUnder.f k l0).bind fun bt249 => ((impl_Under.f k bt249.1 bt249.2.1 bt249.2.2.1 bt249.2.2.2).bind fun t254 => ((spec_Under.f k bt249.1 bt249.2.1 bt249.2.2.1 bt249.2.2.2).bind fun t257 => ((laws_sameInts.f k t254 t257).bind fun t260 => (if t260 = true then ((impl_ConfOk.f bt249.1 bt249.2.1).bind fun t261 => (if t261 = true then (if bt249.2.2.1 < 0 then (some ((t254.length : Int) == 0)) else ((impl_Up.f bt249.1 bt249.2.1 bt249.2.2.1 bt249.2.2.2).bind fun t262 => (if t262 ≥ 0 then ((impl_Under.f k bt249.1 bt249.2.1 bt249.2.2.1 t262).bind fun t263 => ((impl_Common.f k t254 t263).bind fun t266 => (if t266 = (t254.length : Int) then ((impl_Root.f bt249.1 bt249.2.1 bt249.2.2.1).bind fun t267 => ((impl_Under.f k bt249.1 bt249.2.1 bt249.2.2.1 t267).bind fun t268 => (some ((t268.length : Int) == bt249.1)))) else (some false)))) else ((impl_Root.f bt249.1 bt249.2.1 bt249.2.2.1).bind fun t271 => ((impl_Under.f k bt249.1 bt249.2.1 bt249.2.2.1 t271).bind fun t272 => (some ((t272.length : Int) == bt249.1))))))) else (some ((t254.length : Int) == 0)))) else (some false)))))))) = some r := h
  clear h
  obtain ⟨t248, A20, H⟩ := Option.bind_eq_some_iff.mp H
  try dsimp only at H
  have A2 := Aside0.mk A20
  clear A20
  by_cases c3 : t248 = true
  · subst c3
    rw [if_pos rfl] at H
    obtain rfl := Option.some.inj H
    go_enter Try.func7, Try.ntmps7
    go_wp2_with (first | ((with_reducible refine gate_callee (f := 35) rfl ?_); refine goesL_ (some 9) rfl rfl Try.func35 (by kernel_rfl) rfl #[.slice A0 l0.length c0] rfl (by (try simp only [List.map_toArray, List.map_cons, List.map_nil]); first | done | rfl | (simp only [List.length_drop, List.length_take]; rfl)) ?_; (with_reducible refine (laws_big.calls _ _ l0 true _ ?side1 ?side2 A2.out).mono ?_); (case side1 => exact cI HR0.out); (case side2 => exact HC0.out); rintro e w' ⟨rfl, ⟨nd, rfl⟩⟩; refine ⟨_, rfl, ?_⟩))
    go_ret
    exact ⟨by first | rfl | (simp [errW_none, errW_some] <;> rfl) | (simp [*, errW_none, errW_some] <;> rfl), bI HB.out⟩
  · replace c3 := Bool.eq_false_iff.mpr c3
    subst c3
    rw [if_neg (show ¬ (false = true) by decide)] at H
    obtain ⟨⟨t249, t250, t251, t252⟩, A40, H⟩ := Option.bind_eq_some_iff.mp H
    try dsimp only at H
    have A4 := Aside0.mk A40
    clear A40
    obtain ⟨t254, A50, H⟩ := Option.bind_eq_some_iff.mp H
    try dsimp only at H
    have A5 := Aside0.mk A50
    clear A50
    obtain ⟨t257, A60, H⟩ := Option.bind_eq_some_iff.mp H
    try dsimp only at H
    have A6 := Aside0.mk A60
    clear A60
    obtain ⟨t260, A70, H⟩ := Option.bind_eq_some_iff.mp H
    try dsimp only at H
    have A7 := Aside0.mk A70
    clear A70
    by_cases c8 : t260 = true
    · subst c8
      rw [if_pos rfl] at H
      obtain ⟨t261, A90, H⟩ := Option.bind_eq_some_iff.mp H
      try dsimp only at H
      have A9 := Aside0.mk A90
      clear A90
      by_cases c10 : t261 = true
      · subst c10
        rw [if_pos rfl] at H
        by_cases c11 : t251 < 0
        · rw [if_pos c11] at H
          have c11b0 : decide (t251 < 0) = true := decide_eq_true c11
          clear c11
          obtain rfl := Option.some.inj H
          go_enter Try.func7, Try.ntmps7
          go_wp2_with (first | ((with_reducible refine gate_callee (f := 35) rfl ?_); refine goesL_ (some 9) rfl rfl Try.func35 (by kernel_rfl) rfl #[.slice A0 l0.length c0] rfl (by (try simp only [List.map_toArray, List.map_cons, List.map_nil]); first | done | rfl | (simp only [List.length_drop, List.length_take]; rfl)) ?_; (with_reducible refine (laws_big.calls _ _ l0 false _ ?side1 ?side2 A2.out).mono ?_); (case side1 => exact cI HR0.out); (case side2 => exact HC0.out); rintro e w' ⟨rfl, ⟨nd, rfl⟩⟩; refine ⟨_, rfl, ?_⟩) | ((with_reducible refine gate_callee (f := 36) rfl ?_); refine goesL_ (some 12) rfl rfl Try.func36 (by kernel_rfl) rfl #[.slice A0 l0.length c0] rfl (by (try simp only [List.map_toArray, List.map_cons, List.map_nil]); first | done | rfl | (simp only [List.length_drop, List.length_take]; rfl)) ?_; (with_reducible refine (spec_DrawUnder.calls k _ _ l0 t249 t250 t251 t252 _ ?side1 ?side2 A4.out).mono ?_); (case side1 => exact cI HR0.out); (case side2 => exact HC0.out); rintro e w12 ⟨rfl, hb⟩; refine ⟨_, rfl, ?_⟩; replace HB := Aside0.mk (below_step (bI HB.out) hb); (try clear hb); (try clear hb2); (try clear hk); (try clear hi)) | ((with_reducible refine gate_dst (N := 3) rfl ?_); (try (refine gate_guard (by rfl) ?_; dsimp only)); refine box_event ?hg (N := 3) ?hd (cs := #[.int .i64 0, .int .i64 0]) (t := 37) ?hr ?_; (case hd => rfl); (case hg => rfl); (case hr => first | (go_simp; done) | (go_simp; rfl)); intro gb253 hg w13 hbox hb; have BK253 := Aside0.mk (hbox); have GW253 := Aside0.mk ((by rw [hg]; exact (below_size (bI HB.out)) : w.heap.size ≤ gb253)); have GJ253 := GeI.mk GW253.out; have GE253 := Aside0.mk ((by rw [hg]; exact (below_size (bI HB.out)) : w.heap.size ≤ gb253)); have GI253 := GeI.mk GE253.out; replace HB := Aside0.mk (below_step (bI HB.out) hb); clear hb hbox hg; have hcz14_0 := bc0 BK253.out; have hcz14_1 := bc1 BK253.out; have hfz14_0 := blk_frozen BK253.out 0; have hfz14_1 := blk_frozen BK253.out 1) | ((with_reducible refine gate_callee (f := 19) rfl ?_); refine goesL_ (some 19) rfl rfl Try.func19 (by kernel_rfl) rfl #[.agg #[.int .i64 t249, .int .i64 t250], .int .i64 t251, .int .i64 t252] rfl (by (try simp only [List.map_toArray, List.map_cons, List.map_nil]); first | done | rfl | (simp only [List.length_drop, List.length_take]; rfl)) ?_; (with_reducible refine (impl_Under.calls k t249 t250 t251 t252 t254 _ A5.out).mono ?_); rintro e w15 ⟨v255, rfl, ho0, hb⟩; refine ⟨_, rfl, ?_⟩; have HO256 := Aside0.mk (Kd.R_lower ho0 (below_size (bI HB.out))); replace BK253 := Aside0.mk (blk_below (g := gb253) (o := .cells #[.int .i64 t249, .int .i64 t250] 37 (0, 0)) (by (with_reducible repeat (first | refine blk_drewN ?_ _ | refine blk_drew ?_ | refine blk_alloc ?_ _)); refine blk_put (cs := #[.int .i64 t249, .int .i64 0]) ?_ 1 _ rfl; (with_reducible repeat (first | refine blk_drewN ?_ _ | refine blk_drew ?_ | refine blk_alloc ?_ _)); refine blk_put (cs := #[.int .i64 0, .int .i64 0]) ?_ 0 _ rfl; (with_reducible repeat (first | refine blk_drewN ?_ _ | refine blk_drew ?_ | refine blk_alloc ?_ _)); exact BK253.out) hb); replace HB := Aside0.mk (below_step (bI HB.out) hb); (try clear hb); (try clear hb2); (try clear hk); (try clear hi); (try clear ho0); have hcz16_0 := bc0 BK253.out; have hcz16_1 := bc1 BK253.out; have hfz16_0 := blk_frozen BK253.out 0; have hfz16_1 := blk_frozen BK253.out 1) | ((with_reducible refine gate_callee (f := 17) rfl ?_); refine goesL_ (some 24) rfl rfl Try.func17 (by kernel_rfl) rfl #[.agg #[.int .i64 t249, .int .i64 t250], .int .i64 t251, .int .i64 t252] rfl (by (try simp only [List.map_toArray, List.map_cons, List.map_nil]); first | done | rfl | (simp only [List.length_drop, List.length_take]; rfl)) ?_; (with_reducible refine (spec_Under.calls k t249 t250 t251 t252 t257 _ A6.out).mono ?_); rintro e w17 ⟨v258, rfl, ho0, hb⟩; refine ⟨_, rfl, ?_⟩; have HO259 := Aside0.mk (Kd.R_lower (Kd.R_new' ho0 (Kd.R_lt (rI HO256.out))) (below_size (bI HB.out))); replace HO256 := Aside0.mk (Kd.R_elder' (rI HO256.out) (Kd.R_base ho0) hb); replace BK253 := Aside0.mk (blk_below (g := gb253) (o := .cells #[.int .i64 t249, .int .i64 t250] 37 (0, 0)) (kI BK253.out) hb); replace HB := Aside0.mk (below_step (bI HB.out) hb); (try clear hb); (try clear hb2); (try clear hk); (try clear hi); (try clear ho0); obtain ⟨Ao18, co18, eo18⟩ := Kd.R_slice HO256.out; subst eo18; obtain ⟨Ao19, co19, eo19⟩ := Kd.R_slice HO259.out; subst eo19) | ((with_reducible refine gate_callee (f := 37) rfl ?_); refine goesL_ (some 25) rfl rfl Try.func37 (by kernel_rfl) rfl #[.slice Ao18 t254.length co18, .slice Ao19 t257.length co19] rfl (by (try simp only [List.map_toArray, List.map_cons, List.map_nil]); first | done | rfl | (simp only [List.length_drop, List.length_take]; rfl)) ?_; (with_reducible refine (laws_sameInts.calls k _ _ t254 _ _ t257 true _ ?side1 ?side2 ?side3 ?side4 A7.out).mono ?_); (case side1 => repeat (first | exact (Kd.R_reads' HO256.out).2.2 | (with_reducible refine Kd.C_alloc ?_ _) | (with_reducible refine Kd.C_drewN ?_ _) | (with_reducible refine Kd.C_drew ?_))); (case side2 => exact (Kd.R_reads' HO256.out).2.1); (case side3 => repeat (first | exact (Kd.R_reads' HO259.out).2.2 | (with_reducible refine Kd.C_alloc ?_ _) | (with_reducible refine Kd.C_drewN ?_ _) | (with_reducible refine Kd.C_drew ?_))); (case side4 => exact (Kd.R_reads' HO259.out).2.1); rintro e w' ⟨rfl, ⟨nd, rfl⟩⟩; refine ⟨_, rfl, ?_⟩; have hcz20_0 := bc0 BK253.out; have hcz20_1 := bc1 BK253.out; have hfz20_0 := blk_frozen BK253.out 0; have hfz20_1 := blk_frozen BK253.out 1; clear HO259; have n_ := Aside0.mk (Kd.R_mono (ok' := (fun _ => True)) HO256.out (fun k_ hk => trivial)); clear HO256; have HO256 := n_; clear n_) | ((with_reducible refine gate_callee (f := 38) rfl ?_); refine goesL_ (some 28) rfl rfl Try.func38 (by kernel_rfl) rfl #[.agg #[.int .i64 t249, .int .i64 t250]] rfl (by (try simp only [List.map_toArray, List.map_cons, List.map_nil]); first | done | rfl | (simp only [List.length_drop, List.length_take]; rfl)) ?_; (with_reducible refine (impl_ConfOk.calls t249 t250 true _ A9.out).mono ?_); rintro e w21 ⟨rfl, hb⟩; refine ⟨_, rfl, ?_⟩; replace HO256 := Aside0.mk (Kd.R_below (rI HO256.out) hb); replace BK253 := Aside0.mk (blk_below (g := gb253) (o := .cells #[.int .i64 t249, .int .i64 t250] 37 (0, 0)) (kI BK253.out) hb); replace HB := Aside0.mk (below_step (bI HB.out) hb); (try clear hb); (try clear hb2); (try clear hk); (try clear hi)))
          go_ret
          exact ⟨by first | rfl | (simp [errW_none, errW_some] <;> rfl) | (simp [*, errW_none, errW_some] <;> rfl), bI HB.out⟩
        · rw [if_neg c11] at H
          have c11b0 : decide (t251 < 0) = false := decide_eq_false c11
          clear c11
          obtain ⟨t262, A220, H⟩ := Option.bind_eq_some_iff.mp H
          try dsimp only at H
          have A22 := Aside0.mk A220
          clear A220
          by_cases c23 : t262 ≥ 0
          · rw [if_pos c23] at H
            have c23b0 : decide (0 ≤ t262) = true := decide_eq_true c23
            clear c23
            obtain ⟨t263, A240, H⟩ := Option.bind_eq_some_iff.mp H
            try dsimp only at H
            have A24 := Aside0.mk A240
            clear A240
            obtain ⟨t266, A250, H⟩ := Option.bind_eq_some_iff.mp H
            try dsimp only at H
            have A25 := Aside0.mk A250
            clear A250
            by_cases c26 : t266 = (t254.length : Int)
            rotate_left
            · rw [if_neg c26] at H
              have c26b0 : (t266 == (t254.length : Int)) = false := beq_eq_false_iff_ne.mpr c26
              have c26b1 : (t266 != (t254.length : Int)) = true := bne_iff_ne.mpr c26
              exact absurd (hrt.out.symm.trans (Option.some.inj H).symm) (by decide)
            rw [if_pos c26] at H
            have c26b0 : (t266 == (t254.length : Int)) = true := beq_iff_eq.mpr c26
            have c26b1 : (t266 != (t254.length : Int)) = false := bne_eq_false_iff_eq.mpr c26
            clear c26
            obtain ⟨t267, A270, H⟩ := Option.bind_eq_some_iff.mp H
            try dsimp only at H
            have A27 := Aside0.mk A270
            clear A270
            obtain ⟨t268, A280, H⟩ := Option.bind_eq_some_iff.mp H
            try dsimp only at H
            have A28 := Aside0.mk A280
            clear A280
            obtain rfl := Option.some.inj H
            go_enter Try.func7, Try.ntmps7
            try go_wp2_with (first | ((with_reducible refine gate_callee (f := 35) rfl ?_); refine goesL_ (some 9) rfl rfl Try.func35 (by kernel_rfl) rfl #[.slice A0 l0.length c0] rfl (by (try simp only [List.map_toArray, List.map_cons, List.map_nil]); first | done | rfl | (simp only [List.length_drop, List.length_take]; rfl)) ?_; (with_reducible refine (laws_big.calls _ _ l0 false _ ?side1 ?side2 A2.out).mono ?_); (case side1 => exact cI HR0.out); (case side2 => exact HC0.out); rintro e w' ⟨rfl, ⟨nd, rfl⟩⟩; refine ⟨_, rfl, ?_⟩) | ((with_reducible refine gate_callee (f := 36) rfl ?_); refine goesL_ (some 12) rfl rfl Try.func36 (by kernel_rfl) rfl #[.slice A0 l0.length c0] rfl (by (try simp only [List.map_toArray, List.map_cons, List.map_nil]); first | done | rfl | (simp only [List.length_drop, List.length_take]; rfl)) ?_; (with_reducible refine (spec_DrawUnder.calls k _ _ l0 t249 t250 t251 t252 _ ?side1 ?side2 A4.out).mono ?_); (case side1 => exact cI HR0.out); (case side2 => exact HC0.out); rintro e w29 ⟨rfl, hb⟩; refine ⟨_, rfl, ?_⟩; replace HB := Aside0.mk (below_step (bI HB.out) hb); (try clear hb); (try clear hb2); (try clear hk); (try clear hi)) | ((with_reducible refine gate_dst (N := 3) rfl ?_); (try (refine gate_guard (by rfl) ?_; dsimp only)); refine box_event ?hg (N := 3) ?hd (cs := #[.int .i64 0, .int .i64 0]) (t := 37) ?hr ?_; (case hd => rfl); (case hg => rfl); (case hr => first | (go_simp; done) | (go_simp; rfl)); intro gb253 hg w30 hbox hb; have BK253 := Aside0.mk (hbox); have GW253 := Aside0.mk ((by rw [hg]; exact (below_size (bI HB.out)) : w.heap.size ≤ gb253)); have GJ253 := GeI.mk GW253.out; have GE253 := Aside0.mk ((by rw [hg]; exact (below_size (bI HB.out)) : w.heap.size ≤ gb253)); have GI253 := GeI.mk GE253.out; replace HB := Aside0.mk (below_step (bI HB.out) hb); clear hb hbox hg; have hcz31_0 := bc0 BK253.out; have hcz31_1 := bc1 BK253.out; have hfz31_0 := blk_frozen BK253.out 0; have hfz31_1 := blk_frozen BK253.out 1) | ((with_reducible refine gate_callee (f := 19) rfl ?_); refine goesL_ (some 19) rfl rfl Try.func19 (by kernel_rfl) rfl #[.agg #[.int .i64 t249, .int .i64 t250], .int .i64 t251, .int .i64 t252] rfl (by (try simp only [List.map_toArray, List.map_cons, List.map_nil]); first | done | rfl | (simp only [List.length_drop, List.length_take]; rfl)) ?_; (with_reducible refine (impl_Under.calls k t249 t250 t251 t252 t254 _ A5.out).mono ?_); rintro e w32 ⟨v255, rfl, ho0, hb⟩; refine ⟨_, rfl, ?_⟩; have HO256 := Aside0.mk (Kd.R_lower ho0 (below_size (bI HB.out))); replace BK253 := Aside0.mk (blk_below (g := gb253) (o := .cells #[.int .i64 t249, .int .i64 t250] 37 (0, 0)) (by (with_reducible repeat (first | refine blk_drewN ?_ _ | refine blk_drew ?_ | refine blk_alloc ?_ _)); refine blk_put (cs := #[.int .i64 t249, .int .i64 0]) ?_ 1 _ rfl; (with_reducible repeat (first | refine blk_drewN ?_ _ | refine blk_drew ?_ | refine blk_alloc ?_ _)); refine blk_put (cs := #[.int .i64 0, .int .i64 0]) ?_ 0 _ rfl; (with_reducible repeat (first | refine blk_drewN ?_ _ | refine blk_drew ?_ | refine blk_alloc ?_ _)); exact BK253.out) hb); replace HB := Aside0.mk (below_step (bI HB.out) hb); (try clear hb); (try clear hb2); (try clear hk); (try clear hi); (try clear ho0); have hcz33_0 := bc0 BK253.out; have hcz33_1 := bc1 BK253.out; have hfz33_0 := blk_frozen BK253.out 0; have hfz33_1 := blk_frozen BK253.out 1) | ((with_reducible refine gate_callee (f := 17) rfl ?_); refine goesL_ (some 24) rfl rfl Try.func17 (by kernel_rfl) rfl #[.agg #[.int .i64 t249, .int .i64 t250], .int .i64 t251, .int .i64 t252] rfl (by (try simp only [List.map_toArray, List.map_cons, List.map_nil]); first | done | rfl | (simp only [List.length_drop, List.length_take]; rfl)) ?_; (with_reducible refine (spec_Under.calls k t249 t250 t251 t252 t257 _ A6.out).mono ?_); rintro e w34 ⟨v258, rfl, ho0, hb⟩; refine ⟨_, rfl, ?_⟩; have HO259 := Aside0.mk (Kd.R_lower (Kd.R_new' ho0 (Kd.R_lt (rI HO256.out))) (below_size (bI HB.out))); replace HO256 := Aside0.mk (Kd.R_elder' (rI HO256.out) (Kd.R_base ho0) hb); replace BK253 := Aside0.mk (blk_below (g := gb253) (o := .cells #[.int .i64 t249, .int .i64 t250] 37 (0, 0)) (kI BK253.out) hb); replace HB := Aside0.mk (below_step (bI HB.out) hb); (try clear hb); (try clear hb2); (try clear hk); (try clear hi); (try clear ho0); obtain ⟨Ao35, co35, eo35⟩ := Kd.R_slice HO256.out; subst eo35; obtain ⟨Ao36, co36, eo36⟩ := Kd.R_slice HO259.out; subst eo36) | ((with_reducible refine gate_callee (f := 37) rfl ?_); refine goesL_ (some 25) rfl rfl Try.func37 (by kernel_rfl) rfl #[.slice Ao35 t254.length co35, .slice Ao36 t257.length co36] rfl (by (try simp only [List.map_toArray, List.map_cons, List.map_nil]); first | done | rfl | (simp only [List.length_drop, List.length_take]; rfl)) ?_; (with_reducible refine (laws_sameInts.calls k _ _ t254 _ _ t257 true _ ?side1 ?side2 ?side3 ?side4 A7.out).mono ?_); (case side1 => repeat (first | exact (Kd.R_reads' HO256.out).2.2 | (with_reducible refine Kd.C_alloc ?_ _) | (with_reducible refine Kd.C_drewN ?_ _) | (with_reducible refine Kd.C_drew ?_))); (case side2 => exact (Kd.R_reads' HO256.out).2.1); (case side3 => repeat (first | exact (Kd.R_reads' HO259.out).2.2 | (with_reducible refine Kd.C_alloc ?_ _) | (with_reducible refine Kd.C_drewN ?_ _) | (with_reducible refine Kd.C_drew ?_))); (case side4 => exact (Kd.R_reads' HO259.out).2.1); rintro e w' ⟨rfl, ⟨nd, rfl⟩⟩; refine ⟨_, rfl, ?_⟩; have hcz37_0 := bc0 BK253.out; have hcz37_1 := bc1 BK253.out; have hfz37_0 := blk_frozen BK253.out 0; have hfz37_1 := blk_frozen BK253.out 1; clear HO259; have n_ := Aside0.mk (Kd.R_mono (ok' := (fun _ => True)) HO256.out (fun k_ hk => trivial)); clear HO256; have HO256 := n_; clear n_) | ((with_reducible refine gate_callee (f := 38) rfl ?_); refine goesL_ (some 28) rfl rfl Try.func38 (by kernel_rfl) rfl #[.agg #[.int .i64 t249, .int .i64 t250]] rfl (by (try simp only [List.map_toArray, List.map_cons, List.map_nil]); first | done | rfl | (simp only [List.length_drop, List.length_take]; rfl)) ?_; (with_reducible refine (impl_ConfOk.calls t249 t250 true _ A9.out).mono ?_); rintro e w38 ⟨rfl, hb⟩; refine ⟨_, rfl, ?_⟩; replace HO256 := Aside0.mk (Kd.R_below (rI HO256.out) hb); replace BK253 := Aside0.mk (blk_below (g := gb253) (o := .cells #[.int .i64 t249, .int .i64 t250] 37 (0, 0)) (kI BK253.out) hb); replace HB := Aside0.mk (below_step (bI HB.out) hb); (try clear hb); (try clear hb2); (try clear hk); (try clear hi); have hcz39_0 := bc0 BK253.out; have hcz39_1 := bc1 BK253.out; have hfz39_0 := blk_frozen BK253.out 0; have hfz39_1 := blk_frozen BK253.out 1) | ((with_reducible refine gate_callee (f := 39) rfl ?_); refine goesL_ (some 40) rfl rfl Try.func39 (by kernel_rfl) rfl #[.agg #[.int .i64 t249, .int .i64 t250], .int .i64 t251, .int .i64 t252] rfl (by (try simp only [List.map_toArray, List.map_cons, List.map_nil]); first | done | rfl | (simp only [List.length_drop, List.length_take]; rfl)) ?_; (with_reducible refine (impl_Up.calls t249 t250 t251 t252 t262 _ A22.out).mono ?_); rintro e w40 ⟨rfl, hb⟩; refine ⟨_, rfl, ?_⟩; replace HO256 := Aside0.mk (Kd.R_below (rI HO256.out) hb); replace BK253 := Aside0.mk (blk_below (g := gb253) (o := .cells #[.int .i64 t249, .int .i64 t250] 37 (0, 0)) (kI BK253.out) hb); replace HB := Aside0.mk (below_step (bI HB.out) hb); (try clear hb); (try clear hb2); (try clear hk); (try clear hi); have hcz41_0 := bc0 BK253.out; have hcz41_1 := bc1 BK253.out; have hfz41_0 := blk_frozen BK253.out 0; have hfz41_1 := blk_frozen BK253.out 1) | (go_at_call 19; (with_reducible refine (impl_Under.calls k t249 t250 t251 t262 t263 _ A24.out).mono ?_); rintro e w42 ⟨v264, rfl, ho0, hb⟩; have HO265 := Aside0.mk (Kd.R_lower (Kd.R_new' ho0 (Kd.R_lt (rI HO256.out))) (below_size (bI HB.out))); replace HO256 := Aside0.mk (Kd.R_elder' (rI HO256.out) (Kd.R_base ho0) hb); replace BK253 := Aside0.mk (blk_below (g := gb253) (o := .cells #[.int .i64 t249, .int .i64 t250] 37 (0, 0)) (kI BK253.out) hb); replace HB := Aside0.mk (below_step (bI HB.out) hb); (try clear hb); (try clear hb2); (try clear hk); (try clear hi); (try clear ho0); obtain ⟨Ao43, co43, eo43⟩ := Kd.R_slice HO265.out; subst eo43) | (go_at_call 40; (with_reducible refine (impl_Common.calls k _ _ t254 _ _ t263 t266 _ ?side1 ?side2 ?side3 ?side4 A25.out).mono ?_); (case side1 => repeat (first | exact (Kd.R_reads' HO256.out).2.2 | (with_reducible refine Kd.C_alloc ?_ _) | (with_reducible refine Kd.C_drewN ?_ _) | (with_reducible refine Kd.C_drew ?_))); (case side2 => exact (Kd.R_reads' HO256.out).2.1); (case side3 => repeat (first | exact (Kd.R_reads' HO265.out).2.2 | (with_reducible refine Kd.C_alloc ?_ _) | (with_reducible refine Kd.C_drewN ?_ _) | (with_reducible refine Kd.C_drew ?_))); (case side4 => exact (Kd.R_reads' HO265.out).2.1); rintro e w' ⟨rfl, ⟨nd, rfl⟩⟩; clear HO256; clear HO265))
            (try (rw [drewN_self w42]; generalize hq_ : World.drewN w42 _ = w42; have n0_ : Aside0 (w42.heap[gb253]? = some (.cells #[.int .i64 t249, .int .i64 t250] 37 (0, 0))) := ⟨by rw [← hq_]; exact (kI BK253.out)⟩; have n1_ : Aside0 (Below w.heap.size w w42) := ⟨by rw [← hq_]; exact (bI HB.out)⟩; clear BK253 HB hq_; have BK253 := n0_; have HB := n1_; clear n0_ n1_))
            replace BK253 := Aside0.mk (blk_drew BK253.out)
            replace HB := Aside0.mk (below_drew1 HB.out)
            refine start_ (n := 11) (S := fun w' => w'.cell? ⟨gb253, 0, none⟩ = some (.int .i64 t249) ∧ w'.cell? ⟨gb253, 1, none⟩ = some (.int .i64 t250)) (ds := []) #[false, false, false, false, false, false, false, false, false, false, false] (by kernel_rfl) rfl rfl ⟨(blk_cell BK253.out 0).trans rfl, (blk_cell BK253.out 1).trans rfl⟩ (fun hHeld => ?_); refine with_tabW laws_FnUnderAll.tab12 laws_FnUnderAll.bits12 (fun HT_ HW_ => ?_)
            generalize w42.drew = w44 at BK253 HB hHeld ⊢
            refine pure_ (i := 1) (N := some 55) (v := ?_) (a' := ?_) #[false, true, false, false, false, false, false, false, false, false, false] rfl rfl (any_of HT_.out (by kernel_rfl)) (fun _ _ _ h => h) (Or.inl ⟨by rfl, ?_⟩) ?_ ?_
            rotate_left
            · intro w'
              go_simp
              with_reducible rfl
            rotate_left
            · simp only [Act.put, List.setIfInBounds_toArray, List.set_cons_zero, List.set_cons_succ, i64_w, i32_w]
              rfl
            refine pure_ (i := 3) (N := some 57) (v := ?_) (a' := ?_) #[false, true, false, true, false, false, false, false, false, false, false] rfl rfl (any_of HT_.out (by kernel_rfl)) (fun _ _ _ h => h) (Or.inl ⟨by rfl, ?_⟩) ?_ ?_
            rotate_left
            · intro w'
              go_simp
              with_reducible rfl
            rotate_left
            · simp only [Act.put, List.setIfInBounds_toArray, List.set_cons_zero, List.set_cons_succ, i64_w, i32_w]
              rfl
            refine pure_ (i := 7) (N := some 61) (v := ?_) (a' := ?_) #[false, true, false, true, false, false, false, true, false, false, false] rfl rfl (any_of HT_.out (by kernel_rfl)) (fun _ _ _ h => h) (Or.inl ⟨by rfl, ?_⟩) ?_ ?_
            rotate_left
            · intro w'
              go_simp
              with_reducible rfl
            rotate_left
            · simp only [Act.put, List.setIfInBounds_toArray, List.set_cons_zero, List.set_cons_succ, i64_w, i32_w]
              rfl
            refine take_ (i := 0) (N := some 54) (v := ?_) (a' := ?_) #[true, true, false, true, false, false, false, true, false, false, false] rfl rfl (take_ofW HT_.out HW_.out (by kernel_rfl)) (fun _ _ _ h => h) (Or.inl ⟨by rfl, ?_⟩) hHeld ?_ ?_
            rotate_left
            · rintro w' ⟨s0, s1⟩
              go_simp
              with_reducible rfl
            rotate_left
            · simp only [Act.put, List.setIfInBounds_toArray, List.set_cons_zero, List.set_cons_succ, i64_w, i32_w]
              rfl
            refine take_ (i := 2) (N := some 56) (v := ?_) (a' := ?_) #[true, true, true, true, false, false, false, true, false, false, false] rfl rfl (take_ofW HT_.out HW_.out (by kernel_rfl)) (fun _ _ _ h => h) (Or.inl ⟨by rfl, ?_⟩) hHeld ?_ ?_
            rotate_left
            · rintro w' ⟨s0, s1⟩
              go_simp
              with_reducible rfl
            rotate_left
            · simp only [Act.put, List.setIfInBounds_toArray, List.set_cons_zero, List.set_cons_succ, i64_w, i32_w]
              rfl
            refine take_ (i := 8) (N := some 62) (v := ?_) (a' := ?_) #[true, true, true, true, false, false, false, true, true, false, false] rfl rfl (take_ofW HT_.out HW_.out (by kernel_rfl)) (fun _ _ _ h => h) (Or.inl ⟨by rfl, ?_⟩) hHeld ?_ ?_
            rotate_left
            · rintro w' ⟨s0, s1⟩
              go_simp
              with_reducible rfl
            rotate_left
            · simp only [Act.put, List.setIfInBounds_toArray, List.set_cons_zero, List.set_cons_succ, i64_w, i32_w]
              rfl
            refine one_ (i := 4) (N := some 58) #[true, true, true, true, true, false, false, true, true, false, false] rfl rfl (one_of HT_.out (by kernel_rfl)) (by decide) (fun K hK => ?_)
            refine goes_ Try.func41 (by kernel_rfl) rfl #[.agg #[.int .i64 t249, .int .i64 t250], .int .i64 t251] (by rfl) rfl rfl (by (try simp only [List.map_toArray, List.map_cons, List.map_nil]); first | done | rfl | (simp only [List.length_drop, List.length_take]; rfl)) ?_
            with_reducible refine (impl_Root.calls t249 t250 t251 t267 _ A27.out).mono ?_
            rintro e w45 ⟨rfl, hb⟩
            refine ⟨_, rfl, ?_⟩
            replace BK253 := Aside0.mk (blk_below (g := gb253) (o := .cells #[.int .i64 t249, .int .i64 t250] 37 (0, 0)) (kI BK253.out) hb)
            replace HB := Aside0.mk (below_step (bI HB.out) hb)
            (try clear hb)
            (try clear hb2)
            (try clear hk)
            (try clear hi)
            refine hK.out _ _ ⟨(blk_cell BK253.out 0).trans rfl, (blk_cell BK253.out 1).trans rfl⟩ (fun hHeld => ?_)
            clear hK K
            refine norm_ (a' := ?_) ?_ ?_
            rotate_left
            · show Act.put _ (some 58) _ = _
              simp only [Act.put, List.setIfInBounds_toArray, List.set_cons_zero, List.set_cons_succ, i64_w, i32_w]
              rfl
            refine one_ (i := 5) (N := some 59) #[true, true, true, true, true, true, false, true, true, false, false] rfl rfl (one_of HT_.out (by kernel_rfl)) (by decide) (fun K hK => ?_)
            refine goes_ Try.func19 (by kernel_rfl) rfl #[.agg #[.int .i64 t249, .int .i64 t250], .int .i64 t251, .int .i64 t267] (by rfl) rfl rfl (by (try simp only [List.map_toArray, List.map_cons, List.map_nil]); first | done | rfl | (simp only [List.length_drop, List.length_take]; rfl)) ?_
            with_reducible refine (impl_Under.calls k t249 t250 t251 t267 t268 _ A28.out).mono ?_
            rintro e w46 ⟨v269, rfl, ho0, hb⟩
            refine ⟨_, rfl, ?_⟩
            have HO270 := Aside0.mk (Kd.R_lower ho0 (below_size (bI HB.out)))
            replace BK253 := Aside0.mk (blk_below (g := gb253) (o := .cells #[.int .i64 t249, .int .i64 t250] 37 (0, 0)) (kI BK253.out) hb)
            replace HB := Aside0.mk (below_step (bI HB.out) hb)
            (try clear hb)
            (try clear hb2)
            (try clear hk)
            (try clear hi)
            (try clear ho0)
            obtain ⟨Ao47, co47, eo47⟩ := Kd.R_slice HO270.out
            (first | subst eo47 | (injection eo47 with f1_ f2_ f3_; have f4_ := f1_.symm; have f5_ := f3_.symm; clear f1_ f2_ f3_; subst f4_; subst f5_))
            refine hK.out _ _ ⟨(blk_cell BK253.out 0).trans rfl, (blk_cell BK253.out 1).trans rfl⟩ (fun hHeld => ?_)
            clear hK K
            refine norm_ (a' := ?_) ?_ ?_
            rotate_left
            · show Act.put _ (some 59) _ = _
              simp only [Act.put, List.setIfInBounds_toArray, List.set_cons_zero, List.set_cons_succ, i64_w, i32_w]
              rfl
            refine pure_ (i := 6) (N := some 60) (v := ?_) (a' := ?_) #[true, true, true, true, true, true, true, true, true, false, false] rfl rfl (any_of HT_.out (by kernel_rfl)) (fun _ _ _ h => h) (Or.inl ⟨by rfl, ?_⟩) ?_ ?_
            rotate_left
            · intro w'
              go_simp
              with_reducible rfl
            rotate_left
            · simp only [Act.put, List.setIfInBounds_toArray, List.set_cons_zero, List.set_cons_succ, i64_w, i32_w]
              rfl
            refine pure_ (i := 9) (N := some 63) (v := ?_) (a' := ?_) #[true, true, true, true, true, true, true, true, true, true, false] rfl rfl (any_of HT_.out (by kernel_rfl)) (fun _ _ _ h => h) (Or.inl ⟨by rfl, ?_⟩) ?_ ?_
            rotate_left
            · intro w'
              go_simp
              with_reducible rfl
            rotate_left
            · simp only [Act.put, List.setIfInBounds_toArray, List.set_cons_zero, List.set_cons_succ, i64_w, i32_w]
              rfl
            refine pure_ (i := 10) (N := some 2) (v := ?_) (a' := ?_) #[true, true, true, true, true, true, true, true, true, true, true] rfl rfl (any_of HT_.out (by kernel_rfl)) (fun _ _ _ h => h) (Or.inl ⟨by rfl, ?_⟩) ?_ ?_
            rotate_left
            · intro w'
              go_simp
              with_reducible rfl
            rotate_left
            · simp only [Act.put, List.setIfInBounds_toArray, List.set_cons_zero, List.set_cons_succ, i64_w, i32_w]
              rfl
            refine done_ (done_of HT_.out (by kernel_rfl)) ?_
            try go_wp2
            go_ret
            exact ⟨by first | rfl | (simp [errW_none, errW_some] <;> rfl) | (simp [*, errW_none, errW_some] <;> rfl), bI HB.out⟩
          · rw [if_neg c23] at H
            have c23b0 : decide (0 ≤ t262) = false := decide_eq_false c23
            clear c23
            obtain ⟨t271, A480, H⟩ := Option.bind_eq_some_iff.mp H
            try dsimp only at H
            have A48 := Aside0.mk A480
            clear A480
            obtain ⟨t272, A490, H⟩ := Option.bind_eq_some_iff.mp H
            try dsimp only at H
            have A49 := Aside0.mk A490
            clear A490
            obtain rfl := Option.some.inj H
            go_enter Try.func7, Try.ntmps7
            try go_wp2_with (first | ((with_reducible refine gate_callee (f := 35) rfl ?_); refine goesL_ (some 9) rfl rfl Try.func35 (by kernel_rfl) rfl #[.slice A0 l0.length c0] rfl (by (try simp only [List.map_toArray, List.map_cons, List.map_nil]); first | done | rfl | (simp only [List.length_drop, List.length_take]; rfl)) ?_; (with_reducible refine (laws_big.calls _ _ l0 false _ ?side1 ?side2 A2.out).mono ?_); (case side1 => exact cI HR0.out); (case side2 => exact HC0.out); rintro e w' ⟨rfl, ⟨nd, rfl⟩⟩; refine ⟨_, rfl, ?_⟩) | ((with_reducible refine gate_callee (f := 36) rfl ?_); refine goesL_ (some 12) rfl rfl Try.func36 (by kernel_rfl) rfl #[.slice A0 l0.length c0] rfl (by (try simp only [List.map_toArray, List.map_cons, List.map_nil]); first | done | rfl | (simp only [List.length_drop, List.length_take]; rfl)) ?_; (with_reducible refine (spec_DrawUnder.calls k _ _ l0 t249 t250 t251 t252 _ ?side1 ?side2 A4.out).mono ?_); (case side1 => exact cI HR0.out); (case side2 => exact HC0.out); rintro e w50 ⟨rfl, hb⟩; refine ⟨_, rfl, ?_⟩; replace HB := Aside0.mk (below_step (bI HB.out) hb); (try clear hb); (try clear hb2); (try clear hk); (try clear hi)) | ((with_reducible refine gate_dst (N := 3) rfl ?_); (try (refine gate_guard (by rfl) ?_; dsimp only)); refine box_event ?hg (N := 3) ?hd (cs := #[.int .i64 0, .int .i64 0]) (t := 37) ?hr ?_; (case hd => rfl); (case hg => rfl); (case hr => first | (go_simp; done) | (go_simp; rfl)); intro gb253 hg w51 hbox hb; have BK253 := Aside0.mk (hbox); have GW253 := Aside0.mk ((by rw [hg]; exact (below_size (bI HB.out)) : w.heap.size ≤ gb253)); have GJ253 := GeI.mk GW253.out; have GE253 := Aside0.mk ((by rw [hg]; exact (below_size (bI HB.out)) : w.heap.size ≤ gb253)); have GI253 := GeI.mk GE253.out; replace HB := Aside0.mk (below_step (bI HB.out) hb); clear hb hbox hg; have hcz52_0 := bc0 BK253.out; have hcz52_1 := bc1 BK253.out; have hfz52_0 := blk_frozen BK253.out 0; have hfz52_1 := blk_frozen BK253.out 1) | ((with_reducible refine gate_callee (f := 19) rfl ?_); refine goesL_ (some 19) rfl rfl Try.func19 (by kernel_rfl) rfl #[.agg #[.int .i64 t249, .int .i64 t250], .int .i64 t251, .int .i64 t252] rfl (by (try simp only [List.map_toArray, List.map_cons, List.map_nil]); first | done | rfl | (simp only [List.length_drop, List.length_take]; rfl)) ?_; (with_reducible refine (impl_Under.calls k t249 t250 t251 t252 t254 _ A5.out).mono ?_); rintro e w53 ⟨v255, rfl, ho0, hb⟩; refine ⟨_, rfl, ?_⟩; have HO256 := Aside0.mk (Kd.R_lower ho0 (below_size (bI HB.out))); replace BK253 := Aside0.mk (blk_below (g := gb253) (o := .cells #[.int .i64 t249, .int .i64 t250] 37 (0, 0)) (by (with_reducible repeat (first | refine blk_drewN ?_ _ | refine blk_drew ?_ | refine blk_alloc ?_ _)); refine blk_put (cs := #[.int .i64 t249, .int .i64 0]) ?_ 1 _ rfl; (with_reducible repeat (first | refine blk_drewN ?_ _ | refine blk_drew ?_ | refine blk_alloc ?_ _)); refine blk_put (cs := #[.int .i64 0, .int .i64 0]) ?_ 0 _ rfl; (with_reducible repeat (first | refine blk_drewN ?_ _ | refine blk_drew ?_ | refine blk_alloc ?_ _)); exact BK253.out) hb); replace HB := Aside0.mk (below_step (bI HB.out) hb); (try clear hb); (try clear hb2); (try clear hk); (try clear hi); (try clear ho0); have hcz54_0 := bc0 BK253.out; have hcz54_1 := bc1 BK253.out; have hfz54_0 := blk_frozen BK253.out 0; have hfz54_1 := blk_frozen BK253.out 1) | ((with_reducible refine gate_callee (f := 17) rfl ?_); refine goesL_ (some 24) rfl rfl Try.func17 (by kernel_rfl) rfl #[.agg #[.int .i64 t249, .int .i64 t250], .int .i64 t251, .int .i64 t252] rfl (by (try simp only [List.map_toArray, List.map_cons, List.map_nil]); first | done | rfl | (simp only [List.length_drop, List.length_take]; rfl)) ?_; (with_reducible refine (spec_Under.calls k t249 t250 t251 t252 t257 _ A6.out).mono ?_); rintro e w55 ⟨v258, rfl, ho0, hb⟩; refine ⟨_, rfl, ?_⟩; have HO259 := Aside0.mk (Kd.R_lower (Kd.R_new' ho0 (Kd.R_lt (rI HO256.out))) (below_size (bI HB.out))); replace HO256 := Aside0.mk (Kd.R_elder' (rI HO256.out) (Kd.R_base ho0) hb); replace BK253 := Aside0.mk (blk_below (g := gb253) (o := .cells #[.int .i64 t249, .int .i64 t250] 37 (0, 0)) (kI BK253.out) hb); replace HB := Aside0.mk (below_step (bI HB.out) hb); (try clear hb); (try clear hb2); (try clear hk); (try clear hi); (try clear ho0); obtain ⟨Ao56, co56, eo56⟩ := Kd.R_slice HO256.out; subst eo56; obtain ⟨Ao57, co57, eo57⟩ := Kd.R_slice HO259.out; subst eo57) | ((with_reducible refine gate_callee (f := 37) rfl ?_); refine goesL_ (some 25) rfl rfl Try.func37 (by kernel_rfl) rfl #[.slice Ao56 t254.length co56, .slice Ao57 t257.length co57] rfl (by (try simp only [List.map_toArray, List.map_cons, List.map_nil]); first | done | rfl | (simp only [List.length_drop, List.length_take]; rfl)) ?_; (with_reducible refine (laws_sameInts.calls k _ _ t254 _ _ t257 true _ ?side1 ?side2 ?side3 ?side4 A7.out).mono ?_); (case side1 => repeat (first | exact (Kd.R_reads' HO256.out).2.2 | (with_reducible refine Kd.C_alloc ?_ _) | (with_reducible refine Kd.C_drewN ?_ _) | (with_reducible refine Kd.C_drew ?_))); (case side2 => exact (Kd.R_reads' HO256.out).2.1); (case side3 => repeat (first | exact (Kd.R_reads' HO259.out).2.2 | (with_reducible refine Kd.C_alloc ?_ _) | (with_reducible refine Kd.C_drewN ?_ _) | (with_reducible refine Kd.C_drew ?_))); (case side4 => exact (Kd.R_reads' HO259.out).2.1); rintro e w' ⟨rfl, ⟨nd, rfl⟩⟩; refine ⟨_, rfl, ?_⟩; have hcz58_0 := bc0 BK253.out; have hcz58_1 := bc1 BK253.out; have hfz58_0 := blk_frozen BK253.out 0; have hfz58_1 := blk_frozen BK253.out 1; clear HO256; clear HO259) | ((with_reducible refine gate_callee (f := 38) rfl ?_); refine goesL_ (some 28) rfl rfl Try.func38 (by kernel_rfl) rfl #[.agg #[.int .i64 t249, .int .i64 t250]] rfl (by (try simp only [List.map_toArray, List.map_cons, List.map_nil]); first | done | rfl | (simp only [List.length_drop, List.length_take]; rfl)) ?_; (with_reducible refine (impl_ConfOk.calls t249 t250 true _ A9.out).mono ?_); rintro e w59 ⟨rfl, hb⟩; refine ⟨_, rfl, ?_⟩; replace BK253 := Aside0.mk (blk_below (g := gb253) (o := .cells #[.int .i64 t249, .int .i64 t250] 37 (0, 0)) (kI BK253.out) hb); replace HB := Aside0.mk (below_step (bI HB.out) hb); (try clear hb); (try clear hb2); (try clear hk); (try clear hi); have hcz60_0 := bc0 BK253.out; have hcz60_1 := bc1 BK253.out; have hfz60_0 := blk_frozen BK253.out 0; have hfz60_1 := blk_frozen BK253.out 1) | ((with_reducible refine gate_callee (f := 39) rfl ?_); refine goesL_ (some 40) rfl rfl Try.func39 (by kernel_rfl) rfl #[.agg #[.int .i64 t249, .int .i64 t250], .int .i64 t251, .int .i64 t252] rfl (by (try simp only [List.map_toArray, List.map_cons, List.map_nil]); first | done | rfl | (simp only [List.length_drop, List.length_take]; rfl)) ?_; (with_reducible refine (impl_Up.calls t249 t250 t251 t252 t262 _ A22.out).mono ?_); rintro e w61 ⟨rfl, hb⟩; refine ⟨_, rfl, ?_⟩; replace BK253 := Aside0.mk (blk_below (g := gb253) (o := .cells #[.int .i64 t249, .int .i64 t250] 37 (0, 0)) (kI BK253.out) hb); replace HB := Aside0.mk (below_step (bI HB.out) hb); (try clear hb); (try clear hb2); (try clear hk); (try clear hi)))
            replace BK253 := Aside0.mk (blk_drew BK253.out)
            replace HB := Aside0.mk (below_drew1 HB.out)
            refine start_ (n := 11) (S := fun w' => w'.cell? ⟨gb253, 0, none⟩ = some (.int .i64 t249) ∧ w'.cell? ⟨gb253, 1, none⟩ = some (.int .i64 t250)) (ds := []) #[false, false, false, false, false, false, false, false, false, false, false] (by kernel_rfl) rfl rfl ⟨(blk_cell BK253.out 0).trans rfl, (blk_cell BK253.out 1).trans rfl⟩ (fun hHeld => ?_); refine with_tabW laws_FnUnderAll.tab12 laws_FnUnderAll.bits12 (fun HT_ HW_ => ?_)
            generalize w61.drew = w62 at BK253 HB hHeld ⊢
            refine pure_ (i := 1) (N := some 55) (v := ?_) (a' := ?_) #[false, true, false, false, false, false, false, false, false, false, false] rfl rfl (any_of HT_.out (by kernel_rfl)) (fun _ _ _ h => h) (Or.inl ⟨by rfl, ?_⟩) ?_ ?_
            rotate_left
            · intro w'
              go_simp
              with_reducible rfl
            rotate_left
            · simp only [Act.put, List.setIfInBounds_toArray, List.set_cons_zero, List.set_cons_succ, i64_w, i32_w]
              rfl
            refine pure_ (i := 3) (N := some 57) (v := ?_) (a' := ?_) #[false, true, false, true, false, false, false, false, false, false, false] rfl rfl (any_of HT_.out (by kernel_rfl)) (fun _ _ _ h => h) (Or.inl ⟨by rfl, ?_⟩) ?_ ?_
            rotate_left
            · intro w'
              go_simp
              with_reducible rfl
            rotate_left
            · simp only [Act.put, List.setIfInBounds_toArray, List.set_cons_zero, List.set_cons_succ, i64_w, i32_w]
              rfl
            refine pure_ (i := 7) (N := some 61) (v := ?_) (a' := ?_) #[false, true, false, true, false, false, false, true, false, false, false] rfl rfl (any_of HT_.out (by kernel_rfl)) (fun _ _ _ h => h) (Or.inl ⟨by rfl, ?_⟩) ?_ ?_
            rotate_left
            · intro w'
              go_simp
              with_reducible rfl
            rotate_left
            · simp only [Act.put, List.setIfInBounds_toArray, List.set_cons_zero, List.set_cons_succ, i64_w, i32_w]
              rfl
            refine take_ (i := 0) (N := some 54) (v := ?_) (a' := ?_) #[true, true, false, true, false, false, false, true, false, false, false] rfl rfl (take_ofW HT_.out HW_.out (by kernel_rfl)) (fun _ _ _ h => h) (Or.inl ⟨by rfl, ?_⟩) hHeld ?_ ?_
            rotate_left
            · rintro w' ⟨s0, s1⟩
              go_simp
              with_reducible rfl
            rotate_left
            · simp only [Act.put, List.setIfInBounds_toArray, List.set_cons_zero, List.set_cons_succ, i64_w, i32_w]
              rfl
            refine take_ (i := 2) (N := some 56) (v := ?_) (a' := ?_) #[true, true, true, true, false, false, false, true, false, false, false] rfl rfl (take_ofW HT_.out HW_.out (by kernel_rfl)) (fun _ _ _ h => h) (Or.inl ⟨by rfl, ?_⟩) hHeld ?_ ?_
            rotate_left
            · rintro w' ⟨s0, s1⟩
              go_simp
              with_reducible rfl
            rotate_left
            · simp only [Act.put, List.setIfInBounds_toArray, List.set_cons_zero, List.set_cons_succ, i64_w, i32_w]
              rfl
            refine take_ (i := 8) (N := some 62) (v := ?_) (a' := ?_) #[true, true, true, true, false, false, false, true, true, false, false] rfl rfl (take_ofW HT_.out HW_.out (by kernel_rfl)) (fun _ _ _ h => h) (Or.inl ⟨by rfl, ?_⟩) hHeld ?_ ?_
            rotate_left
            · rintro w' ⟨s0, s1⟩
              go_simp
              with_reducible rfl
            rotate_left
            · simp only [Act.put, List.setIfInBounds_toArray, List.set_cons_zero, List.set_cons_succ, i64_w, i32_w]
              rfl
            refine one_ (i := 4) (N := some 58) #[true, true, true, true, true, false, false, true, true, false, false] rfl rfl (one_of HT_.out (by kernel_rfl)) (by decide) (fun K hK => ?_)
            refine goes_ Try.func41 (by kernel_rfl) rfl #[.agg #[.int .i64 t249, .int .i64 t250], .int .i64 t251] (by rfl) rfl rfl (by (try simp only [List.map_toArray, List.map_cons, List.map_nil]); first | done | rfl | (simp only [List.length_drop, List.length_take]; rfl)) ?_
            with_reducible refine (impl_Root.calls t249 t250 t251 t271 _ A48.out).mono ?_
            rintro e w63 ⟨rfl, hb⟩
            refine ⟨_, rfl, ?_⟩
            replace BK253 := Aside0.mk (blk_below (g := gb253) (o := .cells #[.int .i64 t249, .int .i64 t250] 37 (0, 0)) (kI BK253.out) hb)
            replace HB := Aside0.mk (below_step (bI HB.out) hb)
            (try clear hb)
            (try clear hb2)
            (try clear hk)
            (try clear hi)
            refine hK.out _ _ ⟨(blk_cell BK253.out 0).trans rfl, (blk_cell BK253.out 1).trans rfl⟩ (fun hHeld => ?_)
            clear hK K
            refine norm_ (a' := ?_) ?_ ?_
            rotate_left
            · show Act.put _ (some 58) _ = _
              simp only [Act.put, List.setIfInBounds_toArray, List.set_cons_zero, List.set_cons_succ, i64_w, i32_w]
              rfl
            refine one_ (i := 5) (N := some 59) #[true, true, true, true, true, true, false, true, true, false, false] rfl rfl (one_of HT_.out (by kernel_rfl)) (by decide) (fun K hK => ?_)
            refine goes_ Try.func19 (by kernel_rfl) rfl #[.agg #[.int .i64 t249, .int .i64 t250], .int .i64 t251, .int .i64 t271] (by rfl) rfl rfl (by (try simp only [List.map_toArray, List.map_cons, List.map_nil]); first | done | rfl | (simp only [List.length_drop, List.length_take]; rfl)) ?_
            with_reducible refine (impl_Under.calls k t249 t250 t251 t271 t272 _ A49.out).mono ?_
            rintro e w64 ⟨v273, rfl, ho0, hb⟩
            refine ⟨_, rfl, ?_⟩
            have HO274 := Aside0.mk (Kd.R_lower ho0 (below_size (bI HB.out)))
            replace BK253 := Aside0.mk (blk_below (g := gb253) (o := .cells #[.int .i64 t249, .int .i64 t250] 37 (0, 0)) (kI BK253.out) hb)
            replace HB := Aside0.mk (below_step (bI HB.out) hb)
            (try clear hb)
            (try clear hb2)
            (try clear hk)
            (try clear hi)
            (try clear ho0)
            obtain ⟨Ao65, co65, eo65⟩ := Kd.R_slice HO274.out
            (first | subst eo65 | (injection eo65 with f1_ f2_ f3_; have f4_ := f1_.symm; have f5_ := f3_.symm; clear f1_ f2_ f3_; subst f4_; subst f5_))
            refine hK.out _ _ ⟨(blk_cell BK253.out 0).trans rfl, (blk_cell BK253.out 1).trans rfl⟩ (fun hHeld => ?_)
            clear hK K
            refine norm_ (a' := ?_) ?_ ?_
            rotate_left
            · show Act.put _ (some 59) _ = _
              simp only [Act.put, List.setIfInBounds_toArray, List.set_cons_zero, List.set_cons_succ, i64_w, i32_w]
              rfl
            refine pure_ (i := 6) (N := some 60) (v := ?_) (a' := ?_) #[true, true, true, true, true, true, true, true, true, false, false] rfl rfl (any_of HT_.out (by kernel_rfl)) (fun _ _ _ h => h) (Or.inl ⟨by rfl, ?_⟩) ?_ ?_
            rotate_left
            · intro w'
              go_simp
              with_reducible rfl
            rotate_left
            · simp only [Act.put, List.setIfInBounds_toArray, List.set_cons_zero, List.set_cons_succ, i64_w, i32_w]
              rfl
            refine pure_ (i := 9) (N := some 63) (v := ?_) (a' := ?_) #[true, true, true, true, true, true, true, true, true, true, false] rfl rfl (any_of HT_.out (by kernel_rfl)) (fun _ _ _ h => h) (Or.inl ⟨by rfl, ?_⟩) ?_ ?_
            rotate_left
            · intro w'
              go_simp
              with_reducible rfl
            rotate_left
            · simp only [Act.put, List.setIfInBounds_toArray, List.set_cons_zero, List.set_cons_succ, i64_w, i32_w]
              rfl
            refine pure_ (i := 10) (N := some 2) (v := ?_) (a' := ?_) #[true, true, true, true, true, true, true, true, true, true, true] rfl rfl (any_of HT_.out (by kernel_rfl)) (fun _ _ _ h => h) (Or.inl ⟨by rfl, ?_⟩) ?_ ?_
            rotate_left
            · intro w'
              go_simp
              with_reducible rfl
            rotate_left
            · simp only [Act.put, List.setIfInBounds_toArray, List.set_cons_zero, List.set_cons_succ, i64_w, i32_w]
              rfl
            refine done_ (done_of HT_.out (by kernel_rfl)) ?_
            try go_wp2
            go_ret
            exact ⟨by first | rfl | (simp [errW_none, errW_some] <;> rfl) | (simp [*, errW_none, errW_some] <;> rfl), bI HB.out⟩
      · replace c10 := Bool.eq_false_iff.mpr c10
        subst c10
        rw [if_neg (show ¬ (false = true) by decide)] at H
        obtain rfl := Option.some.inj H
        go_enter Try.func7, Try.ntmps7
        go_wp2_with (first | ((with_reducible refine gate_callee (f := 35) rfl ?_); refine goesL_ (some 9) rfl rfl Try.func35 (by kernel_rfl) rfl #[.slice A0 l0.length c0] rfl (by (try simp only [List.map_toArray, List.map_cons, List.map_nil]); first | done | rfl | (simp only [List.length_drop, List.length_take]; rfl)) ?_; (with_reducible refine (laws_big.calls _ _ l0 false _ ?side1 ?side2 A2.out).mono ?_); (case side1 => exact cI HR0.out); (case side2 => exact HC0.out); rintro e w' ⟨rfl, ⟨nd, rfl⟩⟩; refine ⟨_, rfl, ?_⟩) | ((with_reducible refine gate_callee (f := 36) rfl ?_); refine goesL_ (some 12) rfl rfl Try.func36 (by kernel_rfl) rfl #[.slice A0 l0.length c0] rfl (by (try simp only [List.map_toArray, List.map_cons, List.map_nil]); first | done | rfl | (simp only [List.length_drop, List.length_take]; rfl)) ?_; (with_reducible refine (spec_DrawUnder.calls k _ _ l0 t249 t250 t251 t252 _ ?side1 ?side2 A4.out).mono ?_); (case side1 => exact cI HR0.out); (case side2 => exact HC0.out); rintro e w66 ⟨rfl, hb⟩; refine ⟨_, rfl, ?_⟩; replace HB := Aside0.mk (below_step (bI HB.out) hb); (try clear hb); (try clear hb2); (try clear hk); (try clear hi)) | ((with_reducible refine gate_dst (N := 3) rfl ?_); (try (refine gate_guard (by rfl) ?_; dsimp only)); refine box_event ?hg (N := 3) ?hd (cs := #[.int .i64 0, .int .i64 0]) (t := 37) ?hr ?_; (case hd => rfl); (case hg => rfl); (case hr => first | (go_simp; done) | (go_simp; rfl)); intro gb253 hg w67 hbox hb; have BK253 := Aside0.mk (hbox); have GW253 := Aside0.mk ((by rw [hg]; exact (below_size (bI HB.out)) : w.heap.size ≤ gb253)); have GJ253 := GeI.mk GW253.out; have GE253 := Aside0.mk ((by rw [hg]; exact (below_size (bI HB.out)) : w.heap.size ≤ gb253)); have GI253 := GeI.mk GE253.out; replace HB := Aside0.mk (below_step (bI HB.out) hb); clear hb hbox hg; have hcz68_0 := bc0 BK253.out; have hcz68_1 := bc1 BK253.out; have hfz68_0 := blk_frozen BK253.out 0; have hfz68_1 := blk_frozen BK253.out 1) | ((with_reducible refine gate_callee (f := 19) rfl ?_); refine goesL_ (some 19) rfl rfl Try.func19 (by kernel_rfl) rfl #[.agg #[.int .i64 t249, .int .i64 t250], .int .i64 t251, .int .i64 t252] rfl (by (try simp only [List.map_toArray, List.map_cons, List.map_nil]); first | done | rfl | (simp only [List.length_drop, List.length_take]; rfl)) ?_; (with_reducible refine (impl_Under.calls k t249 t250 t251 t252 t254 _ A5.out).mono ?_); rintro e w69 ⟨v255, rfl, ho0, hb⟩; refine ⟨_, rfl, ?_⟩; have HO256 := Aside0.mk (Kd.R_lower ho0 (below_size (bI HB.out))); replace BK253 := Aside0.mk (blk_below (g := gb253) (o := .cells #[.int .i64 t249, .int .i64 t250] 37 (0, 0)) (by (with_reducible repeat (first | refine blk_drewN ?_ _ | refine blk_drew ?_ | refine blk_alloc ?_ _)); refine blk_put (cs := #[.int .i64 t249, .int .i64 0]) ?_ 1 _ rfl; (with_reducible repeat (first | refine blk_drewN ?_ _ | refine blk_drew ?_ | refine blk_alloc ?_ _)); refine blk_put (cs := #[.int .i64 0, .int .i64 0]) ?_ 0 _ rfl; (with_reducible repeat (first | refine blk_drewN ?_ _ | refine blk_drew ?_ | refine blk_alloc ?_ _)); exact BK253.out) hb); replace HB := Aside0.mk (below_step (bI HB.out) hb); (try clear hb); (try clear hb2); (try clear hk); (try clear hi); (try clear ho0); have hcz70_0 := bc0 BK253.out; have hcz70_1 := bc1 BK253.out; have hfz70_0 := blk_frozen BK253.out 0; have hfz70_1 := blk_frozen BK253.out 1) | ((with_reducible refine gate_callee (f := 17) rfl ?_); refine goesL_ (some 24) rfl rfl Try.func17 (by kernel_rfl) rfl #[.agg #[.int .i64 t249, .int .i64 t250], .int .i64 t251, .int .i64 t252] rfl (by (try simp only [List.map_toArray, List.map_cons, List.map_nil]); first | done | rfl | (simp only [List.length_drop, List.length_take]; rfl)) ?_; (with_reducible refine (spec_Under.calls k t249 t250 t251 t252 t257 _ A6.out).mono ?_); rintro e w71 ⟨v258, rfl, ho0, hb⟩; refine ⟨_, rfl, ?_⟩; have HO259 := Aside0.mk (Kd.R_lower (Kd.R_new' ho0 (Kd.R_lt (rI HO256.out))) (below_size (bI HB.out))); replace HO256 := Aside0.mk (Kd.R_elder' (rI HO256.out) (Kd.R_base ho0) hb); replace BK253 := Aside0.mk (blk_below (g := gb253) (o := .cells #[.int .i64 t249, .int .i64 t250] 37 (0, 0)) (kI BK253.out) hb); replace HB := Aside0.mk (below_step (bI HB.out) hb); (try clear hb); (try clear hb2); (try clear hk); (try clear hi); (try clear ho0); obtain ⟨Ao72, co72, eo72⟩ := Kd.R_slice HO256.out; subst eo72; obtain ⟨Ao73, co73, eo73⟩ := Kd.R_slice HO259.out; subst eo73) | ((with_reducible refine gate_callee (f := 37) rfl ?_); refine goesL_ (some 25) rfl rfl Try.func37 (by kernel_rfl) rfl #[.slice Ao72 t254.length co72, .slice Ao73 t257.length co73] rfl (by (try simp only [List.map_toArray, List.map_cons, List.map_nil]); first | done | rfl | (simp only [List.length_drop, List.length_take]; rfl)) ?_; (with_reducible refine (laws_sameInts.calls k _ _ t254 _ _ t257 true _ ?side1 ?side2 ?side3 ?side4 A7.out).mono ?_); (case side1 => repeat (first | exact (Kd.R_reads' HO256.out).2.2 | (with_reducible refine Kd.C_alloc ?_ _) | (with_reducible refine Kd.C_drewN ?_ _) | (with_reducible refine Kd.C_drew ?_))); (case side2 => exact (Kd.R_reads' HO256.out).2.1); (case side3 => repeat (first | exact (Kd.R_reads' HO259.out).2.2 | (with_reducible refine Kd.C_alloc ?_ _) | (with_reducible refine Kd.C_drewN ?_ _) | (with_reducible refine Kd.C_drew ?_))); (case side4 => exact (Kd.R_reads' HO259.out).2.1); rintro e w' ⟨rfl, ⟨nd, rfl⟩⟩; refine ⟨_, rfl, ?_⟩; have hcz74_0 := bc0 BK253.out; have hcz74_1 := bc1 BK253.out; have hfz74_0 := blk_frozen BK253.out 0; have hfz74_1 := blk_frozen BK253.out 1; clear HO259; have n_ := Aside0.mk (Kd.R_mono (ok' := (fun _ => True)) HO256.out (fun k_ hk => trivial)); clear HO256; have HO256 := n_; clear n_) | ((with_reducible refine gate_callee (f := 38) rfl ?_); refine goesL_ (some 28) rfl rfl Try.func38 (by kernel_rfl) rfl #[.agg #[.int .i64 t249, .int .i64 t250]] rfl (by (try simp only [List.map_toArray, List.map_cons, List.map_nil]); first | done | rfl | (simp only [List.length_drop, List.length_take]; rfl)) ?_; (with_reducible refine (impl_ConfOk.calls t249 t250 false _ A9.out).mono ?_); rintro e w75 ⟨rfl, hb⟩; refine ⟨_, rfl, ?_⟩; replace HO256 := Aside0.mk (Kd.R_below (rI HO256.out) hb); replace BK253 := Aside0.mk (blk_below (g := gb253) (o := .cells #[.int .i64 t249, .int .i64 t250] 37 (0, 0)) (kI BK253.out) hb); replace HB := Aside0.mk (below_step (bI HB.out) hb); (try clear hb); (try clear hb2); (try clear hk); (try clear hi)))
        go_ret
        exact ⟨by first | rfl | (simp [errW_none, errW_some] <;> rfl) | (simp [*, errW_none, errW_some] <;> rfl), bI HB.out⟩
    · replace c8 := Bool.eq_false_iff.mpr c8
      subst c8
      rw [if_neg (show ¬ (false = true) by decide)] at H
      exact absurd (hrt.out.symm.trans (Option.some.inj H).symm) (by decide)

/-- THE ONE PURE STATEMENT of laws_FnUnderAll: yours. -/
def laws_FnUnderAll.Pure : Prop := ∀ (l0 : List Int), l0.length ≤ maxLen → l0.length * 1 ≤ 140737488351232 → (∀ x ∈ l0, (Lit.int .u8 x).wf = true) → ∃ k, laws_FnUnderAll.f k l0 = some true
theorem laws_FnUnderAll.walk (P : laws_FnUnderAll.Pure) (a0 : Option Addr) (len0 cap0 : Nat) (z0 : List Int) (w : World) (w0 : (a0 = none ∧ len0 = 0 ∧ cap0 = 0 ∧ z0 = []) ∨ ∃ x, a0 = some x ∧ len0 ≤ cap0 ∧ cap0 ≤ maxLen ∧ z0.length = cap0 ∧ (∀ i, i < z0.length → w.cell? (x.add i) = some (.int .u8 (z0.getD i 0))) ∧ ∀ n ∈ z0, (Lit.int .u8 n).wf = true) (y0 : len0 * 1 ≤ 140737488351232) :
    Calls Try.prog 7 #[.slice a0 len0 cap0] w fun e w' => e = .returned (.bool true) ∧ Below w.heap.size w w' := by
  obtain ⟨l0, rfl, hr0, hm0, hw0, hc0⟩ := ReadsInt.ofRowC w0
  obtain ⟨k, h⟩ := P l0 hm0 y0 hw0
  refine (laws_FnUnderAll.calls k _ _ l0 true (Aside0.mk rfl) w (Kd.C_of_reads (d := (0 : Int)) (h1 := fun _ => rfl) hr0) hc0 h).mono ?_
  rintro e w' ⟨rfl, hd⟩
  exact ⟨rfl, hd⟩

end Go.Proofs.Ytjbkdffimfbdnaa.PFnUnderAll
