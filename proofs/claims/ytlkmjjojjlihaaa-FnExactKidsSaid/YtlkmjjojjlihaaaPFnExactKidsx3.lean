-- By a program of this session, out of the translation (the print of the kit, with turns of its own). Lean checks it.
import Derived.Test.YtlkmjjojjlihaaaPFnExactKidsx0
import Derived.Test.YtlkmjjojjlihaaaPFnExactKidsx1
import Derived.Test.YtlkmjjojjlihaaaPFnExactKidsx2
namespace Go.Proofs.Ytlkmjjojjlihaaa.PFnExactKids
open Go.RowKit Go.Proofs.YtlkmjjojjlihaaaW.PrintWords Go.Proofs.YtlkmjjojjlihaaaW.PrintLast Go.Proofs.YtlkmjjojjlihaaaW.PrintMore
attribute [local go_sem] max2_int min2_int max_two min_two max_three min_three max_four min_four   -- for this text's walks alone
set_option linter.unusedVariables false
set_option linter.unusedSimpArgs false

/-! ### laws_FnExactKids: function 11 -/
def laws_FnExactKids.f (k : Nat) (a0_0 : Int) (a0_1 : Int) (a1 : Int) (a2 : Int) : Option (Bool) := (laws_toConf.f a0_0 a0_1).bind fun bt148 => ((spec_Kids.f k bt148.1 bt148.2 a1 a2).bind fun t150 => ((laws_toConf.f a0_0 a0_1).bind fun bt153 => ((impl_Kids.f k bt153.1 bt153.2 a1 a2).bind fun t155 => ((laws_eqIntS.f k t155 t150).bind fun t158 => (if t158 = true then ((laws_markIntS.f k t155 1).bind fun bt159 => ((laws_heldIntS.f k bt159.2 1).bind fun t161 => (if t161 < 0 then (some false) else (if t161 = bt159.1 then ((laws_toConf.f a0_0 a0_1).bind fun bt162 => ((impl_Kids.f k bt162.1 bt162.2 a1 a2).bind fun t164 => ((laws_eqIntS.f k t164 t150).bind fun t167 => (if t167 = true then ((laws_heldIntS.f k bt159.2 1).bind fun t168 => (if t168 < 0 then (some false) else (if t168 = bt159.1 then (some true) else (some false)))) else (some false))))) else (some false))))) else (some false))))))
theorem laws_FnExactKids.mono : ∀ a0 a1 a2 a3 k, LeO (laws_FnExactKids.f k a0 a1 a2 a3) (laws_FnExactKids.f (k + 1) a0 a1 a2 a3) := by
  intro a0 a1 a2 a3 k
  unfold laws_FnExactKids.f
  repeat' first
      | (with_reducible exact impl_Kids.mono _ _ _ _ _)
      | (with_reducible exact laws_eqIntS.mono _ _ _)
      | (with_reducible exact laws_heldIntS.mono _ _ _)
      | (with_reducible exact laws_markIntS.mono _ _ _)
      | (with_reducible exact spec_Kids.mono _ _ _ _ _)
      | (with_reducible exact LeO.refl _)
      | (with_reducible exact LeO.none _)
      | (with_reducible refine LeO.ite ?_ ?_)
      | (with_reducible refine LeO.bind ?_ (fun _ => ?_))
      | exact impl_Kids.mono _ _ _ _ _
      | exact laws_eqIntS.mono _ _ _
      | exact laws_heldIntS.mono _ _ _
      | exact laws_markIntS.mono _ _ _
      | exact spec_Kids.mono _ _ _ _ _
      | exact LeO.none _
      | refine LeO.ite ?_ ?_
      | refine LeO.bind ?_ (fun _ => ?_)
set_option maxHeartbeats 8000000 in
set_option maxRecDepth 100000 in
theorem laws_FnExactKids.calls (k : Nat) (a0_0 : Int) (a0_1 : Int) (a1 : Int) (a2 : Int) (r : Bool) (hrt : Aside0 (r = true)) (w : World) (h : laws_FnExactKids.f k a0_0 a0_1 a1 a2 = some r) :
    Calls Try.prog 11 #[.agg #[.int .i64 a0_0, .int .i64 a0_1], .int .i64 a1, .int .i64 a2] w fun e w' => e = .returned (.bool r) ∧ Below w.heap.size w w' := by
  have hu23 := Try.underlying23
  have HB := Aside0.mk (Below.refl w.heap.size w)
  have H : ((laws_toConf.f a0_0 a0_1).bind fun bt148 => ((spec_Kids.f k bt148.1 bt148.2 a1 a2).bind fun t150 => ((laws_toConf.f a0_0 a0_1).bind fun bt153 => ((impl_Kids.f k bt153.1 bt153.2 a1 a2).bind fun t155 => ((laws_eqIntS.f k t155 t150).bind fun t158 => (if t158 = true then ((laws_markIntS.f k t155 1).bind fun bt159 => ((laws_heldIntS.f k bt159.2 1).bind fun t161 => (if t161 < 0 then (some false) else (if t161 = bt159.1 then ((laws_toConf.f a0_0 a0_1).bind fun bt162 => ((impl_Kids.f k bt162.1 bt162.2 a1 a2).bind fun t164 => ((laws_eqIntS.f k t164 t150).bind fun t167 => (if t167 = true then ((laws_heldIntS.f k bt159.2 1).bind fun t168 => (if t168 < 0 then (some false) else (if t168 = bt159.1 then (some true) else (some false)))) else (some false))))) else (some false))))) else (some false))))))) = some r := h
  clear h
  replace H := Option.bind_eq_some_iff.mp H
  obtain ⟨⟨t148, t149⟩, A40, H⟩ := H
  replace H : ((spec_Kids.f k t148 t149 a1 a2).bind fun t150 => ((laws_toConf.f a0_0 a0_1).bind fun bt153 => ((impl_Kids.f k bt153.1 bt153.2 a1 a2).bind fun t155 => ((laws_eqIntS.f k t155 t150).bind fun t158 => (if t158 = true then ((laws_markIntS.f k t155 1).bind fun bt159 => ((laws_heldIntS.f k bt159.2 1).bind fun t161 => (if t161 < 0 then (some false) else (if t161 = bt159.1 then ((laws_toConf.f a0_0 a0_1).bind fun bt162 => ((impl_Kids.f k bt162.1 bt162.2 a1 a2).bind fun t164 => ((laws_eqIntS.f k t164 t150).bind fun t167 => (if t167 = true then ((laws_heldIntS.f k bt159.2 1).bind fun t168 => (if t168 < 0 then (some false) else (if t168 = bt159.1 then (some true) else (some false)))) else (some false))))) else (some false))))) else (some false)))))) = some r := H
  have A4 := Aside0.mk A40
  clear A40
  replace H := Option.bind_eq_some_iff.mp H
  obtain ⟨t150, A50, H⟩ := H
  replace H : ((laws_toConf.f a0_0 a0_1).bind fun bt153 => ((impl_Kids.f k bt153.1 bt153.2 a1 a2).bind fun t155 => ((laws_eqIntS.f k t155 t150).bind fun t158 => (if t158 = true then ((laws_markIntS.f k t155 1).bind fun bt159 => ((laws_heldIntS.f k bt159.2 1).bind fun t161 => (if t161 < 0 then (some false) else (if t161 = bt159.1 then ((laws_toConf.f a0_0 a0_1).bind fun bt162 => ((impl_Kids.f k bt162.1 bt162.2 a1 a2).bind fun t164 => ((laws_eqIntS.f k t164 t150).bind fun t167 => (if t167 = true then ((laws_heldIntS.f k bt159.2 1).bind fun t168 => (if t168 < 0 then (some false) else (if t168 = bt159.1 then (some true) else (some false)))) else (some false))))) else (some false))))) else (some false))))) = some r := H
  have A5 := Aside0.mk A50
  clear A50
  replace H := Option.bind_eq_some_iff.mp H
  obtain ⟨⟨t153, t154⟩, A60, H⟩ := H
  replace H : ((impl_Kids.f k t153 t154 a1 a2).bind fun t155 => ((laws_eqIntS.f k t155 t150).bind fun t158 => (if t158 = true then ((laws_markIntS.f k t155 1).bind fun bt159 => ((laws_heldIntS.f k bt159.2 1).bind fun t161 => (if t161 < 0 then (some false) else (if t161 = bt159.1 then ((laws_toConf.f a0_0 a0_1).bind fun bt162 => ((impl_Kids.f k bt162.1 bt162.2 a1 a2).bind fun t164 => ((laws_eqIntS.f k t164 t150).bind fun t167 => (if t167 = true then ((laws_heldIntS.f k bt159.2 1).bind fun t168 => (if t168 < 0 then (some false) else (if t168 = bt159.1 then (some true) else (some false)))) else (some false))))) else (some false))))) else (some false)))) = some r := H
  have A6 := Aside0.mk A60
  clear A60
  replace H := Option.bind_eq_some_iff.mp H
  obtain ⟨t155, A70, H⟩ := H
  replace H : ((laws_eqIntS.f k t155 t150).bind fun t158 => (if t158 = true then ((laws_markIntS.f k t155 1).bind fun bt159 => ((laws_heldIntS.f k bt159.2 1).bind fun t161 => (if t161 < 0 then (some false) else (if t161 = bt159.1 then ((laws_toConf.f a0_0 a0_1).bind fun bt162 => ((impl_Kids.f k bt162.1 bt162.2 a1 a2).bind fun t164 => ((laws_eqIntS.f k t164 t150).bind fun t167 => (if t167 = true then ((laws_heldIntS.f k bt159.2 1).bind fun t168 => (if t168 < 0 then (some false) else (if t168 = bt159.1 then (some true) else (some false)))) else (some false))))) else (some false))))) else (some false))) = some r := H
  have A7 := Aside0.mk A70
  clear A70
  replace H := Option.bind_eq_some_iff.mp H
  obtain ⟨t158, A80, H⟩ := H
  replace H : (if t158 = true then ((laws_markIntS.f k t155 1).bind fun bt159 => ((laws_heldIntS.f k bt159.2 1).bind fun t161 => (if t161 < 0 then (some false) else (if t161 = bt159.1 then ((laws_toConf.f a0_0 a0_1).bind fun bt162 => ((impl_Kids.f k bt162.1 bt162.2 a1 a2).bind fun t164 => ((laws_eqIntS.f k t164 t150).bind fun t167 => (if t167 = true then ((laws_heldIntS.f k bt159.2 1).bind fun t168 => (if t168 < 0 then (some false) else (if t168 = bt159.1 then (some true) else (some false)))) else (some false))))) else (some false))))) else (some false)) = some r := H
  have A8 := Aside0.mk A80
  clear A80
  by_cases c9 : t158 = true
  · subst c9
    have H1 : ((laws_markIntS.f k t155 1).bind fun bt159 => ((laws_heldIntS.f k bt159.2 1).bind fun t161 => (if t161 < 0 then (some false) else (if t161 = bt159.1 then ((laws_toConf.f a0_0 a0_1).bind fun bt162 => ((impl_Kids.f k bt162.1 bt162.2 a1 a2).bind fun t164 => ((laws_eqIntS.f k t164 t150).bind fun t167 => (if t167 = true then ((laws_heldIntS.f k bt159.2 1).bind fun t168 => (if t168 < 0 then (some false) else (if t168 = bt159.1 then (some true) else (some false)))) else (some false))))) else (some false))))) = some r := by rw [if_pos rfl] at H; exact H
    clear H
    have H := H1
    clear H1
    replace H := Option.bind_eq_some_iff.mp H
    obtain ⟨⟨t159, t160⟩, A100, H⟩ := H
    replace H : ((laws_heldIntS.f k t160 1).bind fun t161 => (if t161 < 0 then (some false) else (if t161 = t159 then ((laws_toConf.f a0_0 a0_1).bind fun bt162 => ((impl_Kids.f k bt162.1 bt162.2 a1 a2).bind fun t164 => ((laws_eqIntS.f k t164 t150).bind fun t167 => (if t167 = true then ((laws_heldIntS.f k t160 1).bind fun t168 => (if t168 < 0 then (some false) else (if t168 = t159 then (some true) else (some false)))) else (some false))))) else (some false)))) = some r := H
    have A10 := Aside0.mk A100
    clear A100
    replace H := Option.bind_eq_some_iff.mp H
    obtain ⟨t161, A110, H⟩ := H
    replace H : (if t161 < 0 then (some false) else (if t161 = t159 then ((laws_toConf.f a0_0 a0_1).bind fun bt162 => ((impl_Kids.f k bt162.1 bt162.2 a1 a2).bind fun t164 => ((laws_eqIntS.f k t164 t150).bind fun t167 => (if t167 = true then ((laws_heldIntS.f k t160 1).bind fun t168 => (if t168 < 0 then (some false) else (if t168 = t159 then (some true) else (some false)))) else (some false))))) else (some false))) = some r := H
    have A11 := Aside0.mk A110
    clear A110
    by_cases c12 : t161 < 0
    · rw [if_pos c12] at H
      have c12b0 : decide (t161 < 0) = true := decide_eq_true c12
      clear c12
      exact absurd (hrt.out.symm.trans (Option.some.inj H).symm) (by decide)
    rw [if_neg c12] at H
    have c12b0 : decide (t161 < 0) = false := decide_eq_false c12
    clear c12
    by_cases c13 : t161 = t159
    rotate_left
    · rw [if_neg c13] at H
      have c13b0 : (t161 == t159) = false := beq_eq_false_iff_ne.mpr c13
      have c13b1 : (t161 != t159) = true := bne_iff_ne.mpr c13
      exact absurd (hrt.out.symm.trans (Option.some.inj H).symm) (by decide)
    rw [if_pos c13] at H
    have c13b0 : (t161 == t159) = true := beq_iff_eq.mpr c13
    have c13b1 : (t161 != t159) = false := bne_eq_false_iff_eq.mpr c13
    clear c13
    replace H := Option.bind_eq_some_iff.mp H
    obtain ⟨⟨t162, t163⟩, A140, H⟩ := H
    replace H : ((impl_Kids.f k t162 t163 a1 a2).bind fun t164 => ((laws_eqIntS.f k t164 t150).bind fun t167 => (if t167 = true then ((laws_heldIntS.f k t160 1).bind fun t168 => (if t168 < 0 then (some false) else (if t168 = t159 then (some true) else (some false)))) else (some false)))) = some r := H
    have A14 := Aside0.mk A140
    clear A140
    replace H := Option.bind_eq_some_iff.mp H
    obtain ⟨t164, A150, H⟩ := H
    replace H : ((laws_eqIntS.f k t164 t150).bind fun t167 => (if t167 = true then ((laws_heldIntS.f k t160 1).bind fun t168 => (if t168 < 0 then (some false) else (if t168 = t159 then (some true) else (some false)))) else (some false))) = some r := H
    have A15 := Aside0.mk A150
    clear A150
    replace H := Option.bind_eq_some_iff.mp H
    obtain ⟨t167, A160, H⟩ := H
    replace H : (if t167 = true then ((laws_heldIntS.f k t160 1).bind fun t168 => (if t168 < 0 then (some false) else (if t168 = t159 then (some true) else (some false)))) else (some false)) = some r := H
    have A16 := Aside0.mk A160
    clear A160
    by_cases c17 : t167 = true
    rotate_left
    · replace c17 := Bool.eq_false_iff.mpr c17
      subst c17
      have H1 : (some false) = some r := by rw [if_neg (show ¬ (false = true) by decide)] at H; exact H
      clear H
      have H := H1
      clear H1
      exact absurd (hrt.out.symm.trans (Option.some.inj H).symm) (by decide)
    subst c17
    have H1 : ((laws_heldIntS.f k t160 1).bind fun t168 => (if t168 < 0 then (some false) else (if t168 = t159 then (some true) else (some false)))) = some r := by rw [if_pos rfl] at H; exact H
    clear H
    have H := H1
    clear H1
    replace H := Option.bind_eq_some_iff.mp H
    obtain ⟨t168, A180, H⟩ := H
    replace H : (if t168 < 0 then (some false) else (if t168 = t159 then (some true) else (some false))) = some r := H
    have A18 := Aside0.mk A180
    clear A180
    by_cases c19 : t168 < 0
    · rw [if_pos c19] at H
      have c19b0 : decide (t168 < 0) = true := decide_eq_true c19
      clear c19
      exact absurd (hrt.out.symm.trans (Option.some.inj H).symm) (by decide)
    rw [if_neg c19] at H
    have c19b0 : decide (t168 < 0) = false := decide_eq_false c19
    clear c19
    by_cases c20 : t168 = t159
    rotate_left
    · rw [if_neg c20] at H
      have c20b0 : (t168 == t159) = false := beq_eq_false_iff_ne.mpr c20
      have c20b1 : (t168 != t159) = true := bne_iff_ne.mpr c20
      exact absurd (hrt.out.symm.trans (Option.some.inj H).symm) (by decide)
    rw [if_pos c20] at H
    have c20b0 : (t168 == t159) = true := beq_iff_eq.mpr c20
    have c20b1 : (t168 != t159) = false := bne_eq_false_iff_eq.mpr c20
    clear c20
    obtain rfl := Option.some.inj H
    go_enter Try.func11, Try.ntmps11
    go_wp2_with (first | ((with_reducible refine gate_dst (N := 3) rfl ?_); refine box_event ?hg (N := 3) ?hd (cs := #[.int .i64 a0_0, .int .i64 a0_1]) (t := 23) ?hr ?_; (case hd => rfl); (case hg => rfl); (case hr => first | (go_simp; done) | (go_simp; rfl)); intro gb147 hg w21 hbox hb; have BK147 := Aside0.mk (hbox); have GW147 := Aside0.mk ((by rw [hg]; exact (below_size (bI HB.out)) : w.heap.size ≤ gb147)); have GE147 := Aside0.mk ((by rw [hg]; exact (below_size (bI HB.out)) : w.heap.size ≤ gb147)); have GI147 := GeI.mk GE147.out; replace HB := Aside0.mk (below_step (bI HB.out) hb); clear hb hbox hg; have hcz22_0 : w21.cell? ⟨gb147, 0, none⟩ = some (.int .i64 a0_0) := (blk_cell BK147.out 0).trans rfl; have hcz22_1 : w21.cell? ⟨gb147, 1, none⟩ = some (.int .i64 a0_1) := (blk_cell BK147.out 1).trans rfl; have hfz22_0 := blk_frozen BK147.out 0; have hfz22_1 := blk_frozen BK147.out 1) | ((with_reducible refine gate_callee (f := 16) rfl ?_); refine goesL_ (some 13) rfl rfl Try.func16 (by kernel_rfl) rfl #[.agg #[.int .i64 a0_0, .int .i64 a0_1]] rfl (by (try simp only [List.map_toArray, List.map_cons, List.map_nil]); first | done | rfl | (simp only [List.length_drop, List.length_take]; rfl)) ?_; (with_reducible refine (laws_toConf.calls a0_0 a0_1 t148 t149 _ A4.out).mono ?_); rintro e w23 ⟨rfl, hb⟩; refine ⟨_, rfl, ?_⟩; replace BK147 := Aside0.mk (blk_below (g := gb147) (o := .cells #[.int .i64 a0_0, .int .i64 a0_1] 23 (0, 0)) (kI BK147.out) hb); replace HB := Aside0.mk (below_step (bI HB.out) hb); (try clear hb); (try clear hb2); (try clear hk); (try clear hi)) | ((with_reducible refine gate_callee (f := 44) rfl ?_); refine goesL_ (some 16) rfl rfl Try.func44 (by kernel_rfl) rfl #[.agg #[.int .i64 t148, .int .i64 t149], .int .i64 a1, .int .i64 a2] rfl (by (try simp only [List.map_toArray, List.map_cons, List.map_nil]); first | done | rfl | (simp only [List.length_drop, List.length_take]; rfl)) ?_; (with_reducible refine (spec_Kids.calls k t148 t149 a1 a2 t150 _ A5.out).mono ?_); rintro e w24 ⟨v151, rfl, ho0, hb⟩; refine ⟨_, rfl, ?_⟩; have HO152 := Aside0.mk (Kd.R_lower ho0 (below_size (bI HB.out))); replace BK147 := Aside0.mk (blk_below (g := gb147) (o := .cells #[.int .i64 a0_0, .int .i64 a0_1] 23 (0, 0)) (kI BK147.out) hb); replace HB := Aside0.mk (below_step (bI HB.out) hb); (try clear hb); (try clear hb2); (try clear hk); (try clear hi); (try clear ho0); have hcz25_0 : w24.cell? ⟨gb147, 0, none⟩ = some (.int .i64 a0_0) := (blk_cell BK147.out 0).trans rfl; have hcz25_1 : w24.cell? ⟨gb147, 1, none⟩ = some (.int .i64 a0_1) := (blk_cell BK147.out 1).trans rfl; have hfz25_0 := blk_frozen BK147.out 0; have hfz25_1 := blk_frozen BK147.out 1) | ((with_reducible refine gate_callee (f := 16) rfl ?_); refine goesL_ (some 18) rfl rfl Try.func16 (by kernel_rfl) rfl #[.agg #[.int .i64 a0_0, .int .i64 a0_1]] rfl (by (try simp only [List.map_toArray, List.map_cons, List.map_nil]); first | done | rfl | (simp only [List.length_drop, List.length_take]; rfl)) ?_; (with_reducible refine (laws_toConf.calls a0_0 a0_1 t153 t154 _ A6.out).mono ?_); rintro e w26 ⟨rfl, hb⟩; refine ⟨_, rfl, ?_⟩; replace HO152 := Aside0.mk (Kd.R_below (rI HO152.out) hb); replace BK147 := Aside0.mk (blk_below (g := gb147) (o := .cells #[.int .i64 a0_0, .int .i64 a0_1] 23 (0, 0)) (kI BK147.out) hb); replace HB := Aside0.mk (below_step (bI HB.out) hb); (try clear hb); (try clear hb2); (try clear hk); (try clear hi)) | ((with_reducible refine gate_callee (f := 45) rfl ?_); refine goesL_ (some 21) rfl rfl Try.func45 (by kernel_rfl) rfl #[.agg #[.int .i64 t153, .int .i64 t154], .int .i64 a1, .int .i64 a2] rfl (by (try simp only [List.map_toArray, List.map_cons, List.map_nil]); first | done | rfl | (simp only [List.length_drop, List.length_take]; rfl)) ?_; (with_reducible refine (impl_Kids.calls k t153 t154 a1 a2 t155 _ A7.out).mono ?_); rintro e w27 ⟨v156, rfl, ho0, hb⟩; refine ⟨_, rfl, ?_⟩; have HO157 := Aside0.mk (Kd.R_lower (Kd.R_new' ho0 (Kd.R_lt (rI HO152.out))) (below_size (bI HB.out))); replace HO152 := Aside0.mk (Kd.R_elder' (rI HO152.out) (Kd.R_base ho0) hb); replace BK147 := Aside0.mk (blk_below (g := gb147) (o := .cells #[.int .i64 a0_0, .int .i64 a0_1] 23 (0, 0)) (kI BK147.out) hb); replace HB := Aside0.mk (below_step (bI HB.out) hb); (try clear hb); (try clear hb2); (try clear hk); (try clear hi); (try clear ho0); obtain ⟨Ao28, co28, eo28⟩ := Kd.R_slice HO157.out; subst eo28; obtain ⟨Ao29, co29, eo29⟩ := Kd.R_slice HO152.out; subst eo29) | ((with_reducible refine gate_callee (f := 41) rfl ?_); refine goesL_ (some 24) rfl rfl Try.func41 (by kernel_rfl) rfl #[.slice Ao28 t155.length co28, .slice Ao29 t150.length co29] rfl (by (try simp only [List.map_toArray, List.map_cons, List.map_nil]); first | done | rfl | (simp only [List.length_drop, List.length_take]; rfl)) ?_; (with_reducible refine (laws_eqIntS.calls k _ _ t155 _ _ t150 true _ ?side1 ?side2 ?side3 ?side4 A8.out).mono ?_); (case side1 => repeat (first | exact (Kd.R_reads' HO157.out).2.2 | (with_reducible refine Kd.C_alloc ?_ _) | (with_reducible refine Kd.C_drewN ?_ _) | (with_reducible refine Kd.C_drew ?_))); (case side2 => exact (Kd.R_reads' HO157.out).2.1); (case side3 => repeat (first | exact (Kd.R_reads' HO152.out).2.2 | (with_reducible refine Kd.C_alloc ?_ _) | (with_reducible refine Kd.C_drewN ?_ _) | (with_reducible refine Kd.C_drew ?_))); (case side4 => exact (Kd.R_reads' HO152.out).2.1); rintro e w' ⟨rfl, ⟨nd, rfl⟩⟩; refine ⟨_, rfl, ?_⟩) | ((with_reducible refine gate_callee (f := 42) rfl ?_); refine goesL_ (some 28) rfl rfl Try.func42 (by kernel_rfl) rfl #[.slice Ao28 t155.length co28, .int .i64 1] rfl (by (try simp only [List.map_toArray, List.map_cons, List.map_nil]); first | done | rfl | (simp only [List.length_drop, List.length_take]; rfl)) ?_; (with_reducible refine (laws_markIntS.calls k (fun k_ => some k_ = (.slice Ao28 t155.length co28 : Value).ownBlock) (.slice Ao28 t155.length co28) t155 1 t159 t160 w _ ?side1 ?side2 A10.out).mono ?_); (case side1 => exact bI HB.out); (case side2 => exact Kd.R_tight rfl HO157.out); rintro e w30 ⟨rfl, hy0, hb, hkp⟩; refine ⟨_, rfl, ?_⟩; replace BK147 := Aside0.mk (blk_kept (kI BK147.out) hkp (fun hs_ => (fun e_ => (Kd.R_ne HO157.out BK147.out (by decide)) e_) hs_)); replace HO152 := Aside0.mk (Kd.R_mono (ok' := fun k_ => some k_ ≠ (.slice Ao28 t155.length co28 : Value).ownBlock) (Kd.R_keptB (HO152.out) hkp (fun k_ hk_ hs_ => (hk_.2) hs_)) (fun k_ hk_ => hk_.1.2)); replace HO157 := Aside0.mk (Kd.R_reok rfl hy0 (fun k_ e_ => HO157.out.1 k_ e_)); replace HB := Aside0.mk (hb); (try clear hb); (try clear hkp); (try clear hy0)) | ((with_reducible refine gate_callee (f := 43) rfl ?_); refine goesL_ (some 31) rfl rfl Try.func43 (by kernel_rfl) rfl #[.slice Ao28 t160.length co28, .int .i64 1] rfl (by (try simp only [List.map_toArray, List.map_cons, List.map_nil]); first | done | (rw [show t160.length = t155.length from (Kd.R_reads' HO157.out).1.symm] <;> rfl) | rfl | (simp only [List.length_drop, List.length_take]; rfl)) ?_; (with_reducible refine (laws_heldIntS.calls k _ _ t160 1 t161 _ ?side1 ?side2 A11.out).mono ?_); (case side1 => repeat (first | exact (Kd.R_reads' HO157.out).2.2 | (with_reducible refine Kd.C_alloc ?_ _) | (with_reducible refine Kd.C_drewN ?_ _) | (with_reducible refine Kd.C_drew ?_))); (case side2 => rw [show t160.length = t155.length from (Kd.R_reads' HO157.out).1.symm]; exact (Kd.R_reads' HO157.out).2.1); rintro e w' ⟨rfl, ⟨nd, rfl⟩⟩; refine ⟨_, rfl, ?_⟩; have hcz31_0 : w30.cell? ⟨gb147, 0, none⟩ = some (.int .i64 a0_0) := (blk_cell BK147.out 0).trans rfl; have hcz31_1 : w30.cell? ⟨gb147, 1, none⟩ = some (.int .i64 a0_1) := (blk_cell BK147.out 1).trans rfl; have hfz31_0 := blk_frozen BK147.out 0; have hfz31_1 := blk_frozen BK147.out 1) | ((with_reducible refine gate_callee (f := 16) rfl ?_); refine goesL_ (some 38) rfl rfl Try.func16 (by kernel_rfl) rfl #[.agg #[.int .i64 a0_0, .int .i64 a0_1]] rfl (by (try simp only [List.map_toArray, List.map_cons, List.map_nil]); first | done | rfl | (simp only [List.length_drop, List.length_take]; rfl)) ?_; (with_reducible refine (laws_toConf.calls a0_0 a0_1 t162 t163 _ A14.out).mono ?_); rintro e w32 ⟨rfl, hb⟩; refine ⟨_, rfl, ?_⟩; replace HO152 := Aside0.mk (Kd.R_below (rI HO152.out) hb); replace HO157 := Aside0.mk (Kd.R_below (rI HO157.out) hb); replace BK147 := Aside0.mk (blk_below (g := gb147) (o := .cells #[.int .i64 a0_0, .int .i64 a0_1] 23 (0, 0)) (kI BK147.out) hb); replace HB := Aside0.mk (below_step (bI HB.out) hb); (try clear hb); (try clear hb2); (try clear hk); (try clear hi)) | ((with_reducible refine gate_callee (f := 45) rfl ?_); refine goesL_ (some 41) rfl rfl Try.func45 (by kernel_rfl) rfl #[.agg #[.int .i64 t162, .int .i64 t163], .int .i64 a1, .int .i64 a2] rfl (by (try simp only [List.map_toArray, List.map_cons, List.map_nil]); first | done | rfl | (simp only [List.length_drop, List.length_take]; rfl)) ?_; (with_reducible refine (impl_Kids.calls k t162 t163 a1 a2 t164 _ A15.out).mono ?_); rintro e w33 ⟨v165, rfl, ho0, hb⟩; refine ⟨_, rfl, ?_⟩; have HO166 := Aside0.mk (Kd.R_lower (Kd.R_new' (Kd.R_new' ho0 (Kd.R_lt (rI HO152.out))) (Kd.R_lt (rI HO157.out))) (below_size (bI HB.out))); replace HO152 := Aside0.mk (Kd.R_elder' (rI HO152.out) (Kd.R_base ho0) hb); replace HO157 := Aside0.mk (Kd.R_elder' (rI HO157.out) (Kd.R_base ho0) hb); replace BK147 := Aside0.mk (blk_below (g := gb147) (o := .cells #[.int .i64 a0_0, .int .i64 a0_1] 23 (0, 0)) (kI BK147.out) hb); replace HB := Aside0.mk (below_step (bI HB.out) hb); (try clear hb); (try clear hb2); (try clear hk); (try clear hi); (try clear ho0); obtain ⟨Ao34, co34, eo34⟩ := Kd.R_slice HO166.out; subst eo34) | ((with_reducible refine gate_callee (f := 41) rfl ?_); refine goesL_ (some 44) rfl rfl Try.func41 (by kernel_rfl) rfl #[.slice Ao34 t164.length co34, .slice Ao29 t150.length co29] rfl (by (try simp only [List.map_toArray, List.map_cons, List.map_nil]); first | done | rfl | (simp only [List.length_drop, List.length_take]; rfl)) ?_; (with_reducible refine (laws_eqIntS.calls k _ _ t164 _ _ t150 true _ ?side1 ?side2 ?side3 ?side4 A16.out).mono ?_); (case side1 => repeat (first | exact (Kd.R_reads' HO166.out).2.2 | (with_reducible refine Kd.C_alloc ?_ _) | (with_reducible refine Kd.C_drewN ?_ _) | (with_reducible refine Kd.C_drew ?_))); (case side2 => exact (Kd.R_reads' HO166.out).2.1); (case side3 => repeat (first | exact (Kd.R_reads' HO152.out).2.2 | (with_reducible refine Kd.C_alloc ?_ _) | (with_reducible refine Kd.C_drewN ?_ _) | (with_reducible refine Kd.C_drew ?_))); (case side4 => exact (Kd.R_reads' HO152.out).2.1); rintro e w' ⟨rfl, ⟨nd, rfl⟩⟩; refine ⟨_, rfl, ?_⟩; clear HO152; clear HO166; have n_ := Aside0.mk (Kd.R_mono (ok' := (fun _ => True)) HO157.out (fun k_ hk => trivial)); clear HO157; have HO157 := n_; clear n_) | ((with_reducible refine gate_callee (f := 43) rfl ?_); refine goesL_ (some 48) rfl rfl Try.func43 (by kernel_rfl) rfl #[.slice Ao28 t160.length co28, .int .i64 1] rfl (by (try simp only [List.map_toArray, List.map_cons, List.map_nil]); first | done | (rw [show t160.length = t155.length from (Kd.R_reads' HO157.out).1.symm] <;> rfl) | rfl | (simp only [List.length_drop, List.length_take]; rfl)) ?_; (with_reducible refine (laws_heldIntS.calls k _ _ t160 1 t168 _ ?side1 ?side2 A18.out).mono ?_); (case side1 => repeat (first | exact (Kd.R_reads' HO157.out).2.2 | (with_reducible refine Kd.C_alloc ?_ _) | (with_reducible refine Kd.C_drewN ?_ _) | (with_reducible refine Kd.C_drew ?_))); (case side2 => rw [show t160.length = t155.length from (Kd.R_reads' HO157.out).1.symm]; exact (Kd.R_reads' HO157.out).2.1); rintro e w' ⟨rfl, ⟨nd, rfl⟩⟩; refine ⟨_, rfl, ?_⟩))
    go_ret
    exact ⟨by first | rfl | (simp [errW_none, errW_some] <;> rfl) | (simp [*, errW_none, errW_some] <;> rfl), bI HB.out⟩
  · replace c9 := Bool.eq_false_iff.mpr c9
    subst c9
    have H1 : (some false) = some r := by rw [if_neg (show ¬ (false = true) by decide)] at H; exact H
    clear H
    have H := H1
    clear H1
    exact absurd (hrt.out.symm.trans (Option.some.inj H).symm) (by decide)

end Go.Proofs.Ytlkmjjojjlihaaa.PFnExactKids
