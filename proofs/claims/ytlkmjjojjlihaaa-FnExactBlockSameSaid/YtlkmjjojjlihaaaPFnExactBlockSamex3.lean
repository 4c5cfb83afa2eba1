-- By a program of this session, out of the translation (the print of the kit, with turns of its own). Lean checks it.
import Derived.Test.YtlkmjjojjlihaaaPFnExactBlockSamex0
import Derived.Test.YtlkmjjojjlihaaaPFnExactBlockSamex1
import Derived.Test.YtlkmjjojjlihaaaPFnExactBlockSamex2
namespace Go.Proofs.Ytlkmjjojjlihaaa.PFnExactBlockSame
open Go.RowKit Go.Proofs.YtlkmjjojjlihaaaW.PrintWords Go.Proofs.YtlkmjjojjlihaaaW.PrintLast Go.Proofs.YtlkmjjojjlihaaaW.PrintMore
attribute [local go_sem] max2_int min2_int max_two min_two max_three min_three max_four min_four   -- for this text's walks alone
set_option linter.unusedVariables false
set_option linter.unusedSimpArgs false

/-! ### laws_FnExactBlockSame: function 14 -/
def laws_FnExactBlockSame.f (k : Nat) (a0_0 : ByteArray) (a0_1 : Int) (a0_2 : ByteArray) (l0_3 : List Int) (a1_0 : ByteArray) (a1_1 : Int) (a1_2 : ByteArray) (l1_3 : List Int) : Option (Bool) := (laws_szBlock.f a0_0 a0_1 a0_2 l0_3 1048576).bind fun t150 => (if t150 < 0 then (some true) else ((laws_szBlock.f a1_0 a1_1 a1_2 l1_3 t150).bind fun t151 => (if t151 < 0 then (some true) else ((laws_toBlock.f k a0_0 a0_1 a0_2 l0_3).bind fun bt152 => ((laws_toBlock.f k a1_0 a1_1 a1_2 l1_3).bind fun bt158 => ((spec_BlockSame.f k bt152.1 bt152.2.1 bt152.2.2.1 bt152.2.2.2 bt158.1 bt158.2.1 bt158.2.2.1 bt158.2.2.2).bind fun t164 => ((laws_toBlock.f k a0_0 a0_1 a0_2 l0_3).bind fun bt165 => ((laws_toBlock.f k a1_0 a1_1 a1_2 l1_3).bind fun bt172 => ((impl_BlockSame.f k bt165.1 bt165.2.1 bt165.2.2.1 bt165.2.2.2 bt172.1 bt172.2.1 bt172.2.2.1 bt172.2.2.2).bind fun t179 => (if (t179 != t164) = true then (some false) else ((laws_toBlock.f k a0_0 a0_1 a0_2 l0_3).bind fun bt180 => ((laws_eqBlock.f k bt165.1 bt165.2.1 bt165.2.2.1 bt165.2.2.2 bt180.1 bt180.2.1 bt180.2.2.1 bt180.2.2.2).bind fun t186 => (if t186 = true then ((laws_toBlock.f k a1_0 a1_1 a1_2 l1_3).bind fun bt187 => ((laws_eqBlock.f k bt172.1 bt172.2.1 bt172.2.2.1 bt172.2.2.2 bt187.1 bt187.2.1 bt187.2.2.1 bt187.2.2.2).bind fun t193 => (if t193 = true then (some true) else (some false)))) else (some false))))))))))))))
theorem laws_FnExactBlockSame.mono : ∀ a0 a1 a2 a3 a4 a5 a6 a7 k, LeO (laws_FnExactBlockSame.f k a0 a1 a2 a3 a4 a5 a6 a7) (laws_FnExactBlockSame.f (k + 1) a0 a1 a2 a3 a4 a5 a6 a7) := by
  intro a0 a1 a2 a3 a4 a5 a6 a7 k
  unfold laws_FnExactBlockSame.f
  repeat' first
      | (with_reducible exact impl_BlockSame.mono _ _ _ _ _ _ _ _ _)
      | (with_reducible exact laws_eqBlock.mono _ _ _ _ _ _ _ _ _)
      | (with_reducible exact laws_toBlock.mono _ _ _ _ _)
      | (with_reducible exact spec_BlockSame.mono _ _ _ _ _ _ _ _ _)
      | (with_reducible exact LeO.refl _)
      | (with_reducible exact LeO.none _)
      | (with_reducible refine LeO.ite ?_ ?_)
      | (with_reducible refine LeO.bind ?_ (fun _ => ?_))
      | exact impl_BlockSame.mono _ _ _ _ _ _ _ _ _
      | exact laws_eqBlock.mono _ _ _ _ _ _ _ _ _
      | exact laws_toBlock.mono _ _ _ _ _
      | exact spec_BlockSame.mono _ _ _ _ _ _ _ _ _
      | exact LeO.none _
      | refine LeO.ite ?_ ?_
      | refine LeO.bind ?_ (fun _ => ?_)
set_option maxHeartbeats 8000000 in
set_option maxRecDepth 100000 in
theorem laws_FnExactBlockSame.calls (k : Nat) (a0_0 : ByteArray) (a0_1 : Int) (a0_2 : ByteArray) (A0_3 : Option Addr) (c0_3 : Nat) (l0_3 : List Int) (a1_0 : ByteArray) (a1_1 : Int) (a1_2 : ByteArray) (A1_3 : Option Addr) (c1_3 : Nat) (l1_3 : List Int) (r : Bool) (hrt : Aside0 (r = true)) (w : World) (hr0_3 : Kd.C (Kd.int .i64) w A0_3 l0_3.length l0_3) (hc0_3 : l0_3.length ≤ c0_3) (hr1_3 : Kd.C (Kd.int .i64) w A1_3 l1_3.length l1_3) (hc1_3 : l1_3.length ≤ c1_3) (h : laws_FnExactBlockSame.f k a0_0 a0_1 a0_2 l0_3 a1_0 a1_1 a1_2 l1_3 = some r) :
    Calls Try.prog 14 #[.agg #[.string a0_0, .int .i64 a0_1, .string a0_2, .slice A0_3 l0_3.length c0_3], .agg #[.string a1_0, .int .i64 a1_1, .string a1_2, .slice A1_3 l1_3.length c1_3]] w fun e w' => e = .returned (.bool r) ∧ Below w.heap.size w w' := by
  have hu61 := Try.underlying61
  have hu65 := Try.underlying65
  have HR0_3 := Aside0.mk hr0_3
  have HC0_3 := Aside0.mk hc0_3
  clear hr0_3 hc0_3
  have HR1_3 := Aside0.mk hr1_3
  have HC1_3 := Aside0.mk hc1_3
  clear hr1_3 hc1_3
  have HB := Aside0.mk (Below.refl w.heap.size w)
  have H : ((laws_szBlock.f a0_0 a0_1 a0_2 l0_3 1048576).bind fun t150 => (if t150 < 0 then (some true) else ((laws_szBlock.f a1_0 a1_1 a1_2 l1_3 t150).bind fun t151 => (if t151 < 0 then (some true) else ((laws_toBlock.f k a0_0 a0_1 a0_2 l0_3).bind fun bt152 => ((laws_toBlock.f k a1_0 a1_1 a1_2 l1_3).bind fun bt158 => ((spec_BlockSame.f k bt152.1 bt152.2.1 bt152.2.2.1 bt152.2.2.2 bt158.1 bt158.2.1 bt158.2.2.1 bt158.2.2.2).bind fun t164 => ((laws_toBlock.f k a0_0 a0_1 a0_2 l0_3).bind fun bt165 => ((laws_toBlock.f k a1_0 a1_1 a1_2 l1_3).bind fun bt172 => ((impl_BlockSame.f k bt165.1 bt165.2.1 bt165.2.2.1 bt165.2.2.2 bt172.1 bt172.2.1 bt172.2.2.1 bt172.2.2.2).bind fun t179 => (if (t179 != t164) = true then (some false) else ((laws_toBlock.f k a0_0 a0_1 a0_2 l0_3).bind fun bt180 => ((laws_eqBlock.f k bt165.1 bt165.2.1 bt165.2.2.1 bt165.2.2.2 bt180.1 bt180.2.1 bt180.2.2.1 bt180.2.2.2).bind fun t186 => (if t186 = true then ((laws_toBlock.f k a1_0 a1_1 a1_2 l1_3).bind fun bt187 => ((laws_eqBlock.f k bt172.1 bt172.2.1 bt172.2.2.1 bt172.2.2.2 bt187.1 bt187.2.1 bt187.2.2.1 bt187.2.2.2).bind fun t193 => (if t193 = true then (some true) else (some false)))) else (some false))))))))))))))) = some r := h
  clear h
  replace H := Option.bind_eq_some_iff.mp H
  obtain ⟨t150, A30, H⟩ := H
  replace H : (if t150 < 0 then (some true) else ((laws_szBlock.f a1_0 a1_1 a1_2 l1_3 t150).bind fun t151 => (if t151 < 0 then (some true) else ((laws_toBlock.f k a0_0 a0_1 a0_2 l0_3).bind fun bt152 => ((laws_toBlock.f k a1_0 a1_1 a1_2 l1_3).bind fun bt158 => ((spec_BlockSame.f k bt152.1 bt152.2.1 bt152.2.2.1 bt152.2.2.2 bt158.1 bt158.2.1 bt158.2.2.1 bt158.2.2.2).bind fun t164 => ((laws_toBlock.f k a0_0 a0_1 a0_2 l0_3).bind fun bt165 => ((laws_toBlock.f k a1_0 a1_1 a1_2 l1_3).bind fun bt172 => ((impl_BlockSame.f k bt165.1 bt165.2.1 bt165.2.2.1 bt165.2.2.2 bt172.1 bt172.2.1 bt172.2.2.1 bt172.2.2.2).bind fun t179 => (if (t179 != t164) = true then (some false) else ((laws_toBlock.f k a0_0 a0_1 a0_2 l0_3).bind fun bt180 => ((laws_eqBlock.f k bt165.1 bt165.2.1 bt165.2.2.1 bt165.2.2.2 bt180.1 bt180.2.1 bt180.2.2.1 bt180.2.2.2).bind fun t186 => (if t186 = true then ((laws_toBlock.f k a1_0 a1_1 a1_2 l1_3).bind fun bt187 => ((laws_eqBlock.f k bt172.1 bt172.2.1 bt172.2.2.1 bt172.2.2.2 bt187.1 bt187.2.1 bt187.2.2.1 bt187.2.2.2).bind fun t193 => (if t193 = true then (some true) else (some false)))) else (some false)))))))))))))) = some r := H
  have A3 := Aside0.mk A30
  clear A30
  by_cases c4 : t150 < 0
  · rw [if_pos c4] at H
    have c4b0 : decide (t150 < 0) = true := decide_eq_true c4
    clear c4
    obtain rfl := Option.some.inj H
    go_enter Try.func14, Try.ntmps14
    go_wp2_with (first | ((with_reducible refine gate_dst (N := 2) rfl ?_); refine box_event ?hg (N := 2) ?hd (cs := #[.string a0_0, .int .i64 a0_1, .string a0_2, .slice A0_3 l0_3.length c0_3]) (t := 61) ?hr ?_; (case hd => rfl); (case hg => rfl); (case hr => first | (go_simp; done) | (go_simp; rfl)); intro gb148 hg w5 hbox hb; have BK148 := Aside0.mk (hbox); have GW148 := Aside0.mk ((by rw [hg]; exact (below_size (bI HB.out)) : w.heap.size ≤ gb148)); have GE148 := Aside0.mk ((by rw [hg]; exact (below_size (bI HB.out)) : w.heap.size ≤ gb148)); have GI148 := GeI.mk GE148.out; replace HB := Aside0.mk (below_step (bI HB.out) hb); clear hb hbox hg) | ((with_reducible refine gate_dst (N := 3) rfl ?_); refine box_event ?hg (N := 3) ?hd (cs := #[.string a1_0, .int .i64 a1_1, .string a1_2, .slice A1_3 l1_3.length c1_3]) (t := 61) ?hr ?_; (case hd => rfl); (case hg => rfl); (case hr => first | (go_simp; done) | (go_simp; rfl)); intro gb149 hg w6 hbox hb; have BK149 := Aside0.mk (hbox); have GW149 := Aside0.mk ((by rw [hg]; exact (below_size (bI HB.out)) : w.heap.size ≤ gb149)); have GE149 := Aside0.mk ((by rw [hg]; exact (below_size (bI HB.out)) : w.heap.size ≤ gb149)); have GI149 := GeI.mk GE149.out; replace HB := Aside0.mk (below_step (bI HB.out) hb); have NB148_149 := Aside0.mk ((by rw [hg]; exact Nat.ne_of_lt (blk_lt (g := gb148) (o := .cells #[.string a0_0, .int .i64 a0_1, .string a0_2, .slice A0_3 l0_3.length c0_3] 61 (0, 0)) (kI BK148.out)) : gb148 ≠ gb149)); have NB149_148 := Aside0.mk ((by rw [hg]; exact Nat.ne_of_gt (blk_lt (g := gb148) (o := .cells #[.string a0_0, .int .i64 a0_1, .string a0_2, .slice A0_3 l0_3.length c0_3] 61 (0, 0)) (kI BK148.out)) : gb149 ≠ gb148)); replace BK148 := Aside0.mk (blk_below (g := gb148) (o := .cells #[.string a0_0, .int .i64 a0_1, .string a0_2, .slice A0_3 l0_3.length c0_3] 61 (0, 0)) (kI BK148.out) hb); clear hb hbox hg; have hnb7 := NB148_149.out; have hnc7 := NB149_148.out; have hcz8_0 : w6.cell? ⟨gb148, 0, none⟩ = some (.string a0_0) := (blk_cell BK148.out 0).trans rfl; have hcz8_1 : w6.cell? ⟨gb148, 1, none⟩ = some (.int .i64 a0_1) := (blk_cell BK148.out 1).trans rfl; have hcz8_2 : w6.cell? ⟨gb148, 2, none⟩ = some (.string a0_2) := (blk_cell BK148.out 2).trans rfl; have hcz8_3 : w6.cell? ⟨gb148, 3, none⟩ = some (.slice A0_3 l0_3.length c0_3) := (blk_cell BK148.out 3).trans rfl; have hfz8_0 := blk_frozen BK148.out 0; have hfz8_1 := blk_frozen BK148.out 1; have hfz8_2 := blk_frozen BK148.out 2; have hfz8_3 := blk_frozen BK148.out 3) | ((with_reducible refine gate_callee (f := 54) rfl ?_); refine goesL_ (some 12) rfl rfl Try.func54 (by kernel_rfl) rfl #[.agg #[.string a0_0, .int .i64 a0_1, .string a0_2, .slice A0_3 l0_3.length c0_3], .int .i64 1048576] rfl (by (try simp only [List.map_toArray, List.map_cons, List.map_nil]); first | done | rfl | (simp only [List.length_drop, List.length_take]; rfl)) ?_; (with_reducible refine (laws_szBlock.calls a0_0 a0_1 a0_2 _ _ l0_3 1048576 t150 _ ?side1 ?side2 A3.out).mono ?_); (case side1 => repeat (first | exact (Kd.C_below HR0_3.out HB.out) | (with_reducible refine Kd.C_alloc ?_ _) | (with_reducible refine Kd.C_drewN ?_ _) | (with_reducible refine Kd.C_drew ?_))); (case side2 => exact HC0_3.out); rintro e w9 ⟨rfl, hb⟩; refine ⟨_, rfl, ?_⟩; replace BK148 := Aside0.mk (blk_below (g := gb148) (o := .cells #[.string a0_0, .int .i64 a0_1, .string a0_2, .slice A0_3 l0_3.length c0_3] 61 (0, 0)) (kI BK148.out) hb); replace BK149 := Aside0.mk (blk_below (g := gb149) (o := .cells #[.string a1_0, .int .i64 a1_1, .string a1_2, .slice A1_3 l1_3.length c1_3] 61 (0, 0)) (kI BK149.out) hb); replace HB := Aside0.mk (below_step (bI HB.out) hb); (try clear hb); (try clear hb2); (try clear hk); (try clear hi)))
    go_ret
    exact ⟨by first | rfl | (simp [errW_none, errW_some] <;> rfl) | (simp [*, errW_none, errW_some] <;> rfl), bI HB.out⟩
  · rw [if_neg c4] at H
    have c4b0 : decide (t150 < 0) = false := decide_eq_false c4
    clear c4
    replace H := Option.bind_eq_some_iff.mp H
    obtain ⟨t151, A100, H⟩ := H
    replace H : (if t151 < 0 then (some true) else ((laws_toBlock.f k a0_0 a0_1 a0_2 l0_3).bind fun bt152 => ((laws_toBlock.f k a1_0 a1_1 a1_2 l1_3).bind fun bt158 => ((spec_BlockSame.f k bt152.1 bt152.2.1 bt152.2.2.1 bt152.2.2.2 bt158.1 bt158.2.1 bt158.2.2.1 bt158.2.2.2).bind fun t164 => ((laws_toBlock.f k a0_0 a0_1 a0_2 l0_3).bind fun bt165 => ((laws_toBlock.f k a1_0 a1_1 a1_2 l1_3).bind fun bt172 => ((impl_BlockSame.f k bt165.1 bt165.2.1 bt165.2.2.1 bt165.2.2.2 bt172.1 bt172.2.1 bt172.2.2.1 bt172.2.2.2).bind fun t179 => (if (t179 != t164) = true then (some false) else ((laws_toBlock.f k a0_0 a0_1 a0_2 l0_3).bind fun bt180 => ((laws_eqBlock.f k bt165.1 bt165.2.1 bt165.2.2.1 bt165.2.2.2 bt180.1 bt180.2.1 bt180.2.2.1 bt180.2.2.2).bind fun t186 => (if t186 = true then ((laws_toBlock.f k a1_0 a1_1 a1_2 l1_3).bind fun bt187 => ((laws_eqBlock.f k bt172.1 bt172.2.1 bt172.2.2.1 bt172.2.2.2 bt187.1 bt187.2.1 bt187.2.2.1 bt187.2.2.2).bind fun t193 => (if t193 = true then (some true) else (some false)))) else (some false)))))))))))) = some r := H
    have A10 := Aside0.mk A100
    clear A100
    by_cases c11 : t151 < 0
    · rw [if_pos c11] at H
      have c11b0 : decide (t151 < 0) = true := decide_eq_true c11
      clear c11
      obtain rfl := Option.some.inj H
      go_enter Try.func14, Try.ntmps14
      go_wp2_with (first | ((with_reducible refine gate_dst (N := 2) rfl ?_); refine box_event ?hg (N := 2) ?hd (cs := #[.string a0_0, .int .i64 a0_1, .string a0_2, .slice A0_3 l0_3.length c0_3]) (t := 61) ?hr ?_; (case hd => rfl); (case hg => rfl); (case hr => first | (go_simp; done) | (go_simp; rfl)); intro gb148 hg w12 hbox hb; have BK148 := Aside0.mk (hbox); have GW148 := Aside0.mk ((by rw [hg]; exact (below_size (bI HB.out)) : w.heap.size ≤ gb148)); have GE148 := Aside0.mk ((by rw [hg]; exact (below_size (bI HB.out)) : w.heap.size ≤ gb148)); have GI148 := GeI.mk GE148.out; replace HB := Aside0.mk (below_step (bI HB.out) hb); clear hb hbox hg) | ((with_reducible refine gate_dst (N := 3) rfl ?_); refine box_event ?hg (N := 3) ?hd (cs := #[.string a1_0, .int .i64 a1_1, .string a1_2, .slice A1_3 l1_3.length c1_3]) (t := 61) ?hr ?_; (case hd => rfl); (case hg => rfl); (case hr => first | (go_simp; done) | (go_simp; rfl)); intro gb149 hg w13 hbox hb; have BK149 := Aside0.mk (hbox); have GW149 := Aside0.mk ((by rw [hg]; exact (below_size (bI HB.out)) : w.heap.size ≤ gb149)); have GE149 := Aside0.mk ((by rw [hg]; exact (below_size (bI HB.out)) : w.heap.size ≤ gb149)); have GI149 := GeI.mk GE149.out; replace HB := Aside0.mk (below_step (bI HB.out) hb); have NB148_149 := Aside0.mk ((by rw [hg]; exact Nat.ne_of_lt (blk_lt (g := gb148) (o := .cells #[.string a0_0, .int .i64 a0_1, .string a0_2, .slice A0_3 l0_3.length c0_3] 61 (0, 0)) (kI BK148.out)) : gb148 ≠ gb149)); have NB149_148 := Aside0.mk ((by rw [hg]; exact Nat.ne_of_gt (blk_lt (g := gb148) (o := .cells #[.string a0_0, .int .i64 a0_1, .string a0_2, .slice A0_3 l0_3.length c0_3] 61 (0, 0)) (kI BK148.out)) : gb149 ≠ gb148)); replace BK148 := Aside0.mk (blk_below (g := gb148) (o := .cells #[.string a0_0, .int .i64 a0_1, .string a0_2, .slice A0_3 l0_3.length c0_3] 61 (0, 0)) (kI BK148.out) hb); clear hb hbox hg; have hnb14 := NB148_149.out; have hnc14 := NB149_148.out; have hcz15_0 : w13.cell? ⟨gb148, 0, none⟩ = some (.string a0_0) := (blk_cell BK148.out 0).trans rfl; have hcz15_1 : w13.cell? ⟨gb148, 1, none⟩ = some (.int .i64 a0_1) := (blk_cell BK148.out 1).trans rfl; have hcz15_2 : w13.cell? ⟨gb148, 2, none⟩ = some (.string a0_2) := (blk_cell BK148.out 2).trans rfl; have hcz15_3 : w13.cell? ⟨gb148, 3, none⟩ = some (.slice A0_3 l0_3.length c0_3) := (blk_cell BK148.out 3).trans rfl; have hfz15_0 := blk_frozen BK148.out 0; have hfz15_1 := blk_frozen BK148.out 1; have hfz15_2 := blk_frozen BK148.out 2; have hfz15_3 := blk_frozen BK148.out 3) | ((with_reducible refine gate_callee (f := 54) rfl ?_); refine goesL_ (some 12) rfl rfl Try.func54 (by kernel_rfl) rfl #[.agg #[.string a0_0, .int .i64 a0_1, .string a0_2, .slice A0_3 l0_3.length c0_3], .int .i64 1048576] rfl (by (try simp only [List.map_toArray, List.map_cons, List.map_nil]); first | done | rfl | (simp only [List.length_drop, List.length_take]; rfl)) ?_; (with_reducible refine (laws_szBlock.calls a0_0 a0_1 a0_2 _ _ l0_3 1048576 t150 _ ?side1 ?side2 A3.out).mono ?_); (case side1 => repeat (first | exact (Kd.C_below HR0_3.out HB.out) | (with_reducible refine Kd.C_alloc ?_ _) | (with_reducible refine Kd.C_drewN ?_ _) | (with_reducible refine Kd.C_drew ?_))); (case side2 => exact HC0_3.out); rintro e w16 ⟨rfl, hb⟩; refine ⟨_, rfl, ?_⟩; replace BK148 := Aside0.mk (blk_below (g := gb148) (o := .cells #[.string a0_0, .int .i64 a0_1, .string a0_2, .slice A0_3 l0_3.length c0_3] 61 (0, 0)) (kI BK148.out) hb); replace BK149 := Aside0.mk (blk_below (g := gb149) (o := .cells #[.string a1_0, .int .i64 a1_1, .string a1_2, .slice A1_3 l1_3.length c1_3] 61 (0, 0)) (kI BK149.out) hb); replace HB := Aside0.mk (below_step (bI HB.out) hb); (try clear hb); (try clear hb2); (try clear hk); (try clear hi); have hcz17_0 : w16.cell? ⟨gb149, 0, none⟩ = some (.string a1_0) := (blk_cell BK149.out 0).trans rfl; have hcz17_1 : w16.cell? ⟨gb149, 1, none⟩ = some (.int .i64 a1_1) := (blk_cell BK149.out 1).trans rfl; have hcz17_2 : w16.cell? ⟨gb149, 2, none⟩ = some (.string a1_2) := (blk_cell BK149.out 2).trans rfl; have hcz17_3 : w16.cell? ⟨gb149, 3, none⟩ = some (.slice A1_3 l1_3.length c1_3) := (blk_cell BK149.out 3).trans rfl; have hfz17_0 := blk_frozen BK149.out 0; have hfz17_1 := blk_frozen BK149.out 1; have hfz17_2 := blk_frozen BK149.out 2; have hfz17_3 := blk_frozen BK149.out 3) | ((with_reducible refine gate_callee (f := 54) rfl ?_); refine goesL_ (some 17) rfl rfl Try.func54 (by kernel_rfl) rfl #[.agg #[.string a1_0, .int .i64 a1_1, .string a1_2, .slice A1_3 l1_3.length c1_3], .int .i64 t150] rfl (by (try simp only [List.map_toArray, List.map_cons, List.map_nil]); first | done | rfl | (simp only [List.length_drop, List.length_take]; rfl)) ?_; (with_reducible refine (laws_szBlock.calls a1_0 a1_1 a1_2 _ _ l1_3 t150 t151 _ ?side1 ?side2 A10.out).mono ?_); (case side1 => repeat (first | exact (Kd.C_below HR1_3.out HB.out) | (with_reducible refine Kd.C_alloc ?_ _) | (with_reducible refine Kd.C_drewN ?_ _) | (with_reducible refine Kd.C_drew ?_))); (case side2 => exact HC1_3.out); rintro e w18 ⟨rfl, hb⟩; refine ⟨_, rfl, ?_⟩; replace BK148 := Aside0.mk (blk_below (g := gb148) (o := .cells #[.string a0_0, .int .i64 a0_1, .string a0_2, .slice A0_3 l0_3.length c0_3] 61 (0, 0)) (kI BK148.out) hb); replace BK149 := Aside0.mk (blk_below (g := gb149) (o := .cells #[.string a1_0, .int .i64 a1_1, .string a1_2, .slice A1_3 l1_3.length c1_3] 61 (0, 0)) (kI BK149.out) hb); replace HB := Aside0.mk (below_step (bI HB.out) hb); (try clear hb); (try clear hb2); (try clear hk); (try clear hi)))
      go_ret
      exact ⟨by first | rfl | (simp [errW_none, errW_some] <;> rfl) | (simp [*, errW_none, errW_some] <;> rfl), bI HB.out⟩
    · rw [if_neg c11] at H
      have c11b0 : decide (t151 < 0) = false := decide_eq_false c11
      clear c11
      replace H := Option.bind_eq_some_iff.mp H
      obtain ⟨⟨t152, t153, t154, t155⟩, A190, H⟩ := H
      replace H : ((laws_toBlock.f k a1_0 a1_1 a1_2 l1_3).bind fun bt158 => ((spec_BlockSame.f k t152 t153 t154 t155 bt158.1 bt158.2.1 bt158.2.2.1 bt158.2.2.2).bind fun t164 => ((laws_toBlock.f k a0_0 a0_1 a0_2 l0_3).bind fun bt165 => ((laws_toBlock.f k a1_0 a1_1 a1_2 l1_3).bind fun bt172 => ((impl_BlockSame.f k bt165.1 bt165.2.1 bt165.2.2.1 bt165.2.2.2 bt172.1 bt172.2.1 bt172.2.2.1 bt172.2.2.2).bind fun t179 => (if (t179 != t164) = true then (some false) else ((laws_toBlock.f k a0_0 a0_1 a0_2 l0_3).bind fun bt180 => ((laws_eqBlock.f k bt165.1 bt165.2.1 bt165.2.2.1 bt165.2.2.2 bt180.1 bt180.2.1 bt180.2.2.1 bt180.2.2.2).bind fun t186 => (if t186 = true then ((laws_toBlock.f k a1_0 a1_1 a1_2 l1_3).bind fun bt187 => ((laws_eqBlock.f k bt172.1 bt172.2.1 bt172.2.2.1 bt172.2.2.2 bt187.1 bt187.2.1 bt187.2.2.1 bt187.2.2.2).bind fun t193 => (if t193 = true then (some true) else (some false)))) else (some false)))))))))) = some r := H
      have A19 := Aside0.mk A190
      clear A190
      replace H := Option.bind_eq_some_iff.mp H
      obtain ⟨⟨t158, t159, t160, t161⟩, A200, H⟩ := H
      replace H : ((spec_BlockSame.f k t152 t153 t154 t155 t158 t159 t160 t161).bind fun t164 => ((laws_toBlock.f k a0_0 a0_1 a0_2 l0_3).bind fun bt165 => ((laws_toBlock.f k a1_0 a1_1 a1_2 l1_3).bind fun bt172 => ((impl_BlockSame.f k bt165.1 bt165.2.1 bt165.2.2.1 bt165.2.2.2 bt172.1 bt172.2.1 bt172.2.2.1 bt172.2.2.2).bind fun t179 => (if (t179 != t164) = true then (some false) else ((laws_toBlock.f k a0_0 a0_1 a0_2 l0_3).bind fun bt180 => ((laws_eqBlock.f k bt165.1 bt165.2.1 bt165.2.2.1 bt165.2.2.2 bt180.1 bt180.2.1 bt180.2.2.1 bt180.2.2.2).bind fun t186 => (if t186 = true then ((laws_toBlock.f k a1_0 a1_1 a1_2 l1_3).bind fun bt187 => ((laws_eqBlock.f k bt172.1 bt172.2.1 bt172.2.2.1 bt172.2.2.2 bt187.1 bt187.2.1 bt187.2.2.1 bt187.2.2.2).bind fun t193 => (if t193 = true then (some true) else (some false)))) else (some false))))))))) = some r := H
      have A20 := Aside0.mk A200
      clear A200
      replace H := Option.bind_eq_some_iff.mp H
      obtain ⟨t164, A210, H⟩ := H
      replace H : ((laws_toBlock.f k a0_0 a0_1 a0_2 l0_3).bind fun bt165 => ((laws_toBlock.f k a1_0 a1_1 a1_2 l1_3).bind fun bt172 => ((impl_BlockSame.f k bt165.1 bt165.2.1 bt165.2.2.1 bt165.2.2.2 bt172.1 bt172.2.1 bt172.2.2.1 bt172.2.2.2).bind fun t179 => (if (t179 != t164) = true then (some false) else ((laws_toBlock.f k a0_0 a0_1 a0_2 l0_3).bind fun bt180 => ((laws_eqBlock.f k bt165.1 bt165.2.1 bt165.2.2.1 bt165.2.2.2 bt180.1 bt180.2.1 bt180.2.2.1 bt180.2.2.2).bind fun t186 => (if t186 = true then ((laws_toBlock.f k a1_0 a1_1 a1_2 l1_3).bind fun bt187 => ((laws_eqBlock.f k bt172.1 bt172.2.1 bt172.2.2.1 bt172.2.2.2 bt187.1 bt187.2.1 bt187.2.2.1 bt187.2.2.2).bind fun t193 => (if t193 = true then (some true) else (some false)))) else (some false)))))))) = some r := H
      have A21 := Aside0.mk A210
      clear A210
      replace H := Option.bind_eq_some_iff.mp H
      obtain ⟨⟨t165, t166, t167, t168⟩, A220, H⟩ := H
      replace H : ((laws_toBlock.f k a1_0 a1_1 a1_2 l1_3).bind fun bt172 => ((impl_BlockSame.f k t165 t166 t167 t168 bt172.1 bt172.2.1 bt172.2.2.1 bt172.2.2.2).bind fun t179 => (if (t179 != t164) = true then (some false) else ((laws_toBlock.f k a0_0 a0_1 a0_2 l0_3).bind fun bt180 => ((laws_eqBlock.f k t165 t166 t167 t168 bt180.1 bt180.2.1 bt180.2.2.1 bt180.2.2.2).bind fun t186 => (if t186 = true then ((laws_toBlock.f k a1_0 a1_1 a1_2 l1_3).bind fun bt187 => ((laws_eqBlock.f k bt172.1 bt172.2.1 bt172.2.2.1 bt172.2.2.2 bt187.1 bt187.2.1 bt187.2.2.1 bt187.2.2.2).bind fun t193 => (if t193 = true then (some true) else (some false)))) else (some false))))))) = some r := H
      have A22 := Aside0.mk A220
      clear A220
      replace H := Option.bind_eq_some_iff.mp H
      obtain ⟨⟨t172, t173, t174, t175⟩, A230, H⟩ := H
      replace H : ((impl_BlockSame.f k t165 t166 t167 t168 t172 t173 t174 t175).bind fun t179 => (if (t179 != t164) = true then (some false) else ((laws_toBlock.f k a0_0 a0_1 a0_2 l0_3).bind fun bt180 => ((laws_eqBlock.f k t165 t166 t167 t168 bt180.1 bt180.2.1 bt180.2.2.1 bt180.2.2.2).bind fun t186 => (if t186 = true then ((laws_toBlock.f k a1_0 a1_1 a1_2 l1_3).bind fun bt187 => ((laws_eqBlock.f k t172 t173 t174 t175 bt187.1 bt187.2.1 bt187.2.2.1 bt187.2.2.2).bind fun t193 => (if t193 = true then (some true) else (some false)))) else (some false)))))) = some r := H
      have A23 := Aside0.mk A230
      clear A230
      replace H := Option.bind_eq_some_iff.mp H
      obtain ⟨t179, A240, H⟩ := H
      replace H : (if (t179 != t164) = true then (some false) else ((laws_toBlock.f k a0_0 a0_1 a0_2 l0_3).bind fun bt180 => ((laws_eqBlock.f k t165 t166 t167 t168 bt180.1 bt180.2.1 bt180.2.2.1 bt180.2.2.2).bind fun t186 => (if t186 = true then ((laws_toBlock.f k a1_0 a1_1 a1_2 l1_3).bind fun bt187 => ((laws_eqBlock.f k t172 t173 t174 t175 bt187.1 bt187.2.1 bt187.2.2.1 bt187.2.2.2).bind fun t193 => (if t193 = true then (some true) else (some false)))) else (some false))))) = some r := H
      have A24 := Aside0.mk A240
      clear A240
      by_cases c25 : (t179 != t164) = true
      · rw [if_pos c25] at H
        have c25b0 : (t179 != t164) = true := c25
        (try (have c25b1 : decide (t179 = t164) = false := by simpa using c25))
        (try (have c25b2 : (t179 == t164) = false := by simpa using c25))
        (try (have c25b3 : ¬ (t179 = t164) := by simpa using c25))
        clear c25
        exact absurd (hrt.out.symm.trans (Option.some.inj H).symm) (by decide)
      rw [if_neg c25] at H
      have c25b0 : (t179 != t164) = false := by simpa using c25
      (try (have c25b1 : decide (t179 = t164) = true := by simpa using c25))
      (try (have c25b2 : (t179 == t164) = true := by simpa using c25))
      clear c25
      replace H := Option.bind_eq_some_iff.mp H
      obtain ⟨⟨t180, t181, t182, t183⟩, A260, H⟩ := H
      replace H : ((laws_eqBlock.f k t165 t166 t167 t168 t180 t181 t182 t183).bind fun t186 => (if t186 = true then ((laws_toBlock.f k a1_0 a1_1 a1_2 l1_3).bind fun bt187 => ((laws_eqBlock.f k t172 t173 t174 t175 bt187.1 bt187.2.1 bt187.2.2.1 bt187.2.2.2).bind fun t193 => (if t193 = true then (some true) else (some false)))) else (some false))) = some r := H
      have A26 := Aside0.mk A260
      clear A260
      replace H := Option.bind_eq_some_iff.mp H
      obtain ⟨t186, A270, H⟩ := H
      replace H : (if t186 = true then ((laws_toBlock.f k a1_0 a1_1 a1_2 l1_3).bind fun bt187 => ((laws_eqBlock.f k t172 t173 t174 t175 bt187.1 bt187.2.1 bt187.2.2.1 bt187.2.2.2).bind fun t193 => (if t193 = true then (some true) else (some false)))) else (some false)) = some r := H
      have A27 := Aside0.mk A270
      clear A270
      by_cases c28 : t186 = true
      · subst c28
        have H1 : ((laws_toBlock.f k a1_0 a1_1 a1_2 l1_3).bind fun bt187 => ((laws_eqBlock.f k t172 t173 t174 t175 bt187.1 bt187.2.1 bt187.2.2.1 bt187.2.2.2).bind fun t193 => (if t193 = true then (some true) else (some false)))) = some r := by rw [if_pos rfl] at H; exact H
        clear H
        have H := H1
        clear H1
        replace H := Option.bind_eq_some_iff.mp H
        obtain ⟨⟨t187, t188, t189, t190⟩, A290, H⟩ := H
        replace H : ((laws_eqBlock.f k t172 t173 t174 t175 t187 t188 t189 t190).bind fun t193 => (if t193 = true then (some true) else (some false))) = some r := H
        have A29 := Aside0.mk A290
        clear A290
        replace H := Option.bind_eq_some_iff.mp H
        obtain ⟨t193, A300, H⟩ := H
        replace H : (if t193 = true then (some true) else (some false)) = some r := H
        have A30 := Aside0.mk A300
        clear A300
        by_cases c31 : t193 = true
        rotate_left
        · replace c31 := Bool.eq_false_iff.mpr c31
          subst c31
          have H1 : (some false) = some r := by rw [if_neg (show ¬ (false = true) by decide)] at H; exact H
          clear H
          have H := H1
          clear H1
          exact absurd (hrt.out.symm.trans (Option.some.inj H).symm) (by decide)
        subst c31
        have H1 : (some true) = some r := by rw [if_pos rfl] at H; exact H
        clear H
        have H := H1
        clear H1
        obtain rfl := Option.some.inj H
        go_enter Try.func14, Try.ntmps14
        try go_wp2_with (first | ((with_reducible refine gate_dst (N := 2) rfl ?_); refine box_event ?hg (N := 2) ?hd (cs := #[.string a0_0, .int .i64 a0_1, .string a0_2, .slice A0_3 l0_3.length c0_3]) (t := 61) ?hr ?_; (case hd => rfl); (case hg => rfl); (case hr => first | (go_simp; done) | (go_simp; rfl)); intro gb148 hg w32 hbox hb; have BK148 := Aside0.mk (hbox); have GW148 := Aside0.mk ((by rw [hg]; exact (below_size (bI HB.out)) : w.heap.size ≤ gb148)); have GE148 := Aside0.mk ((by rw [hg]; exact (below_size (bI HB.out)) : w.heap.size ≤ gb148)); have GI148 := GeI.mk GE148.out; replace HB := Aside0.mk (below_step (bI HB.out) hb); clear hb hbox hg) | ((with_reducible refine gate_dst (N := 3) rfl ?_); refine box_event ?hg (N := 3) ?hd (cs := #[.string a1_0, .int .i64 a1_1, .string a1_2, .slice A1_3 l1_3.length c1_3]) (t := 61) ?hr ?_; (case hd => rfl); (case hg => rfl); (case hr => first | (go_simp; done) | (go_simp; rfl)); intro gb149 hg w33 hbox hb; have BK149 := Aside0.mk (hbox); have GW149 := Aside0.mk ((by rw [hg]; exact (below_size (bI HB.out)) : w.heap.size ≤ gb149)); have GE149 := Aside0.mk ((by rw [hg]; exact (below_size (bI HB.out)) : w.heap.size ≤ gb149)); have GI149 := GeI.mk GE149.out; replace HB := Aside0.mk (below_step (bI HB.out) hb); have NB148_149 := Aside0.mk ((by rw [hg]; exact Nat.ne_of_lt (blk_lt (g := gb148) (o := .cells #[.string a0_0, .int .i64 a0_1, .string a0_2, .slice A0_3 l0_3.length c0_3] 61 (0, 0)) (kI BK148.out)) : gb148 ≠ gb149)); have NB149_148 := Aside0.mk ((by rw [hg]; exact Nat.ne_of_gt (blk_lt (g := gb148) (o := .cells #[.string a0_0, .int .i64 a0_1, .string a0_2, .slice A0_3 l0_3.length c0_3] 61 (0, 0)) (kI BK148.out)) : gb149 ≠ gb148)); replace BK148 := Aside0.mk (blk_below (g := gb148) (o := .cells #[.string a0_0, .int .i64 a0_1, .string a0_2, .slice A0_3 l0_3.length c0_3] 61 (0, 0)) (kI BK148.out) hb); clear hb hbox hg; have hnb34 := NB148_149.out; have hnc34 := NB149_148.out; have hcz35_0 : w33.cell? ⟨gb148, 0, none⟩ = some (.string a0_0) := (blk_cell BK148.out 0).trans rfl; have hcz35_1 : w33.cell? ⟨gb148, 1, none⟩ = some (.int .i64 a0_1) := (blk_cell BK148.out 1).trans rfl; have hcz35_2 : w33.cell? ⟨gb148, 2, none⟩ = some (.string a0_2) := (blk_cell BK148.out 2).trans rfl; have hcz35_3 : w33.cell? ⟨gb148, 3, none⟩ = some (.slice A0_3 l0_3.length c0_3) := (blk_cell BK148.out 3).trans rfl; have hfz35_0 := blk_frozen BK148.out 0; have hfz35_1 := blk_frozen BK148.out 1; have hfz35_2 := blk_frozen BK148.out 2; have hfz35_3 := blk_frozen BK148.out 3) | ((with_reducible refine gate_callee (f := 54) rfl ?_); refine goesL_ (some 12) rfl rfl Try.func54 (by kernel_rfl) rfl #[.agg #[.string a0_0, .int .i64 a0_1, .string a0_2, .slice A0_3 l0_3.length c0_3], .int .i64 1048576] rfl (by (try simp only [List.map_toArray, List.map_cons, List.map_nil]); first | done | rfl | (simp only [List.length_drop, List.length_take]; rfl)) ?_; (with_reducible refine (laws_szBlock.calls a0_0 a0_1 a0_2 _ _ l0_3 1048576 t150 _ ?side1 ?side2 A3.out).mono ?_); (case side1 => repeat (first | exact (Kd.C_below HR0_3.out HB.out) | (with_reducible refine Kd.C_alloc ?_ _) | (with_reducible refine Kd.C_drewN ?_ _) | (with_reducible refine Kd.C_drew ?_))); (case side2 => exact HC0_3.out); rintro e w36 ⟨rfl, hb⟩; refine ⟨_, rfl, ?_⟩; replace BK148 := Aside0.mk (blk_below (g := gb148) (o := .cells #[.string a0_0, .int .i64 a0_1, .string a0_2, .slice A0_3 l0_3.length c0_3] 61 (0, 0)) (kI BK148.out) hb); replace BK149 := Aside0.mk (blk_below (g := gb149) (o := .cells #[.string a1_0, .int .i64 a1_1, .string a1_2, .slice A1_3 l1_3.length c1_3] 61 (0, 0)) (kI BK149.out) hb); replace HB := Aside0.mk (below_step (bI HB.out) hb); (try clear hb); (try clear hb2); (try clear hk); (try clear hi); have hcz37_0 : w36.cell? ⟨gb149, 0, none⟩ = some (.string a1_0) := (blk_cell BK149.out 0).trans rfl; have hcz37_1 : w36.cell? ⟨gb149, 1, none⟩ = some (.int .i64 a1_1) := (blk_cell BK149.out 1).trans rfl; have hcz37_2 : w36.cell? ⟨gb149, 2, none⟩ = some (.string a1_2) := (blk_cell BK149.out 2).trans rfl; have hcz37_3 : w36.cell? ⟨gb149, 3, none⟩ = some (.slice A1_3 l1_3.length c1_3) := (blk_cell BK149.out 3).trans rfl; have hfz37_0 := blk_frozen BK149.out 0; have hfz37_1 := blk_frozen BK149.out 1; have hfz37_2 := blk_frozen BK149.out 2; have hfz37_3 := blk_frozen BK149.out 3) | ((with_reducible refine gate_callee (f := 54) rfl ?_); refine goesL_ (some 17) rfl rfl Try.func54 (by kernel_rfl) rfl #[.agg #[.string a1_0, .int .i64 a1_1, .string a1_2, .slice A1_3 l1_3.length c1_3], .int .i64 t150] rfl (by (try simp only [List.map_toArray, List.map_cons, List.map_nil]); first | done | rfl | (simp only [List.length_drop, List.length_take]; rfl)) ?_; (with_reducible refine (laws_szBlock.calls a1_0 a1_1 a1_2 _ _ l1_3 t150 t151 _ ?side1 ?side2 A10.out).mono ?_); (case side1 => repeat (first | exact (Kd.C_below HR1_3.out HB.out) | (with_reducible refine Kd.C_alloc ?_ _) | (with_reducible refine Kd.C_drewN ?_ _) | (with_reducible refine Kd.C_drew ?_))); (case side2 => exact HC1_3.out); rintro e w38 ⟨rfl, hb⟩; refine ⟨_, rfl, ?_⟩; replace BK148 := Aside0.mk (blk_below (g := gb148) (o := .cells #[.string a0_0, .int .i64 a0_1, .string a0_2, .slice A0_3 l0_3.length c0_3] 61 (0, 0)) (kI BK148.out) hb); replace BK149 := Aside0.mk (blk_below (g := gb149) (o := .cells #[.string a1_0, .int .i64 a1_1, .string a1_2, .slice A1_3 l1_3.length c1_3] 61 (0, 0)) (kI BK149.out) hb); replace HB := Aside0.mk (below_step (bI HB.out) hb); (try clear hb); (try clear hb2); (try clear hk); (try clear hi)))
        replace BK148 := Aside0.mk (blk_drew BK148.out)
        replace BK149 := Aside0.mk (blk_drew BK149.out)
        replace HB := Aside0.mk (below_drew1 HB.out)
        refine start_ (n := 6) (S := fun w' => w'.cell? ⟨gb148, 0, none⟩ = some (.string a0_0) ∧ w'.cell? ⟨gb148, 1, none⟩ = some (.int .i64 a0_1) ∧ w'.cell? ⟨gb148, 2, none⟩ = some (.string a0_2) ∧ w'.cell? ⟨gb148, 3, none⟩ = some (.slice A0_3 l0_3.length c0_3) ∧ w'.cell? ⟨gb149, 0, none⟩ = some (.string a1_0) ∧ w'.cell? ⟨gb149, 1, none⟩ = some (.int .i64 a1_1) ∧ w'.cell? ⟨gb149, 2, none⟩ = some (.string a1_2) ∧ w'.cell? ⟨gb149, 3, none⟩ = some (.slice A1_3 l1_3.length c1_3)) (ds := []) #[false, false, false, false, false, false] (by kernel_rfl) rfl rfl ⟨(blk_cell BK148.out 0).trans rfl, (blk_cell BK148.out 1).trans rfl, (blk_cell BK148.out 2).trans rfl, (blk_cell BK148.out 3).trans rfl, (blk_cell BK149.out 0).trans rfl, (blk_cell BK149.out 1).trans rfl, (blk_cell BK149.out 2).trans rfl, (blk_cell BK149.out 3).trans rfl⟩ (fun hHeld => ?_)
        generalize w38.drew = w39 at BK148 BK149 HB hHeld ⊢
        refine take_ (i := 0) (N := some 20) (v := ?_) (a' := ?_) #[true, false, false, false, false, false] rfl rfl (by kernel_rfl) (fun _ _ _ h => h) (Or.inl ⟨by rfl, ?_⟩) hHeld ?_ ?_
        rotate_left
        · rintro w' ⟨s0, s1, s2, s3, s4, s5, s6, s7⟩
          go_simp
          with_reducible rfl
        rotate_left
        · simp only [Act.put, List.setIfInBounds_toArray, List.set_cons_zero, List.set_cons_succ, i64_w, i32_w]
          rfl
        refine take_ (i := 2) (N := some 22) (v := ?_) (a' := ?_) #[true, false, true, false, false, false] rfl rfl (by kernel_rfl) (fun _ _ _ h => h) (Or.inl ⟨by rfl, ?_⟩) hHeld ?_ ?_
        rotate_left
        · rintro w' ⟨s0, s1, s2, s3, s4, s5, s6, s7⟩
          go_simp
          with_reducible rfl
        rotate_left
        · simp only [Act.put, List.setIfInBounds_toArray, List.set_cons_zero, List.set_cons_succ, i64_w, i32_w]
          rfl
        refine one_ (i := 1) (N := some 21) #[true, true, true, false, false, false] rfl rfl (by kernel_rfl) (by decide) (fun K hK => ?_)
        refine goes_ Try.func56 (by kernel_rfl) rfl #[.agg #[.string a0_0, .int .i64 a0_1, .string a0_2, .slice A0_3 l0_3.length c0_3]] (by rfl) rfl rfl (by (try simp only [List.map_toArray, List.map_cons, List.map_nil]); first | done | rfl | (simp only [List.length_drop, List.length_take]; rfl)) ?_
        with_reducible refine (laws_toBlock.calls k a0_0 a0_1 a0_2 _ _ l0_3 t152 t153 t154 t155 _ ?side1 ?side2 A19.out).mono ?_
        (case side1 => repeat (first | exact (Kd.C_below HR0_3.out HB.out) | (with_reducible refine Kd.C_alloc ?_ _) | (with_reducible refine Kd.C_drewN ?_ _) | (with_reducible refine Kd.C_drew ?_)))
        (case side2 => exact HC0_3.out)
        rintro e w40 ⟨v156, rfl, ho0, hb⟩
        refine ⟨_, rfl, ?_⟩
        have HO157 := Aside0.mk (Kd.R_lower ho0 (below_size (bI HB.out)))
        replace BK148 := Aside0.mk (blk_below (g := gb148) (o := .cells #[.string a0_0, .int .i64 a0_1, .string a0_2, .slice A0_3 l0_3.length c0_3] 61 (0, 0)) (kI BK148.out) hb)
        replace BK149 := Aside0.mk (blk_below (g := gb149) (o := .cells #[.string a1_0, .int .i64 a1_1, .string a1_2, .slice A1_3 l1_3.length c1_3] 61 (0, 0)) (kI BK149.out) hb)
        replace HB := Aside0.mk (below_step (bI HB.out) hb)
        (try clear hb)
        (try clear hb2)
        (try clear hk)
        (try clear hi)
        (try clear ho0)
        refine hK.out _ _ ⟨(blk_cell BK148.out 0).trans rfl, (blk_cell BK148.out 1).trans rfl, (blk_cell BK148.out 2).trans rfl, (blk_cell BK148.out 3).trans rfl, (blk_cell BK149.out 0).trans rfl, (blk_cell BK149.out 1).trans rfl, (blk_cell BK149.out 2).trans rfl, (blk_cell BK149.out 3).trans rfl⟩ (fun hHeld => ?_)
        clear hK K
        refine norm_ (a' := ?_) ?_ ?_
        rotate_left
        · show Act.put _ (some 21) _ = _
          simp only [Act.put, List.setIfInBounds_toArray, List.set_cons_zero, List.set_cons_succ, i64_w, i32_w]
          rfl
        refine one_ (i := 3) (N := some 23) #[true, true, true, true, false, false] rfl rfl (by kernel_rfl) (by decide) (fun K hK => ?_)
        refine goes_ Try.func56 (by kernel_rfl) rfl #[.agg #[.string a1_0, .int .i64 a1_1, .string a1_2, .slice A1_3 l1_3.length c1_3]] (by rfl) rfl rfl (by (try simp only [List.map_toArray, List.map_cons, List.map_nil]); first | done | rfl | (simp only [List.length_drop, List.length_take]; rfl)) ?_
        with_reducible refine (laws_toBlock.calls k a1_0 a1_1 a1_2 _ _ l1_3 t158 t159 t160 t161 _ ?side1 ?side2 A20.out).mono ?_
        (case side1 => repeat (first | exact (Kd.C_below HR1_3.out HB.out) | (with_reducible refine Kd.C_alloc ?_ _) | (with_reducible refine Kd.C_drewN ?_ _) | (with_reducible refine Kd.C_drew ?_)))
        (case side2 => exact HC1_3.out)
        rintro e w41 ⟨v162, rfl, ho0, hb⟩
        refine ⟨_, rfl, ?_⟩
        have HO163 := Aside0.mk (Kd.R_lower (Kd.R_new' ho0 (Kd.R_lt (rI HO157.out))) (below_size (bI HB.out)))
        replace HO157 := Aside0.mk (Kd.R_elder' (rI HO157.out) (Kd.R_base ho0) hb)
        replace BK148 := Aside0.mk (blk_below (g := gb148) (o := .cells #[.string a0_0, .int .i64 a0_1, .string a0_2, .slice A0_3 l0_3.length c0_3] 61 (0, 0)) (kI BK148.out) hb)
        replace BK149 := Aside0.mk (blk_below (g := gb149) (o := .cells #[.string a1_0, .int .i64 a1_1, .string a1_2, .slice A1_3 l1_3.length c1_3] 61 (0, 0)) (kI BK149.out) hb)
        replace HB := Aside0.mk (below_step (bI HB.out) hb)
        (try clear hb)
        (try clear hb2)
        (try clear hk)
        (try clear hi)
        (try clear ho0)
        obtain ⟨Ao42, co42, eo42⟩ := Kd.R_slice HO157.out
        (first | subst eo42 | (injection eo42 with f1_ f2_ f3_; have f4_ := f1_.symm; have f5_ := f3_.symm; clear f1_ f2_ f3_; subst f4_; subst f5_))
        obtain ⟨Ao43, co43, eo43⟩ := Kd.R_slice HO163.out
        (first | subst eo43 | (injection eo43 with f1_ f2_ f3_; have f4_ := f1_.symm; have f5_ := f3_.symm; clear f1_ f2_ f3_; subst f4_; subst f5_))
        refine hK.out _ _ ⟨(blk_cell BK148.out 0).trans rfl, (blk_cell BK148.out 1).trans rfl, (blk_cell BK148.out 2).trans rfl, (blk_cell BK148.out 3).trans rfl, (blk_cell BK149.out 0).trans rfl, (blk_cell BK149.out 1).trans rfl, (blk_cell BK149.out 2).trans rfl, (blk_cell BK149.out 3).trans rfl⟩ (fun hHeld => ?_)
        clear hK K
        refine norm_ (a' := ?_) ?_ ?_
        rotate_left
        · show Act.put _ (some 23) _ = _
          simp only [Act.put, List.setIfInBounds_toArray, List.set_cons_zero, List.set_cons_succ, i64_w, i32_w]
          rfl
        refine one_ (i := 4) (N := some 24) #[true, true, true, true, true, false] rfl rfl (by kernel_rfl) (by decide) (fun K hK => ?_)
        refine goes_ Try.func55 (by kernel_rfl) rfl #[.agg #[.string t152, .int .i64 t153, .string t154, .slice Ao42 t155.length co42], .agg #[.string t158, .int .i64 t159, .string t160, .slice Ao43 t161.length co43]] (by rfl) rfl rfl (by (try simp only [List.map_toArray, List.map_cons, List.map_nil]); first | done | rfl | (simp only [List.length_drop, List.length_take]; rfl)) ?_
        with_reducible refine (spec_BlockSame.calls k t152 t153 t154 _ _ t155 t158 t159 t160 _ _ t161 t164 _ ?side1 ?side2 ?side3 ?side4 A21.out).mono ?_
        (case side1 => repeat (first | exact (Kd.R_reads' HO157.out).2.2 | (with_reducible refine Kd.C_alloc ?_ _) | (with_reducible refine Kd.C_drewN ?_ _) | (with_reducible refine Kd.C_drew ?_)))
        (case side2 => exact (Kd.R_reads' HO157.out).2.1)
        (case side3 => repeat (first | exact (Kd.R_reads' HO163.out).2.2 | (with_reducible refine Kd.C_alloc ?_ _) | (with_reducible refine Kd.C_drewN ?_ _) | (with_reducible refine Kd.C_drew ?_)))
        (case side4 => exact (Kd.R_reads' HO163.out).2.1)
        rintro e w44 ⟨rfl, hb⟩
        refine ⟨_, rfl, ?_⟩
        replace HO157 := Aside0.mk (Kd.R_below (rI HO157.out) hb)
        replace HO163 := Aside0.mk (Kd.R_below (rI HO163.out) hb)
        replace BK148 := Aside0.mk (blk_below (g := gb148) (o := .cells #[.string a0_0, .int .i64 a0_1, .string a0_2, .slice A0_3 l0_3.length c0_3] 61 (0, 0)) (kI BK148.out) hb)
        replace BK149 := Aside0.mk (blk_below (g := gb149) (o := .cells #[.string a1_0, .int .i64 a1_1, .string a1_2, .slice A1_3 l1_3.length c1_3] 61 (0, 0)) (kI BK149.out) hb)
        replace HB := Aside0.mk (below_step (bI HB.out) hb)
        (try clear hb)
        (try clear hb2)
        (try clear hk)
        (try clear hi)
        refine hK.out _ _ ⟨(blk_cell BK148.out 0).trans rfl, (blk_cell BK148.out 1).trans rfl, (blk_cell BK148.out 2).trans rfl, (blk_cell BK148.out 3).trans rfl, (blk_cell BK149.out 0).trans rfl, (blk_cell BK149.out 1).trans rfl, (blk_cell BK149.out 2).trans rfl, (blk_cell BK149.out 3).trans rfl⟩ (fun hHeld => ?_)
        clear hK K
        refine norm_ (a' := ?_) ?_ ?_
        rotate_left
        · show Act.put _ (some 24) _ = _
          simp only [Act.put, List.setIfInBounds_toArray, List.set_cons_zero, List.set_cons_succ, i64_w, i32_w]
          rfl
        refine pure_ (i := 5) (N := some 6) (v := ?_) (a' := ?_) #[true, true, true, true, true, true] rfl rfl (by kernel_rfl) (fun _ _ _ h => h) (Or.inl ⟨by rfl, ?_⟩) ?_ ?_
        rotate_left
        · intro w'
          go_simp
          with_reducible rfl
        rotate_left
        · simp only [Act.put, List.setIfInBounds_toArray, List.set_cons_zero, List.set_cons_succ, i64_w, i32_w]
          rfl
        refine done_ (by kernel_rfl) ?_
        have hcz45_0 : w44.cell? ⟨gb148, 0, none⟩ = some (.string a0_0) := (blk_cell BK148.out 0).trans rfl
        have hcz45_1 : w44.cell? ⟨gb148, 1, none⟩ = some (.int .i64 a0_1) := (blk_cell BK148.out 1).trans rfl
        have hcz45_2 : w44.cell? ⟨gb148, 2, none⟩ = some (.string a0_2) := (blk_cell BK148.out 2).trans rfl
        have hcz45_3 : w44.cell? ⟨gb148, 3, none⟩ = some (.slice A0_3 l0_3.length c0_3) := (blk_cell BK148.out 3).trans rfl
        have hfz45_0 := blk_frozen BK148.out 0
        have hfz45_1 := blk_frozen BK148.out 1
        have hfz45_2 := blk_frozen BK148.out 2
        have hfz45_3 := blk_frozen BK148.out 3
        clear HO157
        clear HO163
        try go_wp2_with (first | ((with_reducible refine gate_callee (f := 56) rfl ?_); refine goesL_ (some 26) rfl rfl Try.func56 (by kernel_rfl) rfl #[.agg #[.string a0_0, .int .i64 a0_1, .string a0_2, .slice A0_3 l0_3.length c0_3]] rfl (by (try simp only [List.map_toArray, List.map_cons, List.map_nil]); first | done | rfl | (simp only [List.length_drop, List.length_take]; rfl)) ?_; (with_reducible refine (laws_toBlock.calls k a0_0 a0_1 a0_2 _ _ l0_3 t165 t166 t167 t168 _ ?side1 ?side2 A22.out).mono ?_); (case side1 => repeat (first | exact (Kd.C_below HR0_3.out HB.out) | (with_reducible refine Kd.C_alloc ?_ _) | (with_reducible refine Kd.C_drewN ?_ _) | (with_reducible refine Kd.C_drew ?_))); (case side2 => exact HC0_3.out); rintro e w46 ⟨v169, rfl, ho0, hb⟩; refine ⟨_, rfl, ?_⟩; have HO170 := Aside0.mk (Kd.R_lower ho0 (below_size (bI HB.out))); replace BK148 := Aside0.mk (blk_below (g := gb148) (o := .cells #[.string a0_0, .int .i64 a0_1, .string a0_2, .slice A0_3 l0_3.length c0_3] 61 (0, 0)) (kI BK148.out) hb); replace BK149 := Aside0.mk (blk_below (g := gb149) (o := .cells #[.string a1_0, .int .i64 a1_1, .string a1_2, .slice A1_3 l1_3.length c1_3] 61 (0, 0)) (kI BK149.out) hb); replace HB := Aside0.mk (below_step (bI HB.out) hb); (try clear hb); (try clear hb2); (try clear hk); (try clear hi); (try clear ho0)) | ((with_reducible refine gate_dst (N := 7) rfl ?_); refine box_event ?hg (N := 7) ?hd (cs := #[.string (⟨#[]⟩ : ByteArray), .int .i64 0, .string (⟨#[]⟩ : ByteArray), .slice none 0 0]) (t := 65) ?hr ?_; (case hd => rfl); (case hg => rfl); (case hr => first | (go_simp; done) | (go_simp; rfl)); intro gb171 hg w47 hbox hb; replace HO170 := Aside0.mk (Kd.R_below (rI HO170.out) hb); have BK171 := Aside0.mk (hbox); have GW171 := Aside0.mk ((by rw [hg]; exact (below_size (bI HB.out)) : w.heap.size ≤ gb171)); have GE171 := Aside0.mk ((by rw [hg]; exact (below_size (bI HB.out)) : w.heap.size ≤ gb171)); have GI171 := GeI.mk GE171.out; replace HB := Aside0.mk (below_step (bI HB.out) hb); have NB148_171 := Aside0.mk ((by rw [hg]; exact Nat.ne_of_lt (blk_lt (g := gb148) (o := .cells #[.string a0_0, .int .i64 a0_1, .string a0_2, .slice A0_3 l0_3.length c0_3] 61 (0, 0)) (kI BK148.out)) : gb148 ≠ gb171)); have NB171_148 := Aside0.mk ((by rw [hg]; exact Nat.ne_of_gt (blk_lt (g := gb148) (o := .cells #[.string a0_0, .int .i64 a0_1, .string a0_2, .slice A0_3 l0_3.length c0_3] 61 (0, 0)) (kI BK148.out)) : gb171 ≠ gb148)); replace BK148 := Aside0.mk (blk_below (g := gb148) (o := .cells #[.string a0_0, .int .i64 a0_1, .string a0_2, .slice A0_3 l0_3.length c0_3] 61 (0, 0)) (kI BK148.out) hb); have NB149_171 := Aside0.mk ((by rw [hg]; exact Nat.ne_of_lt (blk_lt (g := gb149) (o := .cells #[.string a1_0, .int .i64 a1_1, .string a1_2, .slice A1_3 l1_3.length c1_3] 61 (0, 0)) (kI BK149.out)) : gb149 ≠ gb171)); have NB171_149 := Aside0.mk ((by rw [hg]; exact Nat.ne_of_gt (blk_lt (g := gb149) (o := .cells #[.string a1_0, .int .i64 a1_1, .string a1_2, .slice A1_3 l1_3.length c1_3] 61 (0, 0)) (kI BK149.out)) : gb171 ≠ gb149)); replace BK149 := Aside0.mk (blk_below (g := gb149) (o := .cells #[.string a1_0, .int .i64 a1_1, .string a1_2, .slice A1_3 l1_3.length c1_3] 61 (0, 0)) (kI BK149.out) hb); clear hb hbox hg; have hnb48 := NB171_148.out; have hnc48 := NB148_171.out; have hnb49 := NB171_149.out; have hnc49 := NB149_171.out; have hcz50_0 : w47.cell? ⟨gb171, 0, none⟩ = some (.string (⟨#[]⟩ : ByteArray)) := (blk_cell BK171.out 0).trans rfl; have hcz50_1 : w47.cell? ⟨gb171, 1, none⟩ = some (.int .i64 0) := (blk_cell BK171.out 1).trans rfl; have hcz50_2 : w47.cell? ⟨gb171, 2, none⟩ = some (.string (⟨#[]⟩ : ByteArray)) := (blk_cell BK171.out 2).trans rfl; have hcz50_3 : w47.cell? ⟨gb171, 3, none⟩ = some (.slice none 0 0) := (blk_cell BK171.out 3).trans rfl; have hfz50_0 := blk_frozen BK171.out 0; have hfz50_1 := blk_frozen BK171.out 1; have hfz50_2 := blk_frozen BK171.out 2; have hfz50_3 := blk_frozen BK171.out 3; obtain ⟨Ao51, co51, eo51⟩ := Kd.R_slice HO170.out; subst eo51; have hcz52_0 : w47.cell? ⟨gb149, 0, none⟩ = some (.string a1_0) := (blk_cell BK149.out 0).trans rfl; have hcz52_1 : w47.cell? ⟨gb149, 1, none⟩ = some (.int .i64 a1_1) := (blk_cell BK149.out 1).trans rfl; have hcz52_2 : w47.cell? ⟨gb149, 2, none⟩ = some (.string a1_2) := (blk_cell BK149.out 2).trans rfl; have hcz52_3 : w47.cell? ⟨gb149, 3, none⟩ = some (.slice A1_3 l1_3.length c1_3) := (blk_cell BK149.out 3).trans rfl; have hfz52_0 := blk_frozen BK149.out 0; have hfz52_1 := blk_frozen BK149.out 1; have hfz52_2 := blk_frozen BK149.out 2; have hfz52_3 := blk_frozen BK149.out 3) | ((with_reducible refine gate_callee (f := 56) rfl ?_); refine goesL_ (some 28) rfl rfl Try.func56 (by kernel_rfl) rfl #[.agg #[.string a1_0, .int .i64 a1_1, .string a1_2, .slice A1_3 l1_3.length c1_3]] rfl (by (try simp only [List.map_toArray, List.map_cons, List.map_nil]); first | done | rfl | (simp only [List.length_drop, List.length_take]; rfl)) ?_; (with_reducible refine (laws_toBlock.calls k a1_0 a1_1 a1_2 _ _ l1_3 t172 t173 t174 t175 _ ?side1 ?side2 A23.out).mono ?_); (case side1 => exact Kd.C_below HR1_3.out (bI HB.out)); (case side2 => exact HC1_3.out); rintro e w53 ⟨v176, rfl, ho0, hb⟩; refine ⟨_, rfl, ?_⟩; have HO177 := Aside0.mk (Kd.R_lower (Kd.R_new' ho0 (Kd.R_lt (rI (Kd.R_mono (Kd.R_far (p := ⟨gb171, 3, none⟩) (Kd.R_far (p := ⟨gb171, 2, none⟩) (Kd.R_far (p := ⟨gb171, 1, none⟩) (Kd.R_far (p := ⟨gb171, 0, none⟩) (Kd.R_types HO170.out BK171.out (by decide)) (fun _ hk => hk.2) (.string t165)) (fun _ hk => hk.2) (.int .i64 t166)) (fun _ hk => hk.2) (.string t167)) (fun _ hk => hk.2) (.slice Ao51 t168.length co51)) (fun _ h_ => h_.1))))) (below_size (bI HB.out))); replace HO170 := Aside0.mk (Kd.R_elder' (rI (Kd.R_mono (Kd.R_far (p := ⟨gb171, 3, none⟩) (Kd.R_far (p := ⟨gb171, 2, none⟩) (Kd.R_far (p := ⟨gb171, 1, none⟩) (Kd.R_far (p := ⟨gb171, 0, none⟩) (Kd.R_types HO170.out BK171.out (by decide)) (fun _ hk => hk.2) (.string t165)) (fun _ hk => hk.2) (.int .i64 t166)) (fun _ hk => hk.2) (.string t167)) (fun _ hk => hk.2) (.slice Ao51 t168.length co51)) (fun _ h_ => h_.1))) (Kd.R_base ho0) hb); replace BK148 := Aside0.mk (blk_below (g := gb148) (o := .cells #[.string a0_0, .int .i64 a0_1, .string a0_2, .slice A0_3 l0_3.length c0_3] 61 (0, 0)) (by (with_reducible repeat (first | refine blk_drewN ?_ _ | refine blk_drew ?_ | refine blk_alloc ?_ _)); refine blk_far ?_ NB148_171.out _; (with_reducible repeat (first | refine blk_drewN ?_ _ | refine blk_drew ?_ | refine blk_alloc ?_ _)); refine blk_far ?_ NB148_171.out _; (with_reducible repeat (first | refine blk_drewN ?_ _ | refine blk_drew ?_ | refine blk_alloc ?_ _)); refine blk_far ?_ NB148_171.out _; (with_reducible repeat (first | refine blk_drewN ?_ _ | refine blk_drew ?_ | refine blk_alloc ?_ _)); refine blk_far ?_ NB148_171.out _; (with_reducible repeat (first | refine blk_drewN ?_ _ | refine blk_drew ?_ | refine blk_alloc ?_ _)); exact BK148.out) hb); replace BK149 := Aside0.mk (blk_below (g := gb149) (o := .cells #[.string a1_0, .int .i64 a1_1, .string a1_2, .slice A1_3 l1_3.length c1_3] 61 (0, 0)) (by (with_reducible repeat (first | refine blk_drewN ?_ _ | refine blk_drew ?_ | refine blk_alloc ?_ _)); refine blk_far ?_ NB149_171.out _; (with_reducible repeat (first | refine blk_drewN ?_ _ | refine blk_drew ?_ | refine blk_alloc ?_ _)); refine blk_far ?_ NB149_171.out _; (with_reducible repeat (first | refine blk_drewN ?_ _ | refine blk_drew ?_ | refine blk_alloc ?_ _)); refine blk_far ?_ NB149_171.out _; (with_reducible repeat (first | refine blk_drewN ?_ _ | refine blk_drew ?_ | refine blk_alloc ?_ _)); refine blk_far ?_ NB149_171.out _; (with_reducible repeat (first | refine blk_drewN ?_ _ | refine blk_drew ?_ | refine blk_alloc ?_ _)); exact BK149.out) hb); replace BK171 := Aside0.mk (blk_below (g := gb171) (o := .cells #[.string t165, .int .i64 t166, .string t167, .slice Ao51 t168.length co51] 65 (0, 0)) (by (with_reducible repeat (first | refine blk_drewN ?_ _ | refine blk_drew ?_ | refine blk_alloc ?_ _)); refine blk_put (cs := #[.string t165, .int .i64 t166, .string t167, .slice none 0 0]) ?_ 3 _ rfl; (with_reducible repeat (first | refine blk_drewN ?_ _ | refine blk_drew ?_ | refine blk_alloc ?_ _)); refine blk_put (cs := #[.string t165, .int .i64 t166, .string (⟨#[]⟩ : ByteArray), .slice none 0 0]) ?_ 2 _ rfl; (with_reducible repeat (first | refine blk_drewN ?_ _ | refine blk_drew ?_ | refine blk_alloc ?_ _)); refine blk_put (cs := #[.string t165, .int .i64 0, .string (⟨#[]⟩ : ByteArray), .slice none 0 0]) ?_ 1 _ rfl; (with_reducible repeat (first | refine blk_drewN ?_ _ | refine blk_drew ?_ | refine blk_alloc ?_ _)); refine blk_put (cs := #[.string (⟨#[]⟩ : ByteArray), .int .i64 0, .string (⟨#[]⟩ : ByteArray), .slice none 0 0]) ?_ 0 _ rfl; (with_reducible repeat (first | refine blk_drewN ?_ _ | refine blk_drew ?_ | refine blk_alloc ?_ _)); exact BK171.out) hb); replace HB := Aside0.mk (below_step (bI HB.out) hb); (try clear hb); (try clear hb2); (try clear hk); (try clear hi); (try clear ho0)) | ((with_reducible refine gate_dst (N := 8) rfl ?_); refine box_event ?hg (N := 8) ?hd (cs := #[.string (⟨#[]⟩ : ByteArray), .int .i64 0, .string (⟨#[]⟩ : ByteArray), .slice none 0 0]) (t := 65) ?hr ?_; (case hd => rfl); (case hg => rfl); (case hr => first | (go_simp; done) | (go_simp; rfl)); intro gb178 hg w54 hbox hb; replace HO170 := Aside0.mk (Kd.R_below (rI HO170.out) hb); replace HO177 := Aside0.mk (Kd.R_below (rI HO177.out) hb); have BK178 := Aside0.mk (hbox); have GW178 := Aside0.mk ((by rw [hg]; exact (below_size (bI HB.out)) : w.heap.size ≤ gb178)); have GE178 := Aside0.mk ((by rw [hg]; exact (below_size (bI HB.out)) : w.heap.size ≤ gb178)); have GI178 := GeI.mk GE178.out; replace HB := Aside0.mk (below_step (bI HB.out) hb); have NB148_178 := Aside0.mk ((by rw [hg]; exact Nat.ne_of_lt (blk_lt (g := gb148) (o := .cells #[.string a0_0, .int .i64 a0_1, .string a0_2, .slice A0_3 l0_3.length c0_3] 61 (0, 0)) (kI BK148.out)) : gb148 ≠ gb178)); have NB178_148 := Aside0.mk ((by rw [hg]; exact Nat.ne_of_gt (blk_lt (g := gb148) (o := .cells #[.string a0_0, .int .i64 a0_1, .string a0_2, .slice A0_3 l0_3.length c0_3] 61 (0, 0)) (kI BK148.out)) : gb178 ≠ gb148)); replace BK148 := Aside0.mk (blk_below (g := gb148) (o := .cells #[.string a0_0, .int .i64 a0_1, .string a0_2, .slice A0_3 l0_3.length c0_3] 61 (0, 0)) (kI BK148.out) hb); have NB149_178 := Aside0.mk ((by rw [hg]; exact Nat.ne_of_lt (blk_lt (g := gb149) (o := .cells #[.string a1_0, .int .i64 a1_1, .string a1_2, .slice A1_3 l1_3.length c1_3] 61 (0, 0)) (kI BK149.out)) : gb149 ≠ gb178)); have NB178_149 := Aside0.mk ((by rw [hg]; exact Nat.ne_of_gt (blk_lt (g := gb149) (o := .cells #[.string a1_0, .int .i64 a1_1, .string a1_2, .slice A1_3 l1_3.length c1_3] 61 (0, 0)) (kI BK149.out)) : gb178 ≠ gb149)); replace BK149 := Aside0.mk (blk_below (g := gb149) (o := .cells #[.string a1_0, .int .i64 a1_1, .string a1_2, .slice A1_3 l1_3.length c1_3] 61 (0, 0)) (kI BK149.out) hb); have NB171_178 := Aside0.mk ((by rw [hg]; exact Nat.ne_of_lt (blk_lt (g := gb171) (o := .cells #[.string t165, .int .i64 t166, .string t167, .slice Ao51 t168.length co51] 65 (0, 0)) (kI BK171.out)) : gb171 ≠ gb178)); have NB178_171 := Aside0.mk ((by rw [hg]; exact Nat.ne_of_gt (blk_lt (g := gb171) (o := .cells #[.string t165, .int .i64 t166, .string t167, .slice Ao51 t168.length co51] 65 (0, 0)) (kI BK171.out)) : gb178 ≠ gb171)); replace BK171 := Aside0.mk (blk_below (g := gb171) (o := .cells #[.string t165, .int .i64 t166, .string t167, .slice Ao51 t168.length co51] 65 (0, 0)) (kI BK171.out) hb); clear hb hbox hg; have hnb55 := NB178_148.out; have hnc55 := NB148_178.out; have hnb56 := NB178_149.out; have hnc56 := NB149_178.out; have hnb57 := NB178_171.out; have hnc57 := NB171_178.out; have hcz58_0 : w54.cell? ⟨gb178, 0, none⟩ = some (.string (⟨#[]⟩ : ByteArray)) := (blk_cell BK178.out 0).trans rfl; have hcz58_1 : w54.cell? ⟨gb178, 1, none⟩ = some (.int .i64 0) := (blk_cell BK178.out 1).trans rfl; have hcz58_2 : w54.cell? ⟨gb178, 2, none⟩ = some (.string (⟨#[]⟩ : ByteArray)) := (blk_cell BK178.out 2).trans rfl; have hcz58_3 : w54.cell? ⟨gb178, 3, none⟩ = some (.slice none 0 0) := (blk_cell BK178.out 3).trans rfl; have hfz58_0 := blk_frozen BK178.out 0; have hfz58_1 := blk_frozen BK178.out 1; have hfz58_2 := blk_frozen BK178.out 2; have hfz58_3 := blk_frozen BK178.out 3; obtain ⟨Ao59, co59, eo59⟩ := Kd.R_slice HO177.out; subst eo59; have hcz60_0 : w54.cell? ⟨gb171, 0, none⟩ = some (.string t165) := (blk_cell BK171.out 0).trans rfl; have hcz60_1 : w54.cell? ⟨gb171, 1, none⟩ = some (.int .i64 t166) := (blk_cell BK171.out 1).trans rfl; have hcz60_2 : w54.cell? ⟨gb171, 2, none⟩ = some (.string t167) := (blk_cell BK171.out 2).trans rfl; have hcz60_3 : w54.cell? ⟨gb171, 3, none⟩ = some (.slice Ao51 t168.length co51) := (blk_cell BK171.out 3).trans rfl; have hfz60_0 := blk_frozen BK171.out 0; have hfz60_1 := blk_frozen BK171.out 1; have hfz60_2 := blk_frozen BK171.out 2; have hfz60_3 := blk_frozen BK171.out 3) | ((with_reducible refine gate_callee (f := 57) rfl ?_); refine goesL_ (some 31) rfl rfl Try.func57 (by kernel_rfl) rfl #[.agg #[.string t165, .int .i64 t166, .string t167, .slice Ao51 t168.length co51], .agg #[.string t172, .int .i64 t173, .string t174, .slice Ao59 t175.length co59]] rfl (by (try simp only [List.map_toArray, List.map_cons, List.map_nil]); first | done | rfl | (simp only [List.length_drop, List.length_take]; rfl)) ?_; (with_reducible refine (impl_BlockSame.calls k t165 t166 t167 _ _ t168 t172 t173 t174 _ _ t175 t179 _ ?side1 ?side2 ?side3 ?side4 A24.out).mono ?_); (case side1 => refine (Kd.R_reads' (e := 3) (base := w.heap.size) (ok := fun k_ => (True ∧ some k_ ≠ (.slice Ao59 t175.length co59 : Value).ownBlock)) (n := t168.length) (c := co51) ?_).2.2; exact (rI (Kd.R_mono (Kd.R_far (p := ⟨gb178, 3, none⟩) (Kd.R_far (p := ⟨gb178, 2, none⟩) (Kd.R_far (p := ⟨gb178, 1, none⟩) (Kd.R_far (p := ⟨gb178, 0, none⟩) (Kd.R_types HO170.out BK178.out (by decide)) (fun _ hk => hk.2) (.string t172)) (fun _ hk => hk.2) (.int .i64 t173)) (fun _ hk => hk.2) (.string t174)) (fun _ hk => hk.2) (.slice Ao59 t175.length co59)) (fun _ h_ => h_.1)))); (case side2 => exact (Kd.R_reads' HO170.out).2.1); (case side3 => refine (Kd.R_reads' (e := 3) (base := w.heap.size) (ok := fun k_ => (True ∧ some k_ ≠ (.slice Ao51 t168.length co51 : Value).ownBlock)) (n := t175.length) (c := co59) ?_).2.2; exact (rI (Kd.R_mono (Kd.R_far (p := ⟨gb178, 3, none⟩) (Kd.R_far (p := ⟨gb178, 2, none⟩) (Kd.R_far (p := ⟨gb178, 1, none⟩) (Kd.R_far (p := ⟨gb178, 0, none⟩) (Kd.R_types HO177.out BK178.out (by decide)) (fun _ hk => hk.2) (.string t172)) (fun _ hk => hk.2) (.int .i64 t173)) (fun _ hk => hk.2) (.string t174)) (fun _ hk => hk.2) (.slice Ao59 t175.length co59)) (fun _ h_ => h_.1)))); (case side4 => exact (Kd.R_reads' HO177.out).2.1); rintro e w61 ⟨rfl, hb⟩; refine ⟨_, rfl, ?_⟩; replace HO170 := Aside0.mk (Kd.R_below (rI (Kd.R_mono (Kd.R_far (p := ⟨gb178, 3, none⟩) (Kd.R_far (p := ⟨gb178, 2, none⟩) (Kd.R_far (p := ⟨gb178, 1, none⟩) (Kd.R_far (p := ⟨gb178, 0, none⟩) (Kd.R_types HO170.out BK178.out (by decide)) (fun _ hk => hk.2) (.string t172)) (fun _ hk => hk.2) (.int .i64 t173)) (fun _ hk => hk.2) (.string t174)) (fun _ hk => hk.2) (.slice Ao59 t175.length co59)) (fun _ h_ => h_.1))) hb); replace HO177 := Aside0.mk (Kd.R_below (rI (Kd.R_mono (Kd.R_far (p := ⟨gb178, 3, none⟩) (Kd.R_far (p := ⟨gb178, 2, none⟩) (Kd.R_far (p := ⟨gb178, 1, none⟩) (Kd.R_far (p := ⟨gb178, 0, none⟩) (Kd.R_types HO177.out BK178.out (by decide)) (fun _ hk => hk.2) (.string t172)) (fun _ hk => hk.2) (.int .i64 t173)) (fun _ hk => hk.2) (.string t174)) (fun _ hk => hk.2) (.slice Ao59 t175.length co59)) (fun _ h_ => h_.1))) hb); replace BK148 := Aside0.mk (blk_below (g := gb148) (o := .cells #[.string a0_0, .int .i64 a0_1, .string a0_2, .slice A0_3 l0_3.length c0_3] 61 (0, 0)) (by (with_reducible repeat (first | refine blk_drewN ?_ _ | refine blk_drew ?_ | refine blk_alloc ?_ _)); refine blk_far ?_ NB148_178.out _; (with_reducible repeat (first | refine blk_drewN ?_ _ | refine blk_drew ?_ | refine blk_alloc ?_ _)); refine blk_far ?_ NB148_178.out _; (with_reducible repeat (first | refine blk_drewN ?_ _ | refine blk_drew ?_ | refine blk_alloc ?_ _)); refine blk_far ?_ NB148_178.out _; (with_reducible repeat (first | refine blk_drewN ?_ _ | refine blk_drew ?_ | refine blk_alloc ?_ _)); refine blk_far ?_ NB148_178.out _; (with_reducible repeat (first | refine blk_drewN ?_ _ | refine blk_drew ?_ | refine blk_alloc ?_ _)); exact BK148.out) hb); replace BK149 := Aside0.mk (blk_below (g := gb149) (o := .cells #[.string a1_0, .int .i64 a1_1, .string a1_2, .slice A1_3 l1_3.length c1_3] 61 (0, 0)) (by (with_reducible repeat (first | refine blk_drewN ?_ _ | refine blk_drew ?_ | refine blk_alloc ?_ _)); refine blk_far ?_ NB149_178.out _; (with_reducible repeat (first | refine blk_drewN ?_ _ | refine blk_drew ?_ | refine blk_alloc ?_ _)); refine blk_far ?_ NB149_178.out _; (with_reducible repeat (first | refine blk_drewN ?_ _ | refine blk_drew ?_ | refine blk_alloc ?_ _)); refine blk_far ?_ NB149_178.out _; (with_reducible repeat (first | refine blk_drewN ?_ _ | refine blk_drew ?_ | refine blk_alloc ?_ _)); refine blk_far ?_ NB149_178.out _; (with_reducible repeat (first | refine blk_drewN ?_ _ | refine blk_drew ?_ | refine blk_alloc ?_ _)); exact BK149.out) hb); replace BK171 := Aside0.mk (blk_below (g := gb171) (o := .cells #[.string t165, .int .i64 t166, .string t167, .slice Ao51 t168.length co51] 65 (0, 0)) (by (with_reducible repeat (first | refine blk_drewN ?_ _ | refine blk_drew ?_ | refine blk_alloc ?_ _)); refine blk_far ?_ NB171_178.out _; (with_reducible repeat (first | refine blk_drewN ?_ _ | refine blk_drew ?_ | refine blk_alloc ?_ _)); refine blk_far ?_ NB171_178.out _; (with_reducible repeat (first | refine blk_drewN ?_ _ | refine blk_drew ?_ | refine blk_alloc ?_ _)); refine blk_far ?_ NB171_178.out _; (with_reducible repeat (first | refine blk_drewN ?_ _ | refine blk_drew ?_ | refine blk_alloc ?_ _)); refine blk_far ?_ NB171_178.out _; (with_reducible repeat (first | refine blk_drewN ?_ _ | refine blk_drew ?_ | refine blk_alloc ?_ _)); exact BK171.out) hb); replace BK178 := Aside0.mk (blk_below (g := gb178) (o := .cells #[.string t172, .int .i64 t173, .string t174, .slice Ao59 t175.length co59] 65 (0, 0)) (by (with_reducible repeat (first | refine blk_drewN ?_ _ | refine blk_drew ?_ | refine blk_alloc ?_ _)); refine blk_put (cs := #[.string t172, .int .i64 t173, .string t174, .slice none 0 0]) ?_ 3 _ rfl; (with_reducible repeat (first | refine blk_drewN ?_ _ | refine blk_drew ?_ | refine blk_alloc ?_ _)); refine blk_put (cs := #[.string t172, .int .i64 t173, .string (⟨#[]⟩ : ByteArray), .slice none 0 0]) ?_ 2 _ rfl; (with_reducible repeat (first | refine blk_drewN ?_ _ | refine blk_drew ?_ | refine blk_alloc ?_ _)); refine blk_put (cs := #[.string t172, .int .i64 0, .string (⟨#[]⟩ : ByteArray), .slice none 0 0]) ?_ 1 _ rfl; (with_reducible repeat (first | refine blk_drewN ?_ _ | refine blk_drew ?_ | refine blk_alloc ?_ _)); refine blk_put (cs := #[.string (⟨#[]⟩ : ByteArray), .int .i64 0, .string (⟨#[]⟩ : ByteArray), .slice none 0 0]) ?_ 0 _ rfl; (with_reducible repeat (first | refine blk_drewN ?_ _ | refine blk_drew ?_ | refine blk_alloc ?_ _)); exact BK178.out) hb); replace HB := Aside0.mk (below_step (bI HB.out) hb); (try clear hb); (try clear hb2); (try clear hk); (try clear hi)))
        replace HO170 := Aside0.mk (Kd.R_drew HO170.out)
        replace HO177 := Aside0.mk (Kd.R_drew HO177.out)
        replace BK148 := Aside0.mk (blk_drew BK148.out)
        replace BK149 := Aside0.mk (blk_drew BK149.out)
        replace BK171 := Aside0.mk (blk_drew BK171.out)
        replace BK178 := Aside0.mk (blk_drew BK178.out)
        replace HB := Aside0.mk (below_drew1 HB.out)
        refine start_ (n := 5) (S := fun w' => w'.cell? ⟨gb171, 0, none⟩ = some (.string t165) ∧ w'.cell? ⟨gb171, 1, none⟩ = some (.int .i64 t166) ∧ w'.cell? ⟨gb171, 2, none⟩ = some (.string t167) ∧ w'.cell? ⟨gb171, 3, none⟩ = some (.slice Ao51 t168.length co51) ∧ w'.cell? ⟨gb148, 0, none⟩ = some (.string a0_0) ∧ w'.cell? ⟨gb148, 1, none⟩ = some (.int .i64 a0_1) ∧ w'.cell? ⟨gb148, 2, none⟩ = some (.string a0_2) ∧ w'.cell? ⟨gb148, 3, none⟩ = some (.slice A0_3 l0_3.length c0_3)) (ds := []) #[false, false, false, false, false] (by kernel_rfl) rfl rfl ⟨(blk_cell BK171.out 0).trans rfl, (blk_cell BK171.out 1).trans rfl, (blk_cell BK171.out 2).trans rfl, (blk_cell BK171.out 3).trans rfl, (blk_cell BK148.out 0).trans rfl, (blk_cell BK148.out 1).trans rfl, (blk_cell BK148.out 2).trans rfl, (blk_cell BK148.out 3).trans rfl⟩ (fun hHeld => ?_)
        generalize w61.drew = w62 at HO170 HO177 BK148 BK149 BK171 BK178 HB hHeld ⊢
        refine take_ (i := 0) (N := some 35) (v := ?_) (a' := ?_) #[true, false, false, false, false] rfl rfl (by kernel_rfl) (fun _ _ _ h => h) (Or.inl ⟨by rfl, ?_⟩) hHeld ?_ ?_
        rotate_left
        · rintro w' ⟨s0, s1, s2, s3, s4, s5, s6, s7⟩
          go_simp
          with_reducible rfl
        rotate_left
        · simp only [Act.put, List.setIfInBounds_toArray, List.set_cons_zero, List.set_cons_succ, i64_w, i32_w]
          rfl
        refine take_ (i := 1) (N := some 36) (v := ?_) (a' := ?_) #[true, true, false, false, false] rfl rfl (by kernel_rfl) (fun _ _ _ h => h) (Or.inl ⟨by rfl, ?_⟩) hHeld ?_ ?_
        rotate_left
        · rintro w' ⟨s0, s1, s2, s3, s4, s5, s6, s7⟩
          go_simp
          with_reducible rfl
        rotate_left
        · simp only [Act.put, List.setIfInBounds_toArray, List.set_cons_zero, List.set_cons_succ, i64_w, i32_w]
          rfl
        refine one_ (i := 2) (N := some 37) #[true, true, true, false, false] rfl rfl (by kernel_rfl) (by decide) (fun K hK => ?_)
        refine goes_ Try.func56 (by kernel_rfl) rfl #[.agg #[.string a0_0, .int .i64 a0_1, .string a0_2, .slice A0_3 l0_3.length c0_3]] (by rfl) rfl rfl (by (try simp only [List.map_toArray, List.map_cons, List.map_nil]); first | done | rfl | (simp only [List.length_drop, List.length_take]; rfl)) ?_
        with_reducible refine (laws_toBlock.calls k a0_0 a0_1 a0_2 _ _ l0_3 t180 t181 t182 t183 _ ?side1 ?side2 A26.out).mono ?_
        (case side1 => repeat (first | exact (Kd.C_below HR0_3.out HB.out) | (with_reducible refine Kd.C_alloc ?_ _) | (with_reducible refine Kd.C_drewN ?_ _) | (with_reducible refine Kd.C_drew ?_)))
        (case side2 => exact HC0_3.out)
        rintro e w63 ⟨v184, rfl, ho0, hb⟩
        refine ⟨_, rfl, ?_⟩
        have HO185 := Aside0.mk (Kd.R_lower (Kd.R_new' (Kd.R_new' ho0 (Kd.R_lt (rI HO170.out))) (Kd.R_lt (rI HO177.out))) (below_size (bI HB.out)))
        replace HO170 := Aside0.mk (Kd.R_elder' (rI HO170.out) (Kd.R_base ho0) hb)
        replace HO177 := Aside0.mk (Kd.R_elder' (rI HO177.out) (Kd.R_base ho0) hb)
        replace BK148 := Aside0.mk (blk_below (g := gb148) (o := .cells #[.string a0_0, .int .i64 a0_1, .string a0_2, .slice A0_3 l0_3.length c0_3] 61 (0, 0)) (kI BK148.out) hb)
        replace BK149 := Aside0.mk (blk_below (g := gb149) (o := .cells #[.string a1_0, .int .i64 a1_1, .string a1_2, .slice A1_3 l1_3.length c1_3] 61 (0, 0)) (kI BK149.out) hb)
        replace BK171 := Aside0.mk (blk_below (g := gb171) (o := .cells #[.string t165, .int .i64 t166, .string t167, .slice Ao51 t168.length co51] 65 (0, 0)) (kI BK171.out) hb)
        replace BK178 := Aside0.mk (blk_below (g := gb178) (o := .cells #[.string t172, .int .i64 t173, .string t174, .slice Ao59 t175.length co59] 65 (0, 0)) (kI BK178.out) hb)
        replace HB := Aside0.mk (below_step (bI HB.out) hb)
        (try clear hb)
        (try clear hb2)
        (try clear hk)
        (try clear hi)
        (try clear ho0)
        obtain ⟨Ao64, co64, eo64⟩ := Kd.R_slice HO185.out
        (first | subst eo64 | (injection eo64 with f1_ f2_ f3_; have f4_ := f1_.symm; have f5_ := f3_.symm; clear f1_ f2_ f3_; subst f4_; subst f5_))
        refine hK.out _ _ ⟨(blk_cell BK171.out 0).trans rfl, (blk_cell BK171.out 1).trans rfl, (blk_cell BK171.out 2).trans rfl, (blk_cell BK171.out 3).trans rfl, (blk_cell BK148.out 0).trans rfl, (blk_cell BK148.out 1).trans rfl, (blk_cell BK148.out 2).trans rfl, (blk_cell BK148.out 3).trans rfl⟩ (fun hHeld => ?_)
        clear hK K
        refine norm_ (a' := ?_) ?_ ?_
        rotate_left
        · show Act.put _ (some 37) _ = _
          simp only [Act.put, List.setIfInBounds_toArray, List.set_cons_zero, List.set_cons_succ, i64_w, i32_w]
          rfl
        refine one_ (i := 3) (N := some 38) #[true, true, true, true, false] rfl rfl (by kernel_rfl) (by decide) (fun K hK => ?_)
        refine goes_ Try.func58 (by kernel_rfl) rfl #[.agg #[.string t165, .int .i64 t166, .string t167, .slice Ao51 t168.length co51], .agg #[.string t180, .int .i64 t181, .string t182, .slice Ao64 t183.length co64]] (by rfl) rfl rfl (by (try simp only [List.map_toArray, List.map_cons, List.map_nil]); first | done | rfl | (simp only [List.length_drop, List.length_take]; rfl)) ?_
        with_reducible refine (laws_eqBlock.calls k t165 t166 t167 _ _ t168 t180 t181 t182 _ _ t183 true _ ?side1 ?side2 ?side3 ?side4 A27.out).mono ?_
        (case side1 => repeat (first | exact (Kd.R_reads' HO170.out).2.2 | (with_reducible refine Kd.C_alloc ?_ _) | (with_reducible refine Kd.C_drewN ?_ _) | (with_reducible refine Kd.C_drew ?_)))
        (case side2 => exact (Kd.R_reads' HO170.out).2.1)
        (case side3 => repeat (first | exact (Kd.R_reads' HO185.out).2.2 | (with_reducible refine Kd.C_alloc ?_ _) | (with_reducible refine Kd.C_drewN ?_ _) | (with_reducible refine Kd.C_drew ?_)))
        (case side4 => exact (Kd.R_reads' HO185.out).2.1)
        rintro e w65 ⟨rfl, hb⟩
        refine ⟨_, rfl, ?_⟩
        replace HO170 := Aside0.mk (Kd.R_below (rI HO170.out) hb)
        replace HO177 := Aside0.mk (Kd.R_below (rI HO177.out) hb)
        replace HO185 := Aside0.mk (Kd.R_below (rI HO185.out) hb)
        replace BK148 := Aside0.mk (blk_below (g := gb148) (o := .cells #[.string a0_0, .int .i64 a0_1, .string a0_2, .slice A0_3 l0_3.length c0_3] 61 (0, 0)) (kI BK148.out) hb)
        replace BK149 := Aside0.mk (blk_below (g := gb149) (o := .cells #[.string a1_0, .int .i64 a1_1, .string a1_2, .slice A1_3 l1_3.length c1_3] 61 (0, 0)) (kI BK149.out) hb)
        replace BK171 := Aside0.mk (blk_below (g := gb171) (o := .cells #[.string t165, .int .i64 t166, .string t167, .slice Ao51 t168.length co51] 65 (0, 0)) (kI BK171.out) hb)
        replace BK178 := Aside0.mk (blk_below (g := gb178) (o := .cells #[.string t172, .int .i64 t173, .string t174, .slice Ao59 t175.length co59] 65 (0, 0)) (kI BK178.out) hb)
        replace HB := Aside0.mk (below_step (bI HB.out) hb)
        (try clear hb)
        (try clear hb2)
        (try clear hk)
        (try clear hi)
        refine hK.out _ _ ⟨(blk_cell BK171.out 0).trans rfl, (blk_cell BK171.out 1).trans rfl, (blk_cell BK171.out 2).trans rfl, (blk_cell BK171.out 3).trans rfl, (blk_cell BK148.out 0).trans rfl, (blk_cell BK148.out 1).trans rfl, (blk_cell BK148.out 2).trans rfl, (blk_cell BK148.out 3).trans rfl⟩ (fun hHeld => ?_)
        clear hK K
        refine norm_ (a' := ?_) ?_ ?_
        rotate_left
        · show Act.put _ (some 38) _ = _
          simp only [Act.put, List.setIfInBounds_toArray, List.set_cons_zero, List.set_cons_succ, i64_w, i32_w]
          rfl
        refine pure_ (i := 4) (N := some 39) (v := ?_) (a' := ?_) #[true, true, true, true, true] rfl rfl (by kernel_rfl) (fun _ _ _ h => h) (Or.inl ⟨by rfl, ?_⟩) ?_ ?_
        rotate_left
        · intro w'
          go_simp
          with_reducible rfl
        rotate_left
        · simp only [Act.put, List.setIfInBounds_toArray, List.set_cons_zero, List.set_cons_succ, i64_w, i32_w]
          rfl
        refine done_ (by kernel_rfl) ?_
        clear HO170
        clear HO185
        have n_ := Aside0.mk (Kd.R_mono (ok' := (fun _ => True)) HO177.out (fun k_ hk => trivial))
        clear HO177
        have HO177 := n_
        clear n_
        try go_wp2
        replace HO177 := Aside0.mk (Kd.R_drew HO177.out)
        replace BK148 := Aside0.mk (blk_drew BK148.out)
        replace BK149 := Aside0.mk (blk_drew BK149.out)
        replace BK171 := Aside0.mk (blk_drew BK171.out)
        replace BK178 := Aside0.mk (blk_drew BK178.out)
        replace HB := Aside0.mk (below_drew1 HB.out)
        refine start_ (n := 5) (S := fun w' => w'.cell? ⟨gb178, 0, none⟩ = some (.string t172) ∧ w'.cell? ⟨gb178, 1, none⟩ = some (.int .i64 t173) ∧ w'.cell? ⟨gb178, 2, none⟩ = some (.string t174) ∧ w'.cell? ⟨gb178, 3, none⟩ = some (.slice Ao59 t175.length co59) ∧ w'.cell? ⟨gb149, 0, none⟩ = some (.string a1_0) ∧ w'.cell? ⟨gb149, 1, none⟩ = some (.int .i64 a1_1) ∧ w'.cell? ⟨gb149, 2, none⟩ = some (.string a1_2) ∧ w'.cell? ⟨gb149, 3, none⟩ = some (.slice A1_3 l1_3.length c1_3)) (ds := []) #[false, false, false, false, false] (by kernel_rfl) rfl rfl ⟨(blk_cell BK178.out 0).trans rfl, (blk_cell BK178.out 1).trans rfl, (blk_cell BK178.out 2).trans rfl, (blk_cell BK178.out 3).trans rfl, (blk_cell BK149.out 0).trans rfl, (blk_cell BK149.out 1).trans rfl, (blk_cell BK149.out 2).trans rfl, (blk_cell BK149.out 3).trans rfl⟩ (fun hHeld => ?_)
        generalize w65.drew = w66 at HO177 BK148 BK149 BK171 BK178 HB hHeld ⊢
        refine take_ (i := 0) (N := some 40) (v := ?_) (a' := ?_) #[true, false, false, false, false] rfl rfl (by kernel_rfl) (fun _ _ _ h => h) (Or.inl ⟨by rfl, ?_⟩) hHeld ?_ ?_
        rotate_left
        · rintro w' ⟨s0, s1, s2, s3, s4, s5, s6, s7⟩
          go_simp
          with_reducible rfl
        rotate_left
        · simp only [Act.put, List.setIfInBounds_toArray, List.set_cons_zero, List.set_cons_succ, i64_w, i32_w]
          rfl
        refine take_ (i := 1) (N := some 41) (v := ?_) (a' := ?_) #[true, true, false, false, false] rfl rfl (by kernel_rfl) (fun _ _ _ h => h) (Or.inl ⟨by rfl, ?_⟩) hHeld ?_ ?_
        rotate_left
        · rintro w' ⟨s0, s1, s2, s3, s4, s5, s6, s7⟩
          go_simp
          with_reducible rfl
        rotate_left
        · simp only [Act.put, List.setIfInBounds_toArray, List.set_cons_zero, List.set_cons_succ, i64_w, i32_w]
          rfl
        refine one_ (i := 2) (N := some 42) #[true, true, true, false, false] rfl rfl (by kernel_rfl) (by decide) (fun K hK => ?_)
        refine goes_ Try.func56 (by kernel_rfl) rfl #[.agg #[.string a1_0, .int .i64 a1_1, .string a1_2, .slice A1_3 l1_3.length c1_3]] (by rfl) rfl rfl (by (try simp only [List.map_toArray, List.map_cons, List.map_nil]); first | done | rfl | (simp only [List.length_drop, List.length_take]; rfl)) ?_
        with_reducible refine (laws_toBlock.calls k a1_0 a1_1 a1_2 _ _ l1_3 t187 t188 t189 t190 _ ?side1 ?side2 A29.out).mono ?_
        (case side1 => repeat (first | exact (Kd.C_below HR1_3.out HB.out) | (with_reducible refine Kd.C_alloc ?_ _) | (with_reducible refine Kd.C_drewN ?_ _) | (with_reducible refine Kd.C_drew ?_)))
        (case side2 => exact HC1_3.out)
        rintro e w67 ⟨v191, rfl, ho0, hb⟩
        refine ⟨_, rfl, ?_⟩
        have HO192 := Aside0.mk (Kd.R_lower (Kd.R_new' ho0 (Kd.R_lt (rI HO177.out))) (below_size (bI HB.out)))
        replace HO177 := Aside0.mk (Kd.R_elder' (rI HO177.out) (Kd.R_base ho0) hb)
        replace BK148 := Aside0.mk (blk_below (g := gb148) (o := .cells #[.string a0_0, .int .i64 a0_1, .string a0_2, .slice A0_3 l0_3.length c0_3] 61 (0, 0)) (kI BK148.out) hb)
        replace BK149 := Aside0.mk (blk_below (g := gb149) (o := .cells #[.string a1_0, .int .i64 a1_1, .string a1_2, .slice A1_3 l1_3.length c1_3] 61 (0, 0)) (kI BK149.out) hb)
        replace BK171 := Aside0.mk (blk_below (g := gb171) (o := .cells #[.string t165, .int .i64 t166, .string t167, .slice Ao51 t168.length co51] 65 (0, 0)) (kI BK171.out) hb)
        replace BK178 := Aside0.mk (blk_below (g := gb178) (o := .cells #[.string t172, .int .i64 t173, .string t174, .slice Ao59 t175.length co59] 65 (0, 0)) (kI BK178.out) hb)
        replace HB := Aside0.mk (below_step (bI HB.out) hb)
        (try clear hb)
        (try clear hb2)
        (try clear hk)
        (try clear hi)
        (try clear ho0)
        obtain ⟨Ao68, co68, eo68⟩ := Kd.R_slice HO192.out
        (first | subst eo68 | (injection eo68 with f1_ f2_ f3_; have f4_ := f1_.symm; have f5_ := f3_.symm; clear f1_ f2_ f3_; subst f4_; subst f5_))
        refine hK.out _ _ ⟨(blk_cell BK178.out 0).trans rfl, (blk_cell BK178.out 1).trans rfl, (blk_cell BK178.out 2).trans rfl, (blk_cell BK178.out 3).trans rfl, (blk_cell BK149.out 0).trans rfl, (blk_cell BK149.out 1).trans rfl, (blk_cell BK149.out 2).trans rfl, (blk_cell BK149.out 3).trans rfl⟩ (fun hHeld => ?_)
        clear hK K
        refine norm_ (a' := ?_) ?_ ?_
        rotate_left
        · show Act.put _ (some 42) _ = _
          simp only [Act.put, List.setIfInBounds_toArray, List.set_cons_zero, List.set_cons_succ, i64_w, i32_w]
          rfl
        refine one_ (i := 3) (N := some 43) #[true, true, true, true, false] rfl rfl (by kernel_rfl) (by decide) (fun K hK => ?_)
        refine goes_ Try.func58 (by kernel_rfl) rfl #[.agg #[.string t172, .int .i64 t173, .string t174, .slice Ao59 t175.length co59], .agg #[.string t187, .int .i64 t188, .string t189, .slice Ao68 t190.length co68]] (by rfl) rfl rfl (by (try simp only [List.map_toArray, List.map_cons, List.map_nil]); first | done | rfl | (simp only [List.length_drop, List.length_take]; rfl)) ?_
        with_reducible refine (laws_eqBlock.calls k t172 t173 t174 _ _ t175 t187 t188 t189 _ _ t190 true _ ?side1 ?side2 ?side3 ?side4 A30.out).mono ?_
        (case side1 => repeat (first | exact (Kd.R_reads' HO177.out).2.2 | (with_reducible refine Kd.C_alloc ?_ _) | (with_reducible refine Kd.C_drewN ?_ _) | (with_reducible refine Kd.C_drew ?_)))
        (case side2 => exact (Kd.R_reads' HO177.out).2.1)
        (case side3 => repeat (first | exact (Kd.R_reads' HO192.out).2.2 | (with_reducible refine Kd.C_alloc ?_ _) | (with_reducible refine Kd.C_drewN ?_ _) | (with_reducible refine Kd.C_drew ?_)))
        (case side4 => exact (Kd.R_reads' HO192.out).2.1)
        rintro e w69 ⟨rfl, hb⟩
        refine ⟨_, rfl, ?_⟩
        replace HO177 := Aside0.mk (Kd.R_below (rI HO177.out) hb)
        replace HO192 := Aside0.mk (Kd.R_below (rI HO192.out) hb)
        replace BK148 := Aside0.mk (blk_below (g := gb148) (o := .cells #[.string a0_0, .int .i64 a0_1, .string a0_2, .slice A0_3 l0_3.length c0_3] 61 (0, 0)) (kI BK148.out) hb)
        replace BK149 := Aside0.mk (blk_below (g := gb149) (o := .cells #[.string a1_0, .int .i64 a1_1, .string a1_2, .slice A1_3 l1_3.length c1_3] 61 (0, 0)) (kI BK149.out) hb)
        replace BK171 := Aside0.mk (blk_below (g := gb171) (o := .cells #[.string t165, .int .i64 t166, .string t167, .slice Ao51 t168.length co51] 65 (0, 0)) (kI BK171.out) hb)
        replace BK178 := Aside0.mk (blk_below (g := gb178) (o := .cells #[.string t172, .int .i64 t173, .string t174, .slice Ao59 t175.length co59] 65 (0, 0)) (kI BK178.out) hb)
        replace HB := Aside0.mk (below_step (bI HB.out) hb)
        (try clear hb)
        (try clear hb2)
        (try clear hk)
        (try clear hi)
        refine hK.out _ _ ⟨(blk_cell BK178.out 0).trans rfl, (blk_cell BK178.out 1).trans rfl, (blk_cell BK178.out 2).trans rfl, (blk_cell BK178.out 3).trans rfl, (blk_cell BK149.out 0).trans rfl, (blk_cell BK149.out 1).trans rfl, (blk_cell BK149.out 2).trans rfl, (blk_cell BK149.out 3).trans rfl⟩ (fun hHeld => ?_)
        clear hK K
        refine norm_ (a' := ?_) ?_ ?_
        rotate_left
        · show Act.put _ (some 43) _ = _
          simp only [Act.put, List.setIfInBounds_toArray, List.set_cons_zero, List.set_cons_succ, i64_w, i32_w]
          rfl
        refine pure_ (i := 4) (N := some 44) (v := ?_) (a' := ?_) #[true, true, true, true, true] rfl rfl (by kernel_rfl) (fun _ _ _ h => h) (Or.inl ⟨by rfl, ?_⟩) ?_ ?_
        rotate_left
        · intro w'
          go_simp
          with_reducible rfl
        rotate_left
        · simp only [Act.put, List.setIfInBounds_toArray, List.set_cons_zero, List.set_cons_succ, i64_w, i32_w]
          rfl
        refine done_ (by kernel_rfl) ?_
        try go_wp2
        go_ret
        exact ⟨by first | rfl | (simp [errW_none, errW_some] <;> rfl) | (simp [*, errW_none, errW_some] <;> rfl), bI HB.out⟩
      · replace c28 := Bool.eq_false_iff.mpr c28
        subst c28
        have H1 : (some false) = some r := by rw [if_neg (show ¬ (false = true) by decide)] at H; exact H
        clear H
        have H := H1
        clear H1
        exact absurd (hrt.out.symm.trans (Option.some.inj H).symm) (by decide)

end Go.Proofs.Ytlkmjjojjlihaaa.PFnExactBlockSame
