-- By a program of this session, out of the translation (the print of the kit, with turns of its own). Lean checks it.
import Derived.Test.YtlkmjjojjlihaaaPFnExactQcLaterx0
import Derived.Test.YtlkmjjojjlihaaaPFnExactQcLaterx1
import Derived.Test.YtlkmjjojjlihaaaPFnExactQcLaterx2
namespace Go.Proofs.Ytlkmjjojjlihaaa.PFnExactQcLater
open Go.RowKit Go.Proofs.YtlkmjjojjlihaaaW.PrintWords Go.Proofs.YtlkmjjojjlihaaaW.PrintLast Go.Proofs.YtlkmjjojjlihaaaW.PrintMore
attribute [local go_sem] max2_int min2_int max_two min_two max_three min_three max_four min_four   -- for this text's walks alone
set_option linter.unusedVariables false
set_option linter.unusedSimpArgs false

/-! ### laws_FnExactQcLater: function 13 -/
def laws_FnExactQcLater.f (k : Nat) (a0_0 : Int) (a0_1 : ByteArray) (l0_2 : List Int) (a1_0 : Int) (a1_1 : ByteArray) (l1_2 : List Int) : Option (Bool) := (laws_szQc.f a0_0 a0_1 l0_2 1048576).bind fun t170 => (if t170 < 0 then (some true) else ((laws_szQc.f a1_0 a1_1 l1_2 t170).bind fun t171 => (if t171 < 0 then (some true) else ((laws_toQc.f k a0_0 a0_1 l0_2).bind fun bt172 => ((laws_toQc.f k a1_0 a1_1 l1_2).bind fun bt177 => ((spec_QcLater.f bt172.1 bt172.2.1 bt172.2.2 bt177.1 bt177.2.1 bt177.2.2).bind fun bt182 => ((laws_toQc.f k a0_0 a0_1 l0_2).bind fun bt188 => ((laws_toQc.f k a1_0 a1_1 l1_2).bind fun bt194 => ((impl_QcLater.f bt188.1 bt188.2.1 bt188.2.2 bt194.1 bt194.2.1 bt194.2.2).bind fun bt200 => ((laws_eqQc.f k bt200.1 bt200.2.1 bt200.2.2 bt182.1 bt182.2.1 bt182.2.2).bind fun t206 => (if t206 = true then ((laws_toQc.f k a0_0 a0_1 l0_2).bind fun bt207 => ((laws_eqQc.f k bt188.1 bt188.2.1 bt188.2.2 bt207.1 bt207.2.1 bt207.2.2).bind fun t212 => (if t212 = true then ((laws_toQc.f k a1_0 a1_1 l1_2).bind fun bt213 => ((laws_eqQc.f k bt194.1 bt194.2.1 bt194.2.2 bt213.1 bt213.2.1 bt213.2.2).bind fun t218 => (if t218 = true then ((laws_markQc.f k bt188.1 bt188.2.1 bt188.2.2 1).bind fun bt219 => ((laws_markQc.f k bt194.1 bt194.2.1 bt194.2.2 bt219.1).bind fun bt221 => (if bt221.1 < 0 then (some false) else ((laws_eqQc.f k bt200.1 bt200.2.1 bt200.2.2 bt182.1 bt182.2.1 bt182.2.2).bind fun t223 => (if t223 = true then ((laws_markQc.f k bt200.1 bt200.2.1 bt200.2.2 1).bind fun bt224 => ((laws_heldQc.f k bt200.1 bt200.2.1 bt224.2 1).bind fun t226 => (if t226 < 0 then (some false) else (if t226 = bt224.1 then ((laws_toQc.f k a0_0 a0_1 l0_2).bind fun bt227 => ((laws_toQc.f k a1_0 a1_1 l1_2).bind fun bt232 => ((impl_QcLater.f bt227.1 bt227.2.1 bt227.2.2 bt232.1 bt232.2.1 bt232.2.2).bind fun bt237 => ((laws_eqQc.f k bt237.1 bt237.2.1 bt237.2.2 bt182.1 bt182.2.1 bt182.2.2).bind fun t243 => (if t243 = true then ((laws_heldQc.f k bt200.1 bt200.2.1 bt224.2 1).bind fun t244 => (if t244 < 0 then (some false) else (if t244 = bt224.1 then (some true) else (some false)))) else (some false)))))) else (some false))))) else (some false)))))) else (some false)))) else (some false)))) else (some false))))))))))))
theorem laws_FnExactQcLater.mono : ∀ a0 a1 a2 a3 a4 a5 k, LeO (laws_FnExactQcLater.f k a0 a1 a2 a3 a4 a5) (laws_FnExactQcLater.f (k + 1) a0 a1 a2 a3 a4 a5) := by
  intro a0 a1 a2 a3 a4 a5 k
  unfold laws_FnExactQcLater.f
  repeat' first
      | (with_reducible exact laws_eqQc.mono _ _ _ _ _ _ _)
      | (with_reducible exact laws_heldQc.mono _ _ _ _ _)
      | (with_reducible exact laws_markQc.mono _ _ _ _ _)
      | (with_reducible exact laws_toQc.mono _ _ _ _)
      | (with_reducible exact LeO.refl _)
      | (with_reducible exact LeO.none _)
      | (with_reducible refine LeO.ite ?_ ?_)
      | (with_reducible refine LeO.bind ?_ (fun _ => ?_))
      | exact laws_eqQc.mono _ _ _ _ _ _ _
      | exact laws_heldQc.mono _ _ _ _ _
      | exact laws_markQc.mono _ _ _ _ _
      | exact laws_toQc.mono _ _ _ _
      | exact LeO.none _
      | refine LeO.ite ?_ ?_
      | refine LeO.bind ?_ (fun _ => ?_)
set_option maxHeartbeats 8000000 in
set_option maxRecDepth 100000 in
theorem laws_FnExactQcLater.calls (k : Nat) (a0_0 : Int) (a0_1 : ByteArray) (A0_2 : Option Addr) (c0_2 : Nat) (l0_2 : List Int) (a1_0 : Int) (a1_1 : ByteArray) (A1_2 : Option Addr) (c1_2 : Nat) (l1_2 : List Int) (r : Bool) (hrt : Aside0 (r = true)) (w : World) (hr0_2 : Kd.C (Kd.int .i64) w A0_2 l0_2.length l0_2) (hc0_2 : l0_2.length ≤ c0_2) (hr1_2 : Kd.C (Kd.int .i64) w A1_2 l1_2.length l1_2) (hc1_2 : l1_2.length ≤ c1_2) (h : laws_FnExactQcLater.f k a0_0 a0_1 l0_2 a1_0 a1_1 l1_2 = some r) :
    Calls Try.prog 13 #[.agg #[.int .i64 a0_0, .string a0_1, .slice A0_2 l0_2.length c0_2], .agg #[.int .i64 a1_0, .string a1_1, .slice A1_2 l1_2.length c1_2]] w fun e w' => e = .returned (.bool r) ∧ Below w.heap.size w w' := by
  have hu48 := Try.underlying48
  have hu41 := Try.underlying41
  have HR0_2 := Aside0.mk hr0_2
  have HC0_2 := Aside0.mk hc0_2
  clear hr0_2 hc0_2
  have HR1_2 := Aside0.mk hr1_2
  have HC1_2 := Aside0.mk hc1_2
  clear hr1_2 hc1_2
  have HB := Aside0.mk (Below.refl w.heap.size w)
  have H : ((laws_szQc.f a0_0 a0_1 l0_2 1048576).bind fun t170 => (if t170 < 0 then (some true) else ((laws_szQc.f a1_0 a1_1 l1_2 t170).bind fun t171 => (if t171 < 0 then (some true) else ((laws_toQc.f k a0_0 a0_1 l0_2).bind fun bt172 => ((laws_toQc.f k a1_0 a1_1 l1_2).bind fun bt177 => ((spec_QcLater.f bt172.1 bt172.2.1 bt172.2.2 bt177.1 bt177.2.1 bt177.2.2).bind fun bt182 => ((laws_toQc.f k a0_0 a0_1 l0_2).bind fun bt188 => ((laws_toQc.f k a1_0 a1_1 l1_2).bind fun bt194 => ((impl_QcLater.f bt188.1 bt188.2.1 bt188.2.2 bt194.1 bt194.2.1 bt194.2.2).bind fun bt200 => ((laws_eqQc.f k bt200.1 bt200.2.1 bt200.2.2 bt182.1 bt182.2.1 bt182.2.2).bind fun t206 => (if t206 = true then ((laws_toQc.f k a0_0 a0_1 l0_2).bind fun bt207 => ((laws_eqQc.f k bt188.1 bt188.2.1 bt188.2.2 bt207.1 bt207.2.1 bt207.2.2).bind fun t212 => (if t212 = true then ((laws_toQc.f k a1_0 a1_1 l1_2).bind fun bt213 => ((laws_eqQc.f k bt194.1 bt194.2.1 bt194.2.2 bt213.1 bt213.2.1 bt213.2.2).bind fun t218 => (if t218 = true then ((laws_markQc.f k bt188.1 bt188.2.1 bt188.2.2 1).bind fun bt219 => ((laws_markQc.f k bt194.1 bt194.2.1 bt194.2.2 bt219.1).bind fun bt221 => (if bt221.1 < 0 then (some false) else ((laws_eqQc.f k bt200.1 bt200.2.1 bt200.2.2 bt182.1 bt182.2.1 bt182.2.2).bind fun t223 => (if t223 = true then ((laws_markQc.f k bt200.1 bt200.2.1 bt200.2.2 1).bind fun bt224 => ((laws_heldQc.f k bt200.1 bt200.2.1 bt224.2 1).bind fun t226 => (if t226 < 0 then (some false) else (if t226 = bt224.1 then ((laws_toQc.f k a0_0 a0_1 l0_2).bind fun bt227 => ((laws_toQc.f k a1_0 a1_1 l1_2).bind fun bt232 => ((impl_QcLater.f bt227.1 bt227.2.1 bt227.2.2 bt232.1 bt232.2.1 bt232.2.2).bind fun bt237 => ((laws_eqQc.f k bt237.1 bt237.2.1 bt237.2.2 bt182.1 bt182.2.1 bt182.2.2).bind fun t243 => (if t243 = true then ((laws_heldQc.f k bt200.1 bt200.2.1 bt224.2 1).bind fun t244 => (if t244 < 0 then (some false) else (if t244 = bt224.1 then (some true) else (some false)))) else (some false)))))) else (some false))))) else (some false)))))) else (some false)))) else (some false)))) else (some false))))))))))))) = some r := h
  clear h
  replace H := Option.bind_eq_some_iff.mp H
  obtain ⟨t170, A30, H⟩ := H
  replace H : (if t170 < 0 then (some true) else ((laws_szQc.f a1_0 a1_1 l1_2 t170).bind fun t171 => (if t171 < 0 then (some true) else ((laws_toQc.f k a0_0 a0_1 l0_2).bind fun bt172 => ((laws_toQc.f k a1_0 a1_1 l1_2).bind fun bt177 => ((spec_QcLater.f bt172.1 bt172.2.1 bt172.2.2 bt177.1 bt177.2.1 bt177.2.2).bind fun bt182 => ((laws_toQc.f k a0_0 a0_1 l0_2).bind fun bt188 => ((laws_toQc.f k a1_0 a1_1 l1_2).bind fun bt194 => ((impl_QcLater.f bt188.1 bt188.2.1 bt188.2.2 bt194.1 bt194.2.1 bt194.2.2).bind fun bt200 => ((laws_eqQc.f k bt200.1 bt200.2.1 bt200.2.2 bt182.1 bt182.2.1 bt182.2.2).bind fun t206 => (if t206 = true then ((laws_toQc.f k a0_0 a0_1 l0_2).bind fun bt207 => ((laws_eqQc.f k bt188.1 bt188.2.1 bt188.2.2 bt207.1 bt207.2.1 bt207.2.2).bind fun t212 => (if t212 = true then ((laws_toQc.f k a1_0 a1_1 l1_2).bind fun bt213 => ((laws_eqQc.f k bt194.1 bt194.2.1 bt194.2.2 bt213.1 bt213.2.1 bt213.2.2).bind fun t218 => (if t218 = true then ((laws_markQc.f k bt188.1 bt188.2.1 bt188.2.2 1).bind fun bt219 => ((laws_markQc.f k bt194.1 bt194.2.1 bt194.2.2 bt219.1).bind fun bt221 => (if bt221.1 < 0 then (some false) else ((laws_eqQc.f k bt200.1 bt200.2.1 bt200.2.2 bt182.1 bt182.2.1 bt182.2.2).bind fun t223 => (if t223 = true then ((laws_markQc.f k bt200.1 bt200.2.1 bt200.2.2 1).bind fun bt224 => ((laws_heldQc.f k bt200.1 bt200.2.1 bt224.2 1).bind fun t226 => (if t226 < 0 then (some false) else (if t226 = bt224.1 then ((laws_toQc.f k a0_0 a0_1 l0_2).bind fun bt227 => ((laws_toQc.f k a1_0 a1_1 l1_2).bind fun bt232 => ((impl_QcLater.f bt227.1 bt227.2.1 bt227.2.2 bt232.1 bt232.2.1 bt232.2.2).bind fun bt237 => ((laws_eqQc.f k bt237.1 bt237.2.1 bt237.2.2 bt182.1 bt182.2.1 bt182.2.2).bind fun t243 => (if t243 = true then ((laws_heldQc.f k bt200.1 bt200.2.1 bt224.2 1).bind fun t244 => (if t244 < 0 then (some false) else (if t244 = bt224.1 then (some true) else (some false)))) else (some false)))))) else (some false))))) else (some false)))))) else (some false)))) else (some false)))) else (some false)))))))))))) = some r := H
  have A3 := Aside0.mk A30
  clear A30
  by_cases c4 : t170 < 0
  · rw [if_pos c4] at H
    have c4b0 : decide (t170 < 0) = true := decide_eq_true c4
    clear c4
    obtain rfl := Option.some.inj H
    go_enter Try.func13, Try.ntmps13
    go_wp2_with (first | ((with_reducible refine gate_dst (N := 2) rfl ?_); refine box_event ?hg (N := 2) ?hd (cs := #[.int .i64 a0_0, .string a0_1, .slice A0_2 l0_2.length c0_2]) (t := 48) ?hr ?_; (case hd => rfl); (case hg => rfl); (case hr => first | (go_simp; done) | (go_simp; rfl)); intro gb168 hg w5 hbox hb; have BK168 := Aside0.mk (hbox); have GW168 := Aside0.mk ((by rw [hg]; exact (below_size (bI HB.out)) : w.heap.size ≤ gb168)); have GE168 := Aside0.mk ((by rw [hg]; exact (below_size (bI HB.out)) : w.heap.size ≤ gb168)); have GI168 := GeI.mk GE168.out; replace HB := Aside0.mk (below_step (bI HB.out) hb); clear hb hbox hg) | ((with_reducible refine gate_dst (N := 3) rfl ?_); refine box_event ?hg (N := 3) ?hd (cs := #[.int .i64 a1_0, .string a1_1, .slice A1_2 l1_2.length c1_2]) (t := 48) ?hr ?_; (case hd => rfl); (case hg => rfl); (case hr => first | (go_simp; done) | (go_simp; rfl)); intro gb169 hg w6 hbox hb; have BK169 := Aside0.mk (hbox); have GW169 := Aside0.mk ((by rw [hg]; exact (below_size (bI HB.out)) : w.heap.size ≤ gb169)); have GE169 := Aside0.mk ((by rw [hg]; exact (below_size (bI HB.out)) : w.heap.size ≤ gb169)); have GI169 := GeI.mk GE169.out; replace HB := Aside0.mk (below_step (bI HB.out) hb); have NB168_169 := Aside0.mk ((by rw [hg]; exact Nat.ne_of_lt (blk_lt (g := gb168) (o := .cells #[.int .i64 a0_0, .string a0_1, .slice A0_2 l0_2.length c0_2] 48 (0, 0)) (kI BK168.out)) : gb168 ≠ gb169)); have NB169_168 := Aside0.mk ((by rw [hg]; exact Nat.ne_of_gt (blk_lt (g := gb168) (o := .cells #[.int .i64 a0_0, .string a0_1, .slice A0_2 l0_2.length c0_2] 48 (0, 0)) (kI BK168.out)) : gb169 ≠ gb168)); replace BK168 := Aside0.mk (blk_below (g := gb168) (o := .cells #[.int .i64 a0_0, .string a0_1, .slice A0_2 l0_2.length c0_2] 48 (0, 0)) (kI BK168.out) hb); clear hb hbox hg; have hnb7 := NB168_169.out; have hnc7 := NB169_168.out; have hcz8_0 : w6.cell? ⟨gb168, 0, none⟩ = some (.int .i64 a0_0) := (blk_cell BK168.out 0).trans rfl; have hcz8_1 : w6.cell? ⟨gb168, 1, none⟩ = some (.string a0_1) := (blk_cell BK168.out 1).trans rfl; have hcz8_2 : w6.cell? ⟨gb168, 2, none⟩ = some (.slice A0_2 l0_2.length c0_2) := (blk_cell BK168.out 2).trans rfl; have hfz8_0 := blk_frozen BK168.out 0; have hfz8_1 := blk_frozen BK168.out 1; have hfz8_2 := blk_frozen BK168.out 2) | ((with_reducible refine gate_callee (f := 34) rfl ?_); refine goesL_ (some 16) rfl rfl Try.func34 (by kernel_rfl) rfl #[.agg #[.int .i64 a0_0, .string a0_1, .slice A0_2 l0_2.length c0_2], .int .i64 1048576] rfl (by (try simp only [List.map_toArray, List.map_cons, List.map_nil]); first | done | rfl | (simp only [List.length_drop, List.length_take]; rfl)) ?_; (with_reducible refine (laws_szQc.calls a0_0 a0_1 _ _ l0_2 1048576 t170 _ ?side1 ?side2 A3.out).mono ?_); (case side1 => repeat (first | exact (Kd.C_below HR0_2.out HB.out) | (with_reducible refine Kd.C_alloc ?_ _) | (with_reducible refine Kd.C_drewN ?_ _) | (with_reducible refine Kd.C_drew ?_))); (case side2 => exact HC0_2.out); rintro e w9 ⟨rfl, hb⟩; refine ⟨_, rfl, ?_⟩; replace BK168 := Aside0.mk (blk_below (g := gb168) (o := .cells #[.int .i64 a0_0, .string a0_1, .slice A0_2 l0_2.length c0_2] 48 (0, 0)) (kI BK168.out) hb); replace BK169 := Aside0.mk (blk_below (g := gb169) (o := .cells #[.int .i64 a1_0, .string a1_1, .slice A1_2 l1_2.length c1_2] 48 (0, 0)) (kI BK169.out) hb); replace HB := Aside0.mk (below_step (bI HB.out) hb); (try clear hb); (try clear hb2); (try clear hk); (try clear hi)))
    go_ret
    exact ⟨by first | rfl | (simp [errW_none, errW_some] <;> rfl) | (simp [*, errW_none, errW_some] <;> rfl), bI HB.out⟩
  · rw [if_neg c4] at H
    have c4b0 : decide (t170 < 0) = false := decide_eq_false c4
    clear c4
    replace H := Option.bind_eq_some_iff.mp H
    obtain ⟨t171, A100, H⟩ := H
    replace H : (if t171 < 0 then (some true) else ((laws_toQc.f k a0_0 a0_1 l0_2).bind fun bt172 => ((laws_toQc.f k a1_0 a1_1 l1_2).bind fun bt177 => ((spec_QcLater.f bt172.1 bt172.2.1 bt172.2.2 bt177.1 bt177.2.1 bt177.2.2).bind fun bt182 => ((laws_toQc.f k a0_0 a0_1 l0_2).bind fun bt188 => ((laws_toQc.f k a1_0 a1_1 l1_2).bind fun bt194 => ((impl_QcLater.f bt188.1 bt188.2.1 bt188.2.2 bt194.1 bt194.2.1 bt194.2.2).bind fun bt200 => ((laws_eqQc.f k bt200.1 bt200.2.1 bt200.2.2 bt182.1 bt182.2.1 bt182.2.2).bind fun t206 => (if t206 = true then ((laws_toQc.f k a0_0 a0_1 l0_2).bind fun bt207 => ((laws_eqQc.f k bt188.1 bt188.2.1 bt188.2.2 bt207.1 bt207.2.1 bt207.2.2).bind fun t212 => (if t212 = true then ((laws_toQc.f k a1_0 a1_1 l1_2).bind fun bt213 => ((laws_eqQc.f k bt194.1 bt194.2.1 bt194.2.2 bt213.1 bt213.2.1 bt213.2.2).bind fun t218 => (if t218 = true then ((laws_markQc.f k bt188.1 bt188.2.1 bt188.2.2 1).bind fun bt219 => ((laws_markQc.f k bt194.1 bt194.2.1 bt194.2.2 bt219.1).bind fun bt221 => (if bt221.1 < 0 then (some false) else ((laws_eqQc.f k bt200.1 bt200.2.1 bt200.2.2 bt182.1 bt182.2.1 bt182.2.2).bind fun t223 => (if t223 = true then ((laws_markQc.f k bt200.1 bt200.2.1 bt200.2.2 1).bind fun bt224 => ((laws_heldQc.f k bt200.1 bt200.2.1 bt224.2 1).bind fun t226 => (if t226 < 0 then (some false) else (if t226 = bt224.1 then ((laws_toQc.f k a0_0 a0_1 l0_2).bind fun bt227 => ((laws_toQc.f k a1_0 a1_1 l1_2).bind fun bt232 => ((impl_QcLater.f bt227.1 bt227.2.1 bt227.2.2 bt232.1 bt232.2.1 bt232.2.2).bind fun bt237 => ((laws_eqQc.f k bt237.1 bt237.2.1 bt237.2.2 bt182.1 bt182.2.1 bt182.2.2).bind fun t243 => (if t243 = true then ((laws_heldQc.f k bt200.1 bt200.2.1 bt224.2 1).bind fun t244 => (if t244 < 0 then (some false) else (if t244 = bt224.1 then (some true) else (some false)))) else (some false)))))) else (some false))))) else (some false)))))) else (some false)))) else (some false)))) else (some false)))))))))) = some r := H
    have A10 := Aside0.mk A100
    clear A100
    by_cases c11 : t171 < 0
    · rw [if_pos c11] at H
      have c11b0 : decide (t171 < 0) = true := decide_eq_true c11
      clear c11
      obtain rfl := Option.some.inj H
      go_enter Try.func13, Try.ntmps13
      go_wp2_with (first | ((with_reducible refine gate_dst (N := 2) rfl ?_); refine box_event ?hg (N := 2) ?hd (cs := #[.int .i64 a0_0, .string a0_1, .slice A0_2 l0_2.length c0_2]) (t := 48) ?hr ?_; (case hd => rfl); (case hg => rfl); (case hr => first | (go_simp; done) | (go_simp; rfl)); intro gb168 hg w12 hbox hb; have BK168 := Aside0.mk (hbox); have GW168 := Aside0.mk ((by rw [hg]; exact (below_size (bI HB.out)) : w.heap.size ≤ gb168)); have GE168 := Aside0.mk ((by rw [hg]; exact (below_size (bI HB.out)) : w.heap.size ≤ gb168)); have GI168 := GeI.mk GE168.out; replace HB := Aside0.mk (below_step (bI HB.out) hb); clear hb hbox hg) | ((with_reducible refine gate_dst (N := 3) rfl ?_); refine box_event ?hg (N := 3) ?hd (cs := #[.int .i64 a1_0, .string a1_1, .slice A1_2 l1_2.length c1_2]) (t := 48) ?hr ?_; (case hd => rfl); (case hg => rfl); (case hr => first | (go_simp; done) | (go_simp; rfl)); intro gb169 hg w13 hbox hb; have BK169 := Aside0.mk (hbox); have GW169 := Aside0.mk ((by rw [hg]; exact (below_size (bI HB.out)) : w.heap.size ≤ gb169)); have GE169 := Aside0.mk ((by rw [hg]; exact (below_size (bI HB.out)) : w.heap.size ≤ gb169)); have GI169 := GeI.mk GE169.out; replace HB := Aside0.mk (below_step (bI HB.out) hb); have NB168_169 := Aside0.mk ((by rw [hg]; exact Nat.ne_of_lt (blk_lt (g := gb168) (o := .cells #[.int .i64 a0_0, .string a0_1, .slice A0_2 l0_2.length c0_2] 48 (0, 0)) (kI BK168.out)) : gb168 ≠ gb169)); have NB169_168 := Aside0.mk ((by rw [hg]; exact Nat.ne_of_gt (blk_lt (g := gb168) (o := .cells #[.int .i64 a0_0, .string a0_1, .slice A0_2 l0_2.length c0_2] 48 (0, 0)) (kI BK168.out)) : gb169 ≠ gb168)); replace BK168 := Aside0.mk (blk_below (g := gb168) (o := .cells #[.int .i64 a0_0, .string a0_1, .slice A0_2 l0_2.length c0_2] 48 (0, 0)) (kI BK168.out) hb); clear hb hbox hg; have hnb14 := NB168_169.out; have hnc14 := NB169_168.out; have hcz15_0 : w13.cell? ⟨gb168, 0, none⟩ = some (.int .i64 a0_0) := (blk_cell BK168.out 0).trans rfl; have hcz15_1 : w13.cell? ⟨gb168, 1, none⟩ = some (.string a0_1) := (blk_cell BK168.out 1).trans rfl; have hcz15_2 : w13.cell? ⟨gb168, 2, none⟩ = some (.slice A0_2 l0_2.length c0_2) := (blk_cell BK168.out 2).trans rfl; have hfz15_0 := blk_frozen BK168.out 0; have hfz15_1 := blk_frozen BK168.out 1; have hfz15_2 := blk_frozen BK168.out 2) | ((with_reducible refine gate_callee (f := 34) rfl ?_); refine goesL_ (some 16) rfl rfl Try.func34 (by kernel_rfl) rfl #[.agg #[.int .i64 a0_0, .string a0_1, .slice A0_2 l0_2.length c0_2], .int .i64 1048576] rfl (by (try simp only [List.map_toArray, List.map_cons, List.map_nil]); first | done | rfl | (simp only [List.length_drop, List.length_take]; rfl)) ?_; (with_reducible refine (laws_szQc.calls a0_0 a0_1 _ _ l0_2 1048576 t170 _ ?side1 ?side2 A3.out).mono ?_); (case side1 => repeat (first | exact (Kd.C_below HR0_2.out HB.out) | (with_reducible refine Kd.C_alloc ?_ _) | (with_reducible refine Kd.C_drewN ?_ _) | (with_reducible refine Kd.C_drew ?_))); (case side2 => exact HC0_2.out); rintro e w16 ⟨rfl, hb⟩; refine ⟨_, rfl, ?_⟩; replace BK168 := Aside0.mk (blk_below (g := gb168) (o := .cells #[.int .i64 a0_0, .string a0_1, .slice A0_2 l0_2.length c0_2] 48 (0, 0)) (kI BK168.out) hb); replace BK169 := Aside0.mk (blk_below (g := gb169) (o := .cells #[.int .i64 a1_0, .string a1_1, .slice A1_2 l1_2.length c1_2] 48 (0, 0)) (kI BK169.out) hb); replace HB := Aside0.mk (below_step (bI HB.out) hb); (try clear hb); (try clear hb2); (try clear hk); (try clear hi); have hcz17_0 : w16.cell? ⟨gb169, 0, none⟩ = some (.int .i64 a1_0) := (blk_cell BK169.out 0).trans rfl; have hcz17_1 : w16.cell? ⟨gb169, 1, none⟩ = some (.string a1_1) := (blk_cell BK169.out 1).trans rfl; have hcz17_2 : w16.cell? ⟨gb169, 2, none⟩ = some (.slice A1_2 l1_2.length c1_2) := (blk_cell BK169.out 2).trans rfl; have hfz17_0 := blk_frozen BK169.out 0; have hfz17_1 := blk_frozen BK169.out 1; have hfz17_2 := blk_frozen BK169.out 2) | ((with_reducible refine gate_callee (f := 34) rfl ?_); refine goesL_ (some 21) rfl rfl Try.func34 (by kernel_rfl) rfl #[.agg #[.int .i64 a1_0, .string a1_1, .slice A1_2 l1_2.length c1_2], .int .i64 t170] rfl (by (try simp only [List.map_toArray, List.map_cons, List.map_nil]); first | done | rfl | (simp only [List.length_drop, List.length_take]; rfl)) ?_; (with_reducible refine (laws_szQc.calls a1_0 a1_1 _ _ l1_2 t170 t171 _ ?side1 ?side2 A10.out).mono ?_); (case side1 => repeat (first | exact (Kd.C_below HR1_2.out HB.out) | (with_reducible refine Kd.C_alloc ?_ _) | (with_reducible refine Kd.C_drewN ?_ _) | (with_reducible refine Kd.C_drew ?_))); (case side2 => exact HC1_2.out); rintro e w18 ⟨rfl, hb⟩; refine ⟨_, rfl, ?_⟩; replace BK168 := Aside0.mk (blk_below (g := gb168) (o := .cells #[.int .i64 a0_0, .string a0_1, .slice A0_2 l0_2.length c0_2] 48 (0, 0)) (kI BK168.out) hb); replace BK169 := Aside0.mk (blk_below (g := gb169) (o := .cells #[.int .i64 a1_0, .string a1_1, .slice A1_2 l1_2.length c1_2] 48 (0, 0)) (kI BK169.out) hb); replace HB := Aside0.mk (below_step (bI HB.out) hb); (try clear hb); (try clear hb2); (try clear hk); (try clear hi)))
      go_ret
      exact ⟨by first | rfl | (simp [errW_none, errW_some] <;> rfl) | (simp [*, errW_none, errW_some] <;> rfl), bI HB.out⟩
    · rw [if_neg c11] at H
      have c11b0 : decide (t171 < 0) = false := decide_eq_false c11
      clear c11
      replace H := Option.bind_eq_some_iff.mp H
      obtain ⟨⟨t172, t173, t174⟩, A190, H⟩ := H
      replace H : ((laws_toQc.f k a1_0 a1_1 l1_2).bind fun bt177 => ((spec_QcLater.f t172 t173 t174 bt177.1 bt177.2.1 bt177.2.2).bind fun bt182 => ((laws_toQc.f k a0_0 a0_1 l0_2).bind fun bt188 => ((laws_toQc.f k a1_0 a1_1 l1_2).bind fun bt194 => ((impl_QcLater.f bt188.1 bt188.2.1 bt188.2.2 bt194.1 bt194.2.1 bt194.2.2).bind fun bt200 => ((laws_eqQc.f k bt200.1 bt200.2.1 bt200.2.2 bt182.1 bt182.2.1 bt182.2.2).bind fun t206 => (if t206 = true then ((laws_toQc.f k a0_0 a0_1 l0_2).bind fun bt207 => ((laws_eqQc.f k bt188.1 bt188.2.1 bt188.2.2 bt207.1 bt207.2.1 bt207.2.2).bind fun t212 => (if t212 = true then ((laws_toQc.f k a1_0 a1_1 l1_2).bind fun bt213 => ((laws_eqQc.f k bt194.1 bt194.2.1 bt194.2.2 bt213.1 bt213.2.1 bt213.2.2).bind fun t218 => (if t218 = true then ((laws_markQc.f k bt188.1 bt188.2.1 bt188.2.2 1).bind fun bt219 => ((laws_markQc.f k bt194.1 bt194.2.1 bt194.2.2 bt219.1).bind fun bt221 => (if bt221.1 < 0 then (some false) else ((laws_eqQc.f k bt200.1 bt200.2.1 bt200.2.2 bt182.1 bt182.2.1 bt182.2.2).bind fun t223 => (if t223 = true then ((laws_markQc.f k bt200.1 bt200.2.1 bt200.2.2 1).bind fun bt224 => ((laws_heldQc.f k bt200.1 bt200.2.1 bt224.2 1).bind fun t226 => (if t226 < 0 then (some false) else (if t226 = bt224.1 then ((laws_toQc.f k a0_0 a0_1 l0_2).bind fun bt227 => ((laws_toQc.f k a1_0 a1_1 l1_2).bind fun bt232 => ((impl_QcLater.f bt227.1 bt227.2.1 bt227.2.2 bt232.1 bt232.2.1 bt232.2.2).bind fun bt237 => ((laws_eqQc.f k bt237.1 bt237.2.1 bt237.2.2 bt182.1 bt182.2.1 bt182.2.2).bind fun t243 => (if t243 = true then ((laws_heldQc.f k bt200.1 bt200.2.1 bt224.2 1).bind fun t244 => (if t244 < 0 then (some false) else (if t244 = bt224.1 then (some true) else (some false)))) else (some false)))))) else (some false))))) else (some false)))))) else (some false)))) else (some false)))) else (some false)))))))) = some r := H
      have A19 := Aside0.mk A190
      clear A190
      replace H := Option.bind_eq_some_iff.mp H
      obtain ⟨⟨t177, t178, t179⟩, A200, H⟩ := H
      replace H : ((spec_QcLater.f t172 t173 t174 t177 t178 t179).bind fun bt182 => ((laws_toQc.f k a0_0 a0_1 l0_2).bind fun bt188 => ((laws_toQc.f k a1_0 a1_1 l1_2).bind fun bt194 => ((impl_QcLater.f bt188.1 bt188.2.1 bt188.2.2 bt194.1 bt194.2.1 bt194.2.2).bind fun bt200 => ((laws_eqQc.f k bt200.1 bt200.2.1 bt200.2.2 bt182.1 bt182.2.1 bt182.2.2).bind fun t206 => (if t206 = true then ((laws_toQc.f k a0_0 a0_1 l0_2).bind fun bt207 => ((laws_eqQc.f k bt188.1 bt188.2.1 bt188.2.2 bt207.1 bt207.2.1 bt207.2.2).bind fun t212 => (if t212 = true then ((laws_toQc.f k a1_0 a1_1 l1_2).bind fun bt213 => ((laws_eqQc.f k bt194.1 bt194.2.1 bt194.2.2 bt213.1 bt213.2.1 bt213.2.2).bind fun t218 => (if t218 = true then ((laws_markQc.f k bt188.1 bt188.2.1 bt188.2.2 1).bind fun bt219 => ((laws_markQc.f k bt194.1 bt194.2.1 bt194.2.2 bt219.1).bind fun bt221 => (if bt221.1 < 0 then (some false) else ((laws_eqQc.f k bt200.1 bt200.2.1 bt200.2.2 bt182.1 bt182.2.1 bt182.2.2).bind fun t223 => (if t223 = true then ((laws_markQc.f k bt200.1 bt200.2.1 bt200.2.2 1).bind fun bt224 => ((laws_heldQc.f k bt200.1 bt200.2.1 bt224.2 1).bind fun t226 => (if t226 < 0 then (some false) else (if t226 = bt224.1 then ((laws_toQc.f k a0_0 a0_1 l0_2).bind fun bt227 => ((laws_toQc.f k a1_0 a1_1 l1_2).bind fun bt232 => ((impl_QcLater.f bt227.1 bt227.2.1 bt227.2.2 bt232.1 bt232.2.1 bt232.2.2).bind fun bt237 => ((laws_eqQc.f k bt237.1 bt237.2.1 bt237.2.2 bt182.1 bt182.2.1 bt182.2.2).bind fun t243 => (if t243 = true then ((laws_heldQc.f k bt200.1 bt200.2.1 bt224.2 1).bind fun t244 => (if t244 < 0 then (some false) else (if t244 = bt224.1 then (some true) else (some false)))) else (some false)))))) else (some false))))) else (some false)))))) else (some false)))) else (some false)))) else (some false))))))) = some r := H
      have A20 := Aside0.mk A200
      clear A200
      replace H := Option.bind_eq_some_iff.mp H
      obtain ⟨⟨t182, t183, t184⟩, A210, H⟩ := H
      replace H : ((laws_toQc.f k a0_0 a0_1 l0_2).bind fun bt188 => ((laws_toQc.f k a1_0 a1_1 l1_2).bind fun bt194 => ((impl_QcLater.f bt188.1 bt188.2.1 bt188.2.2 bt194.1 bt194.2.1 bt194.2.2).bind fun bt200 => ((laws_eqQc.f k bt200.1 bt200.2.1 bt200.2.2 t182 t183 t184).bind fun t206 => (if t206 = true then ((laws_toQc.f k a0_0 a0_1 l0_2).bind fun bt207 => ((laws_eqQc.f k bt188.1 bt188.2.1 bt188.2.2 bt207.1 bt207.2.1 bt207.2.2).bind fun t212 => (if t212 = true then ((laws_toQc.f k a1_0 a1_1 l1_2).bind fun bt213 => ((laws_eqQc.f k bt194.1 bt194.2.1 bt194.2.2 bt213.1 bt213.2.1 bt213.2.2).bind fun t218 => (if t218 = true then ((laws_markQc.f k bt188.1 bt188.2.1 bt188.2.2 1).bind fun bt219 => ((laws_markQc.f k bt194.1 bt194.2.1 bt194.2.2 bt219.1).bind fun bt221 => (if bt221.1 < 0 then (some false) else ((laws_eqQc.f k bt200.1 bt200.2.1 bt200.2.2 t182 t183 t184).bind fun t223 => (if t223 = true then ((laws_markQc.f k bt200.1 bt200.2.1 bt200.2.2 1).bind fun bt224 => ((laws_heldQc.f k bt200.1 bt200.2.1 bt224.2 1).bind fun t226 => (if t226 < 0 then (some false) else (if t226 = bt224.1 then ((laws_toQc.f k a0_0 a0_1 l0_2).bind fun bt227 => ((laws_toQc.f k a1_0 a1_1 l1_2).bind fun bt232 => ((impl_QcLater.f bt227.1 bt227.2.1 bt227.2.2 bt232.1 bt232.2.1 bt232.2.2).bind fun bt237 => ((laws_eqQc.f k bt237.1 bt237.2.1 bt237.2.2 t182 t183 t184).bind fun t243 => (if t243 = true then ((laws_heldQc.f k bt200.1 bt200.2.1 bt224.2 1).bind fun t244 => (if t244 < 0 then (some false) else (if t244 = bt224.1 then (some true) else (some false)))) else (some false)))))) else (some false))))) else (some false)))))) else (some false)))) else (some false)))) else (some false)))))) = some r := H
      have A21 := Aside0.mk A210
      clear A210
      replace H := Option.bind_eq_some_iff.mp H
      obtain ⟨⟨t188, t189, t190⟩, A220, H⟩ := H
      replace H : ((laws_toQc.f k a1_0 a1_1 l1_2).bind fun bt194 => ((impl_QcLater.f t188 t189 t190 bt194.1 bt194.2.1 bt194.2.2).bind fun bt200 => ((laws_eqQc.f k bt200.1 bt200.2.1 bt200.2.2 t182 t183 t184).bind fun t206 => (if t206 = true then ((laws_toQc.f k a0_0 a0_1 l0_2).bind fun bt207 => ((laws_eqQc.f k t188 t189 t190 bt207.1 bt207.2.1 bt207.2.2).bind fun t212 => (if t212 = true then ((laws_toQc.f k a1_0 a1_1 l1_2).bind fun bt213 => ((laws_eqQc.f k bt194.1 bt194.2.1 bt194.2.2 bt213.1 bt213.2.1 bt213.2.2).bind fun t218 => (if t218 = true then ((laws_markQc.f k t188 t189 t190 1).bind fun bt219 => ((laws_markQc.f k bt194.1 bt194.2.1 bt194.2.2 bt219.1).bind fun bt221 => (if bt221.1 < 0 then (some false) else ((laws_eqQc.f k bt200.1 bt200.2.1 bt200.2.2 t182 t183 t184).bind fun t223 => (if t223 = true then ((laws_markQc.f k bt200.1 bt200.2.1 bt200.2.2 1).bind fun bt224 => ((laws_heldQc.f k bt200.1 bt200.2.1 bt224.2 1).bind fun t226 => (if t226 < 0 then (some false) else (if t226 = bt224.1 then ((laws_toQc.f k a0_0 a0_1 l0_2).bind fun bt227 => ((laws_toQc.f k a1_0 a1_1 l1_2).bind fun bt232 => ((impl_QcLater.f bt227.1 bt227.2.1 bt227.2.2 bt232.1 bt232.2.1 bt232.2.2).bind fun bt237 => ((laws_eqQc.f k bt237.1 bt237.2.1 bt237.2.2 t182 t183 t184).bind fun t243 => (if t243 = true then ((laws_heldQc.f k bt200.1 bt200.2.1 bt224.2 1).bind fun t244 => (if t244 < 0 then (some false) else (if t244 = bt224.1 then (some true) else (some false)))) else (some false)))))) else (some false))))) else (some false)))))) else (some false)))) else (some false)))) else (some false))))) = some r := H
      have A22 := Aside0.mk A220
      clear A220
      replace H := Option.bind_eq_some_iff.mp H
      obtain ⟨⟨t194, t195, t196⟩, A230, H⟩ := H
      replace H : ((impl_QcLater.f t188 t189 t190 t194 t195 t196).bind fun bt200 => ((laws_eqQc.f k bt200.1 bt200.2.1 bt200.2.2 t182 t183 t184).bind fun t206 => (if t206 = true then ((laws_toQc.f k a0_0 a0_1 l0_2).bind fun bt207 => ((laws_eqQc.f k t188 t189 t190 bt207.1 bt207.2.1 bt207.2.2).bind fun t212 => (if t212 = true then ((laws_toQc.f k a1_0 a1_1 l1_2).bind fun bt213 => ((laws_eqQc.f k t194 t195 t196 bt213.1 bt213.2.1 bt213.2.2).bind fun t218 => (if t218 = true then ((laws_markQc.f k t188 t189 t190 1).bind fun bt219 => ((laws_markQc.f k t194 t195 t196 bt219.1).bind fun bt221 => (if bt221.1 < 0 then (some false) else ((laws_eqQc.f k bt200.1 bt200.2.1 bt200.2.2 t182 t183 t184).bind fun t223 => (if t223 = true then ((laws_markQc.f k bt200.1 bt200.2.1 bt200.2.2 1).bind fun bt224 => ((laws_heldQc.f k bt200.1 bt200.2.1 bt224.2 1).bind fun t226 => (if t226 < 0 then (some false) else (if t226 = bt224.1 then ((laws_toQc.f k a0_0 a0_1 l0_2).bind fun bt227 => ((laws_toQc.f k a1_0 a1_1 l1_2).bind fun bt232 => ((impl_QcLater.f bt227.1 bt227.2.1 bt227.2.2 bt232.1 bt232.2.1 bt232.2.2).bind fun bt237 => ((laws_eqQc.f k bt237.1 bt237.2.1 bt237.2.2 t182 t183 t184).bind fun t243 => (if t243 = true then ((laws_heldQc.f k bt200.1 bt200.2.1 bt224.2 1).bind fun t244 => (if t244 < 0 then (some false) else (if t244 = bt224.1 then (some true) else (some false)))) else (some false)))))) else (some false))))) else (some false)))))) else (some false)))) else (some false)))) else (some false)))) = some r := H
      have A23 := Aside0.mk A230
      clear A230
      replace H := Option.bind_eq_some_iff.mp H
      obtain ⟨⟨t200, t201, t202⟩, A240, H⟩ := H
      replace H : ((laws_eqQc.f k t200 t201 t202 t182 t183 t184).bind fun t206 => (if t206 = true then ((laws_toQc.f k a0_0 a0_1 l0_2).bind fun bt207 => ((laws_eqQc.f k t188 t189 t190 bt207.1 bt207.2.1 bt207.2.2).bind fun t212 => (if t212 = true then ((laws_toQc.f k a1_0 a1_1 l1_2).bind fun bt213 => ((laws_eqQc.f k t194 t195 t196 bt213.1 bt213.2.1 bt213.2.2).bind fun t218 => (if t218 = true then ((laws_markQc.f k t188 t189 t190 1).bind fun bt219 => ((laws_markQc.f k t194 t195 t196 bt219.1).bind fun bt221 => (if bt221.1 < 0 then (some false) else ((laws_eqQc.f k t200 t201 t202 t182 t183 t184).bind fun t223 => (if t223 = true then ((laws_markQc.f k t200 t201 t202 1).bind fun bt224 => ((laws_heldQc.f k t200 t201 bt224.2 1).bind fun t226 => (if t226 < 0 then (some false) else (if t226 = bt224.1 then ((laws_toQc.f k a0_0 a0_1 l0_2).bind fun bt227 => ((laws_toQc.f k a1_0 a1_1 l1_2).bind fun bt232 => ((impl_QcLater.f bt227.1 bt227.2.1 bt227.2.2 bt232.1 bt232.2.1 bt232.2.2).bind fun bt237 => ((laws_eqQc.f k bt237.1 bt237.2.1 bt237.2.2 t182 t183 t184).bind fun t243 => (if t243 = true then ((laws_heldQc.f k t200 t201 bt224.2 1).bind fun t244 => (if t244 < 0 then (some false) else (if t244 = bt224.1 then (some true) else (some false)))) else (some false)))))) else (some false))))) else (some false)))))) else (some false)))) else (some false)))) else (some false))) = some r := H
      have A24 := Aside0.mk A240
      clear A240
      replace H := Option.bind_eq_some_iff.mp H
      obtain ⟨t206, A250, H⟩ := H
      replace H : (if t206 = true then ((laws_toQc.f k a0_0 a0_1 l0_2).bind fun bt207 => ((laws_eqQc.f k t188 t189 t190 bt207.1 bt207.2.1 bt207.2.2).bind fun t212 => (if t212 = true then ((laws_toQc.f k a1_0 a1_1 l1_2).bind fun bt213 => ((laws_eqQc.f k t194 t195 t196 bt213.1 bt213.2.1 bt213.2.2).bind fun t218 => (if t218 = true then ((laws_markQc.f k t188 t189 t190 1).bind fun bt219 => ((laws_markQc.f k t194 t195 t196 bt219.1).bind fun bt221 => (if bt221.1 < 0 then (some false) else ((laws_eqQc.f k t200 t201 t202 t182 t183 t184).bind fun t223 => (if t223 = true then ((laws_markQc.f k t200 t201 t202 1).bind fun bt224 => ((laws_heldQc.f k t200 t201 bt224.2 1).bind fun t226 => (if t226 < 0 then (some false) else (if t226 = bt224.1 then ((laws_toQc.f k a0_0 a0_1 l0_2).bind fun bt227 => ((laws_toQc.f k a1_0 a1_1 l1_2).bind fun bt232 => ((impl_QcLater.f bt227.1 bt227.2.1 bt227.2.2 bt232.1 bt232.2.1 bt232.2.2).bind fun bt237 => ((laws_eqQc.f k bt237.1 bt237.2.1 bt237.2.2 t182 t183 t184).bind fun t243 => (if t243 = true then ((laws_heldQc.f k t200 t201 bt224.2 1).bind fun t244 => (if t244 < 0 then (some false) else (if t244 = bt224.1 then (some true) else (some false)))) else (some false)))))) else (some false))))) else (some false)))))) else (some false)))) else (some false)))) else (some false)) = some r := H
      have A25 := Aside0.mk A250
      clear A250
      by_cases c26 : t206 = true
      · subst c26
        have H1 : ((laws_toQc.f k a0_0 a0_1 l0_2).bind fun bt207 => ((laws_eqQc.f k t188 t189 t190 bt207.1 bt207.2.1 bt207.2.2).bind fun t212 => (if t212 = true then ((laws_toQc.f k a1_0 a1_1 l1_2).bind fun bt213 => ((laws_eqQc.f k t194 t195 t196 bt213.1 bt213.2.1 bt213.2.2).bind fun t218 => (if t218 = true then ((laws_markQc.f k t188 t189 t190 1).bind fun bt219 => ((laws_markQc.f k t194 t195 t196 bt219.1).bind fun bt221 => (if bt221.1 < 0 then (some false) else ((laws_eqQc.f k t200 t201 t202 t182 t183 t184).bind fun t223 => (if t223 = true then ((laws_markQc.f k t200 t201 t202 1).bind fun bt224 => ((laws_heldQc.f k t200 t201 bt224.2 1).bind fun t226 => (if t226 < 0 then (some false) else (if t226 = bt224.1 then ((laws_toQc.f k a0_0 a0_1 l0_2).bind fun bt227 => ((laws_toQc.f k a1_0 a1_1 l1_2).bind fun bt232 => ((impl_QcLater.f bt227.1 bt227.2.1 bt227.2.2 bt232.1 bt232.2.1 bt232.2.2).bind fun bt237 => ((laws_eqQc.f k bt237.1 bt237.2.1 bt237.2.2 t182 t183 t184).bind fun t243 => (if t243 = true then ((laws_heldQc.f k t200 t201 bt224.2 1).bind fun t244 => (if t244 < 0 then (some false) else (if t244 = bt224.1 then (some true) else (some false)))) else (some false)))))) else (some false))))) else (some false)))))) else (some false)))) else (some false)))) = some r := by rw [if_pos rfl] at H; exact H
        clear H
        have H := H1
        clear H1
        replace H := Option.bind_eq_some_iff.mp H
        obtain ⟨⟨t207, t208, t209⟩, A270, H⟩ := H
        replace H : ((laws_eqQc.f k t188 t189 t190 t207 t208 t209).bind fun t212 => (if t212 = true then ((laws_toQc.f k a1_0 a1_1 l1_2).bind fun bt213 => ((laws_eqQc.f k t194 t195 t196 bt213.1 bt213.2.1 bt213.2.2).bind fun t218 => (if t218 = true then ((laws_markQc.f k t188 t189 t190 1).bind fun bt219 => ((laws_markQc.f k t194 t195 t196 bt219.1).bind fun bt221 => (if bt221.1 < 0 then (some false) else ((laws_eqQc.f k t200 t201 t202 t182 t183 t184).bind fun t223 => (if t223 = true then ((laws_markQc.f k t200 t201 t202 1).bind fun bt224 => ((laws_heldQc.f k t200 t201 bt224.2 1).bind fun t226 => (if t226 < 0 then (some false) else (if t226 = bt224.1 then ((laws_toQc.f k a0_0 a0_1 l0_2).bind fun bt227 => ((laws_toQc.f k a1_0 a1_1 l1_2).bind fun bt232 => ((impl_QcLater.f bt227.1 bt227.2.1 bt227.2.2 bt232.1 bt232.2.1 bt232.2.2).bind fun bt237 => ((laws_eqQc.f k bt237.1 bt237.2.1 bt237.2.2 t182 t183 t184).bind fun t243 => (if t243 = true then ((laws_heldQc.f k t200 t201 bt224.2 1).bind fun t244 => (if t244 < 0 then (some false) else (if t244 = bt224.1 then (some true) else (some false)))) else (some false)))))) else (some false))))) else (some false)))))) else (some false)))) else (some false))) = some r := H
        have A27 := Aside0.mk A270
        clear A270
        replace H := Option.bind_eq_some_iff.mp H
        obtain ⟨t212, A280, H⟩ := H
        replace H : (if t212 = true then ((laws_toQc.f k a1_0 a1_1 l1_2).bind fun bt213 => ((laws_eqQc.f k t194 t195 t196 bt213.1 bt213.2.1 bt213.2.2).bind fun t218 => (if t218 = true then ((laws_markQc.f k t188 t189 t190 1).bind fun bt219 => ((laws_markQc.f k t194 t195 t196 bt219.1).bind fun bt221 => (if bt221.1 < 0 then (some false) else ((laws_eqQc.f k t200 t201 t202 t182 t183 t184).bind fun t223 => (if t223 = true then ((laws_markQc.f k t200 t201 t202 1).bind fun bt224 => ((laws_heldQc.f k t200 t201 bt224.2 1).bind fun t226 => (if t226 < 0 then (some false) else (if t226 = bt224.1 then ((laws_toQc.f k a0_0 a0_1 l0_2).bind fun bt227 => ((laws_toQc.f k a1_0 a1_1 l1_2).bind fun bt232 => ((impl_QcLater.f bt227.1 bt227.2.1 bt227.2.2 bt232.1 bt232.2.1 bt232.2.2).bind fun bt237 => ((laws_eqQc.f k bt237.1 bt237.2.1 bt237.2.2 t182 t183 t184).bind fun t243 => (if t243 = true then ((laws_heldQc.f k t200 t201 bt224.2 1).bind fun t244 => (if t244 < 0 then (some false) else (if t244 = bt224.1 then (some true) else (some false)))) else (some false)))))) else (some false))))) else (some false)))))) else (some false)))) else (some false)) = some r := H
        have A28 := Aside0.mk A280
        clear A280
        by_cases c29 : t212 = true
        rotate_left
        · replace c29 := Bool.eq_false_iff.mpr c29
          subst c29
          have H1 : (some false) = some r := by rw [if_neg (show ¬ (false = true) by decide)] at H; exact H
          clear H
          have H := H1
          clear H1
          exact absurd (hrt.out.symm.trans (Option.some.inj H).symm) (by decide)
        subst c29
        have H1 : ((laws_toQc.f k a1_0 a1_1 l1_2).bind fun bt213 => ((laws_eqQc.f k t194 t195 t196 bt213.1 bt213.2.1 bt213.2.2).bind fun t218 => (if t218 = true then ((laws_markQc.f k t188 t189 t190 1).bind fun bt219 => ((laws_markQc.f k t194 t195 t196 bt219.1).bind fun bt221 => (if bt221.1 < 0 then (some false) else ((laws_eqQc.f k t200 t201 t202 t182 t183 t184).bind fun t223 => (if t223 = true then ((laws_markQc.f k t200 t201 t202 1).bind fun bt224 => ((laws_heldQc.f k t200 t201 bt224.2 1).bind fun t226 => (if t226 < 0 then (some false) else (if t226 = bt224.1 then ((laws_toQc.f k a0_0 a0_1 l0_2).bind fun bt227 => ((laws_toQc.f k a1_0 a1_1 l1_2).bind fun bt232 => ((impl_QcLater.f bt227.1 bt227.2.1 bt227.2.2 bt232.1 bt232.2.1 bt232.2.2).bind fun bt237 => ((laws_eqQc.f k bt237.1 bt237.2.1 bt237.2.2 t182 t183 t184).bind fun t243 => (if t243 = true then ((laws_heldQc.f k t200 t201 bt224.2 1).bind fun t244 => (if t244 < 0 then (some false) else (if t244 = bt224.1 then (some true) else (some false)))) else (some false)))))) else (some false))))) else (some false)))))) else (some false)))) = some r := by rw [if_pos rfl] at H; exact H
        clear H
        have H := H1
        clear H1
        replace H := Option.bind_eq_some_iff.mp H
        obtain ⟨⟨t213, t214, t215⟩, A300, H⟩ := H
        replace H : ((laws_eqQc.f k t194 t195 t196 t213 t214 t215).bind fun t218 => (if t218 = true then ((laws_markQc.f k t188 t189 t190 1).bind fun bt219 => ((laws_markQc.f k t194 t195 t196 bt219.1).bind fun bt221 => (if bt221.1 < 0 then (some false) else ((laws_eqQc.f k t200 t201 t202 t182 t183 t184).bind fun t223 => (if t223 = true then ((laws_markQc.f k t200 t201 t202 1).bind fun bt224 => ((laws_heldQc.f k t200 t201 bt224.2 1).bind fun t226 => (if t226 < 0 then (some false) else (if t226 = bt224.1 then ((laws_toQc.f k a0_0 a0_1 l0_2).bind fun bt227 => ((laws_toQc.f k a1_0 a1_1 l1_2).bind fun bt232 => ((impl_QcLater.f bt227.1 bt227.2.1 bt227.2.2 bt232.1 bt232.2.1 bt232.2.2).bind fun bt237 => ((laws_eqQc.f k bt237.1 bt237.2.1 bt237.2.2 t182 t183 t184).bind fun t243 => (if t243 = true then ((laws_heldQc.f k t200 t201 bt224.2 1).bind fun t244 => (if t244 < 0 then (some false) else (if t244 = bt224.1 then (some true) else (some false)))) else (some false)))))) else (some false))))) else (some false)))))) else (some false))) = some r := H
        have A30 := Aside0.mk A300
        clear A300
        replace H := Option.bind_eq_some_iff.mp H
        obtain ⟨t218, A310, H⟩ := H
        replace H : (if t218 = true then ((laws_markQc.f k t188 t189 t190 1).bind fun bt219 => ((laws_markQc.f k t194 t195 t196 bt219.1).bind fun bt221 => (if bt221.1 < 0 then (some false) else ((laws_eqQc.f k t200 t201 t202 t182 t183 t184).bind fun t223 => (if t223 = true then ((laws_markQc.f k t200 t201 t202 1).bind fun bt224 => ((laws_heldQc.f k t200 t201 bt224.2 1).bind fun t226 => (if t226 < 0 then (some false) else (if t226 = bt224.1 then ((laws_toQc.f k a0_0 a0_1 l0_2).bind fun bt227 => ((laws_toQc.f k a1_0 a1_1 l1_2).bind fun bt232 => ((impl_QcLater.f bt227.1 bt227.2.1 bt227.2.2 bt232.1 bt232.2.1 bt232.2.2).bind fun bt237 => ((laws_eqQc.f k bt237.1 bt237.2.1 bt237.2.2 t182 t183 t184).bind fun t243 => (if t243 = true then ((laws_heldQc.f k t200 t201 bt224.2 1).bind fun t244 => (if t244 < 0 then (some false) else (if t244 = bt224.1 then (some true) else (some false)))) else (some false)))))) else (some false))))) else (some false)))))) else (some false)) = some r := H
        have A31 := Aside0.mk A310
        clear A310
        by_cases c32 : t218 = true
        rotate_left
        · replace c32 := Bool.eq_false_iff.mpr c32
          subst c32
          have H1 : (some false) = some r := by rw [if_neg (show ¬ (false = true) by decide)] at H; exact H
          clear H
          have H := H1
          clear H1
          exact absurd (hrt.out.symm.trans (Option.some.inj H).symm) (by decide)
        subst c32
        have H1 : ((laws_markQc.f k t188 t189 t190 1).bind fun bt219 => ((laws_markQc.f k t194 t195 t196 bt219.1).bind fun bt221 => (if bt221.1 < 0 then (some false) else ((laws_eqQc.f k t200 t201 t202 t182 t183 t184).bind fun t223 => (if t223 = true then ((laws_markQc.f k t200 t201 t202 1).bind fun bt224 => ((laws_heldQc.f k t200 t201 bt224.2 1).bind fun t226 => (if t226 < 0 then (some false) else (if t226 = bt224.1 then ((laws_toQc.f k a0_0 a0_1 l0_2).bind fun bt227 => ((laws_toQc.f k a1_0 a1_1 l1_2).bind fun bt232 => ((impl_QcLater.f bt227.1 bt227.2.1 bt227.2.2 bt232.1 bt232.2.1 bt232.2.2).bind fun bt237 => ((laws_eqQc.f k bt237.1 bt237.2.1 bt237.2.2 t182 t183 t184).bind fun t243 => (if t243 = true then ((laws_heldQc.f k t200 t201 bt224.2 1).bind fun t244 => (if t244 < 0 then (some false) else (if t244 = bt224.1 then (some true) else (some false)))) else (some false)))))) else (some false))))) else (some false)))))) = some r := by rw [if_pos rfl] at H; exact H
        clear H
        have H := H1
        clear H1
        replace H := Option.bind_eq_some_iff.mp H
        obtain ⟨⟨t219, t220⟩, A330, H⟩ := H
        replace H : ((laws_markQc.f k t194 t195 t196 t219).bind fun bt221 => (if bt221.1 < 0 then (some false) else ((laws_eqQc.f k t200 t201 t202 t182 t183 t184).bind fun t223 => (if t223 = true then ((laws_markQc.f k t200 t201 t202 1).bind fun bt224 => ((laws_heldQc.f k t200 t201 bt224.2 1).bind fun t226 => (if t226 < 0 then (some false) else (if t226 = bt224.1 then ((laws_toQc.f k a0_0 a0_1 l0_2).bind fun bt227 => ((laws_toQc.f k a1_0 a1_1 l1_2).bind fun bt232 => ((impl_QcLater.f bt227.1 bt227.2.1 bt227.2.2 bt232.1 bt232.2.1 bt232.2.2).bind fun bt237 => ((laws_eqQc.f k bt237.1 bt237.2.1 bt237.2.2 t182 t183 t184).bind fun t243 => (if t243 = true then ((laws_heldQc.f k t200 t201 bt224.2 1).bind fun t244 => (if t244 < 0 then (some false) else (if t244 = bt224.1 then (some true) else (some false)))) else (some false)))))) else (some false))))) else (some false))))) = some r := H
        have A33 := Aside0.mk A330
        clear A330
        replace H := Option.bind_eq_some_iff.mp H
        obtain ⟨⟨t221, t222⟩, A340, H⟩ := H
        replace H : (if t221 < 0 then (some false) else ((laws_eqQc.f k t200 t201 t202 t182 t183 t184).bind fun t223 => (if t223 = true then ((laws_markQc.f k t200 t201 t202 1).bind fun bt224 => ((laws_heldQc.f k t200 t201 bt224.2 1).bind fun t226 => (if t226 < 0 then (some false) else (if t226 = bt224.1 then ((laws_toQc.f k a0_0 a0_1 l0_2).bind fun bt227 => ((laws_toQc.f k a1_0 a1_1 l1_2).bind fun bt232 => ((impl_QcLater.f bt227.1 bt227.2.1 bt227.2.2 bt232.1 bt232.2.1 bt232.2.2).bind fun bt237 => ((laws_eqQc.f k bt237.1 bt237.2.1 bt237.2.2 t182 t183 t184).bind fun t243 => (if t243 = true then ((laws_heldQc.f k t200 t201 bt224.2 1).bind fun t244 => (if t244 < 0 then (some false) else (if t244 = bt224.1 then (some true) else (some false)))) else (some false)))))) else (some false))))) else (some false)))) = some r := H
        have A34 := Aside0.mk A340
        clear A340
        by_cases c35 : t221 < 0
        · rw [if_pos c35] at H
          have c35b0 : decide (t221 < 0) = true := decide_eq_true c35
          clear c35
          exact absurd (hrt.out.symm.trans (Option.some.inj H).symm) (by decide)
        rw [if_neg c35] at H
        have c35b0 : decide (t221 < 0) = false := decide_eq_false c35
        clear c35
        replace H := Option.bind_eq_some_iff.mp H
        obtain ⟨t223, A360, H⟩ := H
        replace H : (if t223 = true then ((laws_markQc.f k t200 t201 t202 1).bind fun bt224 => ((laws_heldQc.f k t200 t201 bt224.2 1).bind fun t226 => (if t226 < 0 then (some false) else (if t226 = bt224.1 then ((laws_toQc.f k a0_0 a0_1 l0_2).bind fun bt227 => ((laws_toQc.f k a1_0 a1_1 l1_2).bind fun bt232 => ((impl_QcLater.f bt227.1 bt227.2.1 bt227.2.2 bt232.1 bt232.2.1 bt232.2.2).bind fun bt237 => ((laws_eqQc.f k bt237.1 bt237.2.1 bt237.2.2 t182 t183 t184).bind fun t243 => (if t243 = true then ((laws_heldQc.f k t200 t201 bt224.2 1).bind fun t244 => (if t244 < 0 then (some false) else (if t244 = bt224.1 then (some true) else (some false)))) else (some false)))))) else (some false))))) else (some false)) = some r := H
        have A36 := Aside0.mk A360
        clear A360
        by_cases c37 : t223 = true
        rotate_left
        · replace c37 := Bool.eq_false_iff.mpr c37
          subst c37
          have H1 : (some false) = some r := by rw [if_neg (show ¬ (false = true) by decide)] at H; exact H
          clear H
          have H := H1
          clear H1
          exact absurd (hrt.out.symm.trans (Option.some.inj H).symm) (by decide)
        subst c37
        have H1 : ((laws_markQc.f k t200 t201 t202 1).bind fun bt224 => ((laws_heldQc.f k t200 t201 bt224.2 1).bind fun t226 => (if t226 < 0 then (some false) else (if t226 = bt224.1 then ((laws_toQc.f k a0_0 a0_1 l0_2).bind fun bt227 => ((laws_toQc.f k a1_0 a1_1 l1_2).bind fun bt232 => ((impl_QcLater.f bt227.1 bt227.2.1 bt227.2.2 bt232.1 bt232.2.1 bt232.2.2).bind fun bt237 => ((laws_eqQc.f k bt237.1 bt237.2.1 bt237.2.2 t182 t183 t184).bind fun t243 => (if t243 = true then ((laws_heldQc.f k t200 t201 bt224.2 1).bind fun t244 => (if t244 < 0 then (some false) else (if t244 = bt224.1 then (some true) else (some false)))) else (some false)))))) else (some false))))) = some r := by rw [if_pos rfl] at H; exact H
        clear H
        have H := H1
        clear H1
        replace H := Option.bind_eq_some_iff.mp H
        obtain ⟨⟨t224, t225⟩, A380, H⟩ := H
        replace H : ((laws_heldQc.f k t200 t201 t225 1).bind fun t226 => (if t226 < 0 then (some false) else (if t226 = t224 then ((laws_toQc.f k a0_0 a0_1 l0_2).bind fun bt227 => ((laws_toQc.f k a1_0 a1_1 l1_2).bind fun bt232 => ((impl_QcLater.f bt227.1 bt227.2.1 bt227.2.2 bt232.1 bt232.2.1 bt232.2.2).bind fun bt237 => ((laws_eqQc.f k bt237.1 bt237.2.1 bt237.2.2 t182 t183 t184).bind fun t243 => (if t243 = true then ((laws_heldQc.f k t200 t201 t225 1).bind fun t244 => (if t244 < 0 then (some false) else (if t244 = t224 then (some true) else (some false)))) else (some false)))))) else (some false)))) = some r := H
        have A38 := Aside0.mk A380
        clear A380
        replace H := Option.bind_eq_some_iff.mp H
        obtain ⟨t226, A390, H⟩ := H
        replace H : (if t226 < 0 then (some false) else (if t226 = t224 then ((laws_toQc.f k a0_0 a0_1 l0_2).bind fun bt227 => ((laws_toQc.f k a1_0 a1_1 l1_2).bind fun bt232 => ((impl_QcLater.f bt227.1 bt227.2.1 bt227.2.2 bt232.1 bt232.2.1 bt232.2.2).bind fun bt237 => ((laws_eqQc.f k bt237.1 bt237.2.1 bt237.2.2 t182 t183 t184).bind fun t243 => (if t243 = true then ((laws_heldQc.f k t200 t201 t225 1).bind fun t244 => (if t244 < 0 then (some false) else (if t244 = t224 then (some true) else (some false)))) else (some false)))))) else (some false))) = some r := H
        have A39 := Aside0.mk A390
        clear A390
        by_cases c40 : t226 < 0
        · rw [if_pos c40] at H
          have c40b0 : decide (t226 < 0) = true := decide_eq_true c40
          clear c40
          exact absurd (hrt.out.symm.trans (Option.some.inj H).symm) (by decide)
        rw [if_neg c40] at H
        have c40b0 : decide (t226 < 0) = false := decide_eq_false c40
        clear c40
        by_cases c41 : t226 = t224
        rotate_left
        · rw [if_neg c41] at H
          have c41b0 : (t226 == t224) = false := beq_eq_false_iff_ne.mpr c41
          have c41b1 : (t226 != t224) = true := bne_iff_ne.mpr c41
          exact absurd (hrt.out.symm.trans (Option.some.inj H).symm) (by decide)
        rw [if_pos c41] at H
        have c41b0 : (t226 == t224) = true := beq_iff_eq.mpr c41
        have c41b1 : (t226 != t224) = false := bne_eq_false_iff_eq.mpr c41
        clear c41
        replace H := Option.bind_eq_some_iff.mp H
        obtain ⟨⟨t227, t228, t229⟩, A420, H⟩ := H
        replace H : ((laws_toQc.f k a1_0 a1_1 l1_2).bind fun bt232 => ((impl_QcLater.f t227 t228 t229 bt232.1 bt232.2.1 bt232.2.2).bind fun bt237 => ((laws_eqQc.f k bt237.1 bt237.2.1 bt237.2.2 t182 t183 t184).bind fun t243 => (if t243 = true then ((laws_heldQc.f k t200 t201 t225 1).bind fun t244 => (if t244 < 0 then (some false) else (if t244 = t224 then (some true) else (some false)))) else (some false))))) = some r := H
        have A42 := Aside0.mk A420
        clear A420
        replace H := Option.bind_eq_some_iff.mp H
        obtain ⟨⟨t232, t233, t234⟩, A430, H⟩ := H
        replace H : ((impl_QcLater.f t227 t228 t229 t232 t233 t234).bind fun bt237 => ((laws_eqQc.f k bt237.1 bt237.2.1 bt237.2.2 t182 t183 t184).bind fun t243 => (if t243 = true then ((laws_heldQc.f k t200 t201 t225 1).bind fun t244 => (if t244 < 0 then (some false) else (if t244 = t224 then (some true) else (some false)))) else (some false)))) = some r := H
        have A43 := Aside0.mk A430
        clear A430
        replace H := Option.bind_eq_some_iff.mp H
        obtain ⟨⟨t237, t238, t239⟩, A440, H⟩ := H
        replace H : ((laws_eqQc.f k t237 t238 t239 t182 t183 t184).bind fun t243 => (if t243 = true then ((laws_heldQc.f k t200 t201 t225 1).bind fun t244 => (if t244 < 0 then (some false) else (if t244 = t224 then (some true) else (some false)))) else (some false))) = some r := H
        have A44 := Aside0.mk A440
        clear A440
        replace H := Option.bind_eq_some_iff.mp H
        obtain ⟨t243, A450, H⟩ := H
        replace H : (if t243 = true then ((laws_heldQc.f k t200 t201 t225 1).bind fun t244 => (if t244 < 0 then (some false) else (if t244 = t224 then (some true) else (some false)))) else (some false)) = some r := H
        have A45 := Aside0.mk A450
        clear A450
        by_cases c46 : t243 = true
        rotate_left
        · replace c46 := Bool.eq_false_iff.mpr c46
          subst c46
          have H1 : (some false) = some r := by rw [if_neg (show ¬ (false = true) by decide)] at H; exact H
          clear H
          have H := H1
          clear H1
          exact absurd (hrt.out.symm.trans (Option.some.inj H).symm) (by decide)
        subst c46
        have H1 : ((laws_heldQc.f k t200 t201 t225 1).bind fun t244 => (if t244 < 0 then (some false) else (if t244 = t224 then (some true) else (some false)))) = some r := by rw [if_pos rfl] at H; exact H
        clear H
        have H := H1
        clear H1
        replace H := Option.bind_eq_some_iff.mp H
        obtain ⟨t244, A470, H⟩ := H
        replace H : (if t244 < 0 then (some false) else (if t244 = t224 then (some true) else (some false))) = some r := H
        have A47 := Aside0.mk A470
        clear A470
        by_cases c48 : t244 < 0
        · rw [if_pos c48] at H
          have c48b0 : decide (t244 < 0) = true := decide_eq_true c48
          clear c48
          exact absurd (hrt.out.symm.trans (Option.some.inj H).symm) (by decide)
        rw [if_neg c48] at H
        have c48b0 : decide (t244 < 0) = false := decide_eq_false c48
        clear c48
        by_cases c49 : t244 = t224
        rotate_left
        · rw [if_neg c49] at H
          have c49b0 : (t244 == t224) = false := beq_eq_false_iff_ne.mpr c49
          have c49b1 : (t244 != t224) = true := bne_iff_ne.mpr c49
          exact absurd (hrt.out.symm.trans (Option.some.inj H).symm) (by decide)
        rw [if_pos c49] at H
        have c49b0 : (t244 == t224) = true := beq_iff_eq.mpr c49
        have c49b1 : (t244 != t224) = false := bne_eq_false_iff_eq.mpr c49
        clear c49
        obtain rfl := Option.some.inj H
        go_enter Try.func13, Try.ntmps13
        try go_wp2_with (first | ((with_reducible refine gate_dst (N := 2) rfl ?_); refine box_event ?hg (N := 2) ?hd (cs := #[.int .i64 a0_0, .string a0_1, .slice A0_2 l0_2.length c0_2]) (t := 48) ?hr ?_; (case hd => rfl); (case hg => rfl); (case hr => first | (go_simp; done) | (go_simp; rfl)); intro gb168 hg w50 hbox hb; have BK168 := Aside0.mk (hbox); have GW168 := Aside0.mk ((by rw [hg]; exact (below_size (bI HB.out)) : w.heap.size ≤ gb168)); have GE168 := Aside0.mk ((by rw [hg]; exact (below_size (bI HB.out)) : w.heap.size ≤ gb168)); have GI168 := GeI.mk GE168.out; replace HB := Aside0.mk (below_step (bI HB.out) hb); clear hb hbox hg) | ((with_reducible refine gate_dst (N := 3) rfl ?_); refine box_event ?hg (N := 3) ?hd (cs := #[.int .i64 a1_0, .string a1_1, .slice A1_2 l1_2.length c1_2]) (t := 48) ?hr ?_; (case hd => rfl); (case hg => rfl); (case hr => first | (go_simp; done) | (go_simp; rfl)); intro gb169 hg w51 hbox hb; have BK169 := Aside0.mk (hbox); have GW169 := Aside0.mk ((by rw [hg]; exact (below_size (bI HB.out)) : w.heap.size ≤ gb169)); have GE169 := Aside0.mk ((by rw [hg]; exact (below_size (bI HB.out)) : w.heap.size ≤ gb169)); have GI169 := GeI.mk GE169.out; replace HB := Aside0.mk (below_step (bI HB.out) hb); have NB168_169 := Aside0.mk ((by rw [hg]; exact Nat.ne_of_lt (blk_lt (g := gb168) (o := .cells #[.int .i64 a0_0, .string a0_1, .slice A0_2 l0_2.length c0_2] 48 (0, 0)) (kI BK168.out)) : gb168 ≠ gb169)); have NB169_168 := Aside0.mk ((by rw [hg]; exact Nat.ne_of_gt (blk_lt (g := gb168) (o := .cells #[.int .i64 a0_0, .string a0_1, .slice A0_2 l0_2.length c0_2] 48 (0, 0)) (kI BK168.out)) : gb169 ≠ gb168)); replace BK168 := Aside0.mk (blk_below (g := gb168) (o := .cells #[.int .i64 a0_0, .string a0_1, .slice A0_2 l0_2.length c0_2] 48 (0, 0)) (kI BK168.out) hb); clear hb hbox hg; have hnb52 := NB168_169.out; have hnc52 := NB169_168.out; have hcz53_0 : w51.cell? ⟨gb168, 0, none⟩ = some (.int .i64 a0_0) := (blk_cell BK168.out 0).trans rfl; have hcz53_1 : w51.cell? ⟨gb168, 1, none⟩ = some (.string a0_1) := (blk_cell BK168.out 1).trans rfl; have hcz53_2 : w51.cell? ⟨gb168, 2, none⟩ = some (.slice A0_2 l0_2.length c0_2) := (blk_cell BK168.out 2).trans rfl; have hfz53_0 := blk_frozen BK168.out 0; have hfz53_1 := blk_frozen BK168.out 1; have hfz53_2 := blk_frozen BK168.out 2) | ((with_reducible refine gate_callee (f := 34) rfl ?_); refine goesL_ (some 16) rfl rfl Try.func34 (by kernel_rfl) rfl #[.agg #[.int .i64 a0_0, .string a0_1, .slice A0_2 l0_2.length c0_2], .int .i64 1048576] rfl (by (try simp only [List.map_toArray, List.map_cons, List.map_nil]); first | done | rfl | (simp only [List.length_drop, List.length_take]; rfl)) ?_; (with_reducible refine (laws_szQc.calls a0_0 a0_1 _ _ l0_2 1048576 t170 _ ?side1 ?side2 A3.out).mono ?_); (case side1 => repeat (first | exact (Kd.C_below HR0_2.out HB.out) | (with_reducible refine Kd.C_alloc ?_ _) | (with_reducible refine Kd.C_drewN ?_ _) | (with_reducible refine Kd.C_drew ?_))); (case side2 => exact HC0_2.out); rintro e w54 ⟨rfl, hb⟩; refine ⟨_, rfl, ?_⟩; replace BK168 := Aside0.mk (blk_below (g := gb168) (o := .cells #[.int .i64 a0_0, .string a0_1, .slice A0_2 l0_2.length c0_2] 48 (0, 0)) (kI BK168.out) hb); replace BK169 := Aside0.mk (blk_below (g := gb169) (o := .cells #[.int .i64 a1_0, .string a1_1, .slice A1_2 l1_2.length c1_2] 48 (0, 0)) (kI BK169.out) hb); replace HB := Aside0.mk (below_step (bI HB.out) hb); (try clear hb); (try clear hb2); (try clear hk); (try clear hi); have hcz55_0 : w54.cell? ⟨gb169, 0, none⟩ = some (.int .i64 a1_0) := (blk_cell BK169.out 0).trans rfl; have hcz55_1 : w54.cell? ⟨gb169, 1, none⟩ = some (.string a1_1) := (blk_cell BK169.out 1).trans rfl; have hcz55_2 : w54.cell? ⟨gb169, 2, none⟩ = some (.slice A1_2 l1_2.length c1_2) := (blk_cell BK169.out 2).trans rfl; have hfz55_0 := blk_frozen BK169.out 0; have hfz55_1 := blk_frozen BK169.out 1; have hfz55_2 := blk_frozen BK169.out 2) | ((with_reducible refine gate_callee (f := 34) rfl ?_); refine goesL_ (some 21) rfl rfl Try.func34 (by kernel_rfl) rfl #[.agg #[.int .i64 a1_0, .string a1_1, .slice A1_2 l1_2.length c1_2], .int .i64 t170] rfl (by (try simp only [List.map_toArray, List.map_cons, List.map_nil]); first | done | rfl | (simp only [List.length_drop, List.length_take]; rfl)) ?_; (with_reducible refine (laws_szQc.calls a1_0 a1_1 _ _ l1_2 t170 t171 _ ?side1 ?side2 A10.out).mono ?_); (case side1 => repeat (first | exact (Kd.C_below HR1_2.out HB.out) | (with_reducible refine Kd.C_alloc ?_ _) | (with_reducible refine Kd.C_drewN ?_ _) | (with_reducible refine Kd.C_drew ?_))); (case side2 => exact HC1_2.out); rintro e w56 ⟨rfl, hb⟩; refine ⟨_, rfl, ?_⟩; replace BK168 := Aside0.mk (blk_below (g := gb168) (o := .cells #[.int .i64 a0_0, .string a0_1, .slice A0_2 l0_2.length c0_2] 48 (0, 0)) (kI BK168.out) hb); replace BK169 := Aside0.mk (blk_below (g := gb169) (o := .cells #[.int .i64 a1_0, .string a1_1, .slice A1_2 l1_2.length c1_2] 48 (0, 0)) (kI BK169.out) hb); replace HB := Aside0.mk (below_step (bI HB.out) hb); (try clear hb); (try clear hb2); (try clear hk); (try clear hi)))
        replace BK168 := Aside0.mk (blk_drew BK168.out)
        replace BK169 := Aside0.mk (blk_drew BK169.out)
        replace HB := Aside0.mk (below_drew1 HB.out)
        refine start_ (n := 7) (S := fun w' => w'.cell? ⟨gb168, 0, none⟩ = some (.int .i64 a0_0) ∧ w'.cell? ⟨gb168, 1, none⟩ = some (.string a0_1) ∧ w'.cell? ⟨gb168, 2, none⟩ = some (.slice A0_2 l0_2.length c0_2) ∧ w'.cell? ⟨gb169, 0, none⟩ = some (.int .i64 a1_0) ∧ w'.cell? ⟨gb169, 1, none⟩ = some (.string a1_1) ∧ w'.cell? ⟨gb169, 2, none⟩ = some (.slice A1_2 l1_2.length c1_2)) (ds := []) #[false, false, false, false, false, false, false] (by kernel_rfl) rfl rfl ⟨(blk_cell BK168.out 0).trans rfl, (blk_cell BK168.out 1).trans rfl, (blk_cell BK168.out 2).trans rfl, (blk_cell BK169.out 0).trans rfl, (blk_cell BK169.out 1).trans rfl, (blk_cell BK169.out 2).trans rfl⟩ (fun hHeld => ?_)
        generalize w56.drew = w57 at BK168 BK169 HB hHeld ⊢
        refine take_ (i := 0) (N := some 24) (v := ?_) (a' := ?_) #[true, false, false, false, false, false, false] rfl rfl (by kernel_rfl) (fun _ _ _ h => h) (Or.inl ⟨by rfl, ?_⟩) hHeld ?_ ?_
        rotate_left
        · rintro w' ⟨s0, s1, s2, s3, s4, s5⟩
          go_simp
          with_reducible rfl
        rotate_left
        · simp only [Act.put, List.setIfInBounds_toArray, List.set_cons_zero, List.set_cons_succ, i64_w, i32_w]
          rfl
        refine take_ (i := 2) (N := some 26) (v := ?_) (a' := ?_) #[true, false, true, false, false, false, false] rfl rfl (by kernel_rfl) (fun _ _ _ h => h) (Or.inl ⟨by rfl, ?_⟩) hHeld ?_ ?_
        rotate_left
        · rintro w' ⟨s0, s1, s2, s3, s4, s5⟩
          go_simp
          with_reducible rfl
        rotate_left
        · simp only [Act.put, List.setIfInBounds_toArray, List.set_cons_zero, List.set_cons_succ, i64_w, i32_w]
          rfl
        refine join_ (σ := Value × Value × Value × Nat) 1 #[true, true, true, true, true, true, false] (fun s_ => [(25, .agg #[.int .i64 t172, .string t173, s_.1]), (27, .agg #[.int .i64 t177, .string t178, s_.2.1]), (28, .agg #[.int .i64 t182, .string t183, s_.2.2.1]), (6, .pointer (some ⟨s_.2.2.2, 0, none⟩))]) (fun s_ w' => (w'.cell? ⟨gb168, 0, none⟩ = some (.int .i64 a0_0) ∧ w'.cell? ⟨gb168, 1, none⟩ = some (.string a0_1) ∧ w'.cell? ⟨gb168, 2, none⟩ = some (.slice A0_2 l0_2.length c0_2) ∧ w'.cell? ⟨gb169, 0, none⟩ = some (.int .i64 a1_0) ∧ w'.cell? ⟨gb169, 1, none⟩ = some (.string a1_1) ∧ w'.cell? ⟨gb169, 2, none⟩ = some (.slice A1_2 l1_2.length c1_2)) ∧ (Kd.R (Kd.int .i64) 3 w' w.heap.size (fun k_ => some k_ ≠ (s_.2.1 : Value).ownBlock ∧ some k_ ≠ (s_.2.2.1 : Value).ownBlock) s_.1 t174) ∧ (Kd.R (Kd.int .i64) 3 w' w.heap.size (fun k_ => some k_ ≠ (s_.1 : Value).ownBlock ∧ some k_ ≠ (s_.2.2.1 : Value).ownBlock) s_.2.1 t179) ∧ (Kd.R (Kd.int .i64) 3 w' w.heap.size (fun k_ => some k_ ≠ (s_.1 : Value).ownBlock ∧ some k_ ≠ (s_.2.1 : Value).ownBlock) s_.2.2.1 t184) ∧ (w'.heap[gb168]? = some (.cells #[.int .i64 a0_0, .string a0_1, .slice A0_2 l0_2.length c0_2] 48 (0, 0))) ∧ (w'.heap[gb169]? = some (.cells #[.int .i64 a1_0, .string a1_1, .slice A1_2 l1_2.length c1_2] 48 (0, 0))) ∧ (w'.heap[s_.2.2.2]? = some (.cells #[.int .i64 0, .string (⟨#[]⟩ : ByteArray), .slice none 0 0] 41 (0, 0))) ∧ (w.heap.size ≤ s_.2.2.2) ∧ (w.heap.size ≤ s_.2.2.2) ∧ (gb168 ≠ s_.2.2.2) ∧ (s_.2.2.2 ≠ gb168) ∧ (gb169 ≠ s_.2.2.2) ∧ (s_.2.2.2 ≠ gb169) ∧ (Below w.heap.size w w')) ?_ ?_
        rotate_left
        · intro hCont
          refine two_ (i := 1) (j := 5) (Ni := some 25) (Nj := some 6) #[true, true, true, false, false, false, false] #[true, false, true, false, false, true, false] rfl rfl rfl rfl (by kernel_rfl) (by decide) (by decide) (fun K hK => ?_) (fun K hK => ?_)
          · skip
            refine goes_ Try.func36 (by kernel_rfl) rfl #[.agg #[.int .i64 a0_0, .string a0_1, .slice A0_2 l0_2.length c0_2]] (by rfl) rfl rfl (by (try simp only [List.map_toArray, List.map_cons, List.map_nil]); first | done | rfl | (simp only [List.length_drop, List.length_take]; rfl)) ?_
            with_reducible refine (laws_toQc.calls k a0_0 a0_1 _ _ l0_2 t172 t173 t174 _ ?side1 ?side2 A19.out).mono ?_
            (case side1 => repeat (first | exact (Kd.C_below HR0_2.out HB.out) | (with_reducible refine Kd.C_alloc ?_ _) | (with_reducible refine Kd.C_drewN ?_ _) | (with_reducible refine Kd.C_drew ?_)))
            (case side2 => exact HC0_2.out)
            rintro e w58 ⟨v175, rfl, ho0, hb⟩
            refine ⟨_, rfl, ?_⟩
            have HO176 := Aside0.mk (Kd.R_lower ho0 (below_size (bI HB.out)))
            replace BK168 := Aside0.mk (blk_below (g := gb168) (o := .cells #[.int .i64 a0_0, .string a0_1, .slice A0_2 l0_2.length c0_2] 48 (0, 0)) (kI BK168.out) hb)
            replace BK169 := Aside0.mk (blk_below (g := gb169) (o := .cells #[.int .i64 a1_0, .string a1_1, .slice A1_2 l1_2.length c1_2] 48 (0, 0)) (kI BK169.out) hb)
            replace HB := Aside0.mk (below_step (bI HB.out) hb)
            (try clear hb)
            (try clear hb2)
            (try clear hk)
            (try clear hi)
            (try clear ho0)
            refine hK.out _ _ ⟨(blk_cell BK168.out 0).trans rfl, (blk_cell BK168.out 1).trans rfl, (blk_cell BK168.out 2).trans rfl, (blk_cell BK169.out 0).trans rfl, (blk_cell BK169.out 1).trans rfl, (blk_cell BK169.out 2).trans rfl⟩ (fun hHeld => ?_)
            clear hK K
            refine norm_ (a' := ?_) ?_ ?_
            rotate_left
            · show Act.put _ (some 25) _ = _
              simp only [Act.put, List.setIfInBounds_toArray, List.set_cons_zero, List.set_cons_succ, i64_w, i32_w]
              rfl
            refine two_ (i := 3) (j := 5) (Ni := some 27) (Nj := some 6) #[true, true, true, true, false, false, false] #[true, true, true, false, false, true, false] rfl rfl rfl rfl (by kernel_rfl) (by decide) (by decide) (fun K hK => ?_) (fun K hK => ?_)
            · skip
              refine goes_ Try.func36 (by kernel_rfl) rfl #[.agg #[.int .i64 a1_0, .string a1_1, .slice A1_2 l1_2.length c1_2]] (by rfl) rfl rfl (by (try simp only [List.map_toArray, List.map_cons, List.map_nil]); first | done | rfl | (simp only [List.length_drop, List.length_take]; rfl)) ?_
              with_reducible refine (laws_toQc.calls k a1_0 a1_1 _ _ l1_2 t177 t178 t179 _ ?side1 ?side2 A20.out).mono ?_
              (case side1 => repeat (first | exact (Kd.C_below HR1_2.out HB.out) | (with_reducible refine Kd.C_alloc ?_ _) | (with_reducible refine Kd.C_drewN ?_ _) | (with_reducible refine Kd.C_drew ?_)))
              (case side2 => exact HC1_2.out)
              rintro e w59 ⟨v180, rfl, ho0, hb⟩
              refine ⟨_, rfl, ?_⟩
              have HO181 := Aside0.mk (Kd.R_lower (Kd.R_new' ho0 (Kd.R_lt (rI HO176.out))) (below_size (bI HB.out)))
              replace HO176 := Aside0.mk (Kd.R_elder' (rI HO176.out) (Kd.R_base ho0) hb)
              replace BK168 := Aside0.mk (blk_below (g := gb168) (o := .cells #[.int .i64 a0_0, .string a0_1, .slice A0_2 l0_2.length c0_2] 48 (0, 0)) (kI BK168.out) hb)
              replace BK169 := Aside0.mk (blk_below (g := gb169) (o := .cells #[.int .i64 a1_0, .string a1_1, .slice A1_2 l1_2.length c1_2] 48 (0, 0)) (kI BK169.out) hb)
              replace HB := Aside0.mk (below_step (bI HB.out) hb)
              (try clear hb)
              (try clear hb2)
              (try clear hk)
              (try clear hi)
              (try clear ho0)
              obtain ⟨Ao60, co60, eo60⟩ := Kd.R_slice HO176.out
              (first | subst eo60 | (injection eo60 with f1_ f2_ f3_; have f4_ := f1_.symm; have f5_ := f3_.symm; clear f1_ f2_ f3_; subst f4_; subst f5_))
              obtain ⟨Ao61, co61, eo61⟩ := Kd.R_slice HO181.out
              (first | subst eo61 | (injection eo61 with f1_ f2_ f3_; have f4_ := f1_.symm; have f5_ := f3_.symm; clear f1_ f2_ f3_; subst f4_; subst f5_))
              refine hK.out _ _ ⟨(blk_cell BK168.out 0).trans rfl, (blk_cell BK168.out 1).trans rfl, (blk_cell BK168.out 2).trans rfl, (blk_cell BK169.out 0).trans rfl, (blk_cell BK169.out 1).trans rfl, (blk_cell BK169.out 2).trans rfl⟩ (fun hHeld => ?_)
              clear hK K
              refine norm_ (a' := ?_) ?_ ?_
              rotate_left
              · show Act.put _ (some 27) _ = _
                simp only [Act.put, List.setIfInBounds_toArray, List.set_cons_zero, List.set_cons_succ, i64_w, i32_w]
                rfl
              refine two_ (i := 4) (j := 5) (Ni := some 28) (Nj := some 6) #[true, true, true, true, true, false, false] #[true, true, true, true, false, true, false] rfl rfl rfl rfl (by kernel_rfl) (by decide) (by decide) (fun K hK => ?_) (fun K hK => ?_)
              · skip
                refine goes_ Try.func50 (by kernel_rfl) rfl #[.agg #[.int .i64 t172, .string t173, .slice Ao60 t174.length co60], .agg #[.int .i64 t177, .string t178, .slice Ao61 t179.length co61]] (by rfl) rfl rfl (by (try simp only [List.map_toArray, List.map_cons, List.map_nil]); first | done | rfl | (simp only [List.length_drop, List.length_take]; rfl)) ?_
                with_reducible refine (spec_QcLater.calls t172 t173 _ _ t174 t177 t178 _ _ t179 t182 t183 t184 _ ?side1 ?side2 ?side3 ?side4 A21.out).mono ?_
                (case side1 => repeat (first | exact (Kd.R_reads' HO176.out).2.2 | (with_reducible refine Kd.C_alloc ?_ _) | (with_reducible refine Kd.C_drewN ?_ _) | (with_reducible refine Kd.C_drew ?_)))
                (case side2 => exact (Kd.R_reads' HO176.out).2.1)
                (case side3 => repeat (first | exact (Kd.R_reads' HO181.out).2.2 | (with_reducible refine Kd.C_alloc ?_ _) | (with_reducible refine Kd.C_drewN ?_ _) | (with_reducible refine Kd.C_drew ?_)))
                (case side4 => exact (Kd.R_reads' HO181.out).2.1)
                rintro e w62 ⟨v185, rfl, ho0, hb⟩
                refine ⟨_, rfl, ?_⟩
                have HO186 := Aside0.mk (Kd.R_lower (Kd.R_new' (Kd.R_new' ho0 (Kd.R_lt (rI HO176.out))) (Kd.R_lt (rI HO181.out))) (below_size (bI HB.out)))
                replace HO176 := Aside0.mk (Kd.R_elder' (rI HO176.out) (Kd.R_base ho0) hb)
                replace HO181 := Aside0.mk (Kd.R_elder' (rI HO181.out) (Kd.R_base ho0) hb)
                replace BK168 := Aside0.mk (blk_below (g := gb168) (o := .cells #[.int .i64 a0_0, .string a0_1, .slice A0_2 l0_2.length c0_2] 48 (0, 0)) (kI BK168.out) hb)
                replace BK169 := Aside0.mk (blk_below (g := gb169) (o := .cells #[.int .i64 a1_0, .string a1_1, .slice A1_2 l1_2.length c1_2] 48 (0, 0)) (kI BK169.out) hb)
                replace HB := Aside0.mk (below_step (bI HB.out) hb)
                (try clear hb)
                (try clear hb2)
                (try clear hk)
                (try clear hi)
                (try clear ho0)
                refine hK.out _ _ ⟨(blk_cell BK168.out 0).trans rfl, (blk_cell BK168.out 1).trans rfl, (blk_cell BK168.out 2).trans rfl, (blk_cell BK169.out 0).trans rfl, (blk_cell BK169.out 1).trans rfl, (blk_cell BK169.out 2).trans rfl⟩ (fun hHeld => ?_)
                clear hK K
                refine norm_ (a' := ?_) ?_ ?_
                rotate_left
                · show Act.put _ (some 28) _ = _
                  simp only [Act.put, List.setIfInBounds_toArray, List.set_cons_zero, List.set_cons_succ, i64_w, i32_w]
                  rfl
                refine one_ (i := 5) (N := some 6) #[true, true, true, true, true, true, false] rfl rfl (by kernel_rfl) (by decide) (fun K hK => ?_)
                refine box_step ?hg (N := 6) ?hd (cs := #[.int .i64 0, .string (⟨#[]⟩ : ByteArray), .slice none 0 0]) (t := 41) ?hr ?_; (case hd => rfl); (case hg => rfl); (case hr => first | (go_simp; done) | (go_simp; rfl))
                intro gb187 hg w63 hbox hb
                replace HO176 := Aside0.mk (Kd.R_below (rI HO176.out) hb)
                replace HO181 := Aside0.mk (Kd.R_below (rI HO181.out) hb)
                replace HO186 := Aside0.mk (Kd.R_below (rI HO186.out) hb)
                have BK187 := Aside0.mk (hbox)
                have GW187 := Aside0.mk ((by rw [hg]; exact (below_size (bI HB.out)) : w.heap.size ≤ gb187))
                have GE187 := Aside0.mk ((by rw [hg]; exact (below_size (bI HB.out)) : w.heap.size ≤ gb187))
                have GI187 := GeI.mk GE187.out
                replace HB := Aside0.mk (below_step (bI HB.out) hb)
                have NB168_187 := Aside0.mk ((by rw [hg]; exact Nat.ne_of_lt (blk_lt (g := gb168) (o := .cells #[.int .i64 a0_0, .string a0_1, .slice A0_2 l0_2.length c0_2] 48 (0, 0)) (kI BK168.out)) : gb168 ≠ gb187))
                have NB187_168 := Aside0.mk ((by rw [hg]; exact Nat.ne_of_gt (blk_lt (g := gb168) (o := .cells #[.int .i64 a0_0, .string a0_1, .slice A0_2 l0_2.length c0_2] 48 (0, 0)) (kI BK168.out)) : gb187 ≠ gb168))
                replace BK168 := Aside0.mk (blk_below (g := gb168) (o := .cells #[.int .i64 a0_0, .string a0_1, .slice A0_2 l0_2.length c0_2] 48 (0, 0)) (kI BK168.out) hb)
                have NB169_187 := Aside0.mk ((by rw [hg]; exact Nat.ne_of_lt (blk_lt (g := gb169) (o := .cells #[.int .i64 a1_0, .string a1_1, .slice A1_2 l1_2.length c1_2] 48 (0, 0)) (kI BK169.out)) : gb169 ≠ gb187))
                have NB187_169 := Aside0.mk ((by rw [hg]; exact Nat.ne_of_gt (blk_lt (g := gb169) (o := .cells #[.int .i64 a1_0, .string a1_1, .slice A1_2 l1_2.length c1_2] 48 (0, 0)) (kI BK169.out)) : gb187 ≠ gb169))
                replace BK169 := Aside0.mk (blk_below (g := gb169) (o := .cells #[.int .i64 a1_0, .string a1_1, .slice A1_2 l1_2.length c1_2] 48 (0, 0)) (kI BK169.out) hb)
                clear hb hbox hg
                refine hK.out _ _ ⟨(blk_cell BK168.out 0).trans rfl, (blk_cell BK168.out 1).trans rfl, (blk_cell BK168.out 2).trans rfl, (blk_cell BK169.out 0).trans rfl, (blk_cell BK169.out 1).trans rfl, (blk_cell BK169.out 2).trans rfl⟩ (fun hHeld => ?_)
                clear hK K
                refine norm_ (a' := ?_) ?_ ?_
                rotate_left
                · show Act.put _ (some 6) _ = _
                  simp only [Act.put, List.setIfInBounds_toArray, List.set_cons_zero, List.set_cons_succ, i64_w, i32_w]
                  rfl
                exact norm_ (by simp only [putAll, Act.put, List.setIfInBounds_toArray, List.set_cons_zero, List.set_cons_succ]) (hCont (.slice Ao60 t174.length co60, .slice Ao61 t179.length co61, v185, gb187) _ ⟨hHeld, (rI (Kd.R_mono HO176.out (fun _ hk => ⟨hk.1.2, hk.2⟩))), (rI (Kd.R_mono HO181.out (fun _ hk => ⟨hk.1.2, hk.2⟩))), (rI (Kd.R_mono HO186.out (fun _ hk => ⟨hk.1.2, hk.2⟩))), (kI BK168.out), (kI BK169.out), (kI BK187.out), GW187.out, GE187.out, NB168_187.out, NB187_168.out, NB169_187.out, NB187_169.out, (bI HB.out)⟩)
              · skip
                refine box_step ?hg (N := 6) ?hd (cs := #[.int .i64 0, .string (⟨#[]⟩ : ByteArray), .slice none 0 0]) (t := 41) ?hr ?_; (case hd => rfl); (case hg => rfl); (case hr => first | (go_simp; done) | (go_simp; rfl))
                intro gb187 hg w60 hbox hb
                replace HO176 := Aside0.mk (Kd.R_below (rI HO176.out) hb)
                replace HO181 := Aside0.mk (Kd.R_below (rI HO181.out) hb)
                have BK187 := Aside0.mk (hbox)
                have GW187 := Aside0.mk ((by rw [hg]; exact (below_size (bI HB.out)) : w.heap.size ≤ gb187))
                have GE187 := Aside0.mk ((by rw [hg]; exact (below_size (bI HB.out)) : w.heap.size ≤ gb187))
                have GI187 := GeI.mk GE187.out
                replace HB := Aside0.mk (below_step (bI HB.out) hb)
                have NB168_187 := Aside0.mk ((by rw [hg]; exact Nat.ne_of_lt (blk_lt (g := gb168) (o := .cells #[.int .i64 a0_0, .string a0_1, .slice A0_2 l0_2.length c0_2] 48 (0, 0)) (kI BK168.out)) : gb168 ≠ gb187))
                have NB187_168 := Aside0.mk ((by rw [hg]; exact Nat.ne_of_gt (blk_lt (g := gb168) (o := .cells #[.int .i64 a0_0, .string a0_1, .slice A0_2 l0_2.length c0_2] 48 (0, 0)) (kI BK168.out)) : gb187 ≠ gb168))
                replace BK168 := Aside0.mk (blk_below (g := gb168) (o := .cells #[.int .i64 a0_0, .string a0_1, .slice A0_2 l0_2.length c0_2] 48 (0, 0)) (kI BK168.out) hb)
                have NB169_187 := Aside0.mk ((by rw [hg]; exact Nat.ne_of_lt (blk_lt (g := gb169) (o := .cells #[.int .i64 a1_0, .string a1_1, .slice A1_2 l1_2.length c1_2] 48 (0, 0)) (kI BK169.out)) : gb169 ≠ gb187))
                have NB187_169 := Aside0.mk ((by rw [hg]; exact Nat.ne_of_gt (blk_lt (g := gb169) (o := .cells #[.int .i64 a1_0, .string a1_1, .slice A1_2 l1_2.length c1_2] 48 (0, 0)) (kI BK169.out)) : gb187 ≠ gb169))
                replace BK169 := Aside0.mk (blk_below (g := gb169) (o := .cells #[.int .i64 a1_0, .string a1_1, .slice A1_2 l1_2.length c1_2] 48 (0, 0)) (kI BK169.out) hb)
                clear hb hbox hg
                obtain ⟨Ao61, co61, eo61⟩ := Kd.R_slice HO176.out
                (first | subst eo61 | (injection eo61 with f1_ f2_ f3_; have f4_ := f1_.symm; have f5_ := f3_.symm; clear f1_ f2_ f3_; subst f4_; subst f5_))
                obtain ⟨Ao62, co62, eo62⟩ := Kd.R_slice HO181.out
                (first | subst eo62 | (injection eo62 with f1_ f2_ f3_; have f4_ := f1_.symm; have f5_ := f3_.symm; clear f1_ f2_ f3_; subst f4_; subst f5_))
                refine hK.out _ _ ⟨(blk_cell BK168.out 0).trans rfl, (blk_cell BK168.out 1).trans rfl, (blk_cell BK168.out 2).trans rfl, (blk_cell BK169.out 0).trans rfl, (blk_cell BK169.out 1).trans rfl, (blk_cell BK169.out 2).trans rfl⟩ (fun hHeld => ?_)
                clear hK K
                refine norm_ (a' := ?_) ?_ ?_
                rotate_left
                · show Act.put _ (some 6) _ = _
                  simp only [Act.put, List.setIfInBounds_toArray, List.set_cons_zero, List.set_cons_succ, i64_w, i32_w]
                  rfl
                refine one_ (i := 4) (N := some 28) #[true, true, true, true, true, true, false] rfl rfl (by kernel_rfl) (by decide) (fun K hK => ?_)
                refine goes_ Try.func50 (by kernel_rfl) rfl #[.agg #[.int .i64 t172, .string t173, .slice Ao61 t174.length co61], .agg #[.int .i64 t177, .string t178, .slice Ao62 t179.length co62]] (by rfl) rfl rfl (by (try simp only [List.map_toArray, List.map_cons, List.map_nil]); first | done | rfl | (simp only [List.length_drop, List.length_take]; rfl)) ?_
                with_reducible refine (spec_QcLater.calls t172 t173 _ _ t174 t177 t178 _ _ t179 t182 t183 t184 _ ?side1 ?side2 ?side3 ?side4 A21.out).mono ?_
                (case side1 => repeat (first | exact (Kd.R_reads' HO176.out).2.2 | (with_reducible refine Kd.C_alloc ?_ _) | (with_reducible refine Kd.C_drewN ?_ _) | (with_reducible refine Kd.C_drew ?_)))
                (case side2 => exact (Kd.R_reads' HO176.out).2.1)
                (case side3 => repeat (first | exact (Kd.R_reads' HO181.out).2.2 | (with_reducible refine Kd.C_alloc ?_ _) | (with_reducible refine Kd.C_drewN ?_ _) | (with_reducible refine Kd.C_drew ?_)))
                (case side4 => exact (Kd.R_reads' HO181.out).2.1)
                rintro e w63 ⟨v185, rfl, ho0, hb⟩
                refine ⟨_, rfl, ?_⟩
                have HO186 := Aside0.mk (Kd.R_lower (Kd.R_new' (Kd.R_new' ho0 (Kd.R_lt (rI HO176.out))) (Kd.R_lt (rI HO181.out))) (below_size (bI HB.out)))
                replace HO176 := Aside0.mk (Kd.R_elder' (rI HO176.out) (Kd.R_base ho0) hb)
                replace HO181 := Aside0.mk (Kd.R_elder' (rI HO181.out) (Kd.R_base ho0) hb)
                replace BK168 := Aside0.mk (blk_below (g := gb168) (o := .cells #[.int .i64 a0_0, .string a0_1, .slice A0_2 l0_2.length c0_2] 48 (0, 0)) (kI BK168.out) hb)
                replace BK169 := Aside0.mk (blk_below (g := gb169) (o := .cells #[.int .i64 a1_0, .string a1_1, .slice A1_2 l1_2.length c1_2] 48 (0, 0)) (kI BK169.out) hb)
                replace BK187 := Aside0.mk (blk_below (g := gb187) (o := .cells #[.int .i64 0, .string (⟨#[]⟩ : ByteArray), .slice none 0 0] 41 (0, 0)) (kI BK187.out) hb)
                replace HB := Aside0.mk (below_step (bI HB.out) hb)
                (try clear hb)
                (try clear hb2)
                (try clear hk)
                (try clear hi)
                (try clear ho0)
                refine hK.out _ _ ⟨(blk_cell BK168.out 0).trans rfl, (blk_cell BK168.out 1).trans rfl, (blk_cell BK168.out 2).trans rfl, (blk_cell BK169.out 0).trans rfl, (blk_cell BK169.out 1).trans rfl, (blk_cell BK169.out 2).trans rfl⟩ (fun hHeld => ?_)
                clear hK K
                refine norm_ (a' := ?_) ?_ ?_
                rotate_left
                · show Act.put _ (some 28) _ = _
                  simp only [Act.put, List.setIfInBounds_toArray, List.set_cons_zero, List.set_cons_succ, i64_w, i32_w]
                  rfl
                exact norm_ (by simp only [putAll, Act.put, List.setIfInBounds_toArray, List.set_cons_zero, List.set_cons_succ]) (hCont (.slice Ao61 t174.length co61, .slice Ao62 t179.length co62, v185, gb187) _ ⟨hHeld, (rI (Kd.R_mono HO176.out (fun _ hk => ⟨hk.1.2, hk.2⟩))), (rI (Kd.R_mono HO181.out (fun _ hk => ⟨hk.1.2, hk.2⟩))), (rI (Kd.R_mono HO186.out (fun _ hk => ⟨hk.1.2, hk.2⟩))), (kI BK168.out), (kI BK169.out), (kI BK187.out), GW187.out, GE187.out, NB168_187.out, NB187_168.out, NB169_187.out, NB187_169.out, (bI HB.out)⟩)
            · skip
              refine box_step ?hg (N := 6) ?hd (cs := #[.int .i64 0, .string (⟨#[]⟩ : ByteArray), .slice none 0 0]) (t := 41) ?hr ?_; (case hd => rfl); (case hg => rfl); (case hr => first | (go_simp; done) | (go_simp; rfl))
              intro gb187 hg w59 hbox hb
              replace HO176 := Aside0.mk (Kd.R_below (rI HO176.out) hb)
              have BK187 := Aside0.mk (hbox)
              have GW187 := Aside0.mk ((by rw [hg]; exact (below_size (bI HB.out)) : w.heap.size ≤ gb187))
              have GE187 := Aside0.mk ((by rw [hg]; exact (below_size (bI HB.out)) : w.heap.size ≤ gb187))
              have GI187 := GeI.mk GE187.out
              replace HB := Aside0.mk (below_step (bI HB.out) hb)
              have NB168_187 := Aside0.mk ((by rw [hg]; exact Nat.ne_of_lt (blk_lt (g := gb168) (o := .cells #[.int .i64 a0_0, .string a0_1, .slice A0_2 l0_2.length c0_2] 48 (0, 0)) (kI BK168.out)) : gb168 ≠ gb187))
              have NB187_168 := Aside0.mk ((by rw [hg]; exact Nat.ne_of_gt (blk_lt (g := gb168) (o := .cells #[.int .i64 a0_0, .string a0_1, .slice A0_2 l0_2.length c0_2] 48 (0, 0)) (kI BK168.out)) : gb187 ≠ gb168))
              replace BK168 := Aside0.mk (blk_below (g := gb168) (o := .cells #[.int .i64 a0_0, .string a0_1, .slice A0_2 l0_2.length c0_2] 48 (0, 0)) (kI BK168.out) hb)
              have NB169_187 := Aside0.mk ((by rw [hg]; exact Nat.ne_of_lt (blk_lt (g := gb169) (o := .cells #[.int .i64 a1_0, .string a1_1, .slice A1_2 l1_2.length c1_2] 48 (0, 0)) (kI BK169.out)) : gb169 ≠ gb187))
              have NB187_169 := Aside0.mk ((by rw [hg]; exact Nat.ne_of_gt (blk_lt (g := gb169) (o := .cells #[.int .i64 a1_0, .string a1_1, .slice A1_2 l1_2.length c1_2] 48 (0, 0)) (kI BK169.out)) : gb187 ≠ gb169))
              replace BK169 := Aside0.mk (blk_below (g := gb169) (o := .cells #[.int .i64 a1_0, .string a1_1, .slice A1_2 l1_2.length c1_2] 48 (0, 0)) (kI BK169.out) hb)
              clear hb hbox hg
              refine hK.out _ _ ⟨(blk_cell BK168.out 0).trans rfl, (blk_cell BK168.out 1).trans rfl, (blk_cell BK168.out 2).trans rfl, (blk_cell BK169.out 0).trans rfl, (blk_cell BK169.out 1).trans rfl, (blk_cell BK169.out 2).trans rfl⟩ (fun hHeld => ?_)
              clear hK K
              refine norm_ (a' := ?_) ?_ ?_
              rotate_left
              · show Act.put _ (some 6) _ = _
                simp only [Act.put, List.setIfInBounds_toArray, List.set_cons_zero, List.set_cons_succ, i64_w, i32_w]
                rfl
              refine one_ (i := 3) (N := some 27) #[true, true, true, true, false, true, false] rfl rfl (by kernel_rfl) (by decide) (fun K hK => ?_)
              refine goes_ Try.func36 (by kernel_rfl) rfl #[.agg #[.int .i64 a1_0, .string a1_1, .slice A1_2 l1_2.length c1_2]] (by rfl) rfl rfl (by (try simp only [List.map_toArray, List.map_cons, List.map_nil]); first | done | rfl | (simp only [List.length_drop, List.length_take]; rfl)) ?_
              with_reducible refine (laws_toQc.calls k a1_0 a1_1 _ _ l1_2 t177 t178 t179 _ ?side1 ?side2 A20.out).mono ?_
              (case side1 => repeat (first | exact (Kd.C_below HR1_2.out HB.out) | (with_reducible refine Kd.C_alloc ?_ _) | (with_reducible refine Kd.C_drewN ?_ _) | (with_reducible refine Kd.C_drew ?_)))
              (case side2 => exact HC1_2.out)
              rintro e w60 ⟨v180, rfl, ho0, hb⟩
              refine ⟨_, rfl, ?_⟩
              have HO181 := Aside0.mk (Kd.R_lower (Kd.R_new' ho0 (Kd.R_lt (rI HO176.out))) (below_size (bI HB.out)))
              replace HO176 := Aside0.mk (Kd.R_elder' (rI HO176.out) (Kd.R_base ho0) hb)
              replace BK168 := Aside0.mk (blk_below (g := gb168) (o := .cells #[.int .i64 a0_0, .string a0_1, .slice A0_2 l0_2.length c0_2] 48 (0, 0)) (kI BK168.out) hb)
              replace BK169 := Aside0.mk (blk_below (g := gb169) (o := .cells #[.int .i64 a1_0, .string a1_1, .slice A1_2 l1_2.length c1_2] 48 (0, 0)) (kI BK169.out) hb)
              replace BK187 := Aside0.mk (blk_below (g := gb187) (o := .cells #[.int .i64 0, .string (⟨#[]⟩ : ByteArray), .slice none 0 0] 41 (0, 0)) (kI BK187.out) hb)
              replace HB := Aside0.mk (below_step (bI HB.out) hb)
              (try clear hb)
              (try clear hb2)
              (try clear hk)
              (try clear hi)
              (try clear ho0)
              obtain ⟨Ao61, co61, eo61⟩ := Kd.R_slice HO176.out
              (first | subst eo61 | (injection eo61 with f1_ f2_ f3_; have f4_ := f1_.symm; have f5_ := f3_.symm; clear f1_ f2_ f3_; subst f4_; subst f5_))
              obtain ⟨Ao62, co62, eo62⟩ := Kd.R_slice HO181.out
              (first | subst eo62 | (injection eo62 with f1_ f2_ f3_; have f4_ := f1_.symm; have f5_ := f3_.symm; clear f1_ f2_ f3_; subst f4_; subst f5_))
              refine hK.out _ _ ⟨(blk_cell BK168.out 0).trans rfl, (blk_cell BK168.out 1).trans rfl, (blk_cell BK168.out 2).trans rfl, (blk_cell BK169.out 0).trans rfl, (blk_cell BK169.out 1).trans rfl, (blk_cell BK169.out 2).trans rfl⟩ (fun hHeld => ?_)
              clear hK K
              refine norm_ (a' := ?_) ?_ ?_
              rotate_left
              · show Act.put _ (some 27) _ = _
                simp only [Act.put, List.setIfInBounds_toArray, List.set_cons_zero, List.set_cons_succ, i64_w, i32_w]
                rfl
              refine one_ (i := 4) (N := some 28) #[true, true, true, true, true, true, false] rfl rfl (by kernel_rfl) (by decide) (fun K hK => ?_)
              refine goes_ Try.func50 (by kernel_rfl) rfl #[.agg #[.int .i64 t172, .string t173, .slice Ao61 t174.length co61], .agg #[.int .i64 t177, .string t178, .slice Ao62 t179.length co62]] (by rfl) rfl rfl (by (try simp only [List.map_toArray, List.map_cons, List.map_nil]); first | done | rfl | (simp only [List.length_drop, List.length_take]; rfl)) ?_
              with_reducible refine (spec_QcLater.calls t172 t173 _ _ t174 t177 t178 _ _ t179 t182 t183 t184 _ ?side1 ?side2 ?side3 ?side4 A21.out).mono ?_
              (case side1 => repeat (first | exact (Kd.R_reads' HO176.out).2.2 | (with_reducible refine Kd.C_alloc ?_ _) | (with_reducible refine Kd.C_drewN ?_ _) | (with_reducible refine Kd.C_drew ?_)))
              (case side2 => exact (Kd.R_reads' HO176.out).2.1)
              (case side3 => repeat (first | exact (Kd.R_reads' HO181.out).2.2 | (with_reducible refine Kd.C_alloc ?_ _) | (with_reducible refine Kd.C_drewN ?_ _) | (with_reducible refine Kd.C_drew ?_)))
              (case side4 => exact (Kd.R_reads' HO181.out).2.1)
              rintro e w63 ⟨v185, rfl, ho0, hb⟩
              refine ⟨_, rfl, ?_⟩
              have HO186 := Aside0.mk (Kd.R_lower (Kd.R_new' (Kd.R_new' ho0 (Kd.R_lt (rI HO176.out))) (Kd.R_lt (rI HO181.out))) (below_size (bI HB.out)))
              replace HO176 := Aside0.mk (Kd.R_elder' (rI HO176.out) (Kd.R_base ho0) hb)
              replace HO181 := Aside0.mk (Kd.R_elder' (rI HO181.out) (Kd.R_base ho0) hb)
              replace BK168 := Aside0.mk (blk_below (g := gb168) (o := .cells #[.int .i64 a0_0, .string a0_1, .slice A0_2 l0_2.length c0_2] 48 (0, 0)) (kI BK168.out) hb)
              replace BK169 := Aside0.mk (blk_below (g := gb169) (o := .cells #[.int .i64 a1_0, .string a1_1, .slice A1_2 l1_2.length c1_2] 48 (0, 0)) (kI BK169.out) hb)
              replace BK187 := Aside0.mk (blk_below (g := gb187) (o := .cells #[.int .i64 0, .string (⟨#[]⟩ : ByteArray), .slice none 0 0] 41 (0, 0)) (kI BK187.out) hb)
              replace HB := Aside0.mk (below_step (bI HB.out) hb)
              (try clear hb)
              (try clear hb2)
              (try clear hk)
              (try clear hi)
              (try clear ho0)
              refine hK.out _ _ ⟨(blk_cell BK168.out 0).trans rfl, (blk_cell BK168.out 1).trans rfl, (blk_cell BK168.out 2).trans rfl, (blk_cell BK169.out 0).trans rfl, (blk_cell BK169.out 1).trans rfl, (blk_cell BK169.out 2).trans rfl⟩ (fun hHeld => ?_)
              clear hK K
              refine norm_ (a' := ?_) ?_ ?_
              rotate_left
              · show Act.put _ (some 28) _ = _
                simp only [Act.put, List.setIfInBounds_toArray, List.set_cons_zero, List.set_cons_succ, i64_w, i32_w]
                rfl
              exact norm_ (by simp only [putAll, Act.put, List.setIfInBounds_toArray, List.set_cons_zero, List.set_cons_succ]) (hCont (.slice Ao61 t174.length co61, .slice Ao62 t179.length co62, v185, gb187) _ ⟨hHeld, (rI (Kd.R_mono HO176.out (fun _ hk => ⟨hk.1.2, hk.2⟩))), (rI (Kd.R_mono HO181.out (fun _ hk => ⟨hk.1.2, hk.2⟩))), (rI (Kd.R_mono HO186.out (fun _ hk => ⟨hk.1.2, hk.2⟩))), (kI BK168.out), (kI BK169.out), (kI BK187.out), GW187.out, GE187.out, NB168_187.out, NB187_168.out, NB169_187.out, NB187_169.out, (bI HB.out)⟩)
          · skip
            refine box_step ?hg (N := 6) ?hd (cs := #[.int .i64 0, .string (⟨#[]⟩ : ByteArray), .slice none 0 0]) (t := 41) ?hr ?_; (case hd => rfl); (case hg => rfl); (case hr => first | (go_simp; done) | (go_simp; rfl))
            intro gb187 hg w58 hbox hb
            have BK187 := Aside0.mk (hbox)
            have GW187 := Aside0.mk ((by rw [hg]; exact (below_size (bI HB.out)) : w.heap.size ≤ gb187))
            have GE187 := Aside0.mk ((by rw [hg]; exact (below_size (bI HB.out)) : w.heap.size ≤ gb187))
            have GI187 := GeI.mk GE187.out
            replace HB := Aside0.mk (below_step (bI HB.out) hb)
            have NB168_187 := Aside0.mk ((by rw [hg]; exact Nat.ne_of_lt (blk_lt (g := gb168) (o := .cells #[.int .i64 a0_0, .string a0_1, .slice A0_2 l0_2.length c0_2] 48 (0, 0)) (kI BK168.out)) : gb168 ≠ gb187))
            have NB187_168 := Aside0.mk ((by rw [hg]; exact Nat.ne_of_gt (blk_lt (g := gb168) (o := .cells #[.int .i64 a0_0, .string a0_1, .slice A0_2 l0_2.length c0_2] 48 (0, 0)) (kI BK168.out)) : gb187 ≠ gb168))
            replace BK168 := Aside0.mk (blk_below (g := gb168) (o := .cells #[.int .i64 a0_0, .string a0_1, .slice A0_2 l0_2.length c0_2] 48 (0, 0)) (kI BK168.out) hb)
            have NB169_187 := Aside0.mk ((by rw [hg]; exact Nat.ne_of_lt (blk_lt (g := gb169) (o := .cells #[.int .i64 a1_0, .string a1_1, .slice A1_2 l1_2.length c1_2] 48 (0, 0)) (kI BK169.out)) : gb169 ≠ gb187))
            have NB187_169 := Aside0.mk ((by rw [hg]; exact Nat.ne_of_gt (blk_lt (g := gb169) (o := .cells #[.int .i64 a1_0, .string a1_1, .slice A1_2 l1_2.length c1_2] 48 (0, 0)) (kI BK169.out)) : gb187 ≠ gb169))
            replace BK169 := Aside0.mk (blk_below (g := gb169) (o := .cells #[.int .i64 a1_0, .string a1_1, .slice A1_2 l1_2.length c1_2] 48 (0, 0)) (kI BK169.out) hb)
            clear hb hbox hg
            refine hK.out _ _ ⟨(blk_cell BK168.out 0).trans rfl, (blk_cell BK168.out 1).trans rfl, (blk_cell BK168.out 2).trans rfl, (blk_cell BK169.out 0).trans rfl, (blk_cell BK169.out 1).trans rfl, (blk_cell BK169.out 2).trans rfl⟩ (fun hHeld => ?_)
            clear hK K
            refine norm_ (a' := ?_) ?_ ?_
            rotate_left
            · show Act.put _ (some 6) _ = _
              simp only [Act.put, List.setIfInBounds_toArray, List.set_cons_zero, List.set_cons_succ, i64_w, i32_w]
              rfl
            refine one_ (i := 1) (N := some 25) #[true, true, true, false, false, true, false] rfl rfl (by kernel_rfl) (by decide) (fun K hK => ?_)
            refine goes_ Try.func36 (by kernel_rfl) rfl #[.agg #[.int .i64 a0_0, .string a0_1, .slice A0_2 l0_2.length c0_2]] (by rfl) rfl rfl (by (try simp only [List.map_toArray, List.map_cons, List.map_nil]); first | done | rfl | (simp only [List.length_drop, List.length_take]; rfl)) ?_
            with_reducible refine (laws_toQc.calls k a0_0 a0_1 _ _ l0_2 t172 t173 t174 _ ?side1 ?side2 A19.out).mono ?_
            (case side1 => repeat (first | exact (Kd.C_below HR0_2.out HB.out) | (with_reducible refine Kd.C_alloc ?_ _) | (with_reducible refine Kd.C_drewN ?_ _) | (with_reducible refine Kd.C_drew ?_)))
            (case side2 => exact HC0_2.out)
            rintro e w59 ⟨v175, rfl, ho0, hb⟩
            refine ⟨_, rfl, ?_⟩
            have HO176 := Aside0.mk (Kd.R_lower ho0 (below_size (bI HB.out)))
            replace BK168 := Aside0.mk (blk_below (g := gb168) (o := .cells #[.int .i64 a0_0, .string a0_1, .slice A0_2 l0_2.length c0_2] 48 (0, 0)) (kI BK168.out) hb)
            replace BK169 := Aside0.mk (blk_below (g := gb169) (o := .cells #[.int .i64 a1_0, .string a1_1, .slice A1_2 l1_2.length c1_2] 48 (0, 0)) (kI BK169.out) hb)
            replace BK187 := Aside0.mk (blk_below (g := gb187) (o := .cells #[.int .i64 0, .string (⟨#[]⟩ : ByteArray), .slice none 0 0] 41 (0, 0)) (kI BK187.out) hb)
            replace HB := Aside0.mk (below_step (bI HB.out) hb)
            (try clear hb)
            (try clear hb2)
            (try clear hk)
            (try clear hi)
            (try clear ho0)
            refine hK.out _ _ ⟨(blk_cell BK168.out 0).trans rfl, (blk_cell BK168.out 1).trans rfl, (blk_cell BK168.out 2).trans rfl, (blk_cell BK169.out 0).trans rfl, (blk_cell BK169.out 1).trans rfl, (blk_cell BK169.out 2).trans rfl⟩ (fun hHeld => ?_)
            clear hK K
            refine norm_ (a' := ?_) ?_ ?_
            rotate_left
            · show Act.put _ (some 25) _ = _
              simp only [Act.put, List.setIfInBounds_toArray, List.set_cons_zero, List.set_cons_succ, i64_w, i32_w]
              rfl
            refine one_ (i := 3) (N := some 27) #[true, true, true, true, false, true, false] rfl rfl (by kernel_rfl) (by decide) (fun K hK => ?_)
            refine goes_ Try.func36 (by kernel_rfl) rfl #[.agg #[.int .i64 a1_0, .string a1_1, .slice A1_2 l1_2.length c1_2]] (by rfl) rfl rfl (by (try simp only [List.map_toArray, List.map_cons, List.map_nil]); first | done | rfl | (simp only [List.length_drop, List.length_take]; rfl)) ?_
            with_reducible refine (laws_toQc.calls k a1_0 a1_1 _ _ l1_2 t177 t178 t179 _ ?side1 ?side2 A20.out).mono ?_
            (case side1 => repeat (first | exact (Kd.C_below HR1_2.out HB.out) | (with_reducible refine Kd.C_alloc ?_ _) | (with_reducible refine Kd.C_drewN ?_ _) | (with_reducible refine Kd.C_drew ?_)))
            (case side2 => exact HC1_2.out)
            rintro e w60 ⟨v180, rfl, ho0, hb⟩
            refine ⟨_, rfl, ?_⟩
            have HO181 := Aside0.mk (Kd.R_lower (Kd.R_new' ho0 (Kd.R_lt (rI HO176.out))) (below_size (bI HB.out)))
            replace HO176 := Aside0.mk (Kd.R_elder' (rI HO176.out) (Kd.R_base ho0) hb)
            replace BK168 := Aside0.mk (blk_below (g := gb168) (o := .cells #[.int .i64 a0_0, .string a0_1, .slice A0_2 l0_2.length c0_2] 48 (0, 0)) (kI BK168.out) hb)
            replace BK169 := Aside0.mk (blk_below (g := gb169) (o := .cells #[.int .i64 a1_0, .string a1_1, .slice A1_2 l1_2.length c1_2] 48 (0, 0)) (kI BK169.out) hb)
            replace BK187 := Aside0.mk (blk_below (g := gb187) (o := .cells #[.int .i64 0, .string (⟨#[]⟩ : ByteArray), .slice none 0 0] 41 (0, 0)) (kI BK187.out) hb)
            replace HB := Aside0.mk (below_step (bI HB.out) hb)
            (try clear hb)
            (try clear hb2)
            (try clear hk)
            (try clear hi)
            (try clear ho0)
            obtain ⟨Ao61, co61, eo61⟩ := Kd.R_slice HO176.out
            (first | subst eo61 | (injection eo61 with f1_ f2_ f3_; have f4_ := f1_.symm; have f5_ := f3_.symm; clear f1_ f2_ f3_; subst f4_; subst f5_))
            obtain ⟨Ao62, co62, eo62⟩ := Kd.R_slice HO181.out
            (first | subst eo62 | (injection eo62 with f1_ f2_ f3_; have f4_ := f1_.symm; have f5_ := f3_.symm; clear f1_ f2_ f3_; subst f4_; subst f5_))
            refine hK.out _ _ ⟨(blk_cell BK168.out 0).trans rfl, (blk_cell BK168.out 1).trans rfl, (blk_cell BK168.out 2).trans rfl, (blk_cell BK169.out 0).trans rfl, (blk_cell BK169.out 1).trans rfl, (blk_cell BK169.out 2).trans rfl⟩ (fun hHeld => ?_)
            clear hK K
            refine norm_ (a' := ?_) ?_ ?_
            rotate_left
            · show Act.put _ (some 27) _ = _
              simp only [Act.put, List.setIfInBounds_toArray, List.set_cons_zero, List.set_cons_succ, i64_w, i32_w]
              rfl
            refine one_ (i := 4) (N := some 28) #[true, true, true, true, true, true, false] rfl rfl (by kernel_rfl) (by decide) (fun K hK => ?_)
            refine goes_ Try.func50 (by kernel_rfl) rfl #[.agg #[.int .i64 t172, .string t173, .slice Ao61 t174.length co61], .agg #[.int .i64 t177, .string t178, .slice Ao62 t179.length co62]] (by rfl) rfl rfl (by (try simp only [List.map_toArray, List.map_cons, List.map_nil]); first | done | rfl | (simp only [List.length_drop, List.length_take]; rfl)) ?_
            with_reducible refine (spec_QcLater.calls t172 t173 _ _ t174 t177 t178 _ _ t179 t182 t183 t184 _ ?side1 ?side2 ?side3 ?side4 A21.out).mono ?_
            (case side1 => repeat (first | exact (Kd.R_reads' HO176.out).2.2 | (with_reducible refine Kd.C_alloc ?_ _) | (with_reducible refine Kd.C_drewN ?_ _) | (with_reducible refine Kd.C_drew ?_)))
            (case side2 => exact (Kd.R_reads' HO176.out).2.1)
            (case side3 => repeat (first | exact (Kd.R_reads' HO181.out).2.2 | (with_reducible refine Kd.C_alloc ?_ _) | (with_reducible refine Kd.C_drewN ?_ _) | (with_reducible refine Kd.C_drew ?_)))
            (case side4 => exact (Kd.R_reads' HO181.out).2.1)
            rintro e w63 ⟨v185, rfl, ho0, hb⟩
            refine ⟨_, rfl, ?_⟩
            have HO186 := Aside0.mk (Kd.R_lower (Kd.R_new' (Kd.R_new' ho0 (Kd.R_lt (rI HO176.out))) (Kd.R_lt (rI HO181.out))) (below_size (bI HB.out)))
            replace HO176 := Aside0.mk (Kd.R_elder' (rI HO176.out) (Kd.R_base ho0) hb)
            replace HO181 := Aside0.mk (Kd.R_elder' (rI HO181.out) (Kd.R_base ho0) hb)
            replace BK168 := Aside0.mk (blk_below (g := gb168) (o := .cells #[.int .i64 a0_0, .string a0_1, .slice A0_2 l0_2.length c0_2] 48 (0, 0)) (kI BK168.out) hb)
            replace BK169 := Aside0.mk (blk_below (g := gb169) (o := .cells #[.int .i64 a1_0, .string a1_1, .slice A1_2 l1_2.length c1_2] 48 (0, 0)) (kI BK169.out) hb)
            replace BK187 := Aside0.mk (blk_below (g := gb187) (o := .cells #[.int .i64 0, .string (⟨#[]⟩ : ByteArray), .slice none 0 0] 41 (0, 0)) (kI BK187.out) hb)
            replace HB := Aside0.mk (below_step (bI HB.out) hb)
            (try clear hb)
            (try clear hb2)
            (try clear hk)
            (try clear hi)
            (try clear ho0)
            refine hK.out _ _ ⟨(blk_cell BK168.out 0).trans rfl, (blk_cell BK168.out 1).trans rfl, (blk_cell BK168.out 2).trans rfl, (blk_cell BK169.out 0).trans rfl, (blk_cell BK169.out 1).trans rfl, (blk_cell BK169.out 2).trans rfl⟩ (fun hHeld => ?_)
            clear hK K
            refine norm_ (a' := ?_) ?_ ?_
            rotate_left
            · show Act.put _ (some 28) _ = _
              simp only [Act.put, List.setIfInBounds_toArray, List.set_cons_zero, List.set_cons_succ, i64_w, i32_w]
              rfl
            exact norm_ (by simp only [putAll, Act.put, List.setIfInBounds_toArray, List.set_cons_zero, List.set_cons_succ]) (hCont (.slice Ao61 t174.length co61, .slice Ao62 t179.length co62, v185, gb187) _ ⟨hHeld, (rI (Kd.R_mono HO176.out (fun _ hk => ⟨hk.1.2, hk.2⟩))), (rI (Kd.R_mono HO181.out (fun _ hk => ⟨hk.1.2, hk.2⟩))), (rI (Kd.R_mono HO186.out (fun _ hk => ⟨hk.1.2, hk.2⟩))), (kI BK168.out), (kI BK169.out), (kI BK187.out), GW187.out, GE187.out, NB168_187.out, NB187_168.out, NB169_187.out, NB187_169.out, (bI HB.out)⟩)
        rintro ⟨v175, v180, v185, gb187⟩ w64 ⟨hS_, h0_, h1_, h2_, h3_, h4_, h5_, h6_, h7_, h8_, h9_, h10_, h11_, h12_⟩
        have n0_ : Aside0 (Kd.R (Kd.int .i64) 3 w64 w.heap.size (fun k_ => some k_ ≠ (v180 : Value).ownBlock ∧ some k_ ≠ (v185 : Value).ownBlock) v175 t174) := ⟨h0_⟩
        have n1_ : Aside0 (Kd.R (Kd.int .i64) 3 w64 w.heap.size (fun k_ => some k_ ≠ (v175 : Value).ownBlock ∧ some k_ ≠ (v185 : Value).ownBlock) v180 t179) := ⟨h1_⟩
        have n2_ : Aside0 (Kd.R (Kd.int .i64) 3 w64 w.heap.size (fun k_ => some k_ ≠ (v175 : Value).ownBlock ∧ some k_ ≠ (v180 : Value).ownBlock) v185 t184) := ⟨h2_⟩
        have n3_ : Aside0 (w64.heap[gb168]? = some (.cells #[.int .i64 a0_0, .string a0_1, .slice A0_2 l0_2.length c0_2] 48 (0, 0))) := ⟨h3_⟩
        have n4_ : Aside0 (w64.heap[gb169]? = some (.cells #[.int .i64 a1_0, .string a1_1, .slice A1_2 l1_2.length c1_2] 48 (0, 0))) := ⟨h4_⟩
        have n5_ : Aside0 (w64.heap[gb187]? = some (.cells #[.int .i64 0, .string (⟨#[]⟩ : ByteArray), .slice none 0 0] 41 (0, 0))) := ⟨h5_⟩
        have n6_ : Aside0 (w.heap.size ≤ gb187) := ⟨h6_⟩
        have n7_ : Aside0 (w.heap.size ≤ gb187) := ⟨h7_⟩
        have n8_ : Aside0 (gb168 ≠ gb187) := ⟨h8_⟩
        have n9_ : Aside0 (gb187 ≠ gb168) := ⟨h9_⟩
        have n10_ : Aside0 (gb169 ≠ gb187) := ⟨h10_⟩
        have n11_ : Aside0 (gb187 ≠ gb169) := ⟨h11_⟩
        have n12_ : Aside0 (Below w.heap.size w w64) := ⟨h12_⟩
        clear BK168
        clear BK169
        clear HB
        clear h0_ h1_ h2_ h3_ h4_ h5_ h6_ h7_ h8_ h9_ h10_ h11_ h12_
        have HO176 := n0_
        have HO181 := n1_
        have HO186 := n2_
        have BK168 := n3_
        have BK169 := n4_
        have BK187 := n5_
        have GW187 := n6_
        have GE187 := n7_
        have GI187 := GeI.mk GE187.out
        have NB168_187 := n8_
        have NB187_168 := n9_
        have NB169_187 := n10_
        have NB187_169 := n11_
        have HB := n12_
        clear n0_ n1_ n2_ n3_ n4_ n5_ n6_ n7_ n8_ n9_ n10_ n11_ n12_
        have hHeld : w64.cell? ⟨gb168, 0, none⟩ = some (.int .i64 a0_0) ∧ w64.cell? ⟨gb168, 1, none⟩ = some (.string a0_1) ∧ w64.cell? ⟨gb168, 2, none⟩ = some (.slice A0_2 l0_2.length c0_2) ∧ w64.cell? ⟨gb169, 0, none⟩ = some (.int .i64 a1_0) ∧ w64.cell? ⟨gb169, 1, none⟩ = some (.string a1_1) ∧ w64.cell? ⟨gb169, 2, none⟩ = some (.slice A1_2 l1_2.length c1_2) := hS_
        obtain ⟨Ao67, co67, eo67⟩ := Kd.R_slice HO186.out
        (first | subst eo67 | (injection eo67 with f1_ f2_ f3_; have f4_ := f1_.symm; have f5_ := f3_.symm; clear f1_ f2_ f3_; subst f4_; subst f5_))
        refine norm_ (a' := ?_) ?_ ?_
        rotate_left
        · simp only [putAll, Act.put, List.setIfInBounds_toArray, List.set_cons_zero, List.set_cons_succ]
          rfl
        refine one_ (i := 6) (N := none) #[true, true, true, true, true, true, true] rfl rfl (by kernel_rfl) (by decide) (fun K hK => ?_)
        have hs65 : w64.cell? ⟨gb187, 0, none⟩ = some (.int .i64 0) := (blk_cell BK187.out 0).trans rfl
        have hfs65 := blk_frozen BK187.out 0
        have hns65_0 := NB168_187.out
        have hns65_1 := NB169_187.out
        have hms65_0 := NB187_168.out
        have hms65_1 := NB187_169.out
        have hs66 : w64.cell? ⟨gb187, 1, none⟩ = some (.string (⟨#[]⟩ : ByteArray)) := (blk_cell BK187.out 1).trans rfl
        have hfs66 := blk_frozen BK187.out 1
        have hns66_0 := NB168_187.out
        have hns66_1 := NB169_187.out
        have hms66_0 := NB187_168.out
        have hms66_1 := NB187_169.out
        have hs68 : w64.cell? ⟨gb187, 2, none⟩ = some (.slice none 0 0) := (blk_cell BK187.out 2).trans rfl
        have hfs68 := blk_frozen BK187.out 2
        have hns68_0 := NB168_187.out
        have hns68_1 := NB169_187.out
        have hms68_0 := NB187_168.out
        have hms68_1 := NB187_169.out
        refine skip_ (w1 := ?_) (by rfl) rfl ?_ ?_
        rotate_left
        · go_simp
          rfl
        refine hK.out _ _ ⟨((cell_far (p := ⟨gb187, _, none⟩) NB168_187.out _).trans (((cell_far (p := ⟨gb187, _, none⟩) NB168_187.out _).trans (((cell_far (p := ⟨gb187, _, none⟩) NB168_187.out _).trans (hHeld.1)))))), ((cell_far (p := ⟨gb187, _, none⟩) NB168_187.out _).trans (((cell_far (p := ⟨gb187, _, none⟩) NB168_187.out _).trans (((cell_far (p := ⟨gb187, _, none⟩) NB168_187.out _).trans (hHeld.2.1)))))), ((cell_far (p := ⟨gb187, _, none⟩) NB168_187.out _).trans (((cell_far (p := ⟨gb187, _, none⟩) NB168_187.out _).trans (((cell_far (p := ⟨gb187, _, none⟩) NB168_187.out _).trans (hHeld.2.2.1)))))), ((cell_far (p := ⟨gb187, _, none⟩) NB169_187.out _).trans (((cell_far (p := ⟨gb187, _, none⟩) NB169_187.out _).trans (((cell_far (p := ⟨gb187, _, none⟩) NB169_187.out _).trans (hHeld.2.2.2.1)))))), ((cell_far (p := ⟨gb187, _, none⟩) NB169_187.out _).trans (((cell_far (p := ⟨gb187, _, none⟩) NB169_187.out _).trans (((cell_far (p := ⟨gb187, _, none⟩) NB169_187.out _).trans (hHeld.2.2.2.2.1)))))), ((cell_far (p := ⟨gb187, _, none⟩) NB169_187.out _).trans (((cell_far (p := ⟨gb187, _, none⟩) NB169_187.out _).trans (((cell_far (p := ⟨gb187, _, none⟩) NB169_187.out _).trans (hHeld.2.2.2.2.2))))))⟩ (fun hHeld => ?_)
        clear hK K
        refine done_ (by kernel_rfl) ?_
        have hnb69 := NB168_187.out
        have hnc69 := NB187_168.out
        have hcz70_0 : w64.cell? ⟨gb168, 0, none⟩ = some (.int .i64 a0_0) := (blk_cell BK168.out 0).trans rfl
        have hcz70_1 : w64.cell? ⟨gb168, 1, none⟩ = some (.string a0_1) := (blk_cell BK168.out 1).trans rfl
        have hcz70_2 : w64.cell? ⟨gb168, 2, none⟩ = some (.slice A0_2 l0_2.length c0_2) := (blk_cell BK168.out 2).trans rfl
        have hfz70_0 := blk_frozen BK168.out 0
        have hfz70_1 := blk_frozen BK168.out 1
        have hfz70_2 := blk_frozen BK168.out 2
        try go_wp2_with (first | ((with_reducible refine gate_callee (f := 36) rfl ?_); refine goesL_ (some 30) rfl rfl Try.func36 (by kernel_rfl) rfl #[.agg #[.int .i64 a0_0, .string a0_1, .slice A0_2 l0_2.length c0_2]] rfl (by (try simp only [List.map_toArray, List.map_cons, List.map_nil]); first | done | rfl | (simp only [List.length_drop, List.length_take]; rfl)) ?_; (with_reducible refine (laws_toQc.calls k a0_0 a0_1 _ _ l0_2 t188 t189 t190 _ ?side1 ?side2 A22.out).mono ?_); (case side1 => exact Kd.C_below HR0_2.out (bI HB.out)); (case side2 => exact HC0_2.out); rintro e w71 ⟨v191, rfl, ho0, hb⟩; refine ⟨_, rfl, ?_⟩; have HO192 := Aside0.mk (Kd.R_lower (Kd.R_new' (Kd.R_new' (Kd.R_new' ho0 (Kd.R_lt (rI (Kd.R_mono (Kd.R_far (p := ⟨gb187, 2, none⟩) (Kd.R_far (p := ⟨gb187, 1, none⟩) (Kd.R_far (p := ⟨gb187, 0, none⟩) (Kd.R_types HO176.out BK187.out (by decide)) (fun _ hk => hk.2) (.int .i64 t182)) (fun _ hk => hk.2) (.string t183)) (fun _ hk => hk.2) (.slice Ao67 t184.length co67)) (fun _ h_ => h_.1))))) (Kd.R_lt (rI (Kd.R_mono (Kd.R_far (p := ⟨gb187, 2, none⟩) (Kd.R_far (p := ⟨gb187, 1, none⟩) (Kd.R_far (p := ⟨gb187, 0, none⟩) (Kd.R_types HO181.out BK187.out (by decide)) (fun _ hk => hk.2) (.int .i64 t182)) (fun _ hk => hk.2) (.string t183)) (fun _ hk => hk.2) (.slice Ao67 t184.length co67)) (fun _ h_ => h_.1))))) (Kd.R_lt (rI (Kd.R_mono (Kd.R_far (p := ⟨gb187, 2, none⟩) (Kd.R_far (p := ⟨gb187, 1, none⟩) (Kd.R_far (p := ⟨gb187, 0, none⟩) (Kd.R_types HO186.out BK187.out (by decide)) (fun _ hk => hk.2) (.int .i64 t182)) (fun _ hk => hk.2) (.string t183)) (fun _ hk => hk.2) (.slice Ao67 t184.length co67)) (fun _ h_ => h_.1))))) (below_size (bI HB.out))); replace HO176 := Aside0.mk (Kd.R_elder' (rI (Kd.R_mono (Kd.R_far (p := ⟨gb187, 2, none⟩) (Kd.R_far (p := ⟨gb187, 1, none⟩) (Kd.R_far (p := ⟨gb187, 0, none⟩) (Kd.R_types HO176.out BK187.out (by decide)) (fun _ hk => hk.2) (.int .i64 t182)) (fun _ hk => hk.2) (.string t183)) (fun _ hk => hk.2) (.slice Ao67 t184.length co67)) (fun _ h_ => h_.1))) (Kd.R_base ho0) hb); replace HO181 := Aside0.mk (Kd.R_elder' (rI (Kd.R_mono (Kd.R_far (p := ⟨gb187, 2, none⟩) (Kd.R_far (p := ⟨gb187, 1, none⟩) (Kd.R_far (p := ⟨gb187, 0, none⟩) (Kd.R_types HO181.out BK187.out (by decide)) (fun _ hk => hk.2) (.int .i64 t182)) (fun _ hk => hk.2) (.string t183)) (fun _ hk => hk.2) (.slice Ao67 t184.length co67)) (fun _ h_ => h_.1))) (Kd.R_base ho0) hb); replace HO186 := Aside0.mk (Kd.R_elder' (rI (Kd.R_mono (Kd.R_far (p := ⟨gb187, 2, none⟩) (Kd.R_far (p := ⟨gb187, 1, none⟩) (Kd.R_far (p := ⟨gb187, 0, none⟩) (Kd.R_types HO186.out BK187.out (by decide)) (fun _ hk => hk.2) (.int .i64 t182)) (fun _ hk => hk.2) (.string t183)) (fun _ hk => hk.2) (.slice Ao67 t184.length co67)) (fun _ h_ => h_.1))) (Kd.R_base ho0) hb); replace BK168 := Aside0.mk (blk_below (g := gb168) (o := .cells #[.int .i64 a0_0, .string a0_1, .slice A0_2 l0_2.length c0_2] 48 (0, 0)) (by (with_reducible repeat (first | refine blk_drewN ?_ _ | refine blk_drew ?_ | refine blk_alloc ?_ _)); refine blk_far ?_ NB168_187.out _; (with_reducible repeat (first | refine blk_drewN ?_ _ | refine blk_drew ?_ | refine blk_alloc ?_ _)); refine blk_far ?_ NB168_187.out _; (with_reducible repeat (first | refine blk_drewN ?_ _ | refine blk_drew ?_ | refine blk_alloc ?_ _)); refine blk_far ?_ NB168_187.out _; (with_reducible repeat (first | refine blk_drewN ?_ _ | refine blk_drew ?_ | refine blk_alloc ?_ _)); exact BK168.out) hb); replace BK169 := Aside0.mk (blk_below (g := gb169) (o := .cells #[.int .i64 a1_0, .string a1_1, .slice A1_2 l1_2.length c1_2] 48 (0, 0)) (by (with_reducible repeat (first | refine blk_drewN ?_ _ | refine blk_drew ?_ | refine blk_alloc ?_ _)); refine blk_far ?_ NB169_187.out _; (with_reducible repeat (first | refine blk_drewN ?_ _ | refine blk_drew ?_ | refine blk_alloc ?_ _)); refine blk_far ?_ NB169_187.out _; (with_reducible repeat (first | refine blk_drewN ?_ _ | refine blk_drew ?_ | refine blk_alloc ?_ _)); refine blk_far ?_ NB169_187.out _; (with_reducible repeat (first | refine blk_drewN ?_ _ | refine blk_drew ?_ | refine blk_alloc ?_ _)); exact BK169.out) hb); replace BK187 := Aside0.mk (blk_below (g := gb187) (o := .cells #[.int .i64 t182, .string t183, .slice Ao67 t184.length co67] 41 (0, 0)) (by (with_reducible repeat (first | refine blk_drewN ?_ _ | refine blk_drew ?_ | refine blk_alloc ?_ _)); refine blk_put (cs := #[.int .i64 t182, .string t183, .slice none 0 0]) ?_ 2 _ rfl; (with_reducible repeat (first | refine blk_drewN ?_ _ | refine blk_drew ?_ | refine blk_alloc ?_ _)); refine blk_put (cs := #[.int .i64 t182, .string (⟨#[]⟩ : ByteArray), .slice none 0 0]) ?_ 1 _ rfl; (with_reducible repeat (first | refine blk_drewN ?_ _ | refine blk_drew ?_ | refine blk_alloc ?_ _)); refine blk_put (cs := #[.int .i64 0, .string (⟨#[]⟩ : ByteArray), .slice none 0 0]) ?_ 0 _ rfl; (with_reducible repeat (first | refine blk_drewN ?_ _ | refine blk_drew ?_ | refine blk_alloc ?_ _)); exact BK187.out) hb); replace HB := Aside0.mk (below_step (bI HB.out) hb); (try clear hb); (try clear hb2); (try clear hk); (try clear hi); (try clear ho0); clear HO176; clear HO181; have n_ := Aside0.mk (Kd.R_mono (ok' := (fun k_ => some k_ ≠ (v191 : Value).ownBlock)) HO186.out (fun k_ hk => hk.2)); clear HO186; have HO186 := n_; clear n_; have n_ := Aside0.mk (Kd.R_mono (ok' := (fun k_ => some k_ ≠ (.slice Ao67 t184.length co67 : Value).ownBlock)) HO192.out (fun k_ hk => hk.2)); clear HO192; have HO192 := n_; clear n_) | ((with_reducible refine gate_dst (N := 7) rfl ?_); refine box_event ?hg (N := 7) ?hd (cs := #[.int .i64 0, .string (⟨#[]⟩ : ByteArray), .slice none 0 0]) (t := 41) ?hr ?_; (case hd => rfl); (case hg => rfl); (case hr => first | (go_simp; done) | (go_simp; rfl)); intro gb193 hg w72 hbox hb; replace HO186 := Aside0.mk (Kd.R_below (rI HO186.out) hb); replace HO192 := Aside0.mk (Kd.R_below (rI HO192.out) hb); have BK193 := Aside0.mk (hbox); have GW193 := Aside0.mk ((by rw [hg]; exact (below_size (bI HB.out)) : w.heap.size ≤ gb193)); have GE193 := Aside0.mk ((by rw [hg]; exact (below_size (bI HB.out)) : w.heap.size ≤ gb193)); have GI193 := GeI.mk GE193.out; replace HB := Aside0.mk (below_step (bI HB.out) hb); have NB168_193 := Aside0.mk ((by rw [hg]; exact Nat.ne_of_lt (blk_lt (g := gb168) (o := .cells #[.int .i64 a0_0, .string a0_1, .slice A0_2 l0_2.length c0_2] 48 (0, 0)) (kI BK168.out)) : gb168 ≠ gb193)); have NB193_168 := Aside0.mk ((by rw [hg]; exact Nat.ne_of_gt (blk_lt (g := gb168) (o := .cells #[.int .i64 a0_0, .string a0_1, .slice A0_2 l0_2.length c0_2] 48 (0, 0)) (kI BK168.out)) : gb193 ≠ gb168)); replace BK168 := Aside0.mk (blk_below (g := gb168) (o := .cells #[.int .i64 a0_0, .string a0_1, .slice A0_2 l0_2.length c0_2] 48 (0, 0)) (kI BK168.out) hb); have NB169_193 := Aside0.mk ((by rw [hg]; exact Nat.ne_of_lt (blk_lt (g := gb169) (o := .cells #[.int .i64 a1_0, .string a1_1, .slice A1_2 l1_2.length c1_2] 48 (0, 0)) (kI BK169.out)) : gb169 ≠ gb193)); have NB193_169 := Aside0.mk ((by rw [hg]; exact Nat.ne_of_gt (blk_lt (g := gb169) (o := .cells #[.int .i64 a1_0, .string a1_1, .slice A1_2 l1_2.length c1_2] 48 (0, 0)) (kI BK169.out)) : gb193 ≠ gb169)); replace BK169 := Aside0.mk (blk_below (g := gb169) (o := .cells #[.int .i64 a1_0, .string a1_1, .slice A1_2 l1_2.length c1_2] 48 (0, 0)) (kI BK169.out) hb); have NB187_193 := Aside0.mk ((by rw [hg]; exact Nat.ne_of_lt (blk_lt (g := gb187) (o := .cells #[.int .i64 t182, .string t183, .slice Ao67 t184.length co67] 41 (0, 0)) (kI BK187.out)) : gb187 ≠ gb193)); have NB193_187 := Aside0.mk ((by rw [hg]; exact Nat.ne_of_gt (blk_lt (g := gb187) (o := .cells #[.int .i64 t182, .string t183, .slice Ao67 t184.length co67] 41 (0, 0)) (kI BK187.out)) : gb193 ≠ gb187)); replace BK187 := Aside0.mk (blk_below (g := gb187) (o := .cells #[.int .i64 t182, .string t183, .slice Ao67 t184.length co67] 41 (0, 0)) (kI BK187.out) hb); clear hb hbox hg; have hnb73 := NB193_168.out; have hnc73 := NB168_193.out; have hnb74 := NB193_169.out; have hnc74 := NB169_193.out; have hnb75 := NB193_187.out; have hnc75 := NB187_193.out; have hcz76_0 : w72.cell? ⟨gb193, 0, none⟩ = some (.int .i64 0) := (blk_cell BK193.out 0).trans rfl; have hcz76_1 : w72.cell? ⟨gb193, 1, none⟩ = some (.string (⟨#[]⟩ : ByteArray)) := (blk_cell BK193.out 1).trans rfl; have hcz76_2 : w72.cell? ⟨gb193, 2, none⟩ = some (.slice none 0 0) := (blk_cell BK193.out 2).trans rfl; have hfz76_0 := blk_frozen BK193.out 0; have hfz76_1 := blk_frozen BK193.out 1; have hfz76_2 := blk_frozen BK193.out 2; obtain ⟨Ao77, co77, eo77⟩ := Kd.R_slice HO192.out; subst eo77; have hnb78 := NB169_187.out; have hnc78 := NB187_169.out; have hcz79_0 : w72.cell? ⟨gb169, 0, none⟩ = some (.int .i64 a1_0) := (blk_cell BK169.out 0).trans rfl; have hcz79_1 : w72.cell? ⟨gb169, 1, none⟩ = some (.string a1_1) := (blk_cell BK169.out 1).trans rfl; have hcz79_2 : w72.cell? ⟨gb169, 2, none⟩ = some (.slice A1_2 l1_2.length c1_2) := (blk_cell BK169.out 2).trans rfl; have hfz79_0 := blk_frozen BK169.out 0; have hfz79_1 := blk_frozen BK169.out 1; have hfz79_2 := blk_frozen BK169.out 2) | ((with_reducible refine gate_callee (f := 36) rfl ?_); refine goesL_ (some 32) rfl rfl Try.func36 (by kernel_rfl) rfl #[.agg #[.int .i64 a1_0, .string a1_1, .slice A1_2 l1_2.length c1_2]] rfl (by (try simp only [List.map_toArray, List.map_cons, List.map_nil]); first | done | rfl | (simp only [List.length_drop, List.length_take]; rfl)) ?_; (with_reducible refine (laws_toQc.calls k a1_0 a1_1 _ _ l1_2 t194 t195 t196 _ ?side1 ?side2 A23.out).mono ?_); (case side1 => exact Kd.C_below HR1_2.out (bI HB.out)); (case side2 => exact HC1_2.out); rintro e w80 ⟨v197, rfl, ho0, hb⟩; refine ⟨_, rfl, ?_⟩; have HO198 := Aside0.mk (Kd.R_lower (Kd.R_new' (Kd.R_new' ho0 (Kd.R_lt (rI (Kd.R_mono (Kd.R_far (p := ⟨gb193, 2, none⟩) (Kd.R_far (p := ⟨gb193, 1, none⟩) (Kd.R_far (p := ⟨gb193, 0, none⟩) (Kd.R_types HO186.out BK193.out (by decide)) (fun _ hk => hk.2) (.int .i64 t188)) (fun _ hk => hk.2) (.string t189)) (fun _ hk => hk.2) (.slice Ao77 t190.length co77)) (fun _ h_ => h_.1))))) (Kd.R_lt (rI (Kd.R_mono (Kd.R_far (p := ⟨gb193, 2, none⟩) (Kd.R_far (p := ⟨gb193, 1, none⟩) (Kd.R_far (p := ⟨gb193, 0, none⟩) (Kd.R_types HO192.out BK193.out (by decide)) (fun _ hk => hk.2) (.int .i64 t188)) (fun _ hk => hk.2) (.string t189)) (fun _ hk => hk.2) (.slice Ao77 t190.length co77)) (fun _ h_ => h_.1))))) (below_size (bI HB.out))); replace HO186 := Aside0.mk (Kd.R_elder' (rI (Kd.R_mono (Kd.R_far (p := ⟨gb193, 2, none⟩) (Kd.R_far (p := ⟨gb193, 1, none⟩) (Kd.R_far (p := ⟨gb193, 0, none⟩) (Kd.R_types HO186.out BK193.out (by decide)) (fun _ hk => hk.2) (.int .i64 t188)) (fun _ hk => hk.2) (.string t189)) (fun _ hk => hk.2) (.slice Ao77 t190.length co77)) (fun _ h_ => h_.1))) (Kd.R_base ho0) hb); replace HO192 := Aside0.mk (Kd.R_elder' (rI (Kd.R_mono (Kd.R_far (p := ⟨gb193, 2, none⟩) (Kd.R_far (p := ⟨gb193, 1, none⟩) (Kd.R_far (p := ⟨gb193, 0, none⟩) (Kd.R_types HO192.out BK193.out (by decide)) (fun _ hk => hk.2) (.int .i64 t188)) (fun _ hk => hk.2) (.string t189)) (fun _ hk => hk.2) (.slice Ao77 t190.length co77)) (fun _ h_ => h_.1))) (Kd.R_base ho0) hb); replace BK168 := Aside0.mk (blk_below (g := gb168) (o := .cells #[.int .i64 a0_0, .string a0_1, .slice A0_2 l0_2.length c0_2] 48 (0, 0)) (by (with_reducible repeat (first | refine blk_drewN ?_ _ | refine blk_drew ?_ | refine blk_alloc ?_ _)); refine blk_far ?_ NB168_193.out _; (with_reducible repeat (first | refine blk_drewN ?_ _ | refine blk_drew ?_ | refine blk_alloc ?_ _)); refine blk_far ?_ NB168_193.out _; (with_reducible repeat (first | refine blk_drewN ?_ _ | refine blk_drew ?_ | refine blk_alloc ?_ _)); refine blk_far ?_ NB168_193.out _; (with_reducible repeat (first | refine blk_drewN ?_ _ | refine blk_drew ?_ | refine blk_alloc ?_ _)); exact BK168.out) hb); replace BK169 := Aside0.mk (blk_below (g := gb169) (o := .cells #[.int .i64 a1_0, .string a1_1, .slice A1_2 l1_2.length c1_2] 48 (0, 0)) (by (with_reducible repeat (first | refine blk_drewN ?_ _ | refine blk_drew ?_ | refine blk_alloc ?_ _)); refine blk_far ?_ NB169_193.out _; (with_reducible repeat (first | refine blk_drewN ?_ _ | refine blk_drew ?_ | refine blk_alloc ?_ _)); refine blk_far ?_ NB169_193.out _; (with_reducible repeat (first | refine blk_drewN ?_ _ | refine blk_drew ?_ | refine blk_alloc ?_ _)); refine blk_far ?_ NB169_193.out _; (with_reducible repeat (first | refine blk_drewN ?_ _ | refine blk_drew ?_ | refine blk_alloc ?_ _)); exact BK169.out) hb); replace BK187 := Aside0.mk (blk_below (g := gb187) (o := .cells #[.int .i64 t182, .string t183, .slice Ao67 t184.length co67] 41 (0, 0)) (by (with_reducible repeat (first | refine blk_drewN ?_ _ | refine blk_drew ?_ | refine blk_alloc ?_ _)); refine blk_far ?_ NB187_193.out _; (with_reducible repeat (first | refine blk_drewN ?_ _ | refine blk_drew ?_ | refine blk_alloc ?_ _)); refine blk_far ?_ NB187_193.out _; (with_reducible repeat (first | refine blk_drewN ?_ _ | refine blk_drew ?_ | refine blk_alloc ?_ _)); refine blk_far ?_ NB187_193.out _; (with_reducible repeat (first | refine blk_drewN ?_ _ | refine blk_drew ?_ | refine blk_alloc ?_ _)); exact BK187.out) hb); replace BK193 := Aside0.mk (blk_below (g := gb193) (o := .cells #[.int .i64 t188, .string t189, .slice Ao77 t190.length co77] 41 (0, 0)) (by (with_reducible repeat (first | refine blk_drewN ?_ _ | refine blk_drew ?_ | refine blk_alloc ?_ _)); refine blk_put (cs := #[.int .i64 t188, .string t189, .slice none 0 0]) ?_ 2 _ rfl; (with_reducible repeat (first | refine blk_drewN ?_ _ | refine blk_drew ?_ | refine blk_alloc ?_ _)); refine blk_put (cs := #[.int .i64 t188, .string (⟨#[]⟩ : ByteArray), .slice none 0 0]) ?_ 1 _ rfl; (with_reducible repeat (first | refine blk_drewN ?_ _ | refine blk_drew ?_ | refine blk_alloc ?_ _)); refine blk_put (cs := #[.int .i64 0, .string (⟨#[]⟩ : ByteArray), .slice none 0 0]) ?_ 0 _ rfl; (with_reducible repeat (first | refine blk_drewN ?_ _ | refine blk_drew ?_ | refine blk_alloc ?_ _)); exact BK193.out) hb); replace HB := Aside0.mk (below_step (bI HB.out) hb); (try clear hb); (try clear hb2); (try clear hk); (try clear hi); (try clear ho0)) | ((with_reducible refine gate_dst (N := 8) rfl ?_); refine box_event ?hg (N := 8) ?hd (cs := #[.int .i64 0, .string (⟨#[]⟩ : ByteArray), .slice none 0 0]) (t := 41) ?hr ?_; (case hd => rfl); (case hg => rfl); (case hr => first | (go_simp; done) | (go_simp; rfl)); intro gb199 hg w81 hbox hb; replace HO186 := Aside0.mk (Kd.R_below (rI HO186.out) hb); replace HO192 := Aside0.mk (Kd.R_below (rI HO192.out) hb); replace HO198 := Aside0.mk (Kd.R_below (rI HO198.out) hb); have BK199 := Aside0.mk (hbox); have GW199 := Aside0.mk ((by rw [hg]; exact (below_size (bI HB.out)) : w.heap.size ≤ gb199)); have GE199 := Aside0.mk ((by rw [hg]; exact (below_size (bI HB.out)) : w.heap.size ≤ gb199)); have GI199 := GeI.mk GE199.out; replace HB := Aside0.mk (below_step (bI HB.out) hb); have NB168_199 := Aside0.mk ((by rw [hg]; exact Nat.ne_of_lt (blk_lt (g := gb168) (o := .cells #[.int .i64 a0_0, .string a0_1, .slice A0_2 l0_2.length c0_2] 48 (0, 0)) (kI BK168.out)) : gb168 ≠ gb199)); have NB199_168 := Aside0.mk ((by rw [hg]; exact Nat.ne_of_gt (blk_lt (g := gb168) (o := .cells #[.int .i64 a0_0, .string a0_1, .slice A0_2 l0_2.length c0_2] 48 (0, 0)) (kI BK168.out)) : gb199 ≠ gb168)); replace BK168 := Aside0.mk (blk_below (g := gb168) (o := .cells #[.int .i64 a0_0, .string a0_1, .slice A0_2 l0_2.length c0_2] 48 (0, 0)) (kI BK168.out) hb); have NB169_199 := Aside0.mk ((by rw [hg]; exact Nat.ne_of_lt (blk_lt (g := gb169) (o := .cells #[.int .i64 a1_0, .string a1_1, .slice A1_2 l1_2.length c1_2] 48 (0, 0)) (kI BK169.out)) : gb169 ≠ gb199)); have NB199_169 := Aside0.mk ((by rw [hg]; exact Nat.ne_of_gt (blk_lt (g := gb169) (o := .cells #[.int .i64 a1_0, .string a1_1, .slice A1_2 l1_2.length c1_2] 48 (0, 0)) (kI BK169.out)) : gb199 ≠ gb169)); replace BK169 := Aside0.mk (blk_below (g := gb169) (o := .cells #[.int .i64 a1_0, .string a1_1, .slice A1_2 l1_2.length c1_2] 48 (0, 0)) (kI BK169.out) hb); have NB187_199 := Aside0.mk ((by rw [hg]; exact Nat.ne_of_lt (blk_lt (g := gb187) (o := .cells #[.int .i64 t182, .string t183, .slice Ao67 t184.length co67] 41 (0, 0)) (kI BK187.out)) : gb187 ≠ gb199)); have NB199_187 := Aside0.mk ((by rw [hg]; exact Nat.ne_of_gt (blk_lt (g := gb187) (o := .cells #[.int .i64 t182, .string t183, .slice Ao67 t184.length co67] 41 (0, 0)) (kI BK187.out)) : gb199 ≠ gb187)); replace BK187 := Aside0.mk (blk_below (g := gb187) (o := .cells #[.int .i64 t182, .string t183, .slice Ao67 t184.length co67] 41 (0, 0)) (kI BK187.out) hb); have NB193_199 := Aside0.mk ((by rw [hg]; exact Nat.ne_of_lt (blk_lt (g := gb193) (o := .cells #[.int .i64 t188, .string t189, .slice Ao77 t190.length co77] 41 (0, 0)) (kI BK193.out)) : gb193 ≠ gb199)); have NB199_193 := Aside0.mk ((by rw [hg]; exact Nat.ne_of_gt (blk_lt (g := gb193) (o := .cells #[.int .i64 t188, .string t189, .slice Ao77 t190.length co77] 41 (0, 0)) (kI BK193.out)) : gb199 ≠ gb193)); replace BK193 := Aside0.mk (blk_below (g := gb193) (o := .cells #[.int .i64 t188, .string t189, .slice Ao77 t190.length co77] 41 (0, 0)) (kI BK193.out) hb); clear hb hbox hg; have hnb82 := NB199_168.out; have hnc82 := NB168_199.out; have hnb83 := NB199_169.out; have hnc83 := NB169_199.out; have hnb84 := NB199_187.out; have hnc84 := NB187_199.out; have hnb85 := NB199_193.out; have hnc85 := NB193_199.out; have hcz86_0 : w81.cell? ⟨gb199, 0, none⟩ = some (.int .i64 0) := (blk_cell BK199.out 0).trans rfl; have hcz86_1 : w81.cell? ⟨gb199, 1, none⟩ = some (.string (⟨#[]⟩ : ByteArray)) := (blk_cell BK199.out 1).trans rfl; have hcz86_2 : w81.cell? ⟨gb199, 2, none⟩ = some (.slice none 0 0) := (blk_cell BK199.out 2).trans rfl; have hfz86_0 := blk_frozen BK199.out 0; have hfz86_1 := blk_frozen BK199.out 1; have hfz86_2 := blk_frozen BK199.out 2; obtain ⟨Ao87, co87, eo87⟩ := Kd.R_slice HO198.out; subst eo87; have hcz88_0 : w81.cell? ⟨gb193, 0, none⟩ = some (.int .i64 t188) := (blk_cell BK193.out 0).trans rfl; have hcz88_1 : w81.cell? ⟨gb193, 1, none⟩ = some (.string t189) := (blk_cell BK193.out 1).trans rfl; have hcz88_2 : w81.cell? ⟨gb193, 2, none⟩ = some (.slice Ao77 t190.length co77) := (blk_cell BK193.out 2).trans rfl; have hfz88_0 := blk_frozen BK193.out 0; have hfz88_1 := blk_frozen BK193.out 1; have hfz88_2 := blk_frozen BK193.out 2) | ((with_reducible refine gate_callee (f := 51) rfl ?_); refine goesL_ (some 35) rfl rfl Try.func51 (by kernel_rfl) rfl #[.agg #[.int .i64 t188, .string t189, .slice Ao77 t190.length co77], .agg #[.int .i64 t194, .string t195, .slice Ao87 t196.length co87]] rfl (by (try simp only [List.map_toArray, List.map_cons, List.map_nil]); first | done | rfl | (simp only [List.length_drop, List.length_take]; rfl)) ?_; (with_reducible refine (impl_QcLater.calls t188 t189 _ _ t190 t194 t195 _ _ t196 t200 t201 t202 _ ?side1 ?side2 ?side3 ?side4 A24.out).mono ?_); (case side1 => refine (Kd.R_reads' (e := 3) (base := w.heap.size) (ok := fun k_ => (some k_ ≠ (.slice Ao67 t184.length co67 : Value).ownBlock ∧ some k_ ≠ (.slice Ao87 t196.length co87 : Value).ownBlock)) (n := t190.length) (c := co77) ?_).2.2; exact (rI (Kd.R_mono (Kd.R_far (p := ⟨gb199, 2, none⟩) (Kd.R_far (p := ⟨gb199, 1, none⟩) (Kd.R_far (p := ⟨gb199, 0, none⟩) (Kd.R_types HO192.out BK199.out (by decide)) (fun _ hk => hk.2) (.int .i64 t194)) (fun _ hk => hk.2) (.string t195)) (fun _ hk => hk.2) (.slice Ao87 t196.length co87)) (fun _ h_ => h_.1)))); (case side2 => exact (Kd.R_reads' HO192.out).2.1); (case side3 => refine (Kd.R_reads' (e := 3) (base := w.heap.size) (ok := fun k_ => ((True ∧ some k_ ≠ (.slice Ao67 t184.length co67 : Value).ownBlock) ∧ some k_ ≠ (.slice Ao77 t190.length co77 : Value).ownBlock)) (n := t196.length) (c := co87) ?_).2.2; exact (rI (Kd.R_mono (Kd.R_far (p := ⟨gb199, 2, none⟩) (Kd.R_far (p := ⟨gb199, 1, none⟩) (Kd.R_far (p := ⟨gb199, 0, none⟩) (Kd.R_types HO198.out BK199.out (by decide)) (fun _ hk => hk.2) (.int .i64 t194)) (fun _ hk => hk.2) (.string t195)) (fun _ hk => hk.2) (.slice Ao87 t196.length co87)) (fun _ h_ => h_.1)))); (case side4 => exact (Kd.R_reads' HO198.out).2.1); rintro e w89 ⟨v203, rfl, ho0, hb⟩; refine ⟨_, rfl, ?_⟩; have HO204 := Aside0.mk (Kd.R_lower (Kd.R_new' (Kd.R_new' (Kd.R_new' ho0 (Kd.R_lt (rI (Kd.R_mono (Kd.R_far (p := ⟨gb199, 2, none⟩) (Kd.R_far (p := ⟨gb199, 1, none⟩) (Kd.R_far (p := ⟨gb199, 0, none⟩) (Kd.R_types HO186.out BK199.out (by decide)) (fun _ hk => hk.2) (.int .i64 t194)) (fun _ hk => hk.2) (.string t195)) (fun _ hk => hk.2) (.slice Ao87 t196.length co87)) (fun _ h_ => h_.1))))) (Kd.R_lt (rI (Kd.R_mono (Kd.R_far (p := ⟨gb199, 2, none⟩) (Kd.R_far (p := ⟨gb199, 1, none⟩) (Kd.R_far (p := ⟨gb199, 0, none⟩) (Kd.R_types HO192.out BK199.out (by decide)) (fun _ hk => hk.2) (.int .i64 t194)) (fun _ hk => hk.2) (.string t195)) (fun _ hk => hk.2) (.slice Ao87 t196.length co87)) (fun _ h_ => h_.1))))) (Kd.R_lt (rI (Kd.R_mono (Kd.R_far (p := ⟨gb199, 2, none⟩) (Kd.R_far (p := ⟨gb199, 1, none⟩) (Kd.R_far (p := ⟨gb199, 0, none⟩) (Kd.R_types HO198.out BK199.out (by decide)) (fun _ hk => hk.2) (.int .i64 t194)) (fun _ hk => hk.2) (.string t195)) (fun _ hk => hk.2) (.slice Ao87 t196.length co87)) (fun _ h_ => h_.1))))) (below_size (bI HB.out))); replace HO186 := Aside0.mk (Kd.R_elder' (rI (Kd.R_mono (Kd.R_far (p := ⟨gb199, 2, none⟩) (Kd.R_far (p := ⟨gb199, 1, none⟩) (Kd.R_far (p := ⟨gb199, 0, none⟩) (Kd.R_types HO186.out BK199.out (by decide)) (fun _ hk => hk.2) (.int .i64 t194)) (fun _ hk => hk.2) (.string t195)) (fun _ hk => hk.2) (.slice Ao87 t196.length co87)) (fun _ h_ => h_.1))) (Kd.R_base ho0) hb); replace HO192 := Aside0.mk (Kd.R_elder' (rI (Kd.R_mono (Kd.R_far (p := ⟨gb199, 2, none⟩) (Kd.R_far (p := ⟨gb199, 1, none⟩) (Kd.R_far (p := ⟨gb199, 0, none⟩) (Kd.R_types HO192.out BK199.out (by decide)) (fun _ hk => hk.2) (.int .i64 t194)) (fun _ hk => hk.2) (.string t195)) (fun _ hk => hk.2) (.slice Ao87 t196.length co87)) (fun _ h_ => h_.1))) (Kd.R_base ho0) hb); replace HO198 := Aside0.mk (Kd.R_elder' (rI (Kd.R_mono (Kd.R_far (p := ⟨gb199, 2, none⟩) (Kd.R_far (p := ⟨gb199, 1, none⟩) (Kd.R_far (p := ⟨gb199, 0, none⟩) (Kd.R_types HO198.out BK199.out (by decide)) (fun _ hk => hk.2) (.int .i64 t194)) (fun _ hk => hk.2) (.string t195)) (fun _ hk => hk.2) (.slice Ao87 t196.length co87)) (fun _ h_ => h_.1))) (Kd.R_base ho0) hb); replace BK168 := Aside0.mk (blk_below (g := gb168) (o := .cells #[.int .i64 a0_0, .string a0_1, .slice A0_2 l0_2.length c0_2] 48 (0, 0)) (by (with_reducible repeat (first | refine blk_drewN ?_ _ | refine blk_drew ?_ | refine blk_alloc ?_ _)); refine blk_far ?_ NB168_199.out _; (with_reducible repeat (first | refine blk_drewN ?_ _ | refine blk_drew ?_ | refine blk_alloc ?_ _)); refine blk_far ?_ NB168_199.out _; (with_reducible repeat (first | refine blk_drewN ?_ _ | refine blk_drew ?_ | refine blk_alloc ?_ _)); refine blk_far ?_ NB168_199.out _; (with_reducible repeat (first | refine blk_drewN ?_ _ | refine blk_drew ?_ | refine blk_alloc ?_ _)); exact BK168.out) hb); replace BK169 := Aside0.mk (blk_below (g := gb169) (o := .cells #[.int .i64 a1_0, .string a1_1, .slice A1_2 l1_2.length c1_2] 48 (0, 0)) (by (with_reducible repeat (first | refine blk_drewN ?_ _ | refine blk_drew ?_ | refine blk_alloc ?_ _)); refine blk_far ?_ NB169_199.out _; (with_reducible repeat (first | refine blk_drewN ?_ _ | refine blk_drew ?_ | refine blk_alloc ?_ _)); refine blk_far ?_ NB169_199.out _; (with_reducible repeat (first | refine blk_drewN ?_ _ | refine blk_drew ?_ | refine blk_alloc ?_ _)); refine blk_far ?_ NB169_199.out _; (with_reducible repeat (first | refine blk_drewN ?_ _ | refine blk_drew ?_ | refine blk_alloc ?_ _)); exact BK169.out) hb); replace BK187 := Aside0.mk (blk_below (g := gb187) (o := .cells #[.int .i64 t182, .string t183, .slice Ao67 t184.length co67] 41 (0, 0)) (by (with_reducible repeat (first | refine blk_drewN ?_ _ | refine blk_drew ?_ | refine blk_alloc ?_ _)); refine blk_far ?_ NB187_199.out _; (with_reducible repeat (first | refine blk_drewN ?_ _ | refine blk_drew ?_ | refine blk_alloc ?_ _)); refine blk_far ?_ NB187_199.out _; (with_reducible repeat (first | refine blk_drewN ?_ _ | refine blk_drew ?_ | refine blk_alloc ?_ _)); refine blk_far ?_ NB187_199.out _; (with_reducible repeat (first | refine blk_drewN ?_ _ | refine blk_drew ?_ | refine blk_alloc ?_ _)); exact BK187.out) hb); replace BK193 := Aside0.mk (blk_below (g := gb193) (o := .cells #[.int .i64 t188, .string t189, .slice Ao77 t190.length co77] 41 (0, 0)) (by (with_reducible repeat (first | refine blk_drewN ?_ _ | refine blk_drew ?_ | refine blk_alloc ?_ _)); refine blk_far ?_ NB193_199.out _; (with_reducible repeat (first | refine blk_drewN ?_ _ | refine blk_drew ?_ | refine blk_alloc ?_ _)); refine blk_far ?_ NB193_199.out _; (with_reducible repeat (first | refine blk_drewN ?_ _ | refine blk_drew ?_ | refine blk_alloc ?_ _)); refine blk_far ?_ NB193_199.out _; (with_reducible repeat (first | refine blk_drewN ?_ _ | refine blk_drew ?_ | refine blk_alloc ?_ _)); exact BK193.out) hb); replace BK199 := Aside0.mk (blk_below (g := gb199) (o := .cells #[.int .i64 t194, .string t195, .slice Ao87 t196.length co87] 41 (0, 0)) (by (with_reducible repeat (first | refine blk_drewN ?_ _ | refine blk_drew ?_ | refine blk_alloc ?_ _)); refine blk_put (cs := #[.int .i64 t194, .string t195, .slice none 0 0]) ?_ 2 _ rfl; (with_reducible repeat (first | refine blk_drewN ?_ _ | refine blk_drew ?_ | refine blk_alloc ?_ _)); refine blk_put (cs := #[.int .i64 t194, .string (⟨#[]⟩ : ByteArray), .slice none 0 0]) ?_ 1 _ rfl; (with_reducible repeat (first | refine blk_drewN ?_ _ | refine blk_drew ?_ | refine blk_alloc ?_ _)); refine blk_put (cs := #[.int .i64 0, .string (⟨#[]⟩ : ByteArray), .slice none 0 0]) ?_ 0 _ rfl; (with_reducible repeat (first | refine blk_drewN ?_ _ | refine blk_drew ?_ | refine blk_alloc ?_ _)); exact BK199.out) hb); replace HB := Aside0.mk (below_step (bI HB.out) hb); (try clear hb); (try clear hb2); (try clear hk); (try clear hi); (try clear ho0)) | ((with_reducible refine gate_dst (N := 9) rfl ?_); refine box_event ?hg (N := 9) ?hd (cs := #[.int .i64 0, .string (⟨#[]⟩ : ByteArray), .slice none 0 0]) (t := 41) ?hr ?_; (case hd => rfl); (case hg => rfl); (case hr => first | (go_simp; done) | (go_simp; rfl)); intro gb205 hg w90 hbox hb; replace HO186 := Aside0.mk (Kd.R_below (rI HO186.out) hb); replace HO192 := Aside0.mk (Kd.R_below (rI HO192.out) hb); replace HO198 := Aside0.mk (Kd.R_below (rI HO198.out) hb); replace HO204 := Aside0.mk (Kd.R_below (rI HO204.out) hb); have BK205 := Aside0.mk (hbox); have GW205 := Aside0.mk ((by rw [hg]; exact (below_size (bI HB.out)) : w.heap.size ≤ gb205)); have GE205 := Aside0.mk ((by rw [hg]; exact (below_size (bI HB.out)) : w.heap.size ≤ gb205)); have GI205 := GeI.mk GE205.out; replace HB := Aside0.mk (below_step (bI HB.out) hb); have NB168_205 := Aside0.mk ((by rw [hg]; exact Nat.ne_of_lt (blk_lt (g := gb168) (o := .cells #[.int .i64 a0_0, .string a0_1, .slice A0_2 l0_2.length c0_2] 48 (0, 0)) (kI BK168.out)) : gb168 ≠ gb205)); have NB205_168 := Aside0.mk ((by rw [hg]; exact Nat.ne_of_gt (blk_lt (g := gb168) (o := .cells #[.int .i64 a0_0, .string a0_1, .slice A0_2 l0_2.length c0_2] 48 (0, 0)) (kI BK168.out)) : gb205 ≠ gb168)); replace BK168 := Aside0.mk (blk_below (g := gb168) (o := .cells #[.int .i64 a0_0, .string a0_1, .slice A0_2 l0_2.length c0_2] 48 (0, 0)) (kI BK168.out) hb); have NB169_205 := Aside0.mk ((by rw [hg]; exact Nat.ne_of_lt (blk_lt (g := gb169) (o := .cells #[.int .i64 a1_0, .string a1_1, .slice A1_2 l1_2.length c1_2] 48 (0, 0)) (kI BK169.out)) : gb169 ≠ gb205)); have NB205_169 := Aside0.mk ((by rw [hg]; exact Nat.ne_of_gt (blk_lt (g := gb169) (o := .cells #[.int .i64 a1_0, .string a1_1, .slice A1_2 l1_2.length c1_2] 48 (0, 0)) (kI BK169.out)) : gb205 ≠ gb169)); replace BK169 := Aside0.mk (blk_below (g := gb169) (o := .cells #[.int .i64 a1_0, .string a1_1, .slice A1_2 l1_2.length c1_2] 48 (0, 0)) (kI BK169.out) hb); have NB187_205 := Aside0.mk ((by rw [hg]; exact Nat.ne_of_lt (blk_lt (g := gb187) (o := .cells #[.int .i64 t182, .string t183, .slice Ao67 t184.length co67] 41 (0, 0)) (kI BK187.out)) : gb187 ≠ gb205)); have NB205_187 := Aside0.mk ((by rw [hg]; exact Nat.ne_of_gt (blk_lt (g := gb187) (o := .cells #[.int .i64 t182, .string t183, .slice Ao67 t184.length co67] 41 (0, 0)) (kI BK187.out)) : gb205 ≠ gb187)); replace BK187 := Aside0.mk (blk_below (g := gb187) (o := .cells #[.int .i64 t182, .string t183, .slice Ao67 t184.length co67] 41 (0, 0)) (kI BK187.out) hb); have NB193_205 := Aside0.mk ((by rw [hg]; exact Nat.ne_of_lt (blk_lt (g := gb193) (o := .cells #[.int .i64 t188, .string t189, .slice Ao77 t190.length co77] 41 (0, 0)) (kI BK193.out)) : gb193 ≠ gb205)); have NB205_193 := Aside0.mk ((by rw [hg]; exact Nat.ne_of_gt (blk_lt (g := gb193) (o := .cells #[.int .i64 t188, .string t189, .slice Ao77 t190.length co77] 41 (0, 0)) (kI BK193.out)) : gb205 ≠ gb193)); replace BK193 := Aside0.mk (blk_below (g := gb193) (o := .cells #[.int .i64 t188, .string t189, .slice Ao77 t190.length co77] 41 (0, 0)) (kI BK193.out) hb); have NB199_205 := Aside0.mk ((by rw [hg]; exact Nat.ne_of_lt (blk_lt (g := gb199) (o := .cells #[.int .i64 t194, .string t195, .slice Ao87 t196.length co87] 41 (0, 0)) (kI BK199.out)) : gb199 ≠ gb205)); have NB205_199 := Aside0.mk ((by rw [hg]; exact Nat.ne_of_gt (blk_lt (g := gb199) (o := .cells #[.int .i64 t194, .string t195, .slice Ao87 t196.length co87] 41 (0, 0)) (kI BK199.out)) : gb205 ≠ gb199)); replace BK199 := Aside0.mk (blk_below (g := gb199) (o := .cells #[.int .i64 t194, .string t195, .slice Ao87 t196.length co87] 41 (0, 0)) (kI BK199.out) hb); clear hb hbox hg; have hnb91 := NB205_168.out; have hnc91 := NB168_205.out; have hnb92 := NB205_169.out; have hnc92 := NB169_205.out; have hnb93 := NB205_187.out; have hnc93 := NB187_205.out; have hnb94 := NB205_193.out; have hnc94 := NB193_205.out; have hnb95 := NB205_199.out; have hnc95 := NB199_205.out; have hcz96_0 : w90.cell? ⟨gb205, 0, none⟩ = some (.int .i64 0) := (blk_cell BK205.out 0).trans rfl; have hcz96_1 : w90.cell? ⟨gb205, 1, none⟩ = some (.string (⟨#[]⟩ : ByteArray)) := (blk_cell BK205.out 1).trans rfl; have hcz96_2 : w90.cell? ⟨gb205, 2, none⟩ = some (.slice none 0 0) := (blk_cell BK205.out 2).trans rfl; have hfz96_0 := blk_frozen BK205.out 0; have hfz96_1 := blk_frozen BK205.out 1; have hfz96_2 := blk_frozen BK205.out 2; obtain ⟨Ao97, co97, eo97⟩ := Kd.R_slice HO204.out; subst eo97; have hcz98_0 : w90.cell? ⟨gb187, 0, none⟩ = some (.int .i64 t182) := (blk_cell BK187.out 0).trans rfl; have hcz98_1 : w90.cell? ⟨gb187, 1, none⟩ = some (.string t183) := (blk_cell BK187.out 1).trans rfl; have hcz98_2 : w90.cell? ⟨gb187, 2, none⟩ = some (.slice Ao67 t184.length co67) := (blk_cell BK187.out 2).trans rfl; have hfz98_0 := blk_frozen BK187.out 0; have hfz98_1 := blk_frozen BK187.out 1; have hfz98_2 := blk_frozen BK187.out 2) | ((with_reducible refine gate_callee (f := 38) rfl ?_); refine goesL_ (some 38) rfl rfl Try.func38 (by kernel_rfl) rfl #[.agg #[.int .i64 t200, .string t201, .slice Ao97 t202.length co97], .agg #[.int .i64 t182, .string t183, .slice Ao67 t184.length co67]] rfl (by (try simp only [List.map_toArray, List.map_cons, List.map_nil]); first | done | rfl | (simp only [List.length_drop, List.length_take]; rfl)) ?_; (with_reducible refine (laws_eqQc.calls k t200 t201 _ _ t202 t182 t183 _ _ t184 true _ ?side1 ?side2 ?side3 ?side4 A25.out).mono ?_); (case side1 => refine (Kd.R_reads' (e := 3) (base := w.heap.size) (ok := fun k_ => (((True ∧ some k_ ≠ (.slice Ao67 t184.length co67 : Value).ownBlock) ∧ some k_ ≠ (.slice Ao77 t190.length co77 : Value).ownBlock) ∧ some k_ ≠ (.slice Ao87 t196.length co87 : Value).ownBlock)) (n := t202.length) (c := co97) ?_).2.2; exact (rI (Kd.R_mono (Kd.R_far (p := ⟨gb205, 2, none⟩) (Kd.R_far (p := ⟨gb205, 1, none⟩) (Kd.R_far (p := ⟨gb205, 0, none⟩) (Kd.R_types HO204.out BK205.out (by decide)) (fun _ hk => hk.2) (.int .i64 t200)) (fun _ hk => hk.2) (.string t201)) (fun _ hk => hk.2) (.slice Ao97 t202.length co97)) (fun _ h_ => h_.1)))); (case side2 => exact (Kd.R_reads' HO204.out).2.1); (case side3 => refine (Kd.R_reads' (e := 3) (base := w.heap.size) (ok := fun k_ => ((some k_ ≠ (.slice Ao77 t190.length co77 : Value).ownBlock ∧ some k_ ≠ (.slice Ao87 t196.length co87 : Value).ownBlock) ∧ some k_ ≠ (.slice Ao97 t202.length co97 : Value).ownBlock)) (n := t184.length) (c := co67) ?_).2.2; exact (rI (Kd.R_mono (Kd.R_far (p := ⟨gb205, 2, none⟩) (Kd.R_far (p := ⟨gb205, 1, none⟩) (Kd.R_far (p := ⟨gb205, 0, none⟩) (Kd.R_types HO186.out BK205.out (by decide)) (fun _ hk => hk.2) (.int .i64 t200)) (fun _ hk => hk.2) (.string t201)) (fun _ hk => hk.2) (.slice Ao97 t202.length co97)) (fun _ h_ => h_.1)))); (case side4 => exact (Kd.R_reads' HO186.out).2.1); rintro e w99 ⟨rfl, hb⟩; refine ⟨_, rfl, ?_⟩; replace HO186 := Aside0.mk (Kd.R_below (rI (Kd.R_mono (Kd.R_far (p := ⟨gb205, 2, none⟩) (Kd.R_far (p := ⟨gb205, 1, none⟩) (Kd.R_far (p := ⟨gb205, 0, none⟩) (Kd.R_types HO186.out BK205.out (by decide)) (fun _ hk => hk.2) (.int .i64 t200)) (fun _ hk => hk.2) (.string t201)) (fun _ hk => hk.2) (.slice Ao97 t202.length co97)) (fun _ h_ => h_.1))) hb); replace HO192 := Aside0.mk (Kd.R_below (rI (Kd.R_mono (Kd.R_far (p := ⟨gb205, 2, none⟩) (Kd.R_far (p := ⟨gb205, 1, none⟩) (Kd.R_far (p := ⟨gb205, 0, none⟩) (Kd.R_types HO192.out BK205.out (by decide)) (fun _ hk => hk.2) (.int .i64 t200)) (fun _ hk => hk.2) (.string t201)) (fun _ hk => hk.2) (.slice Ao97 t202.length co97)) (fun _ h_ => h_.1))) hb); replace HO198 := Aside0.mk (Kd.R_below (rI (Kd.R_mono (Kd.R_far (p := ⟨gb205, 2, none⟩) (Kd.R_far (p := ⟨gb205, 1, none⟩) (Kd.R_far (p := ⟨gb205, 0, none⟩) (Kd.R_types HO198.out BK205.out (by decide)) (fun _ hk => hk.2) (.int .i64 t200)) (fun _ hk => hk.2) (.string t201)) (fun _ hk => hk.2) (.slice Ao97 t202.length co97)) (fun _ h_ => h_.1))) hb); replace HO204 := Aside0.mk (Kd.R_below (rI (Kd.R_mono (Kd.R_far (p := ⟨gb205, 2, none⟩) (Kd.R_far (p := ⟨gb205, 1, none⟩) (Kd.R_far (p := ⟨gb205, 0, none⟩) (Kd.R_types HO204.out BK205.out (by decide)) (fun _ hk => hk.2) (.int .i64 t200)) (fun _ hk => hk.2) (.string t201)) (fun _ hk => hk.2) (.slice Ao97 t202.length co97)) (fun _ h_ => h_.1))) hb); replace BK168 := Aside0.mk (blk_below (g := gb168) (o := .cells #[.int .i64 a0_0, .string a0_1, .slice A0_2 l0_2.length c0_2] 48 (0, 0)) (by (with_reducible repeat (first | refine blk_drewN ?_ _ | refine blk_drew ?_ | refine blk_alloc ?_ _)); refine blk_far ?_ NB168_205.out _; (with_reducible repeat (first | refine blk_drewN ?_ _ | refine blk_drew ?_ | refine blk_alloc ?_ _)); refine blk_far ?_ NB168_205.out _; (with_reducible repeat (first | refine blk_drewN ?_ _ | refine blk_drew ?_ | refine blk_alloc ?_ _)); refine blk_far ?_ NB168_205.out _; (with_reducible repeat (first | refine blk_drewN ?_ _ | refine blk_drew ?_ | refine blk_alloc ?_ _)); exact BK168.out) hb); replace BK169 := Aside0.mk (blk_below (g := gb169) (o := .cells #[.int .i64 a1_0, .string a1_1, .slice A1_2 l1_2.length c1_2] 48 (0, 0)) (by (with_reducible repeat (first | refine blk_drewN ?_ _ | refine blk_drew ?_ | refine blk_alloc ?_ _)); refine blk_far ?_ NB169_205.out _; (with_reducible repeat (first | refine blk_drewN ?_ _ | refine blk_drew ?_ | refine blk_alloc ?_ _)); refine blk_far ?_ NB169_205.out _; (with_reducible repeat (first | refine blk_drewN ?_ _ | refine blk_drew ?_ | refine blk_alloc ?_ _)); refine blk_far ?_ NB169_205.out _; (with_reducible repeat (first | refine blk_drewN ?_ _ | refine blk_drew ?_ | refine blk_alloc ?_ _)); exact BK169.out) hb); replace BK187 := Aside0.mk (blk_below (g := gb187) (o := .cells #[.int .i64 t182, .string t183, .slice Ao67 t184.length co67] 41 (0, 0)) (by (with_reducible repeat (first | refine blk_drewN ?_ _ | refine blk_drew ?_ | refine blk_alloc ?_ _)); refine blk_far ?_ NB187_205.out _; (with_reducible repeat (first | refine blk_drewN ?_ _ | refine blk_drew ?_ | refine blk_alloc ?_ _)); refine blk_far ?_ NB187_205.out _; (with_reducible repeat (first | refine blk_drewN ?_ _ | refine blk_drew ?_ | refine blk_alloc ?_ _)); refine blk_far ?_ NB187_205.out _; (with_reducible repeat (first | refine blk_drewN ?_ _ | refine blk_drew ?_ | refine blk_alloc ?_ _)); exact BK187.out) hb); replace BK193 := Aside0.mk (blk_below (g := gb193) (o := .cells #[.int .i64 t188, .string t189, .slice Ao77 t190.length co77] 41 (0, 0)) (by (with_reducible repeat (first | refine blk_drewN ?_ _ | refine blk_drew ?_ | refine blk_alloc ?_ _)); refine blk_far ?_ NB193_205.out _; (with_reducible repeat (first | refine blk_drewN ?_ _ | refine blk_drew ?_ | refine blk_alloc ?_ _)); refine blk_far ?_ NB193_205.out _; (with_reducible repeat (first | refine blk_drewN ?_ _ | refine blk_drew ?_ | refine blk_alloc ?_ _)); refine blk_far ?_ NB193_205.out _; (with_reducible repeat (first | refine blk_drewN ?_ _ | refine blk_drew ?_ | refine blk_alloc ?_ _)); exact BK193.out) hb); replace BK199 := Aside0.mk (blk_below (g := gb199) (o := .cells #[.int .i64 t194, .string t195, .slice Ao87 t196.length co87] 41 (0, 0)) (by (with_reducible repeat (first | refine blk_drewN ?_ _ | refine blk_drew ?_ | refine blk_alloc ?_ _)); refine blk_far ?_ NB199_205.out _; (with_reducible repeat (first | refine blk_drewN ?_ _ | refine blk_drew ?_ | refine blk_alloc ?_ _)); refine blk_far ?_ NB199_205.out _; (with_reducible repeat (first | refine blk_drewN ?_ _ | refine blk_drew ?_ | refine blk_alloc ?_ _)); refine blk_far ?_ NB199_205.out _; (with_reducible repeat (first | refine blk_drewN ?_ _ | refine blk_drew ?_ | refine blk_alloc ?_ _)); exact BK199.out) hb); replace BK205 := Aside0.mk (blk_below (g := gb205) (o := .cells #[.int .i64 t200, .string t201, .slice Ao97 t202.length co97] 41 (0, 0)) (by (with_reducible repeat (first | refine blk_drewN ?_ _ | refine blk_drew ?_ | refine blk_alloc ?_ _)); refine blk_put (cs := #[.int .i64 t200, .string t201, .slice none 0 0]) ?_ 2 _ rfl; (with_reducible repeat (first | refine blk_drewN ?_ _ | refine blk_drew ?_ | refine blk_alloc ?_ _)); refine blk_put (cs := #[.int .i64 t200, .string (⟨#[]⟩ : ByteArray), .slice none 0 0]) ?_ 1 _ rfl; (with_reducible repeat (first | refine blk_drewN ?_ _ | refine blk_drew ?_ | refine blk_alloc ?_ _)); refine blk_put (cs := #[.int .i64 0, .string (⟨#[]⟩ : ByteArray), .slice none 0 0]) ?_ 0 _ rfl; (with_reducible repeat (first | refine blk_drewN ?_ _ | refine blk_drew ?_ | refine blk_alloc ?_ _)); exact BK205.out) hb); replace HB := Aside0.mk (below_step (bI HB.out) hb); (try clear hb); (try clear hb2); (try clear hk); (try clear hi)))
        replace HO186 := Aside0.mk (Kd.R_drew HO186.out)
        replace HO192 := Aside0.mk (Kd.R_drew HO192.out)
        replace HO198 := Aside0.mk (Kd.R_drew HO198.out)
        replace HO204 := Aside0.mk (Kd.R_drew HO204.out)
        replace BK168 := Aside0.mk (blk_drew BK168.out)
        replace BK169 := Aside0.mk (blk_drew BK169.out)
        replace BK187 := Aside0.mk (blk_drew BK187.out)
        replace BK193 := Aside0.mk (blk_drew BK193.out)
        replace BK199 := Aside0.mk (blk_drew BK199.out)
        replace BK205 := Aside0.mk (blk_drew BK205.out)
        replace HB := Aside0.mk (below_drew1 HB.out)
        refine start_ (n := 5) (S := fun w' => w'.cell? ⟨gb193, 0, none⟩ = some (.int .i64 t188) ∧ w'.cell? ⟨gb193, 1, none⟩ = some (.string t189) ∧ w'.cell? ⟨gb193, 2, none⟩ = some (.slice Ao77 t190.length co77) ∧ w'.cell? ⟨gb168, 0, none⟩ = some (.int .i64 a0_0) ∧ w'.cell? ⟨gb168, 1, none⟩ = some (.string a0_1) ∧ w'.cell? ⟨gb168, 2, none⟩ = some (.slice A0_2 l0_2.length c0_2)) (ds := []) #[false, false, false, false, false] (by kernel_rfl) rfl rfl ⟨(blk_cell BK193.out 0).trans rfl, (blk_cell BK193.out 1).trans rfl, (blk_cell BK193.out 2).trans rfl, (blk_cell BK168.out 0).trans rfl, (blk_cell BK168.out 1).trans rfl, (blk_cell BK168.out 2).trans rfl⟩ (fun hHeld => ?_)
        generalize w99.drew = w100 at HO186 HO192 HO198 HO204 BK168 BK169 BK187 BK193 BK199 BK205 HB hHeld ⊢
        refine take_ (i := 0) (N := some 40) (v := ?_) (a' := ?_) #[true, false, false, false, false] rfl rfl (by kernel_rfl) (fun _ _ _ h => h) (Or.inl ⟨by rfl, ?_⟩) hHeld ?_ ?_
        rotate_left
        · rintro w' ⟨s0, s1, s2, s3, s4, s5⟩
          go_simp
          with_reducible rfl
        rotate_left
        · simp only [Act.put, List.setIfInBounds_toArray, List.set_cons_zero, List.set_cons_succ, i64_w, i32_w]
          rfl
        refine take_ (i := 1) (N := some 41) (v := ?_) (a' := ?_) #[true, true, false, false, false] rfl rfl (by kernel_rfl) (fun _ _ _ h => h) (Or.inl ⟨by rfl, ?_⟩) hHeld ?_ ?_
        rotate_left
        · rintro w' ⟨s0, s1, s2, s3, s4, s5⟩
          go_simp
          with_reducible rfl
        rotate_left
        · simp only [Act.put, List.setIfInBounds_toArray, List.set_cons_zero, List.set_cons_succ, i64_w, i32_w]
          rfl
        refine one_ (i := 2) (N := some 42) #[true, true, true, false, false] rfl rfl (by kernel_rfl) (by decide) (fun K hK => ?_)
        refine goes_ Try.func36 (by kernel_rfl) rfl #[.agg #[.int .i64 a0_0, .string a0_1, .slice A0_2 l0_2.length c0_2]] (by rfl) rfl rfl (by (try simp only [List.map_toArray, List.map_cons, List.map_nil]); first | done | rfl | (simp only [List.length_drop, List.length_take]; rfl)) ?_
        with_reducible refine (laws_toQc.calls k a0_0 a0_1 _ _ l0_2 t207 t208 t209 _ ?side1 ?side2 A27.out).mono ?_
        (case side1 => repeat (first | exact (Kd.C_below HR0_2.out HB.out) | (with_reducible refine Kd.C_alloc ?_ _) | (with_reducible refine Kd.C_drewN ?_ _) | (with_reducible refine Kd.C_drew ?_)))
        (case side2 => exact HC0_2.out)
        rintro e w101 ⟨v210, rfl, ho0, hb⟩
        refine ⟨_, rfl, ?_⟩
        have HO211 := Aside0.mk (Kd.R_lower (Kd.R_new' (Kd.R_new' (Kd.R_new' (Kd.R_new' ho0 (Kd.R_lt (rI HO186.out))) (Kd.R_lt (rI HO192.out))) (Kd.R_lt (rI HO198.out))) (Kd.R_lt (rI HO204.out))) (below_size (bI HB.out)))
        replace HO186 := Aside0.mk (Kd.R_elder' (rI HO186.out) (Kd.R_base ho0) hb)
        replace HO192 := Aside0.mk (Kd.R_elder' (rI HO192.out) (Kd.R_base ho0) hb)
        replace HO198 := Aside0.mk (Kd.R_elder' (rI HO198.out) (Kd.R_base ho0) hb)
        replace HO204 := Aside0.mk (Kd.R_elder' (rI HO204.out) (Kd.R_base ho0) hb)
        replace BK168 := Aside0.mk (blk_below (g := gb168) (o := .cells #[.int .i64 a0_0, .string a0_1, .slice A0_2 l0_2.length c0_2] 48 (0, 0)) (kI BK168.out) hb)
        replace BK169 := Aside0.mk (blk_below (g := gb169) (o := .cells #[.int .i64 a1_0, .string a1_1, .slice A1_2 l1_2.length c1_2] 48 (0, 0)) (kI BK169.out) hb)
        replace BK187 := Aside0.mk (blk_below (g := gb187) (o := .cells #[.int .i64 t182, .string t183, .slice Ao67 t184.length co67] 41 (0, 0)) (kI BK187.out) hb)
        replace BK193 := Aside0.mk (blk_below (g := gb193) (o := .cells #[.int .i64 t188, .string t189, .slice Ao77 t190.length co77] 41 (0, 0)) (kI BK193.out) hb)
        replace BK199 := Aside0.mk (blk_below (g := gb199) (o := .cells #[.int .i64 t194, .string t195, .slice Ao87 t196.length co87] 41 (0, 0)) (kI BK199.out) hb)
        replace BK205 := Aside0.mk (blk_below (g := gb205) (o := .cells #[.int .i64 t200, .string t201, .slice Ao97 t202.length co97] 41 (0, 0)) (kI BK205.out) hb)
        replace HB := Aside0.mk (below_step (bI HB.out) hb)
        (try clear hb)
        (try clear hb2)
        (try clear hk)
        (try clear hi)
        (try clear ho0)
        obtain ⟨Ao102, co102, eo102⟩ := Kd.R_slice HO211.out
        (first | subst eo102 | (injection eo102 with f1_ f2_ f3_; have f4_ := f1_.symm; have f5_ := f3_.symm; clear f1_ f2_ f3_; subst f4_; subst f5_))
        refine hK.out _ _ ⟨(blk_cell BK193.out 0).trans rfl, (blk_cell BK193.out 1).trans rfl, (blk_cell BK193.out 2).trans rfl, (blk_cell BK168.out 0).trans rfl, (blk_cell BK168.out 1).trans rfl, (blk_cell BK168.out 2).trans rfl⟩ (fun hHeld => ?_)
        clear hK K
        refine norm_ (a' := ?_) ?_ ?_
        rotate_left
        · show Act.put _ (some 42) _ = _
          simp only [Act.put, List.setIfInBounds_toArray, List.set_cons_zero, List.set_cons_succ, i64_w, i32_w]
          rfl
        refine one_ (i := 3) (N := some 43) #[true, true, true, true, false] rfl rfl (by kernel_rfl) (by decide) (fun K hK => ?_)
        refine goes_ Try.func38 (by kernel_rfl) rfl #[.agg #[.int .i64 t188, .string t189, .slice Ao77 t190.length co77], .agg #[.int .i64 t207, .string t208, .slice Ao102 t209.length co102]] (by rfl) rfl rfl (by (try simp only [List.map_toArray, List.map_cons, List.map_nil]); first | done | rfl | (simp only [List.length_drop, List.length_take]; rfl)) ?_
        with_reducible refine (laws_eqQc.calls k t188 t189 _ _ t190 t207 t208 _ _ t209 true _ ?side1 ?side2 ?side3 ?side4 A28.out).mono ?_
        (case side1 => repeat (first | exact (Kd.R_reads' HO192.out).2.2 | (with_reducible refine Kd.C_alloc ?_ _) | (with_reducible refine Kd.C_drewN ?_ _) | (with_reducible refine Kd.C_drew ?_)))
        (case side2 => exact (Kd.R_reads' HO192.out).2.1)
        (case side3 => repeat (first | exact (Kd.R_reads' HO211.out).2.2 | (with_reducible refine Kd.C_alloc ?_ _) | (with_reducible refine Kd.C_drewN ?_ _) | (with_reducible refine Kd.C_drew ?_)))
        (case side4 => exact (Kd.R_reads' HO211.out).2.1)
        rintro e w103 ⟨rfl, hb⟩
        refine ⟨_, rfl, ?_⟩
        replace HO186 := Aside0.mk (Kd.R_below (rI HO186.out) hb)
        replace HO192 := Aside0.mk (Kd.R_below (rI HO192.out) hb)
        replace HO198 := Aside0.mk (Kd.R_below (rI HO198.out) hb)
        replace HO204 := Aside0.mk (Kd.R_below (rI HO204.out) hb)
        replace HO211 := Aside0.mk (Kd.R_below (rI HO211.out) hb)
        replace BK168 := Aside0.mk (blk_below (g := gb168) (o := .cells #[.int .i64 a0_0, .string a0_1, .slice A0_2 l0_2.length c0_2] 48 (0, 0)) (kI BK168.out) hb)
        replace BK169 := Aside0.mk (blk_below (g := gb169) (o := .cells #[.int .i64 a1_0, .string a1_1, .slice A1_2 l1_2.length c1_2] 48 (0, 0)) (kI BK169.out) hb)
        replace BK187 := Aside0.mk (blk_below (g := gb187) (o := .cells #[.int .i64 t182, .string t183, .slice Ao67 t184.length co67] 41 (0, 0)) (kI BK187.out) hb)
        replace BK193 := Aside0.mk (blk_below (g := gb193) (o := .cells #[.int .i64 t188, .string t189, .slice Ao77 t190.length co77] 41 (0, 0)) (kI BK193.out) hb)
        replace BK199 := Aside0.mk (blk_below (g := gb199) (o := .cells #[.int .i64 t194, .string t195, .slice Ao87 t196.length co87] 41 (0, 0)) (kI BK199.out) hb)
        replace BK205 := Aside0.mk (blk_below (g := gb205) (o := .cells #[.int .i64 t200, .string t201, .slice Ao97 t202.length co97] 41 (0, 0)) (kI BK205.out) hb)
        replace HB := Aside0.mk (below_step (bI HB.out) hb)
        (try clear hb)
        (try clear hb2)
        (try clear hk)
        (try clear hi)
        refine hK.out _ _ ⟨(blk_cell BK193.out 0).trans rfl, (blk_cell BK193.out 1).trans rfl, (blk_cell BK193.out 2).trans rfl, (blk_cell BK168.out 0).trans rfl, (blk_cell BK168.out 1).trans rfl, (blk_cell BK168.out 2).trans rfl⟩ (fun hHeld => ?_)
        clear hK K
        refine norm_ (a' := ?_) ?_ ?_
        rotate_left
        · show Act.put _ (some 43) _ = _
          simp only [Act.put, List.setIfInBounds_toArray, List.set_cons_zero, List.set_cons_succ, i64_w, i32_w]
          rfl
        refine pure_ (i := 4) (N := some 44) (v := ?_) (a' := ?_) #[true, true, true, true, true] rfl rfl (by kernel_rfl) (fun _ _ _ h => h) (Or.inl ⟨by rfl, ?_⟩) ?_ ?_
        rotate_left
        · intro w'
          go_simp
          with_reducible rfl
        rotate_left
        · simp only [Act.put, List.setIfInBounds_toArray, List.set_cons_zero, List.set_cons_succ, i64_w, i32_w]
          rfl
        refine done_ (by kernel_rfl) ?_
        clear HO211
        have n_ := Aside0.mk (Kd.R_mono (ok' := (fun k_ => some k_ ≠ (.slice Ao77 t190.length co77 : Value).ownBlock ∧ some k_ ≠ (.slice Ao87 t196.length co87 : Value).ownBlock ∧ some k_ ≠ (.slice Ao97 t202.length co97 : Value).ownBlock)) HO186.out (fun k_ hk => ⟨hk.1.1.1, ⟨hk.1.1.2, hk.1.2⟩⟩))
        clear HO186
        have HO186 := n_
        clear n_
        have n_ := Aside0.mk (Kd.R_mono (ok' := (fun k_ => some k_ ≠ (.slice Ao67 t184.length co67 : Value).ownBlock ∧ some k_ ≠ (.slice Ao87 t196.length co87 : Value).ownBlock ∧ some k_ ≠ (.slice Ao97 t202.length co97 : Value).ownBlock)) HO192.out (fun k_ hk => ⟨hk.1.1.1, ⟨hk.1.1.2, hk.1.2⟩⟩))
        clear HO192
        have HO192 := n_
        clear n_
        have n_ := Aside0.mk (Kd.R_mono (ok' := (fun k_ => some k_ ≠ (.slice Ao67 t184.length co67 : Value).ownBlock ∧ some k_ ≠ (.slice Ao77 t190.length co77 : Value).ownBlock ∧ some k_ ≠ (.slice Ao97 t202.length co97 : Value).ownBlock)) HO198.out (fun k_ hk => ⟨hk.1.1.1.2, ⟨hk.1.1.2, hk.1.2⟩⟩))
        clear HO198
        have HO198 := n_
        clear n_
        have n_ := Aside0.mk (Kd.R_mono (ok' := (fun k_ => some k_ ≠ (.slice Ao67 t184.length co67 : Value).ownBlock ∧ some k_ ≠ (.slice Ao77 t190.length co77 : Value).ownBlock ∧ some k_ ≠ (.slice Ao87 t196.length co87 : Value).ownBlock)) HO204.out (fun k_ hk => ⟨hk.1.1.1.2, ⟨hk.1.1.2, hk.1.2⟩⟩))
        clear HO204
        have HO204 := n_
        clear n_
        try go_wp2
        replace HO186 := Aside0.mk (Kd.R_drew HO186.out)
        replace HO192 := Aside0.mk (Kd.R_drew HO192.out)
        replace HO198 := Aside0.mk (Kd.R_drew HO198.out)
        replace HO204 := Aside0.mk (Kd.R_drew HO204.out)
        replace BK168 := Aside0.mk (blk_drew BK168.out)
        replace BK169 := Aside0.mk (blk_drew BK169.out)
        replace BK187 := Aside0.mk (blk_drew BK187.out)
        replace BK193 := Aside0.mk (blk_drew BK193.out)
        replace BK199 := Aside0.mk (blk_drew BK199.out)
        replace BK205 := Aside0.mk (blk_drew BK205.out)
        replace HB := Aside0.mk (below_drew1 HB.out)
        refine start_ (n := 5) (S := fun w' => w'.cell? ⟨gb199, 0, none⟩ = some (.int .i64 t194) ∧ w'.cell? ⟨gb199, 1, none⟩ = some (.string t195) ∧ w'.cell? ⟨gb199, 2, none⟩ = some (.slice Ao87 t196.length co87) ∧ w'.cell? ⟨gb169, 0, none⟩ = some (.int .i64 a1_0) ∧ w'.cell? ⟨gb169, 1, none⟩ = some (.string a1_1) ∧ w'.cell? ⟨gb169, 2, none⟩ = some (.slice A1_2 l1_2.length c1_2)) (ds := []) #[false, false, false, false, false] (by kernel_rfl) rfl rfl ⟨(blk_cell BK199.out 0).trans rfl, (blk_cell BK199.out 1).trans rfl, (blk_cell BK199.out 2).trans rfl, (blk_cell BK169.out 0).trans rfl, (blk_cell BK169.out 1).trans rfl, (blk_cell BK169.out 2).trans rfl⟩ (fun hHeld => ?_)
        generalize w103.drew = w104 at HO186 HO192 HO198 HO204 BK168 BK169 BK187 BK193 BK199 BK205 HB hHeld ⊢
        refine take_ (i := 0) (N := some 45) (v := ?_) (a' := ?_) #[true, false, false, false, false] rfl rfl (by kernel_rfl) (fun _ _ _ h => h) (Or.inl ⟨by rfl, ?_⟩) hHeld ?_ ?_
        rotate_left
        · rintro w' ⟨s0, s1, s2, s3, s4, s5⟩
          go_simp
          with_reducible rfl
        rotate_left
        · simp only [Act.put, List.setIfInBounds_toArray, List.set_cons_zero, List.set_cons_succ, i64_w, i32_w]
          rfl
        refine take_ (i := 1) (N := some 46) (v := ?_) (a' := ?_) #[true, true, false, false, false] rfl rfl (by kernel_rfl) (fun _ _ _ h => h) (Or.inl ⟨by rfl, ?_⟩) hHeld ?_ ?_
        rotate_left
        · rintro w' ⟨s0, s1, s2, s3, s4, s5⟩
          go_simp
          with_reducible rfl
        rotate_left
        · simp only [Act.put, List.setIfInBounds_toArray, List.set_cons_zero, List.set_cons_succ, i64_w, i32_w]
          rfl
        refine one_ (i := 2) (N := some 47) #[true, true, true, false, false] rfl rfl (by kernel_rfl) (by decide) (fun K hK => ?_)
        refine goes_ Try.func36 (by kernel_rfl) rfl #[.agg #[.int .i64 a1_0, .string a1_1, .slice A1_2 l1_2.length c1_2]] (by rfl) rfl rfl (by (try simp only [List.map_toArray, List.map_cons, List.map_nil]); first | done | rfl | (simp only [List.length_drop, List.length_take]; rfl)) ?_
        with_reducible refine (laws_toQc.calls k a1_0 a1_1 _ _ l1_2 t213 t214 t215 _ ?side1 ?side2 A30.out).mono ?_
        (case side1 => repeat (first | exact (Kd.C_below HR1_2.out HB.out) | (with_reducible refine Kd.C_alloc ?_ _) | (with_reducible refine Kd.C_drewN ?_ _) | (with_reducible refine Kd.C_drew ?_)))
        (case side2 => exact HC1_2.out)
        rintro e w105 ⟨v216, rfl, ho0, hb⟩
        refine ⟨_, rfl, ?_⟩
        have HO217 := Aside0.mk (Kd.R_lower (Kd.R_new' (Kd.R_new' (Kd.R_new' (Kd.R_new' ho0 (Kd.R_lt (rI HO186.out))) (Kd.R_lt (rI HO192.out))) (Kd.R_lt (rI HO198.out))) (Kd.R_lt (rI HO204.out))) (below_size (bI HB.out)))
        replace HO186 := Aside0.mk (Kd.R_elder' (rI HO186.out) (Kd.R_base ho0) hb)
        replace HO192 := Aside0.mk (Kd.R_elder' (rI HO192.out) (Kd.R_base ho0) hb)
        replace HO198 := Aside0.mk (Kd.R_elder' (rI HO198.out) (Kd.R_base ho0) hb)
        replace HO204 := Aside0.mk (Kd.R_elder' (rI HO204.out) (Kd.R_base ho0) hb)
        replace BK168 := Aside0.mk (blk_below (g := gb168) (o := .cells #[.int .i64 a0_0, .string a0_1, .slice A0_2 l0_2.length c0_2] 48 (0, 0)) (kI BK168.out) hb)
        replace BK169 := Aside0.mk (blk_below (g := gb169) (o := .cells #[.int .i64 a1_0, .string a1_1, .slice A1_2 l1_2.length c1_2] 48 (0, 0)) (kI BK169.out) hb)
        replace BK187 := Aside0.mk (blk_below (g := gb187) (o := .cells #[.int .i64 t182, .string t183, .slice Ao67 t184.length co67] 41 (0, 0)) (kI BK187.out) hb)
        replace BK193 := Aside0.mk (blk_below (g := gb193) (o := .cells #[.int .i64 t188, .string t189, .slice Ao77 t190.length co77] 41 (0, 0)) (kI BK193.out) hb)
        replace BK199 := Aside0.mk (blk_below (g := gb199) (o := .cells #[.int .i64 t194, .string t195, .slice Ao87 t196.length co87] 41 (0, 0)) (kI BK199.out) hb)
        replace BK205 := Aside0.mk (blk_below (g := gb205) (o := .cells #[.int .i64 t200, .string t201, .slice Ao97 t202.length co97] 41 (0, 0)) (kI BK205.out) hb)
        replace HB := Aside0.mk (below_step (bI HB.out) hb)
        (try clear hb)
        (try clear hb2)
        (try clear hk)
        (try clear hi)
        (try clear ho0)
        obtain ⟨Ao106, co106, eo106⟩ := Kd.R_slice HO217.out
        (first | subst eo106 | (injection eo106 with f1_ f2_ f3_; have f4_ := f1_.symm; have f5_ := f3_.symm; clear f1_ f2_ f3_; subst f4_; subst f5_))
        refine hK.out _ _ ⟨(blk_cell BK199.out 0).trans rfl, (blk_cell BK199.out 1).trans rfl, (blk_cell BK199.out 2).trans rfl, (blk_cell BK169.out 0).trans rfl, (blk_cell BK169.out 1).trans rfl, (blk_cell BK169.out 2).trans rfl⟩ (fun hHeld => ?_)
        clear hK K
        refine norm_ (a' := ?_) ?_ ?_
        rotate_left
        · show Act.put _ (some 47) _ = _
          simp only [Act.put, List.setIfInBounds_toArray, List.set_cons_zero, List.set_cons_succ, i64_w, i32_w]
          rfl
        refine one_ (i := 3) (N := some 48) #[true, true, true, true, false] rfl rfl (by kernel_rfl) (by decide) (fun K hK => ?_)
        refine goes_ Try.func38 (by kernel_rfl) rfl #[.agg #[.int .i64 t194, .string t195, .slice Ao87 t196.length co87], .agg #[.int .i64 t213, .string t214, .slice Ao106 t215.length co106]] (by rfl) rfl rfl (by (try simp only [List.map_toArray, List.map_cons, List.map_nil]); first | done | rfl | (simp only [List.length_drop, List.length_take]; rfl)) ?_
        with_reducible refine (laws_eqQc.calls k t194 t195 _ _ t196 t213 t214 _ _ t215 true _ ?side1 ?side2 ?side3 ?side4 A31.out).mono ?_
        (case side1 => repeat (first | exact (Kd.R_reads' HO198.out).2.2 | (with_reducible refine Kd.C_alloc ?_ _) | (with_reducible refine Kd.C_drewN ?_ _) | (with_reducible refine Kd.C_drew ?_)))
        (case side2 => exact (Kd.R_reads' HO198.out).2.1)
        (case side3 => repeat (first | exact (Kd.R_reads' HO217.out).2.2 | (with_reducible refine Kd.C_alloc ?_ _) | (with_reducible refine Kd.C_drewN ?_ _) | (with_reducible refine Kd.C_drew ?_)))
        (case side4 => exact (Kd.R_reads' HO217.out).2.1)
        rintro e w107 ⟨rfl, hb⟩
        refine ⟨_, rfl, ?_⟩
        replace HO186 := Aside0.mk (Kd.R_below (rI HO186.out) hb)
        replace HO192 := Aside0.mk (Kd.R_below (rI HO192.out) hb)
        replace HO198 := Aside0.mk (Kd.R_below (rI HO198.out) hb)
        replace HO204 := Aside0.mk (Kd.R_below (rI HO204.out) hb)
        replace HO217 := Aside0.mk (Kd.R_below (rI HO217.out) hb)
        replace BK168 := Aside0.mk (blk_below (g := gb168) (o := .cells #[.int .i64 a0_0, .string a0_1, .slice A0_2 l0_2.length c0_2] 48 (0, 0)) (kI BK168.out) hb)
        replace BK169 := Aside0.mk (blk_below (g := gb169) (o := .cells #[.int .i64 a1_0, .string a1_1, .slice A1_2 l1_2.length c1_2] 48 (0, 0)) (kI BK169.out) hb)
        replace BK187 := Aside0.mk (blk_below (g := gb187) (o := .cells #[.int .i64 t182, .string t183, .slice Ao67 t184.length co67] 41 (0, 0)) (kI BK187.out) hb)
        replace BK193 := Aside0.mk (blk_below (g := gb193) (o := .cells #[.int .i64 t188, .string t189, .slice Ao77 t190.length co77] 41 (0, 0)) (kI BK193.out) hb)
        replace BK199 := Aside0.mk (blk_below (g := gb199) (o := .cells #[.int .i64 t194, .string t195, .slice Ao87 t196.length co87] 41 (0, 0)) (kI BK199.out) hb)
        replace BK205 := Aside0.mk (blk_below (g := gb205) (o := .cells #[.int .i64 t200, .string t201, .slice Ao97 t202.length co97] 41 (0, 0)) (kI BK205.out) hb)
        replace HB := Aside0.mk (below_step (bI HB.out) hb)
        (try clear hb)
        (try clear hb2)
        (try clear hk)
        (try clear hi)
        refine hK.out _ _ ⟨(blk_cell BK199.out 0).trans rfl, (blk_cell BK199.out 1).trans rfl, (blk_cell BK199.out 2).trans rfl, (blk_cell BK169.out 0).trans rfl, (blk_cell BK169.out 1).trans rfl, (blk_cell BK169.out 2).trans rfl⟩ (fun hHeld => ?_)
        clear hK K
        refine norm_ (a' := ?_) ?_ ?_
        rotate_left
        · show Act.put _ (some 48) _ = _
          simp only [Act.put, List.setIfInBounds_toArray, List.set_cons_zero, List.set_cons_succ, i64_w, i32_w]
          rfl
        refine pure_ (i := 4) (N := some 49) (v := ?_) (a' := ?_) #[true, true, true, true, true] rfl rfl (by kernel_rfl) (fun _ _ _ h => h) (Or.inl ⟨by rfl, ?_⟩) ?_ ?_
        rotate_left
        · intro w'
          go_simp
          with_reducible rfl
        rotate_left
        · simp only [Act.put, List.setIfInBounds_toArray, List.set_cons_zero, List.set_cons_succ, i64_w, i32_w]
          rfl
        refine done_ (by kernel_rfl) ?_
        have hcz108_0 : w107.cell? ⟨gb193, 0, none⟩ = some (.int .i64 t188) := (blk_cell BK193.out 0).trans rfl
        have hcz108_1 : w107.cell? ⟨gb193, 1, none⟩ = some (.string t189) := (blk_cell BK193.out 1).trans rfl
        have hcz108_2 : w107.cell? ⟨gb193, 2, none⟩ = some (.slice Ao77 t190.length co77) := (blk_cell BK193.out 2).trans rfl
        have hfz108_0 := blk_frozen BK193.out 0
        have hfz108_1 := blk_frozen BK193.out 1
        have hfz108_2 := blk_frozen BK193.out 2
        clear HO217
        have n_ := Aside0.mk (Kd.R_mono (ok' := (fun k_ => some k_ ≠ (.slice Ao77 t190.length co77 : Value).ownBlock ∧ some k_ ≠ (.slice Ao87 t196.length co87 : Value).ownBlock ∧ some k_ ≠ (.slice Ao97 t202.length co97 : Value).ownBlock)) HO186.out (fun k_ hk => ⟨hk.1.1, ⟨hk.1.2.1, hk.1.2.2⟩⟩))
        clear HO186
        have HO186 := n_
        clear n_
        have n_ := Aside0.mk (Kd.R_mono (ok' := (fun k_ => some k_ ≠ (.slice Ao67 t184.length co67 : Value).ownBlock ∧ some k_ ≠ (.slice Ao87 t196.length co87 : Value).ownBlock ∧ some k_ ≠ (.slice Ao97 t202.length co97 : Value).ownBlock)) HO192.out (fun k_ hk => ⟨hk.1.1, ⟨hk.1.2.1, hk.1.2.2⟩⟩))
        clear HO192
        have HO192 := n_
        clear n_
        have n_ := Aside0.mk (Kd.R_mono (ok' := (fun k_ => some k_ ≠ (.slice Ao67 t184.length co67 : Value).ownBlock ∧ some k_ ≠ (.slice Ao77 t190.length co77 : Value).ownBlock ∧ some k_ ≠ (.slice Ao97 t202.length co97 : Value).ownBlock)) HO198.out (fun k_ hk => ⟨hk.1.1, ⟨hk.1.2.1, hk.1.2.2⟩⟩))
        clear HO198
        have HO198 := n_
        clear n_
        have n_ := Aside0.mk (Kd.R_mono (ok' := (fun k_ => some k_ ≠ (.slice Ao67 t184.length co67 : Value).ownBlock ∧ some k_ ≠ (.slice Ao77 t190.length co77 : Value).ownBlock ∧ some k_ ≠ (.slice Ao87 t196.length co87 : Value).ownBlock)) HO204.out (fun k_ hk => ⟨hk.1.1, ⟨hk.1.2.1, hk.1.2.2⟩⟩))
        clear HO204
        have HO204 := n_
        clear n_
        try go_wp2_with (first | ((with_reducible refine gate_callee (f := 52) rfl ?_); refine goesL_ (some 52) rfl rfl Try.func52 (by kernel_rfl) rfl #[.agg #[.int .i64 t188, .string t189, .slice Ao77 t190.length co77], .int .i64 1] rfl (by (try simp only [List.map_toArray, List.map_cons, List.map_nil]); first | done | rfl | (simp only [List.length_drop, List.length_take]; rfl)) ?_; (with_reducible refine (laws_markQc.calls k t188 t189 (fun k_ => some k_ = (.slice Ao77 t190.length co77 : Value).ownBlock) (.slice Ao77 t190.length co77) t190 1 t219 t220 w _ ?side1 ?side2 A33.out).mono ?_); (case side1 => exact bI HB.out); (case side2 => exact Kd.R_tight rfl HO192.out); rintro e w109 ⟨rfl, hy0, hb, hkp⟩; refine ⟨_, rfl, ?_⟩; replace BK168 := Aside0.mk (blk_kept (kI BK168.out) hkp (fun hs_ => (fun e_ => (Kd.R_ne HO192.out BK168.out (by decide)) e_) hs_)); replace BK169 := Aside0.mk (blk_kept (kI BK169.out) hkp (fun hs_ => (fun e_ => (Kd.R_ne HO192.out BK169.out (by decide)) e_) hs_)); replace HO186 := Aside0.mk (Kd.R_mono (ok' := fun k_ => some k_ ≠ (.slice Ao77 t190.length co77 : Value).ownBlock ∧ some k_ ≠ (.slice Ao87 t196.length co87 : Value).ownBlock ∧ some k_ ≠ (.slice Ao97 t202.length co97 : Value).ownBlock) (Kd.R_keptB (HO186.out) hkp (fun k_ hk_ hs_ => (hk_.1) hs_)) (fun k_ hk_ => ⟨hk_.1.1, hk_.1.2.1, hk_.1.2.2⟩)); replace BK187 := Aside0.mk (blk_kept (kI BK187.out) hkp (fun hs_ => (fun e_ => (Kd.R_ne HO192.out BK187.out (by decide)) e_) hs_)); replace BK193 := Aside0.mk (blk_kept (kI BK193.out) hkp (fun hs_ => (fun e_ => (Kd.R_ne HO192.out BK193.out (by decide)) e_) hs_)); replace HO198 := Aside0.mk (Kd.R_mono (ok' := fun k_ => some k_ ≠ (.slice Ao67 t184.length co67 : Value).ownBlock ∧ some k_ ≠ (.slice Ao77 t190.length co77 : Value).ownBlock ∧ some k_ ≠ (.slice Ao97 t202.length co97 : Value).ownBlock) (Kd.R_keptB (HO198.out) hkp (fun k_ hk_ hs_ => (hk_.2.1) hs_)) (fun k_ hk_ => ⟨hk_.1.1, hk_.1.2.1, hk_.1.2.2⟩)); replace BK199 := Aside0.mk (blk_kept (kI BK199.out) hkp (fun hs_ => (fun e_ => (Kd.R_ne HO192.out BK199.out (by decide)) e_) hs_)); replace HO204 := Aside0.mk (Kd.R_mono (ok' := fun k_ => some k_ ≠ (.slice Ao67 t184.length co67 : Value).ownBlock ∧ some k_ ≠ (.slice Ao77 t190.length co77 : Value).ownBlock ∧ some k_ ≠ (.slice Ao87 t196.length co87 : Value).ownBlock) (Kd.R_keptB (HO204.out) hkp (fun k_ hk_ hs_ => (hk_.2.1) hs_)) (fun k_ hk_ => ⟨hk_.1.1, hk_.1.2.1, hk_.1.2.2⟩)); replace BK205 := Aside0.mk (blk_kept (kI BK205.out) hkp (fun hs_ => (fun e_ => (Kd.R_ne HO192.out BK205.out (by decide)) e_) hs_)); replace HO192 := Aside0.mk (Kd.R_reok rfl hy0 (fun k_ e_ => HO192.out.1 k_ e_)); replace HB := Aside0.mk (hb); (try clear hb); (try clear hkp); (try clear hy0); have hcz110_0 : w109.cell? ⟨gb199, 0, none⟩ = some (.int .i64 t194) := (blk_cell BK199.out 0).trans rfl; have hcz110_1 : w109.cell? ⟨gb199, 1, none⟩ = some (.string t195) := (blk_cell BK199.out 1).trans rfl; have hcz110_2 : w109.cell? ⟨gb199, 2, none⟩ = some (.slice Ao87 t196.length co87) := (blk_cell BK199.out 2).trans rfl; have hfz110_0 := blk_frozen BK199.out 0; have hfz110_1 := blk_frozen BK199.out 1; have hfz110_2 := blk_frozen BK199.out 2; clear HO192; have n_ := Aside0.mk (Kd.R_mono (ok' := (fun k_ => some k_ ≠ (.slice Ao87 t196.length co87 : Value).ownBlock ∧ some k_ ≠ (.slice Ao97 t202.length co97 : Value).ownBlock)) HO186.out (fun k_ hk => ⟨hk.2.1, hk.2.2⟩)); clear HO186; have HO186 := n_; clear n_; have n_ := Aside0.mk (Kd.R_mono (ok' := (fun k_ => some k_ ≠ (.slice Ao67 t184.length co67 : Value).ownBlock ∧ some k_ ≠ (.slice Ao97 t202.length co97 : Value).ownBlock)) HO198.out (fun k_ hk => ⟨hk.1, hk.2.2⟩)); clear HO198; have HO198 := n_; clear n_; have n_ := Aside0.mk (Kd.R_mono (ok' := (fun k_ => some k_ ≠ (.slice Ao67 t184.length co67 : Value).ownBlock ∧ some k_ ≠ (.slice Ao87 t196.length co87 : Value).ownBlock)) HO204.out (fun k_ hk => ⟨hk.1, hk.2.2⟩)); clear HO204; have HO204 := n_; clear n_) | ((with_reducible refine gate_callee (f := 52) rfl ?_); refine goesL_ (some 55) rfl rfl Try.func52 (by kernel_rfl) rfl #[.agg #[.int .i64 t194, .string t195, .slice Ao87 t196.length co87], .int .i64 t219] rfl (by (try simp only [List.map_toArray, List.map_cons, List.map_nil]); first | done | rfl | (simp only [List.length_drop, List.length_take]; rfl)) ?_; (with_reducible refine (laws_markQc.calls k t194 t195 (fun k_ => some k_ = (.slice Ao87 t196.length co87 : Value).ownBlock) (.slice Ao87 t196.length co87) t196 t219 t221 t222 w _ ?side1 ?side2 A34.out).mono ?_); (case side1 => exact bI HB.out); (case side2 => exact Kd.R_tight rfl HO198.out); rintro e w111 ⟨rfl, hy0, hb, hkp⟩; refine ⟨_, rfl, ?_⟩; replace BK168 := Aside0.mk (blk_kept (kI BK168.out) hkp (fun hs_ => (fun e_ => (Kd.R_ne HO198.out BK168.out (by decide)) e_) hs_)); replace BK169 := Aside0.mk (blk_kept (kI BK169.out) hkp (fun hs_ => (fun e_ => (Kd.R_ne HO198.out BK169.out (by decide)) e_) hs_)); replace HO186 := Aside0.mk (Kd.R_mono (ok' := fun k_ => some k_ ≠ (.slice Ao87 t196.length co87 : Value).ownBlock ∧ some k_ ≠ (.slice Ao97 t202.length co97 : Value).ownBlock) (Kd.R_keptB (HO186.out) hkp (fun k_ hk_ hs_ => (hk_.1) hs_)) (fun k_ hk_ => ⟨hk_.1.1, hk_.1.2⟩)); replace BK187 := Aside0.mk (blk_kept (kI BK187.out) hkp (fun hs_ => (fun e_ => (Kd.R_ne HO198.out BK187.out (by decide)) e_) hs_)); replace BK193 := Aside0.mk (blk_kept (kI BK193.out) hkp (fun hs_ => (fun e_ => (Kd.R_ne HO198.out BK193.out (by decide)) e_) hs_)); replace BK199 := Aside0.mk (blk_kept (kI BK199.out) hkp (fun hs_ => (fun e_ => (Kd.R_ne HO198.out BK199.out (by decide)) e_) hs_)); replace HO204 := Aside0.mk (Kd.R_mono (ok' := fun k_ => some k_ ≠ (.slice Ao67 t184.length co67 : Value).ownBlock ∧ some k_ ≠ (.slice Ao87 t196.length co87 : Value).ownBlock) (Kd.R_keptB (HO204.out) hkp (fun k_ hk_ hs_ => (hk_.2) hs_)) (fun k_ hk_ => ⟨hk_.1.1, hk_.1.2⟩)); replace BK205 := Aside0.mk (blk_kept (kI BK205.out) hkp (fun hs_ => (fun e_ => (Kd.R_ne HO198.out BK205.out (by decide)) e_) hs_)); replace HO198 := Aside0.mk (Kd.R_reok rfl hy0 (fun k_ e_ => HO198.out.1 k_ e_)); replace HB := Aside0.mk (hb); (try clear hb); (try clear hkp); (try clear hy0); have hcz112_0 : w111.cell? ⟨gb205, 0, none⟩ = some (.int .i64 t200) := (blk_cell BK205.out 0).trans rfl; have hcz112_1 : w111.cell? ⟨gb205, 1, none⟩ = some (.string t201) := (blk_cell BK205.out 1).trans rfl; have hcz112_2 : w111.cell? ⟨gb205, 2, none⟩ = some (.slice Ao97 t202.length co97) := (blk_cell BK205.out 2).trans rfl; have hfz112_0 := blk_frozen BK205.out 0; have hfz112_1 := blk_frozen BK205.out 1; have hfz112_2 := blk_frozen BK205.out 2; have hcz113_0 : w111.cell? ⟨gb187, 0, none⟩ = some (.int .i64 t182) := (blk_cell BK187.out 0).trans rfl; have hcz113_1 : w111.cell? ⟨gb187, 1, none⟩ = some (.string t183) := (blk_cell BK187.out 1).trans rfl; have hcz113_2 : w111.cell? ⟨gb187, 2, none⟩ = some (.slice Ao67 t184.length co67) := (blk_cell BK187.out 2).trans rfl; have hfz113_0 := blk_frozen BK187.out 0; have hfz113_1 := blk_frozen BK187.out 1; have hfz113_2 := blk_frozen BK187.out 2; clear HO198; have n_ := Aside0.mk (Kd.R_mono (ok' := (fun k_ => some k_ ≠ (.slice Ao97 t202.length co97 : Value).ownBlock)) HO186.out (fun k_ hk => hk.2)); clear HO186; have HO186 := n_; clear n_; have n_ := Aside0.mk (Kd.R_mono (ok' := (fun k_ => some k_ ≠ (.slice Ao67 t184.length co67 : Value).ownBlock)) HO204.out (fun k_ hk => hk.1)); clear HO204; have HO204 := n_; clear n_) | (go_at_call 38; (with_reducible refine (laws_eqQc.calls k t200 t201 _ _ t202 t182 t183 _ _ t184 true _ ?side1 ?side2 ?side3 ?side4 A36.out).mono ?_); (case side1 => repeat (first | exact (Kd.R_reads' HO204.out).2.2 | (with_reducible refine Kd.C_alloc ?_ _) | (with_reducible refine Kd.C_drewN ?_ _) | (with_reducible refine Kd.C_drew ?_))); (case side2 => exact (Kd.R_reads' HO204.out).2.1); (case side3 => repeat (first | exact (Kd.R_reads' HO186.out).2.2 | (with_reducible refine Kd.C_alloc ?_ _) | (with_reducible refine Kd.C_drewN ?_ _) | (with_reducible refine Kd.C_drew ?_))); (case side4 => exact (Kd.R_reads' HO186.out).2.1); rintro e w114 ⟨rfl, hb⟩; replace HO186 := Aside0.mk (Kd.R_below (rI HO186.out) hb); replace HO204 := Aside0.mk (Kd.R_below (rI HO204.out) hb); replace BK168 := Aside0.mk (blk_below (g := gb168) (o := .cells #[.int .i64 a0_0, .string a0_1, .slice A0_2 l0_2.length c0_2] 48 (0, 0)) (kI BK168.out) hb); replace BK169 := Aside0.mk (blk_below (g := gb169) (o := .cells #[.int .i64 a1_0, .string a1_1, .slice A1_2 l1_2.length c1_2] 48 (0, 0)) (kI BK169.out) hb); replace BK187 := Aside0.mk (blk_below (g := gb187) (o := .cells #[.int .i64 t182, .string t183, .slice Ao67 t184.length co67] 41 (0, 0)) (kI BK187.out) hb); replace BK193 := Aside0.mk (blk_below (g := gb193) (o := .cells #[.int .i64 t188, .string t189, .slice Ao77 t190.length co77] 41 (0, 0)) (kI BK193.out) hb); replace BK199 := Aside0.mk (blk_below (g := gb199) (o := .cells #[.int .i64 t194, .string t195, .slice Ao87 t196.length co87] 41 (0, 0)) (kI BK199.out) hb); replace BK205 := Aside0.mk (blk_below (g := gb205) (o := .cells #[.int .i64 t200, .string t201, .slice Ao97 t202.length co97] 41 (0, 0)) (kI BK205.out) hb); replace HB := Aside0.mk (below_step (bI HB.out) hb); (try clear hb); (try clear hb2); (try clear hk); (try clear hi); have hcz115_0 : w114.cell? ⟨gb205, 0, none⟩ = some (.int .i64 t200) := (blk_cell BK205.out 0).trans rfl; have hcz115_1 : w114.cell? ⟨gb205, 1, none⟩ = some (.string t201) := (blk_cell BK205.out 1).trans rfl; have hcz115_2 : w114.cell? ⟨gb205, 2, none⟩ = some (.slice Ao97 t202.length co97) := (blk_cell BK205.out 2).trans rfl; have hfz115_0 := blk_frozen BK205.out 0; have hfz115_1 := blk_frozen BK205.out 1; have hfz115_2 := blk_frozen BK205.out 2) | ((with_reducible refine gate_callee (f := 52) rfl ?_); refine goesL_ (some 66) rfl rfl Try.func52 (by kernel_rfl) rfl #[.agg #[.int .i64 t200, .string t201, .slice Ao97 t202.length co97], .int .i64 1] rfl (by (try simp only [List.map_toArray, List.map_cons, List.map_nil]); first | done | rfl | (simp only [List.length_drop, List.length_take]; rfl)) ?_; (with_reducible refine (laws_markQc.calls k t200 t201 (fun k_ => some k_ = (.slice Ao97 t202.length co97 : Value).ownBlock) (.slice Ao97 t202.length co97) t202 1 t224 t225 w _ ?side1 ?side2 A38.out).mono ?_); (case side1 => exact bI HB.out); (case side2 => exact Kd.R_tight rfl HO204.out); rintro e w116 ⟨rfl, hy0, hb, hkp⟩; refine ⟨_, rfl, ?_⟩; replace BK168 := Aside0.mk (blk_kept (kI BK168.out) hkp (fun hs_ => (fun e_ => (Kd.R_ne HO204.out BK168.out (by decide)) e_) hs_)); replace BK169 := Aside0.mk (blk_kept (kI BK169.out) hkp (fun hs_ => (fun e_ => (Kd.R_ne HO204.out BK169.out (by decide)) e_) hs_)); replace HO186 := Aside0.mk (Kd.R_mono (ok' := fun k_ => some k_ ≠ (.slice Ao97 t202.length co97 : Value).ownBlock) (Kd.R_keptB (HO186.out) hkp (fun k_ hk_ hs_ => (hk_) hs_)) (fun k_ hk_ => hk_.1)); replace BK187 := Aside0.mk (blk_kept (kI BK187.out) hkp (fun hs_ => (fun e_ => (Kd.R_ne HO204.out BK187.out (by decide)) e_) hs_)); replace BK193 := Aside0.mk (blk_kept (kI BK193.out) hkp (fun hs_ => (fun e_ => (Kd.R_ne HO204.out BK193.out (by decide)) e_) hs_)); replace BK199 := Aside0.mk (blk_kept (kI BK199.out) hkp (fun hs_ => (fun e_ => (Kd.R_ne HO204.out BK199.out (by decide)) e_) hs_)); replace BK205 := Aside0.mk (blk_kept (kI BK205.out) hkp (fun hs_ => (fun e_ => (Kd.R_ne HO204.out BK205.out (by decide)) e_) hs_)); replace HO204 := Aside0.mk (Kd.R_reok rfl hy0 (fun k_ e_ => HO204.out.1 k_ e_)); replace HB := Aside0.mk (hb); (try clear hb); (try clear hkp); (try clear hy0); have hcz117_0 : w116.cell? ⟨gb205, 0, none⟩ = some (.int .i64 t200) := (blk_cell BK205.out 0).trans rfl; have hcz117_1 : w116.cell? ⟨gb205, 1, none⟩ = some (.string t201) := (blk_cell BK205.out 1).trans rfl; have hcz117_2 : w116.cell? ⟨gb205, 2, none⟩ = some (.slice Ao97 t202.length co97) := (blk_cell BK205.out 2).trans rfl; have hfz117_0 := blk_frozen BK205.out 0; have hfz117_1 := blk_frozen BK205.out 1; have hfz117_2 := blk_frozen BK205.out 2) | ((with_reducible refine gate_callee (f := 53) rfl ?_); refine goesL_ (some 69) rfl rfl Try.func53 (by kernel_rfl) rfl #[.agg #[.int .i64 t200, .string t201, .slice Ao97 t225.length co97], .int .i64 1] rfl (by (try simp only [List.map_toArray, List.map_cons, List.map_nil]); first | done | (rw [show t225.length = t202.length from (Kd.R_reads' HO204.out).1.symm] <;> rfl) | rfl | (simp only [List.length_drop, List.length_take]; rfl)) ?_; (with_reducible refine (laws_heldQc.calls k t200 t201 _ _ t225 1 t226 _ ?side1 ?side2 A39.out).mono ?_); (case side1 => repeat (first | exact (Kd.R_reads' HO204.out).2.2 | (with_reducible refine Kd.C_alloc ?_ _) | (with_reducible refine Kd.C_drewN ?_ _) | (with_reducible refine Kd.C_drew ?_))); (case side2 => rw [show t225.length = t202.length from (Kd.R_reads' HO204.out).1.symm]; exact (Kd.R_reads' HO204.out).2.1); rintro e w118 ⟨rfl, hb⟩; refine ⟨_, rfl, ?_⟩; replace HO186 := Aside0.mk (Kd.R_below (rI HO186.out) hb); replace HO204 := Aside0.mk (Kd.R_below (rI HO204.out) hb); replace BK168 := Aside0.mk (blk_below (g := gb168) (o := .cells #[.int .i64 a0_0, .string a0_1, .slice A0_2 l0_2.length c0_2] 48 (0, 0)) (kI BK168.out) hb); replace BK169 := Aside0.mk (blk_below (g := gb169) (o := .cells #[.int .i64 a1_0, .string a1_1, .slice A1_2 l1_2.length c1_2] 48 (0, 0)) (kI BK169.out) hb); replace BK187 := Aside0.mk (blk_below (g := gb187) (o := .cells #[.int .i64 t182, .string t183, .slice Ao67 t184.length co67] 41 (0, 0)) (kI BK187.out) hb); replace BK193 := Aside0.mk (blk_below (g := gb193) (o := .cells #[.int .i64 t188, .string t189, .slice Ao77 t190.length co77] 41 (0, 0)) (kI BK193.out) hb); replace BK199 := Aside0.mk (blk_below (g := gb199) (o := .cells #[.int .i64 t194, .string t195, .slice Ao87 t196.length co87] 41 (0, 0)) (kI BK199.out) hb); replace BK205 := Aside0.mk (blk_below (g := gb205) (o := .cells #[.int .i64 t200, .string t201, .slice Ao97 t202.length co97] 41 (0, 0)) (kI BK205.out) hb); replace HB := Aside0.mk (below_step (bI HB.out) hb); (try clear hb); (try clear hb2); (try clear hk); (try clear hi)))
        replace HO186 := Aside0.mk (Kd.R_drew HO186.out)
        replace HO204 := Aside0.mk (Kd.R_drew HO204.out)
        replace BK168 := Aside0.mk (blk_drew BK168.out)
        replace BK169 := Aside0.mk (blk_drew BK169.out)
        replace BK187 := Aside0.mk (blk_drew BK187.out)
        replace BK193 := Aside0.mk (blk_drew BK193.out)
        replace BK199 := Aside0.mk (blk_drew BK199.out)
        replace BK205 := Aside0.mk (blk_drew BK205.out)
        replace HB := Aside0.mk (below_drew1 HB.out)
        refine start_ (n := 7) (S := fun w' => w'.cell? ⟨gb168, 0, none⟩ = some (.int .i64 a0_0) ∧ w'.cell? ⟨gb168, 1, none⟩ = some (.string a0_1) ∧ w'.cell? ⟨gb168, 2, none⟩ = some (.slice A0_2 l0_2.length c0_2) ∧ w'.cell? ⟨gb169, 0, none⟩ = some (.int .i64 a1_0) ∧ w'.cell? ⟨gb169, 1, none⟩ = some (.string a1_1) ∧ w'.cell? ⟨gb169, 2, none⟩ = some (.slice A1_2 l1_2.length c1_2)) (ds := []) #[false, false, false, false, false, false, false] (by kernel_rfl) rfl rfl ⟨(blk_cell BK168.out 0).trans rfl, (blk_cell BK168.out 1).trans rfl, (blk_cell BK168.out 2).trans rfl, (blk_cell BK169.out 0).trans rfl, (blk_cell BK169.out 1).trans rfl, (blk_cell BK169.out 2).trans rfl⟩ (fun hHeld => ?_)
        generalize w118.drew = w119 at HO186 HO204 BK168 BK169 BK187 BK193 BK199 BK205 HB hHeld ⊢
        refine take_ (i := 0) (N := some 75) (v := ?_) (a' := ?_) #[true, false, false, false, false, false, false] rfl rfl (by kernel_rfl) (fun _ _ _ h => h) (Or.inl ⟨by rfl, ?_⟩) hHeld ?_ ?_
        rotate_left
        · rintro w' ⟨s0, s1, s2, s3, s4, s5⟩
          go_simp
          with_reducible rfl
        rotate_left
        · simp only [Act.put, List.setIfInBounds_toArray, List.set_cons_zero, List.set_cons_succ, i64_w, i32_w]
          rfl
        refine take_ (i := 2) (N := some 77) (v := ?_) (a' := ?_) #[true, false, true, false, false, false, false] rfl rfl (by kernel_rfl) (fun _ _ _ h => h) (Or.inl ⟨by rfl, ?_⟩) hHeld ?_ ?_
        rotate_left
        · rintro w' ⟨s0, s1, s2, s3, s4, s5⟩
          go_simp
          with_reducible rfl
        rotate_left
        · simp only [Act.put, List.setIfInBounds_toArray, List.set_cons_zero, List.set_cons_succ, i64_w, i32_w]
          rfl
        refine join_ (σ := Value × Value × Value × Nat) 1 #[true, true, true, true, true, true, false] (fun s_ => [(76, .agg #[.int .i64 t227, .string t228, s_.1]), (78, .agg #[.int .i64 t232, .string t233, s_.2.1]), (79, .agg #[.int .i64 t237, .string t238, s_.2.2.1]), (13, .pointer (some ⟨s_.2.2.2, 0, none⟩))]) (fun s_ w' => (w'.cell? ⟨gb168, 0, none⟩ = some (.int .i64 a0_0) ∧ w'.cell? ⟨gb168, 1, none⟩ = some (.string a0_1) ∧ w'.cell? ⟨gb168, 2, none⟩ = some (.slice A0_2 l0_2.length c0_2) ∧ w'.cell? ⟨gb169, 0, none⟩ = some (.int .i64 a1_0) ∧ w'.cell? ⟨gb169, 1, none⟩ = some (.string a1_1) ∧ w'.cell? ⟨gb169, 2, none⟩ = some (.slice A1_2 l1_2.length c1_2)) ∧ (Kd.R (Kd.int .i64) 3 w' w.heap.size (fun k_ => some k_ ≠ (.slice Ao97 t202.length co97 : Value).ownBlock ∧ some k_ ≠ (s_.1 : Value).ownBlock ∧ some k_ ≠ (s_.2.1 : Value).ownBlock ∧ some k_ ≠ (s_.2.2.1 : Value).ownBlock) (.slice Ao67 t184.length co67) t184) ∧ (Kd.R (Kd.int .i64) 3 w' w.heap.size (fun k_ => some k_ ≠ (.slice Ao67 t184.length co67 : Value).ownBlock ∧ some k_ ≠ (s_.1 : Value).ownBlock ∧ some k_ ≠ (s_.2.1 : Value).ownBlock ∧ some k_ ≠ (s_.2.2.1 : Value).ownBlock) (.slice Ao97 t202.length co97) t225) ∧ (Kd.R (Kd.int .i64) 3 w' w.heap.size (fun k_ => some k_ ≠ (.slice Ao67 t184.length co67 : Value).ownBlock ∧ some k_ ≠ (.slice Ao97 t202.length co97 : Value).ownBlock ∧ some k_ ≠ (s_.2.1 : Value).ownBlock ∧ some k_ ≠ (s_.2.2.1 : Value).ownBlock) s_.1 t229) ∧ (Kd.R (Kd.int .i64) 3 w' w.heap.size (fun k_ => some k_ ≠ (.slice Ao67 t184.length co67 : Value).ownBlock ∧ some k_ ≠ (.slice Ao97 t202.length co97 : Value).ownBlock ∧ some k_ ≠ (s_.1 : Value).ownBlock ∧ some k_ ≠ (s_.2.2.1 : Value).ownBlock) s_.2.1 t234) ∧ (Kd.R (Kd.int .i64) 3 w' w.heap.size (fun k_ => some k_ ≠ (.slice Ao67 t184.length co67 : Value).ownBlock ∧ some k_ ≠ (.slice Ao97 t202.length co97 : Value).ownBlock ∧ some k_ ≠ (s_.1 : Value).ownBlock ∧ some k_ ≠ (s_.2.1 : Value).ownBlock) s_.2.2.1 t239) ∧ (w'.heap[gb168]? = some (.cells #[.int .i64 a0_0, .string a0_1, .slice A0_2 l0_2.length c0_2] 48 (0, 0))) ∧ (w'.heap[gb169]? = some (.cells #[.int .i64 a1_0, .string a1_1, .slice A1_2 l1_2.length c1_2] 48 (0, 0))) ∧ (w'.heap[gb187]? = some (.cells #[.int .i64 t182, .string t183, .slice Ao67 t184.length co67] 41 (0, 0))) ∧ (w'.heap[gb193]? = some (.cells #[.int .i64 t188, .string t189, .slice Ao77 t190.length co77] 41 (0, 0))) ∧ (w'.heap[gb199]? = some (.cells #[.int .i64 t194, .string t195, .slice Ao87 t196.length co87] 41 (0, 0))) ∧ (w'.heap[gb205]? = some (.cells #[.int .i64 t200, .string t201, .slice Ao97 t202.length co97] 41 (0, 0))) ∧ (w'.heap[s_.2.2.2]? = some (.cells #[.int .i64 0, .string (⟨#[]⟩ : ByteArray), .slice none 0 0] 41 (0, 0))) ∧ (w.heap.size ≤ s_.2.2.2) ∧ (w.heap.size ≤ s_.2.2.2) ∧ (gb168 ≠ s_.2.2.2) ∧ (s_.2.2.2 ≠ gb168) ∧ (gb169 ≠ s_.2.2.2) ∧ (s_.2.2.2 ≠ gb169) ∧ (gb187 ≠ s_.2.2.2) ∧ (s_.2.2.2 ≠ gb187) ∧ (gb193 ≠ s_.2.2.2) ∧ (s_.2.2.2 ≠ gb193) ∧ (gb199 ≠ s_.2.2.2) ∧ (s_.2.2.2 ≠ gb199) ∧ (gb205 ≠ s_.2.2.2) ∧ (s_.2.2.2 ≠ gb205) ∧ (Below w.heap.size w w')) ?_ ?_
        rotate_left
        · intro hCont
          refine two_ (i := 1) (j := 5) (Ni := some 76) (Nj := some 13) #[true, true, true, false, false, false, false] #[true, false, true, false, false, true, false] rfl rfl rfl rfl (by kernel_rfl) (by decide) (by decide) (fun K hK => ?_) (fun K hK => ?_)
          · skip
            refine goes_ Try.func36 (by kernel_rfl) rfl #[.agg #[.int .i64 a0_0, .string a0_1, .slice A0_2 l0_2.length c0_2]] (by rfl) rfl rfl (by (try simp only [List.map_toArray, List.map_cons, List.map_nil]); first | done | rfl | (simp only [List.length_drop, List.length_take]; rfl)) ?_
            with_reducible refine (laws_toQc.calls k a0_0 a0_1 _ _ l0_2 t227 t228 t229 _ ?side1 ?side2 A42.out).mono ?_
            (case side1 => repeat (first | exact (Kd.C_below HR0_2.out HB.out) | (with_reducible refine Kd.C_alloc ?_ _) | (with_reducible refine Kd.C_drewN ?_ _) | (with_reducible refine Kd.C_drew ?_)))
            (case side2 => exact HC0_2.out)
            rintro e w120 ⟨v230, rfl, ho0, hb⟩
            refine ⟨_, rfl, ?_⟩
            have HO231 := Aside0.mk (Kd.R_lower (Kd.R_new' (Kd.R_new' ho0 (Kd.R_lt (rI HO186.out))) (Kd.R_lt (rI HO204.out))) (below_size (bI HB.out)))
            replace HO186 := Aside0.mk (Kd.R_elder' (rI HO186.out) (Kd.R_base ho0) hb)
            replace HO204 := Aside0.mk (Kd.R_elder' (rI HO204.out) (Kd.R_base ho0) hb)
            replace BK168 := Aside0.mk (blk_below (g := gb168) (o := .cells #[.int .i64 a0_0, .string a0_1, .slice A0_2 l0_2.length c0_2] 48 (0, 0)) (kI BK168.out) hb)
            replace BK169 := Aside0.mk (blk_below (g := gb169) (o := .cells #[.int .i64 a1_0, .string a1_1, .slice A1_2 l1_2.length c1_2] 48 (0, 0)) (kI BK169.out) hb)
            replace BK187 := Aside0.mk (blk_below (g := gb187) (o := .cells #[.int .i64 t182, .string t183, .slice Ao67 t184.length co67] 41 (0, 0)) (kI BK187.out) hb)
            replace BK193 := Aside0.mk (blk_below (g := gb193) (o := .cells #[.int .i64 t188, .string t189, .slice Ao77 t190.length co77] 41 (0, 0)) (kI BK193.out) hb)
            replace BK199 := Aside0.mk (blk_below (g := gb199) (o := .cells #[.int .i64 t194, .string t195, .slice Ao87 t196.length co87] 41 (0, 0)) (kI BK199.out) hb)
            replace BK205 := Aside0.mk (blk_below (g := gb205) (o := .cells #[.int .i64 t200, .string t201, .slice Ao97 t202.length co97] 41 (0, 0)) (kI BK205.out) hb)
            replace HB := Aside0.mk (below_step (bI HB.out) hb)
            (try clear hb)
            (try clear hb2)
            (try clear hk)
            (try clear hi)
            (try clear ho0)
            refine hK.out _ _ ⟨(blk_cell BK168.out 0).trans rfl, (blk_cell BK168.out 1).trans rfl, (blk_cell BK168.out 2).trans rfl, (blk_cell BK169.out 0).trans rfl, (blk_cell BK169.out 1).trans rfl, (blk_cell BK169.out 2).trans rfl⟩ (fun hHeld => ?_)
            clear hK K
            refine norm_ (a' := ?_) ?_ ?_
            rotate_left
            · show Act.put _ (some 76) _ = _
              simp only [Act.put, List.setIfInBounds_toArray, List.set_cons_zero, List.set_cons_succ, i64_w, i32_w]
              rfl
            refine two_ (i := 3) (j := 5) (Ni := some 78) (Nj := some 13) #[true, true, true, true, false, false, false] #[true, true, true, false, false, true, false] rfl rfl rfl rfl (by kernel_rfl) (by decide) (by decide) (fun K hK => ?_) (fun K hK => ?_)
            · skip
              refine goes_ Try.func36 (by kernel_rfl) rfl #[.agg #[.int .i64 a1_0, .string a1_1, .slice A1_2 l1_2.length c1_2]] (by rfl) rfl rfl (by (try simp only [List.map_toArray, List.map_cons, List.map_nil]); first | done | rfl | (simp only [List.length_drop, List.length_take]; rfl)) ?_
              with_reducible refine (laws_toQc.calls k a1_0 a1_1 _ _ l1_2 t232 t233 t234 _ ?side1 ?side2 A43.out).mono ?_
              (case side1 => repeat (first | exact (Kd.C_below HR1_2.out HB.out) | (with_reducible refine Kd.C_alloc ?_ _) | (with_reducible refine Kd.C_drewN ?_ _) | (with_reducible refine Kd.C_drew ?_)))
              (case side2 => exact HC1_2.out)
              rintro e w121 ⟨v235, rfl, ho0, hb⟩
              refine ⟨_, rfl, ?_⟩
              have HO236 := Aside0.mk (Kd.R_lower (Kd.R_new' (Kd.R_new' (Kd.R_new' ho0 (Kd.R_lt (rI HO186.out))) (Kd.R_lt (rI HO204.out))) (Kd.R_lt (rI HO231.out))) (below_size (bI HB.out)))
              replace HO186 := Aside0.mk (Kd.R_elder' (rI HO186.out) (Kd.R_base ho0) hb)
              replace HO204 := Aside0.mk (Kd.R_elder' (rI HO204.out) (Kd.R_base ho0) hb)
              replace HO231 := Aside0.mk (Kd.R_elder' (rI HO231.out) (Kd.R_base ho0) hb)
              replace BK168 := Aside0.mk (blk_below (g := gb168) (o := .cells #[.int .i64 a0_0, .string a0_1, .slice A0_2 l0_2.length c0_2] 48 (0, 0)) (kI BK168.out) hb)
              replace BK169 := Aside0.mk (blk_below (g := gb169) (o := .cells #[.int .i64 a1_0, .string a1_1, .slice A1_2 l1_2.length c1_2] 48 (0, 0)) (kI BK169.out) hb)
              replace BK187 := Aside0.mk (blk_below (g := gb187) (o := .cells #[.int .i64 t182, .string t183, .slice Ao67 t184.length co67] 41 (0, 0)) (kI BK187.out) hb)
              replace BK193 := Aside0.mk (blk_below (g := gb193) (o := .cells #[.int .i64 t188, .string t189, .slice Ao77 t190.length co77] 41 (0, 0)) (kI BK193.out) hb)
              replace BK199 := Aside0.mk (blk_below (g := gb199) (o := .cells #[.int .i64 t194, .string t195, .slice Ao87 t196.length co87] 41 (0, 0)) (kI BK199.out) hb)
              replace BK205 := Aside0.mk (blk_below (g := gb205) (o := .cells #[.int .i64 t200, .string t201, .slice Ao97 t202.length co97] 41 (0, 0)) (kI BK205.out) hb)
              replace HB := Aside0.mk (below_step (bI HB.out) hb)
              (try clear hb)
              (try clear hb2)
              (try clear hk)
              (try clear hi)
              (try clear ho0)
              obtain ⟨Ao122, co122, eo122⟩ := Kd.R_slice HO231.out
              (first | subst eo122 | (injection eo122 with f1_ f2_ f3_; have f4_ := f1_.symm; have f5_ := f3_.symm; clear f1_ f2_ f3_; subst f4_; subst f5_))
              obtain ⟨Ao123, co123, eo123⟩ := Kd.R_slice HO236.out
              (first | subst eo123 | (injection eo123 with f1_ f2_ f3_; have f4_ := f1_.symm; have f5_ := f3_.symm; clear f1_ f2_ f3_; subst f4_; subst f5_))
              refine hK.out _ _ ⟨(blk_cell BK168.out 0).trans rfl, (blk_cell BK168.out 1).trans rfl, (blk_cell BK168.out 2).trans rfl, (blk_cell BK169.out 0).trans rfl, (blk_cell BK169.out 1).trans rfl, (blk_cell BK169.out 2).trans rfl⟩ (fun hHeld => ?_)
              clear hK K
              refine norm_ (a' := ?_) ?_ ?_
              rotate_left
              · show Act.put _ (some 78) _ = _
                simp only [Act.put, List.setIfInBounds_toArray, List.set_cons_zero, List.set_cons_succ, i64_w, i32_w]
                rfl
              refine two_ (i := 4) (j := 5) (Ni := some 79) (Nj := some 13) #[true, true, true, true, true, false, false] #[true, true, true, true, false, true, false] rfl rfl rfl rfl (by kernel_rfl) (by decide) (by decide) (fun K hK => ?_) (fun K hK => ?_)
              · skip
                refine goes_ Try.func51 (by kernel_rfl) rfl #[.agg #[.int .i64 t227, .string t228, .slice Ao122 t229.length co122], .agg #[.int .i64 t232, .string t233, .slice Ao123 t234.length co123]] (by rfl) rfl rfl (by (try simp only [List.map_toArray, List.map_cons, List.map_nil]); first | done | rfl | (simp only [List.length_drop, List.length_take]; rfl)) ?_
                with_reducible refine (impl_QcLater.calls t227 t228 _ _ t229 t232 t233 _ _ t234 t237 t238 t239 _ ?side1 ?side2 ?side3 ?side4 A44.out).mono ?_
                (case side1 => repeat (first | exact (Kd.R_reads' HO231.out).2.2 | (with_reducible refine Kd.C_alloc ?_ _) | (with_reducible refine Kd.C_drewN ?_ _) | (with_reducible refine Kd.C_drew ?_)))
                (case side2 => exact (Kd.R_reads' HO231.out).2.1)
                (case side3 => repeat (first | exact (Kd.R_reads' HO236.out).2.2 | (with_reducible refine Kd.C_alloc ?_ _) | (with_reducible refine Kd.C_drewN ?_ _) | (with_reducible refine Kd.C_drew ?_)))
                (case side4 => exact (Kd.R_reads' HO236.out).2.1)
                rintro e w124 ⟨v240, rfl, ho0, hb⟩
                refine ⟨_, rfl, ?_⟩
                have HO241 := Aside0.mk (Kd.R_lower (Kd.R_new' (Kd.R_new' (Kd.R_new' (Kd.R_new' ho0 (Kd.R_lt (rI HO186.out))) (Kd.R_lt (rI HO204.out))) (Kd.R_lt (rI HO231.out))) (Kd.R_lt (rI HO236.out))) (below_size (bI HB.out)))
                replace HO186 := Aside0.mk (Kd.R_elder' (rI HO186.out) (Kd.R_base ho0) hb)
                replace HO204 := Aside0.mk (Kd.R_elder' (rI HO204.out) (Kd.R_base ho0) hb)
                replace HO231 := Aside0.mk (Kd.R_elder' (rI HO231.out) (Kd.R_base ho0) hb)
                replace HO236 := Aside0.mk (Kd.R_elder' (rI HO236.out) (Kd.R_base ho0) hb)
                replace BK168 := Aside0.mk (blk_below (g := gb168) (o := .cells #[.int .i64 a0_0, .string a0_1, .slice A0_2 l0_2.length c0_2] 48 (0, 0)) (kI BK168.out) hb)
                replace BK169 := Aside0.mk (blk_below (g := gb169) (o := .cells #[.int .i64 a1_0, .string a1_1, .slice A1_2 l1_2.length c1_2] 48 (0, 0)) (kI BK169.out) hb)
                replace BK187 := Aside0.mk (blk_below (g := gb187) (o := .cells #[.int .i64 t182, .string t183, .slice Ao67 t184.length co67] 41 (0, 0)) (kI BK187.out) hb)
                replace BK193 := Aside0.mk (blk_below (g := gb193) (o := .cells #[.int .i64 t188, .string t189, .slice Ao77 t190.length co77] 41 (0, 0)) (kI BK193.out) hb)
                replace BK199 := Aside0.mk (blk_below (g := gb199) (o := .cells #[.int .i64 t194, .string t195, .slice Ao87 t196.length co87] 41 (0, 0)) (kI BK199.out) hb)
                replace BK205 := Aside0.mk (blk_below (g := gb205) (o := .cells #[.int .i64 t200, .string t201, .slice Ao97 t202.length co97] 41 (0, 0)) (kI BK205.out) hb)
                replace HB := Aside0.mk (below_step (bI HB.out) hb)
                (try clear hb)
                (try clear hb2)
                (try clear hk)
                (try clear hi)
                (try clear ho0)
                refine hK.out _ _ ⟨(blk_cell BK168.out 0).trans rfl, (blk_cell BK168.out 1).trans rfl, (blk_cell BK168.out 2).trans rfl, (blk_cell BK169.out 0).trans rfl, (blk_cell BK169.out 1).trans rfl, (blk_cell BK169.out 2).trans rfl⟩ (fun hHeld => ?_)
                clear hK K
                refine norm_ (a' := ?_) ?_ ?_
                rotate_left
                · show Act.put _ (some 79) _ = _
                  simp only [Act.put, List.setIfInBounds_toArray, List.set_cons_zero, List.set_cons_succ, i64_w, i32_w]
                  rfl
                refine one_ (i := 5) (N := some 13) #[true, true, true, true, true, true, false] rfl rfl (by kernel_rfl) (by decide) (fun K hK => ?_)
                refine box_step ?hg (N := 13) ?hd (cs := #[.int .i64 0, .string (⟨#[]⟩ : ByteArray), .slice none 0 0]) (t := 41) ?hr ?_; (case hd => rfl); (case hg => rfl); (case hr => first | (go_simp; done) | (go_simp; rfl))
                intro gb242 hg w125 hbox hb
                replace HO186 := Aside0.mk (Kd.R_below (rI HO186.out) hb)
                replace HO204 := Aside0.mk (Kd.R_below (rI HO204.out) hb)
                replace HO231 := Aside0.mk (Kd.R_below (rI HO231.out) hb)
                replace HO236 := Aside0.mk (Kd.R_below (rI HO236.out) hb)
                replace HO241 := Aside0.mk (Kd.R_below (rI HO241.out) hb)
                have BK242 := Aside0.mk (hbox)
                have GW242 := Aside0.mk ((by rw [hg]; exact (below_size (bI HB.out)) : w.heap.size ≤ gb242))
                have GE242 := Aside0.mk ((by rw [hg]; exact (below_size (bI HB.out)) : w.heap.size ≤ gb242))
                have GI242 := GeI.mk GE242.out
                replace HB := Aside0.mk (below_step (bI HB.out) hb)
                have NB168_242 := Aside0.mk ((by rw [hg]; exact Nat.ne_of_lt (blk_lt (g := gb168) (o := .cells #[.int .i64 a0_0, .string a0_1, .slice A0_2 l0_2.length c0_2] 48 (0, 0)) (kI BK168.out)) : gb168 ≠ gb242))
                have NB242_168 := Aside0.mk ((by rw [hg]; exact Nat.ne_of_gt (blk_lt (g := gb168) (o := .cells #[.int .i64 a0_0, .string a0_1, .slice A0_2 l0_2.length c0_2] 48 (0, 0)) (kI BK168.out)) : gb242 ≠ gb168))
                replace BK168 := Aside0.mk (blk_below (g := gb168) (o := .cells #[.int .i64 a0_0, .string a0_1, .slice A0_2 l0_2.length c0_2] 48 (0, 0)) (kI BK168.out) hb)
                have NB169_242 := Aside0.mk ((by rw [hg]; exact Nat.ne_of_lt (blk_lt (g := gb169) (o := .cells #[.int .i64 a1_0, .string a1_1, .slice A1_2 l1_2.length c1_2] 48 (0, 0)) (kI BK169.out)) : gb169 ≠ gb242))
                have NB242_169 := Aside0.mk ((by rw [hg]; exact Nat.ne_of_gt (blk_lt (g := gb169) (o := .cells #[.int .i64 a1_0, .string a1_1, .slice A1_2 l1_2.length c1_2] 48 (0, 0)) (kI BK169.out)) : gb242 ≠ gb169))
                replace BK169 := Aside0.mk (blk_below (g := gb169) (o := .cells #[.int .i64 a1_0, .string a1_1, .slice A1_2 l1_2.length c1_2] 48 (0, 0)) (kI BK169.out) hb)
                have NB187_242 := Aside0.mk ((by rw [hg]; exact Nat.ne_of_lt (blk_lt (g := gb187) (o := .cells #[.int .i64 t182, .string t183, .slice Ao67 t184.length co67] 41 (0, 0)) (kI BK187.out)) : gb187 ≠ gb242))
                have NB242_187 := Aside0.mk ((by rw [hg]; exact Nat.ne_of_gt (blk_lt (g := gb187) (o := .cells #[.int .i64 t182, .string t183, .slice Ao67 t184.length co67] 41 (0, 0)) (kI BK187.out)) : gb242 ≠ gb187))
                replace BK187 := Aside0.mk (blk_below (g := gb187) (o := .cells #[.int .i64 t182, .string t183, .slice Ao67 t184.length co67] 41 (0, 0)) (kI BK187.out) hb)
                have NB193_242 := Aside0.mk ((by rw [hg]; exact Nat.ne_of_lt (blk_lt (g := gb193) (o := .cells #[.int .i64 t188, .string t189, .slice Ao77 t190.length co77] 41 (0, 0)) (kI BK193.out)) : gb193 ≠ gb242))
                have NB242_193 := Aside0.mk ((by rw [hg]; exact Nat.ne_of_gt (blk_lt (g := gb193) (o := .cells #[.int .i64 t188, .string t189, .slice Ao77 t190.length co77] 41 (0, 0)) (kI BK193.out)) : gb242 ≠ gb193))
                replace BK193 := Aside0.mk (blk_below (g := gb193) (o := .cells #[.int .i64 t188, .string t189, .slice Ao77 t190.length co77] 41 (0, 0)) (kI BK193.out) hb)
                have NB199_242 := Aside0.mk ((by rw [hg]; exact Nat.ne_of_lt (blk_lt (g := gb199) (o := .cells #[.int .i64 t194, .string t195, .slice Ao87 t196.length co87] 41 (0, 0)) (kI BK199.out)) : gb199 ≠ gb242))
                have NB242_199 := Aside0.mk ((by rw [hg]; exact Nat.ne_of_gt (blk_lt (g := gb199) (o := .cells #[.int .i64 t194, .string t195, .slice Ao87 t196.length co87] 41 (0, 0)) (kI BK199.out)) : gb242 ≠ gb199))
                replace BK199 := Aside0.mk (blk_below (g := gb199) (o := .cells #[.int .i64 t194, .string t195, .slice Ao87 t196.length co87] 41 (0, 0)) (kI BK199.out) hb)
                have NB205_242 := Aside0.mk ((by rw [hg]; exact Nat.ne_of_lt (blk_lt (g := gb205) (o := .cells #[.int .i64 t200, .string t201, .slice Ao97 t202.length co97] 41 (0, 0)) (kI BK205.out)) : gb205 ≠ gb242))
                have NB242_205 := Aside0.mk ((by rw [hg]; exact Nat.ne_of_gt (blk_lt (g := gb205) (o := .cells #[.int .i64 t200, .string t201, .slice Ao97 t202.length co97] 41 (0, 0)) (kI BK205.out)) : gb242 ≠ gb205))
                replace BK205 := Aside0.mk (blk_below (g := gb205) (o := .cells #[.int .i64 t200, .string t201, .slice Ao97 t202.length co97] 41 (0, 0)) (kI BK205.out) hb)
                clear hb hbox hg
                refine hK.out _ _ ⟨(blk_cell BK168.out 0).trans rfl, (blk_cell BK168.out 1).trans rfl, (blk_cell BK168.out 2).trans rfl, (blk_cell BK169.out 0).trans rfl, (blk_cell BK169.out 1).trans rfl, (blk_cell BK169.out 2).trans rfl⟩ (fun hHeld => ?_)
                clear hK K
                refine norm_ (a' := ?_) ?_ ?_
                rotate_left
                · show Act.put _ (some 13) _ = _
                  simp only [Act.put, List.setIfInBounds_toArray, List.set_cons_zero, List.set_cons_succ, i64_w, i32_w]
                  rfl
                exact norm_ (by simp only [putAll, Act.put, List.setIfInBounds_toArray, List.set_cons_zero, List.set_cons_succ]) (hCont (.slice Ao122 t229.length co122, .slice Ao123 t234.length co123, v240, gb242) _ ⟨hHeld, (rI (Kd.R_mono HO186.out (fun _ hk => ⟨hk.1.1.1, ⟨hk.1.1.2, ⟨hk.1.2, hk.2⟩⟩⟩))), (rI (Kd.R_mono HO204.out (fun _ hk => ⟨hk.1.1.1, ⟨hk.1.1.2, ⟨hk.1.2, hk.2⟩⟩⟩))), (rI (Kd.R_mono HO231.out (fun _ hk => ⟨hk.1.1.1.2, ⟨hk.1.1.2, ⟨hk.1.2, hk.2⟩⟩⟩))), (rI (Kd.R_mono HO236.out (fun _ hk => ⟨hk.1.1.1.2, ⟨hk.1.1.2, ⟨hk.1.2, hk.2⟩⟩⟩))), (rI (Kd.R_mono HO241.out (fun _ hk => ⟨hk.1.1.1.2, ⟨hk.1.1.2, ⟨hk.1.2, hk.2⟩⟩⟩))), (kI BK168.out), (kI BK169.out), (kI BK187.out), (kI BK193.out), (kI BK199.out), (kI BK205.out), (kI BK242.out), GW242.out, GE242.out, NB168_242.out, NB242_168.out, NB169_242.out, NB242_169.out, NB187_242.out, NB242_187.out, NB193_242.out, NB242_193.out, NB199_242.out, NB242_199.out, NB205_242.out, NB242_205.out, (bI HB.out)⟩)
              · skip
                refine box_step ?hg (N := 13) ?hd (cs := #[.int .i64 0, .string (⟨#[]⟩ : ByteArray), .slice none 0 0]) (t := 41) ?hr ?_; (case hd => rfl); (case hg => rfl); (case hr => first | (go_simp; done) | (go_simp; rfl))
                intro gb242 hg w122 hbox hb
                replace HO186 := Aside0.mk (Kd.R_below (rI HO186.out) hb)
                replace HO204 := Aside0.mk (Kd.R_below (rI HO204.out) hb)
                replace HO231 := Aside0.mk (Kd.R_below (rI HO231.out) hb)
                replace HO236 := Aside0.mk (Kd.R_below (rI HO236.out) hb)
                have BK242 := Aside0.mk (hbox)
                have GW242 := Aside0.mk ((by rw [hg]; exact (below_size (bI HB.out)) : w.heap.size ≤ gb242))
                have GE242 := Aside0.mk ((by rw [hg]; exact (below_size (bI HB.out)) : w.heap.size ≤ gb242))
                have GI242 := GeI.mk GE242.out
                replace HB := Aside0.mk (below_step (bI HB.out) hb)
                have NB168_242 := Aside0.mk ((by rw [hg]; exact Nat.ne_of_lt (blk_lt (g := gb168) (o := .cells #[.int .i64 a0_0, .string a0_1, .slice A0_2 l0_2.length c0_2] 48 (0, 0)) (kI BK168.out)) : gb168 ≠ gb242))
                have NB242_168 := Aside0.mk ((by rw [hg]; exact Nat.ne_of_gt (blk_lt (g := gb168) (o := .cells #[.int .i64 a0_0, .string a0_1, .slice A0_2 l0_2.length c0_2] 48 (0, 0)) (kI BK168.out)) : gb242 ≠ gb168))
                replace BK168 := Aside0.mk (blk_below (g := gb168) (o := .cells #[.int .i64 a0_0, .string a0_1, .slice A0_2 l0_2.length c0_2] 48 (0, 0)) (kI BK168.out) hb)
                have NB169_242 := Aside0.mk ((by rw [hg]; exact Nat.ne_of_lt (blk_lt (g := gb169) (o := .cells #[.int .i64 a1_0, .string a1_1, .slice A1_2 l1_2.length c1_2] 48 (0, 0)) (kI BK169.out)) : gb169 ≠ gb242))
                have NB242_169 := Aside0.mk ((by rw [hg]; exact Nat.ne_of_gt (blk_lt (g := gb169) (o := .cells #[.int .i64 a1_0, .string a1_1, .slice A1_2 l1_2.length c1_2] 48 (0, 0)) (kI BK169.out)) : gb242 ≠ gb169))
                replace BK169 := Aside0.mk (blk_below (g := gb169) (o := .cells #[.int .i64 a1_0, .string a1_1, .slice A1_2 l1_2.length c1_2] 48 (0, 0)) (kI BK169.out) hb)
                have NB187_242 := Aside0.mk ((by rw [hg]; exact Nat.ne_of_lt (blk_lt (g := gb187) (o := .cells #[.int .i64 t182, .string t183, .slice Ao67 t184.length co67] 41 (0, 0)) (kI BK187.out)) : gb187 ≠ gb242))
                have NB242_187 := Aside0.mk ((by rw [hg]; exact Nat.ne_of_gt (blk_lt (g := gb187) (o := .cells #[.int .i64 t182, .string t183, .slice Ao67 t184.length co67] 41 (0, 0)) (kI BK187.out)) : gb242 ≠ gb187))
                replace BK187 := Aside0.mk (blk_below (g := gb187) (o := .cells #[.int .i64 t182, .string t183, .slice Ao67 t184.length co67] 41 (0, 0)) (kI BK187.out) hb)
                have NB193_242 := Aside0.mk ((by rw [hg]; exact Nat.ne_of_lt (blk_lt (g := gb193) (o := .cells #[.int .i64 t188, .string t189, .slice Ao77 t190.length co77] 41 (0, 0)) (kI BK193.out)) : gb193 ≠ gb242))
                have NB242_193 := Aside0.mk ((by rw [hg]; exact Nat.ne_of_gt (blk_lt (g := gb193) (o := .cells #[.int .i64 t188, .string t189, .slice Ao77 t190.length co77] 41 (0, 0)) (kI BK193.out)) : gb242 ≠ gb193))
                replace BK193 := Aside0.mk (blk_below (g := gb193) (o := .cells #[.int .i64 t188, .string t189, .slice Ao77 t190.length co77] 41 (0, 0)) (kI BK193.out) hb)
                have NB199_242 := Aside0.mk ((by rw [hg]; exact Nat.ne_of_lt (blk_lt (g := gb199) (o := .cells #[.int .i64 t194, .string t195, .slice Ao87 t196.length co87] 41 (0, 0)) (kI BK199.out)) : gb199 ≠ gb242))
                have NB242_199 := Aside0.mk ((by rw [hg]; exact Nat.ne_of_gt (blk_lt (g := gb199) (o := .cells #[.int .i64 t194, .string t195, .slice Ao87 t196.length co87] 41 (0, 0)) (kI BK199.out)) : gb242 ≠ gb199))
                replace BK199 := Aside0.mk (blk_below (g := gb199) (o := .cells #[.int .i64 t194, .string t195, .slice Ao87 t196.length co87] 41 (0, 0)) (kI BK199.out) hb)
                have NB205_242 := Aside0.mk ((by rw [hg]; exact Nat.ne_of_lt (blk_lt (g := gb205) (o := .cells #[.int .i64 t200, .string t201, .slice Ao97 t202.length co97] 41 (0, 0)) (kI BK205.out)) : gb205 ≠ gb242))
                have NB242_205 := Aside0.mk ((by rw [hg]; exact Nat.ne_of_gt (blk_lt (g := gb205) (o := .cells #[.int .i64 t200, .string t201, .slice Ao97 t202.length co97] 41 (0, 0)) (kI BK205.out)) : gb242 ≠ gb205))
                replace BK205 := Aside0.mk (blk_below (g := gb205) (o := .cells #[.int .i64 t200, .string t201, .slice Ao97 t202.length co97] 41 (0, 0)) (kI BK205.out) hb)
                clear hb hbox hg
                obtain ⟨Ao123, co123, eo123⟩ := Kd.R_slice HO231.out
                (first | subst eo123 | (injection eo123 with f1_ f2_ f3_; have f4_ := f1_.symm; have f5_ := f3_.symm; clear f1_ f2_ f3_; subst f4_; subst f5_))
                obtain ⟨Ao124, co124, eo124⟩ := Kd.R_slice HO236.out
                (first | subst eo124 | (injection eo124 with f1_ f2_ f3_; have f4_ := f1_.symm; have f5_ := f3_.symm; clear f1_ f2_ f3_; subst f4_; subst f5_))
                refine hK.out _ _ ⟨(blk_cell BK168.out 0).trans rfl, (blk_cell BK168.out 1).trans rfl, (blk_cell BK168.out 2).trans rfl, (blk_cell BK169.out 0).trans rfl, (blk_cell BK169.out 1).trans rfl, (blk_cell BK169.out 2).trans rfl⟩ (fun hHeld => ?_)
                clear hK K
                refine norm_ (a' := ?_) ?_ ?_
                rotate_left
                · show Act.put _ (some 13) _ = _
                  simp only [Act.put, List.setIfInBounds_toArray, List.set_cons_zero, List.set_cons_succ, i64_w, i32_w]
                  rfl
                refine one_ (i := 4) (N := some 79) #[true, true, true, true, true, true, false] rfl rfl (by kernel_rfl) (by decide) (fun K hK => ?_)
                refine goes_ Try.func51 (by kernel_rfl) rfl #[.agg #[.int .i64 t227, .string t228, .slice Ao123 t229.length co123], .agg #[.int .i64 t232, .string t233, .slice Ao124 t234.length co124]] (by rfl) rfl rfl (by (try simp only [List.map_toArray, List.map_cons, List.map_nil]); first | done | rfl | (simp only [List.length_drop, List.length_take]; rfl)) ?_
                with_reducible refine (impl_QcLater.calls t227 t228 _ _ t229 t232 t233 _ _ t234 t237 t238 t239 _ ?side1 ?side2 ?side3 ?side4 A44.out).mono ?_
                (case side1 => repeat (first | exact (Kd.R_reads' HO231.out).2.2 | (with_reducible refine Kd.C_alloc ?_ _) | (with_reducible refine Kd.C_drewN ?_ _) | (with_reducible refine Kd.C_drew ?_)))
                (case side2 => exact (Kd.R_reads' HO231.out).2.1)
                (case side3 => repeat (first | exact (Kd.R_reads' HO236.out).2.2 | (with_reducible refine Kd.C_alloc ?_ _) | (with_reducible refine Kd.C_drewN ?_ _) | (with_reducible refine Kd.C_drew ?_)))
                (case side4 => exact (Kd.R_reads' HO236.out).2.1)
                rintro e w125 ⟨v240, rfl, ho0, hb⟩
                refine ⟨_, rfl, ?_⟩
                have HO241 := Aside0.mk (Kd.R_lower (Kd.R_new' (Kd.R_new' (Kd.R_new' (Kd.R_new' ho0 (Kd.R_lt (rI HO186.out))) (Kd.R_lt (rI HO204.out))) (Kd.R_lt (rI HO231.out))) (Kd.R_lt (rI HO236.out))) (below_size (bI HB.out)))
                replace HO186 := Aside0.mk (Kd.R_elder' (rI HO186.out) (Kd.R_base ho0) hb)
                replace HO204 := Aside0.mk (Kd.R_elder' (rI HO204.out) (Kd.R_base ho0) hb)
                replace HO231 := Aside0.mk (Kd.R_elder' (rI HO231.out) (Kd.R_base ho0) hb)
                replace HO236 := Aside0.mk (Kd.R_elder' (rI HO236.out) (Kd.R_base ho0) hb)
                replace BK168 := Aside0.mk (blk_below (g := gb168) (o := .cells #[.int .i64 a0_0, .string a0_1, .slice A0_2 l0_2.length c0_2] 48 (0, 0)) (kI BK168.out) hb)
                replace BK169 := Aside0.mk (blk_below (g := gb169) (o := .cells #[.int .i64 a1_0, .string a1_1, .slice A1_2 l1_2.length c1_2] 48 (0, 0)) (kI BK169.out) hb)
                replace BK187 := Aside0.mk (blk_below (g := gb187) (o := .cells #[.int .i64 t182, .string t183, .slice Ao67 t184.length co67] 41 (0, 0)) (kI BK187.out) hb)
                replace BK193 := Aside0.mk (blk_below (g := gb193) (o := .cells #[.int .i64 t188, .string t189, .slice Ao77 t190.length co77] 41 (0, 0)) (kI BK193.out) hb)
                replace BK199 := Aside0.mk (blk_below (g := gb199) (o := .cells #[.int .i64 t194, .string t195, .slice Ao87 t196.length co87] 41 (0, 0)) (kI BK199.out) hb)
                replace BK205 := Aside0.mk (blk_below (g := gb205) (o := .cells #[.int .i64 t200, .string t201, .slice Ao97 t202.length co97] 41 (0, 0)) (kI BK205.out) hb)
                replace BK242 := Aside0.mk (blk_below (g := gb242) (o := .cells #[.int .i64 0, .string (⟨#[]⟩ : ByteArray), .slice none 0 0] 41 (0, 0)) (kI BK242.out) hb)
                replace HB := Aside0.mk (below_step (bI HB.out) hb)
                (try clear hb)
                (try clear hb2)
                (try clear hk)
                (try clear hi)
                (try clear ho0)
                refine hK.out _ _ ⟨(blk_cell BK168.out 0).trans rfl, (blk_cell BK168.out 1).trans rfl, (blk_cell BK168.out 2).trans rfl, (blk_cell BK169.out 0).trans rfl, (blk_cell BK169.out 1).trans rfl, (blk_cell BK169.out 2).trans rfl⟩ (fun hHeld => ?_)
                clear hK K
                refine norm_ (a' := ?_) ?_ ?_
                rotate_left
                · show Act.put _ (some 79) _ = _
                  simp only [Act.put, List.setIfInBounds_toArray, List.set_cons_zero, List.set_cons_succ, i64_w, i32_w]
                  rfl
                exact norm_ (by simp only [putAll, Act.put, List.setIfInBounds_toArray, List.set_cons_zero, List.set_cons_succ]) (hCont (.slice Ao123 t229.length co123, .slice Ao124 t234.length co124, v240, gb242) _ ⟨hHeld, (rI (Kd.R_mono HO186.out (fun _ hk => ⟨hk.1.1.1, ⟨hk.1.1.2, ⟨hk.1.2, hk.2⟩⟩⟩))), (rI (Kd.R_mono HO204.out (fun _ hk => ⟨hk.1.1.1, ⟨hk.1.1.2, ⟨hk.1.2, hk.2⟩⟩⟩))), (rI (Kd.R_mono HO231.out (fun _ hk => ⟨hk.1.1.1.2, ⟨hk.1.1.2, ⟨hk.1.2, hk.2⟩⟩⟩))), (rI (Kd.R_mono HO236.out (fun _ hk => ⟨hk.1.1.1.2, ⟨hk.1.1.2, ⟨hk.1.2, hk.2⟩⟩⟩))), (rI (Kd.R_mono HO241.out (fun _ hk => ⟨hk.1.1.1.2, ⟨hk.1.1.2, ⟨hk.1.2, hk.2⟩⟩⟩))), (kI BK168.out), (kI BK169.out), (kI BK187.out), (kI BK193.out), (kI BK199.out), (kI BK205.out), (kI BK242.out), GW242.out, GE242.out, NB168_242.out, NB242_168.out, NB169_242.out, NB242_169.out, NB187_242.out, NB242_187.out, NB193_242.out, NB242_193.out, NB199_242.out, NB242_199.out, NB205_242.out, NB242_205.out, (bI HB.out)⟩)
            · skip
              refine box_step ?hg (N := 13) ?hd (cs := #[.int .i64 0, .string (⟨#[]⟩ : ByteArray), .slice none 0 0]) (t := 41) ?hr ?_; (case hd => rfl); (case hg => rfl); (case hr => first | (go_simp; done) | (go_simp; rfl))
              intro gb242 hg w121 hbox hb
              replace HO186 := Aside0.mk (Kd.R_below (rI HO186.out) hb)
              replace HO204 := Aside0.mk (Kd.R_below (rI HO204.out) hb)
              replace HO231 := Aside0.mk (Kd.R_below (rI HO231.out) hb)
              have BK242 := Aside0.mk (hbox)
              have GW242 := Aside0.mk ((by rw [hg]; exact (below_size (bI HB.out)) : w.heap.size ≤ gb242))
              have GE242 := Aside0.mk ((by rw [hg]; exact (below_size (bI HB.out)) : w.heap.size ≤ gb242))
              have GI242 := GeI.mk GE242.out
              replace HB := Aside0.mk (below_step (bI HB.out) hb)
              have NB168_242 := Aside0.mk ((by rw [hg]; exact Nat.ne_of_lt (blk_lt (g := gb168) (o := .cells #[.int .i64 a0_0, .string a0_1, .slice A0_2 l0_2.length c0_2] 48 (0, 0)) (kI BK168.out)) : gb168 ≠ gb242))
              have NB242_168 := Aside0.mk ((by rw [hg]; exact Nat.ne_of_gt (blk_lt (g := gb168) (o := .cells #[.int .i64 a0_0, .string a0_1, .slice A0_2 l0_2.length c0_2] 48 (0, 0)) (kI BK168.out)) : gb242 ≠ gb168))
              replace BK168 := Aside0.mk (blk_below (g := gb168) (o := .cells #[.int .i64 a0_0, .string a0_1, .slice A0_2 l0_2.length c0_2] 48 (0, 0)) (kI BK168.out) hb)
              have NB169_242 := Aside0.mk ((by rw [hg]; exact Nat.ne_of_lt (blk_lt (g := gb169) (o := .cells #[.int .i64 a1_0, .string a1_1, .slice A1_2 l1_2.length c1_2] 48 (0, 0)) (kI BK169.out)) : gb169 ≠ gb242))
              have NB242_169 := Aside0.mk ((by rw [hg]; exact Nat.ne_of_gt (blk_lt (g := gb169) (o := .cells #[.int .i64 a1_0, .string a1_1, .slice A1_2 l1_2.length c1_2] 48 (0, 0)) (kI BK169.out)) : gb242 ≠ gb169))
              replace BK169 := Aside0.mk (blk_below (g := gb169) (o := .cells #[.int .i64 a1_0, .string a1_1, .slice A1_2 l1_2.length c1_2] 48 (0, 0)) (kI BK169.out) hb)
              have NB187_242 := Aside0.mk ((by rw [hg]; exact Nat.ne_of_lt (blk_lt (g := gb187) (o := .cells #[.int .i64 t182, .string t183, .slice Ao67 t184.length co67] 41 (0, 0)) (kI BK187.out)) : gb187 ≠ gb242))
              have NB242_187 := Aside0.mk ((by rw [hg]; exact Nat.ne_of_gt (blk_lt (g := gb187) (o := .cells #[.int .i64 t182, .string t183, .slice Ao67 t184.length co67] 41 (0, 0)) (kI BK187.out)) : gb242 ≠ gb187))
              replace BK187 := Aside0.mk (blk_below (g := gb187) (o := .cells #[.int .i64 t182, .string t183, .slice Ao67 t184.length co67] 41 (0, 0)) (kI BK187.out) hb)
              have NB193_242 := Aside0.mk ((by rw [hg]; exact Nat.ne_of_lt (blk_lt (g := gb193) (o := .cells #[.int .i64 t188, .string t189, .slice Ao77 t190.length co77] 41 (0, 0)) (kI BK193.out)) : gb193 ≠ gb242))
              have NB242_193 := Aside0.mk ((by rw [hg]; exact Nat.ne_of_gt (blk_lt (g := gb193) (o := .cells #[.int .i64 t188, .string t189, .slice Ao77 t190.length co77] 41 (0, 0)) (kI BK193.out)) : gb242 ≠ gb193))
              replace BK193 := Aside0.mk (blk_below (g := gb193) (o := .cells #[.int .i64 t188, .string t189, .slice Ao77 t190.length co77] 41 (0, 0)) (kI BK193.out) hb)
              have NB199_242 := Aside0.mk ((by rw [hg]; exact Nat.ne_of_lt (blk_lt (g := gb199) (o := .cells #[.int .i64 t194, .string t195, .slice Ao87 t196.length co87] 41 (0, 0)) (kI BK199.out)) : gb199 ≠ gb242))
              have NB242_199 := Aside0.mk ((by rw [hg]; exact Nat.ne_of_gt (blk_lt (g := gb199) (o := .cells #[.int .i64 t194, .string t195, .slice Ao87 t196.length co87] 41 (0, 0)) (kI BK199.out)) : gb242 ≠ gb199))
              replace BK199 := Aside0.mk (blk_below (g := gb199) (o := .cells #[.int .i64 t194, .string t195, .slice Ao87 t196.length co87] 41 (0, 0)) (kI BK199.out) hb)
              have NB205_242 := Aside0.mk ((by rw [hg]; exact Nat.ne_of_lt (blk_lt (g := gb205) (o := .cells #[.int .i64 t200, .string t201, .slice Ao97 t202.length co97] 41 (0, 0)) (kI BK205.out)) : gb205 ≠ gb242))
              have NB242_205 := Aside0.mk ((by rw [hg]; exact Nat.ne_of_gt (blk_lt (g := gb205) (o := .cells #[.int .i64 t200, .string t201, .slice Ao97 t202.length co97] 41 (0, 0)) (kI BK205.out)) : gb242 ≠ gb205))
              replace BK205 := Aside0.mk (blk_below (g := gb205) (o := .cells #[.int .i64 t200, .string t201, .slice Ao97 t202.length co97] 41 (0, 0)) (kI BK205.out) hb)
              clear hb hbox hg
              refine hK.out _ _ ⟨(blk_cell BK168.out 0).trans rfl, (blk_cell BK168.out 1).trans rfl, (blk_cell BK168.out 2).trans rfl, (blk_cell BK169.out 0).trans rfl, (blk_cell BK169.out 1).trans rfl, (blk_cell BK169.out 2).trans rfl⟩ (fun hHeld => ?_)
              clear hK K
              refine norm_ (a' := ?_) ?_ ?_
              rotate_left
              · show Act.put _ (some 13) _ = _
                simp only [Act.put, List.setIfInBounds_toArray, List.set_cons_zero, List.set_cons_succ, i64_w, i32_w]
                rfl
              refine one_ (i := 3) (N := some 78) #[true, true, true, true, false, true, false] rfl rfl (by kernel_rfl) (by decide) (fun K hK => ?_)
              refine goes_ Try.func36 (by kernel_rfl) rfl #[.agg #[.int .i64 a1_0, .string a1_1, .slice A1_2 l1_2.length c1_2]] (by rfl) rfl rfl (by (try simp only [List.map_toArray, List.map_cons, List.map_nil]); first | done | rfl | (simp only [List.length_drop, List.length_take]; rfl)) ?_
              with_reducible refine (laws_toQc.calls k a1_0 a1_1 _ _ l1_2 t232 t233 t234 _ ?side1 ?side2 A43.out).mono ?_
              (case side1 => repeat (first | exact (Kd.C_below HR1_2.out HB.out) | (with_reducible refine Kd.C_alloc ?_ _) | (with_reducible refine Kd.C_drewN ?_ _) | (with_reducible refine Kd.C_drew ?_)))
              (case side2 => exact HC1_2.out)
              rintro e w122 ⟨v235, rfl, ho0, hb⟩
              refine ⟨_, rfl, ?_⟩
              have HO236 := Aside0.mk (Kd.R_lower (Kd.R_new' (Kd.R_new' (Kd.R_new' ho0 (Kd.R_lt (rI HO186.out))) (Kd.R_lt (rI HO204.out))) (Kd.R_lt (rI HO231.out))) (below_size (bI HB.out)))
              replace HO186 := Aside0.mk (Kd.R_elder' (rI HO186.out) (Kd.R_base ho0) hb)
              replace HO204 := Aside0.mk (Kd.R_elder' (rI HO204.out) (Kd.R_base ho0) hb)
              replace HO231 := Aside0.mk (Kd.R_elder' (rI HO231.out) (Kd.R_base ho0) hb)
              replace BK168 := Aside0.mk (blk_below (g := gb168) (o := .cells #[.int .i64 a0_0, .string a0_1, .slice A0_2 l0_2.length c0_2] 48 (0, 0)) (kI BK168.out) hb)
              replace BK169 := Aside0.mk (blk_below (g := gb169) (o := .cells #[.int .i64 a1_0, .string a1_1, .slice A1_2 l1_2.length c1_2] 48 (0, 0)) (kI BK169.out) hb)
              replace BK187 := Aside0.mk (blk_below (g := gb187) (o := .cells #[.int .i64 t182, .string t183, .slice Ao67 t184.length co67] 41 (0, 0)) (kI BK187.out) hb)
              replace BK193 := Aside0.mk (blk_below (g := gb193) (o := .cells #[.int .i64 t188, .string t189, .slice Ao77 t190.length co77] 41 (0, 0)) (kI BK193.out) hb)
              replace BK199 := Aside0.mk (blk_below (g := gb199) (o := .cells #[.int .i64 t194, .string t195, .slice Ao87 t196.length co87] 41 (0, 0)) (kI BK199.out) hb)
              replace BK205 := Aside0.mk (blk_below (g := gb205) (o := .cells #[.int .i64 t200, .string t201, .slice Ao97 t202.length co97] 41 (0, 0)) (kI BK205.out) hb)
              replace BK242 := Aside0.mk (blk_below (g := gb242) (o := .cells #[.int .i64 0, .string (⟨#[]⟩ : ByteArray), .slice none 0 0] 41 (0, 0)) (kI BK242.out) hb)
              replace HB := Aside0.mk (below_step (bI HB.out) hb)
              (try clear hb)
              (try clear hb2)
              (try clear hk)
              (try clear hi)
              (try clear ho0)
              obtain ⟨Ao123, co123, eo123⟩ := Kd.R_slice HO231.out
              (first | subst eo123 | (injection eo123 with f1_ f2_ f3_; have f4_ := f1_.symm; have f5_ := f3_.symm; clear f1_ f2_ f3_; subst f4_; subst f5_))
              obtain ⟨Ao124, co124, eo124⟩ := Kd.R_slice HO236.out
              (first | subst eo124 | (injection eo124 with f1_ f2_ f3_; have f4_ := f1_.symm; have f5_ := f3_.symm; clear f1_ f2_ f3_; subst f4_; subst f5_))
              refine hK.out _ _ ⟨(blk_cell BK168.out 0).trans rfl, (blk_cell BK168.out 1).trans rfl, (blk_cell BK168.out 2).trans rfl, (blk_cell BK169.out 0).trans rfl, (blk_cell BK169.out 1).trans rfl, (blk_cell BK169.out 2).trans rfl⟩ (fun hHeld => ?_)
              clear hK K
              refine norm_ (a' := ?_) ?_ ?_
              rotate_left
              · show Act.put _ (some 78) _ = _
                simp only [Act.put, List.setIfInBounds_toArray, List.set_cons_zero, List.set_cons_succ, i64_w, i32_w]
                rfl
              refine one_ (i := 4) (N := some 79) #[true, true, true, true, true, true, false] rfl rfl (by kernel_rfl) (by decide) (fun K hK => ?_)
              refine goes_ Try.func51 (by kernel_rfl) rfl #[.agg #[.int .i64 t227, .string t228, .slice Ao123 t229.length co123], .agg #[.int .i64 t232, .string t233, .slice Ao124 t234.length co124]] (by rfl) rfl rfl (by (try simp only [List.map_toArray, List.map_cons, List.map_nil]); first | done | rfl | (simp only [List.length_drop, List.length_take]; rfl)) ?_
              with_reducible refine (impl_QcLater.calls t227 t228 _ _ t229 t232 t233 _ _ t234 t237 t238 t239 _ ?side1 ?side2 ?side3 ?side4 A44.out).mono ?_
              (case side1 => repeat (first | exact (Kd.R_reads' HO231.out).2.2 | (with_reducible refine Kd.C_alloc ?_ _) | (with_reducible refine Kd.C_drewN ?_ _) | (with_reducible refine Kd.C_drew ?_)))
              (case side2 => exact (Kd.R_reads' HO231.out).2.1)
              (case side3 => repeat (first | exact (Kd.R_reads' HO236.out).2.2 | (with_reducible refine Kd.C_alloc ?_ _) | (with_reducible refine Kd.C_drewN ?_ _) | (with_reducible refine Kd.C_drew ?_)))
              (case side4 => exact (Kd.R_reads' HO236.out).2.1)
              rintro e w125 ⟨v240, rfl, ho0, hb⟩
              refine ⟨_, rfl, ?_⟩
              have HO241 := Aside0.mk (Kd.R_lower (Kd.R_new' (Kd.R_new' (Kd.R_new' (Kd.R_new' ho0 (Kd.R_lt (rI HO186.out))) (Kd.R_lt (rI HO204.out))) (Kd.R_lt (rI HO231.out))) (Kd.R_lt (rI HO236.out))) (below_size (bI HB.out)))
              replace HO186 := Aside0.mk (Kd.R_elder' (rI HO186.out) (Kd.R_base ho0) hb)
              replace HO204 := Aside0.mk (Kd.R_elder' (rI HO204.out) (Kd.R_base ho0) hb)
              replace HO231 := Aside0.mk (Kd.R_elder' (rI HO231.out) (Kd.R_base ho0) hb)
              replace HO236 := Aside0.mk (Kd.R_elder' (rI HO236.out) (Kd.R_base ho0) hb)
              replace BK168 := Aside0.mk (blk_below (g := gb168) (o := .cells #[.int .i64 a0_0, .string a0_1, .slice A0_2 l0_2.length c0_2] 48 (0, 0)) (kI BK168.out) hb)
              replace BK169 := Aside0.mk (blk_below (g := gb169) (o := .cells #[.int .i64 a1_0, .string a1_1, .slice A1_2 l1_2.length c1_2] 48 (0, 0)) (kI BK169.out) hb)
              replace BK187 := Aside0.mk (blk_below (g := gb187) (o := .cells #[.int .i64 t182, .string t183, .slice Ao67 t184.length co67] 41 (0, 0)) (kI BK187.out) hb)
              replace BK193 := Aside0.mk (blk_below (g := gb193) (o := .cells #[.int .i64 t188, .string t189, .slice Ao77 t190.length co77] 41 (0, 0)) (kI BK193.out) hb)
              replace BK199 := Aside0.mk (blk_below (g := gb199) (o := .cells #[.int .i64 t194, .string t195, .slice Ao87 t196.length co87] 41 (0, 0)) (kI BK199.out) hb)
              replace BK205 := Aside0.mk (blk_below (g := gb205) (o := .cells #[.int .i64 t200, .string t201, .slice Ao97 t202.length co97] 41 (0, 0)) (kI BK205.out) hb)
              replace BK242 := Aside0.mk (blk_below (g := gb242) (o := .cells #[.int .i64 0, .string (⟨#[]⟩ : ByteArray), .slice none 0 0] 41 (0, 0)) (kI BK242.out) hb)
              replace HB := Aside0.mk (below_step (bI HB.out) hb)
              (try clear hb)
              (try clear hb2)
              (try clear hk)
              (try clear hi)
              (try clear ho0)
              refine hK.out _ _ ⟨(blk_cell BK168.out 0).trans rfl, (blk_cell BK168.out 1).trans rfl, (blk_cell BK168.out 2).trans rfl, (blk_cell BK169.out 0).trans rfl, (blk_cell BK169.out 1).trans rfl, (blk_cell BK169.out 2).trans rfl⟩ (fun hHeld => ?_)
              clear hK K
              refine norm_ (a' := ?_) ?_ ?_
              rotate_left
              · show Act.put _ (some 79) _ = _
                simp only [Act.put, List.setIfInBounds_toArray, List.set_cons_zero, List.set_cons_succ, i64_w, i32_w]
                rfl
              exact norm_ (by simp only [putAll, Act.put, List.setIfInBounds_toArray, List.set_cons_zero, List.set_cons_succ]) (hCont (.slice Ao123 t229.length co123, .slice Ao124 t234.length co124, v240, gb242) _ ⟨hHeld, (rI (Kd.R_mono HO186.out (fun _ hk => ⟨hk.1.1.1, ⟨hk.1.1.2, ⟨hk.1.2, hk.2⟩⟩⟩))), (rI (Kd.R_mono HO204.out (fun _ hk => ⟨hk.1.1.1, ⟨hk.1.1.2, ⟨hk.1.2, hk.2⟩⟩⟩))), (rI (Kd.R_mono HO231.out (fun _ hk => ⟨hk.1.1.1.2, ⟨hk.1.1.2, ⟨hk.1.2, hk.2⟩⟩⟩))), (rI (Kd.R_mono HO236.out (fun _ hk => ⟨hk.1.1.1.2, ⟨hk.1.1.2, ⟨hk.1.2, hk.2⟩⟩⟩))), (rI (Kd.R_mono HO241.out (fun _ hk => ⟨hk.1.1.1.2, ⟨hk.1.1.2, ⟨hk.1.2, hk.2⟩⟩⟩))), (kI BK168.out), (kI BK169.out), (kI BK187.out), (kI BK193.out), (kI BK199.out), (kI BK205.out), (kI BK242.out), GW242.out, GE242.out, NB168_242.out, NB242_168.out, NB169_242.out, NB242_169.out, NB187_242.out, NB242_187.out, NB193_242.out, NB242_193.out, NB199_242.out, NB242_199.out, NB205_242.out, NB242_205.out, (bI HB.out)⟩)
          · skip
            refine box_step ?hg (N := 13) ?hd (cs := #[.int .i64 0, .string (⟨#[]⟩ : ByteArray), .slice none 0 0]) (t := 41) ?hr ?_; (case hd => rfl); (case hg => rfl); (case hr => first | (go_simp; done) | (go_simp; rfl))
            intro gb242 hg w120 hbox hb
            replace HO186 := Aside0.mk (Kd.R_below (rI HO186.out) hb)
            replace HO204 := Aside0.mk (Kd.R_below (rI HO204.out) hb)
            have BK242 := Aside0.mk (hbox)
            have GW242 := Aside0.mk ((by rw [hg]; exact (below_size (bI HB.out)) : w.heap.size ≤ gb242))
            have GE242 := Aside0.mk ((by rw [hg]; exact (below_size (bI HB.out)) : w.heap.size ≤ gb242))
            have GI242 := GeI.mk GE242.out
            replace HB := Aside0.mk (below_step (bI HB.out) hb)
            have NB168_242 := Aside0.mk ((by rw [hg]; exact Nat.ne_of_lt (blk_lt (g := gb168) (o := .cells #[.int .i64 a0_0, .string a0_1, .slice A0_2 l0_2.length c0_2] 48 (0, 0)) (kI BK168.out)) : gb168 ≠ gb242))
            have NB242_168 := Aside0.mk ((by rw [hg]; exact Nat.ne_of_gt (blk_lt (g := gb168) (o := .cells #[.int .i64 a0_0, .string a0_1, .slice A0_2 l0_2.length c0_2] 48 (0, 0)) (kI BK168.out)) : gb242 ≠ gb168))
            replace BK168 := Aside0.mk (blk_below (g := gb168) (o := .cells #[.int .i64 a0_0, .string a0_1, .slice A0_2 l0_2.length c0_2] 48 (0, 0)) (kI BK168.out) hb)
            have NB169_242 := Aside0.mk ((by rw [hg]; exact Nat.ne_of_lt (blk_lt (g := gb169) (o := .cells #[.int .i64 a1_0, .string a1_1, .slice A1_2 l1_2.length c1_2] 48 (0, 0)) (kI BK169.out)) : gb169 ≠ gb242))
            have NB242_169 := Aside0.mk ((by rw [hg]; exact Nat.ne_of_gt (blk_lt (g := gb169) (o := .cells #[.int .i64 a1_0, .string a1_1, .slice A1_2 l1_2.length c1_2] 48 (0, 0)) (kI BK169.out)) : gb242 ≠ gb169))
            replace BK169 := Aside0.mk (blk_below (g := gb169) (o := .cells #[.int .i64 a1_0, .string a1_1, .slice A1_2 l1_2.length c1_2] 48 (0, 0)) (kI BK169.out) hb)
            have NB187_242 := Aside0.mk ((by rw [hg]; exact Nat.ne_of_lt (blk_lt (g := gb187) (o := .cells #[.int .i64 t182, .string t183, .slice Ao67 t184.length co67] 41 (0, 0)) (kI BK187.out)) : gb187 ≠ gb242))
            have NB242_187 := Aside0.mk ((by rw [hg]; exact Nat.ne_of_gt (blk_lt (g := gb187) (o := .cells #[.int .i64 t182, .string t183, .slice Ao67 t184.length co67] 41 (0, 0)) (kI BK187.out)) : gb242 ≠ gb187))
            replace BK187 := Aside0.mk (blk_below (g := gb187) (o := .cells #[.int .i64 t182, .string t183, .slice Ao67 t184.length co67] 41 (0, 0)) (kI BK187.out) hb)
            have NB193_242 := Aside0.mk ((by rw [hg]; exact Nat.ne_of_lt (blk_lt (g := gb193) (o := .cells #[.int .i64 t188, .string t189, .slice Ao77 t190.length co77] 41 (0, 0)) (kI BK193.out)) : gb193 ≠ gb242))
            have NB242_193 := Aside0.mk ((by rw [hg]; exact Nat.ne_of_gt (blk_lt (g := gb193) (o := .cells #[.int .i64 t188, .string t189, .slice Ao77 t190.length co77] 41 (0, 0)) (kI BK193.out)) : gb242 ≠ gb193))
            replace BK193 := Aside0.mk (blk_below (g := gb193) (o := .cells #[.int .i64 t188, .string t189, .slice Ao77 t190.length co77] 41 (0, 0)) (kI BK193.out) hb)
            have NB199_242 := Aside0.mk ((by rw [hg]; exact Nat.ne_of_lt (blk_lt (g := gb199) (o := .cells #[.int .i64 t194, .string t195, .slice Ao87 t196.length co87] 41 (0, 0)) (kI BK199.out)) : gb199 ≠ gb242))
            have NB242_199 := Aside0.mk ((by rw [hg]; exact Nat.ne_of_gt (blk_lt (g := gb199) (o := .cells #[.int .i64 t194, .string t195, .slice Ao87 t196.length co87] 41 (0, 0)) (kI BK199.out)) : gb242 ≠ gb199))
            replace BK199 := Aside0.mk (blk_below (g := gb199) (o := .cells #[.int .i64 t194, .string t195, .slice Ao87 t196.length co87] 41 (0, 0)) (kI BK199.out) hb)
            have NB205_242 := Aside0.mk ((by rw [hg]; exact Nat.ne_of_lt (blk_lt (g := gb205) (o := .cells #[.int .i64 t200, .string t201, .slice Ao97 t202.length co97] 41 (0, 0)) (kI BK205.out)) : gb205 ≠ gb242))
            have NB242_205 := Aside0.mk ((by rw [hg]; exact Nat.ne_of_gt (blk_lt (g := gb205) (o := .cells #[.int .i64 t200, .string t201, .slice Ao97 t202.length co97] 41 (0, 0)) (kI BK205.out)) : gb242 ≠ gb205))
            replace BK205 := Aside0.mk (blk_below (g := gb205) (o := .cells #[.int .i64 t200, .string t201, .slice Ao97 t202.length co97] 41 (0, 0)) (kI BK205.out) hb)
            clear hb hbox hg
            refine hK.out _ _ ⟨(blk_cell BK168.out 0).trans rfl, (blk_cell BK168.out 1).trans rfl, (blk_cell BK168.out 2).trans rfl, (blk_cell BK169.out 0).trans rfl, (blk_cell BK169.out 1).trans rfl, (blk_cell BK169.out 2).trans rfl⟩ (fun hHeld => ?_)
            clear hK K
            refine norm_ (a' := ?_) ?_ ?_
            rotate_left
            · show Act.put _ (some 13) _ = _
              simp only [Act.put, List.setIfInBounds_toArray, List.set_cons_zero, List.set_cons_succ, i64_w, i32_w]
              rfl
            refine one_ (i := 1) (N := some 76) #[true, true, true, false, false, true, false] rfl rfl (by kernel_rfl) (by decide) (fun K hK => ?_)
            refine goes_ Try.func36 (by kernel_rfl) rfl #[.agg #[.int .i64 a0_0, .string a0_1, .slice A0_2 l0_2.length c0_2]] (by rfl) rfl rfl (by (try simp only [List.map_toArray, List.map_cons, List.map_nil]); first | done | rfl | (simp only [List.length_drop, List.length_take]; rfl)) ?_
            with_reducible refine (laws_toQc.calls k a0_0 a0_1 _ _ l0_2 t227 t228 t229 _ ?side1 ?side2 A42.out).mono ?_
            (case side1 => repeat (first | exact (Kd.C_below HR0_2.out HB.out) | (with_reducible refine Kd.C_alloc ?_ _) | (with_reducible refine Kd.C_drewN ?_ _) | (with_reducible refine Kd.C_drew ?_)))
            (case side2 => exact HC0_2.out)
            rintro e w121 ⟨v230, rfl, ho0, hb⟩
            refine ⟨_, rfl, ?_⟩
            have HO231 := Aside0.mk (Kd.R_lower (Kd.R_new' (Kd.R_new' ho0 (Kd.R_lt (rI HO186.out))) (Kd.R_lt (rI HO204.out))) (below_size (bI HB.out)))
            replace HO186 := Aside0.mk (Kd.R_elder' (rI HO186.out) (Kd.R_base ho0) hb)
            replace HO204 := Aside0.mk (Kd.R_elder' (rI HO204.out) (Kd.R_base ho0) hb)
            replace BK168 := Aside0.mk (blk_below (g := gb168) (o := .cells #[.int .i64 a0_0, .string a0_1, .slice A0_2 l0_2.length c0_2] 48 (0, 0)) (kI BK168.out) hb)
            replace BK169 := Aside0.mk (blk_below (g := gb169) (o := .cells #[.int .i64 a1_0, .string a1_1, .slice A1_2 l1_2.length c1_2] 48 (0, 0)) (kI BK169.out) hb)
            replace BK187 := Aside0.mk (blk_below (g := gb187) (o := .cells #[.int .i64 t182, .string t183, .slice Ao67 t184.length co67] 41 (0, 0)) (kI BK187.out) hb)
            replace BK193 := Aside0.mk (blk_below (g := gb193) (o := .cells #[.int .i64 t188, .string t189, .slice Ao77 t190.length co77] 41 (0, 0)) (kI BK193.out) hb)
            replace BK199 := Aside0.mk (blk_below (g := gb199) (o := .cells #[.int .i64 t194, .string t195, .slice Ao87 t196.length co87] 41 (0, 0)) (kI BK199.out) hb)
            replace BK205 := Aside0.mk (blk_below (g := gb205) (o := .cells #[.int .i64 t200, .string t201, .slice Ao97 t202.length co97] 41 (0, 0)) (kI BK205.out) hb)
            replace BK242 := Aside0.mk (blk_below (g := gb242) (o := .cells #[.int .i64 0, .string (⟨#[]⟩ : ByteArray), .slice none 0 0] 41 (0, 0)) (kI BK242.out) hb)
            replace HB := Aside0.mk (below_step (bI HB.out) hb)
            (try clear hb)
            (try clear hb2)
            (try clear hk)
            (try clear hi)
            (try clear ho0)
            refine hK.out _ _ ⟨(blk_cell BK168.out 0).trans rfl, (blk_cell BK168.out 1).trans rfl, (blk_cell BK168.out 2).trans rfl, (blk_cell BK169.out 0).trans rfl, (blk_cell BK169.out 1).trans rfl, (blk_cell BK169.out 2).trans rfl⟩ (fun hHeld => ?_)
            clear hK K
            refine norm_ (a' := ?_) ?_ ?_
            rotate_left
            · show Act.put _ (some 76) _ = _
              simp only [Act.put, List.setIfInBounds_toArray, List.set_cons_zero, List.set_cons_succ, i64_w, i32_w]
              rfl
            refine one_ (i := 3) (N := some 78) #[true, true, true, true, false, true, false] rfl rfl (by kernel_rfl) (by decide) (fun K hK => ?_)
            refine goes_ Try.func36 (by kernel_rfl) rfl #[.agg #[.int .i64 a1_0, .string a1_1, .slice A1_2 l1_2.length c1_2]] (by rfl) rfl rfl (by (try simp only [List.map_toArray, List.map_cons, List.map_nil]); first | done | rfl | (simp only [List.length_drop, List.length_take]; rfl)) ?_
            with_reducible refine (laws_toQc.calls k a1_0 a1_1 _ _ l1_2 t232 t233 t234 _ ?side1 ?side2 A43.out).mono ?_
            (case side1 => repeat (first | exact (Kd.C_below HR1_2.out HB.out) | (with_reducible refine Kd.C_alloc ?_ _) | (with_reducible refine Kd.C_drewN ?_ _) | (with_reducible refine Kd.C_drew ?_)))
            (case side2 => exact HC1_2.out)
            rintro e w122 ⟨v235, rfl, ho0, hb⟩
            refine ⟨_, rfl, ?_⟩
            have HO236 := Aside0.mk (Kd.R_lower (Kd.R_new' (Kd.R_new' (Kd.R_new' ho0 (Kd.R_lt (rI HO186.out))) (Kd.R_lt (rI HO204.out))) (Kd.R_lt (rI HO231.out))) (below_size (bI HB.out)))
            replace HO186 := Aside0.mk (Kd.R_elder' (rI HO186.out) (Kd.R_base ho0) hb)
            replace HO204 := Aside0.mk (Kd.R_elder' (rI HO204.out) (Kd.R_base ho0) hb)
            replace HO231 := Aside0.mk (Kd.R_elder' (rI HO231.out) (Kd.R_base ho0) hb)
            replace BK168 := Aside0.mk (blk_below (g := gb168) (o := .cells #[.int .i64 a0_0, .string a0_1, .slice A0_2 l0_2.length c0_2] 48 (0, 0)) (kI BK168.out) hb)
            replace BK169 := Aside0.mk (blk_below (g := gb169) (o := .cells #[.int .i64 a1_0, .string a1_1, .slice A1_2 l1_2.length c1_2] 48 (0, 0)) (kI BK169.out) hb)
            replace BK187 := Aside0.mk (blk_below (g := gb187) (o := .cells #[.int .i64 t182, .string t183, .slice Ao67 t184.length co67] 41 (0, 0)) (kI BK187.out) hb)
            replace BK193 := Aside0.mk (blk_below (g := gb193) (o := .cells #[.int .i64 t188, .string t189, .slice Ao77 t190.length co77] 41 (0, 0)) (kI BK193.out) hb)
            replace BK199 := Aside0.mk (blk_below (g := gb199) (o := .cells #[.int .i64 t194, .string t195, .slice Ao87 t196.length co87] 41 (0, 0)) (kI BK199.out) hb)
            replace BK205 := Aside0.mk (blk_below (g := gb205) (o := .cells #[.int .i64 t200, .string t201, .slice Ao97 t202.length co97] 41 (0, 0)) (kI BK205.out) hb)
            replace BK242 := Aside0.mk (blk_below (g := gb242) (o := .cells #[.int .i64 0, .string (⟨#[]⟩ : ByteArray), .slice none 0 0] 41 (0, 0)) (kI BK242.out) hb)
            replace HB := Aside0.mk (below_step (bI HB.out) hb)
            (try clear hb)
            (try clear hb2)
            (try clear hk)
            (try clear hi)
            (try clear ho0)
            obtain ⟨Ao123, co123, eo123⟩ := Kd.R_slice HO231.out
            (first | subst eo123 | (injection eo123 with f1_ f2_ f3_; have f4_ := f1_.symm; have f5_ := f3_.symm; clear f1_ f2_ f3_; subst f4_; subst f5_))
            obtain ⟨Ao124, co124, eo124⟩ := Kd.R_slice HO236.out
            (first | subst eo124 | (injection eo124 with f1_ f2_ f3_; have f4_ := f1_.symm; have f5_ := f3_.symm; clear f1_ f2_ f3_; subst f4_; subst f5_))
            refine hK.out _ _ ⟨(blk_cell BK168.out 0).trans rfl, (blk_cell BK168.out 1).trans rfl, (blk_cell BK168.out 2).trans rfl, (blk_cell BK169.out 0).trans rfl, (blk_cell BK169.out 1).trans rfl, (blk_cell BK169.out 2).trans rfl⟩ (fun hHeld => ?_)
            clear hK K
            refine norm_ (a' := ?_) ?_ ?_
            rotate_left
            · show Act.put _ (some 78) _ = _
              simp only [Act.put, List.setIfInBounds_toArray, List.set_cons_zero, List.set_cons_succ, i64_w, i32_w]
              rfl
            refine one_ (i := 4) (N := some 79) #[true, true, true, true, true, true, false] rfl rfl (by kernel_rfl) (by decide) (fun K hK => ?_)
            refine goes_ Try.func51 (by kernel_rfl) rfl #[.agg #[.int .i64 t227, .string t228, .slice Ao123 t229.length co123], .agg #[.int .i64 t232, .string t233, .slice Ao124 t234.length co124]] (by rfl) rfl rfl (by (try simp only [List.map_toArray, List.map_cons, List.map_nil]); first | done | rfl | (simp only [List.length_drop, List.length_take]; rfl)) ?_
            with_reducible refine (impl_QcLater.calls t227 t228 _ _ t229 t232 t233 _ _ t234 t237 t238 t239 _ ?side1 ?side2 ?side3 ?side4 A44.out).mono ?_
            (case side1 => repeat (first | exact (Kd.R_reads' HO231.out).2.2 | (with_reducible refine Kd.C_alloc ?_ _) | (with_reducible refine Kd.C_drewN ?_ _) | (with_reducible refine Kd.C_drew ?_)))
            (case side2 => exact (Kd.R_reads' HO231.out).2.1)
            (case side3 => repeat (first | exact (Kd.R_reads' HO236.out).2.2 | (with_reducible refine Kd.C_alloc ?_ _) | (with_reducible refine Kd.C_drewN ?_ _) | (with_reducible refine Kd.C_drew ?_)))
            (case side4 => exact (Kd.R_reads' HO236.out).2.1)
            rintro e w125 ⟨v240, rfl, ho0, hb⟩
            refine ⟨_, rfl, ?_⟩
            have HO241 := Aside0.mk (Kd.R_lower (Kd.R_new' (Kd.R_new' (Kd.R_new' (Kd.R_new' ho0 (Kd.R_lt (rI HO186.out))) (Kd.R_lt (rI HO204.out))) (Kd.R_lt (rI HO231.out))) (Kd.R_lt (rI HO236.out))) (below_size (bI HB.out)))
            replace HO186 := Aside0.mk (Kd.R_elder' (rI HO186.out) (Kd.R_base ho0) hb)
            replace HO204 := Aside0.mk (Kd.R_elder' (rI HO204.out) (Kd.R_base ho0) hb)
            replace HO231 := Aside0.mk (Kd.R_elder' (rI HO231.out) (Kd.R_base ho0) hb)
            replace HO236 := Aside0.mk (Kd.R_elder' (rI HO236.out) (Kd.R_base ho0) hb)
            replace BK168 := Aside0.mk (blk_below (g := gb168) (o := .cells #[.int .i64 a0_0, .string a0_1, .slice A0_2 l0_2.length c0_2] 48 (0, 0)) (kI BK168.out) hb)
            replace BK169 := Aside0.mk (blk_below (g := gb169) (o := .cells #[.int .i64 a1_0, .string a1_1, .slice A1_2 l1_2.length c1_2] 48 (0, 0)) (kI BK169.out) hb)
            replace BK187 := Aside0.mk (blk_below (g := gb187) (o := .cells #[.int .i64 t182, .string t183, .slice Ao67 t184.length co67] 41 (0, 0)) (kI BK187.out) hb)
            replace BK193 := Aside0.mk (blk_below (g := gb193) (o := .cells #[.int .i64 t188, .string t189, .slice Ao77 t190.length co77] 41 (0, 0)) (kI BK193.out) hb)
            replace BK199 := Aside0.mk (blk_below (g := gb199) (o := .cells #[.int .i64 t194, .string t195, .slice Ao87 t196.length co87] 41 (0, 0)) (kI BK199.out) hb)
            replace BK205 := Aside0.mk (blk_below (g := gb205) (o := .cells #[.int .i64 t200, .string t201, .slice Ao97 t202.length co97] 41 (0, 0)) (kI BK205.out) hb)
            replace BK242 := Aside0.mk (blk_below (g := gb242) (o := .cells #[.int .i64 0, .string (⟨#[]⟩ : ByteArray), .slice none 0 0] 41 (0, 0)) (kI BK242.out) hb)
            replace HB := Aside0.mk (below_step (bI HB.out) hb)
            (try clear hb)
            (try clear hb2)
            (try clear hk)
            (try clear hi)
            (try clear ho0)
            refine hK.out _ _ ⟨(blk_cell BK168.out 0).trans rfl, (blk_cell BK168.out 1).trans rfl, (blk_cell BK168.out 2).trans rfl, (blk_cell BK169.out 0).trans rfl, (blk_cell BK169.out 1).trans rfl, (blk_cell BK169.out 2).trans rfl⟩ (fun hHeld => ?_)
            clear hK K
            refine norm_ (a' := ?_) ?_ ?_
            rotate_left
            · show Act.put _ (some 79) _ = _
              simp only [Act.put, List.setIfInBounds_toArray, List.set_cons_zero, List.set_cons_succ, i64_w, i32_w]
              rfl
            exact norm_ (by simp only [putAll, Act.put, List.setIfInBounds_toArray, List.set_cons_zero, List.set_cons_succ]) (hCont (.slice Ao123 t229.length co123, .slice Ao124 t234.length co124, v240, gb242) _ ⟨hHeld, (rI (Kd.R_mono HO186.out (fun _ hk => ⟨hk.1.1.1, ⟨hk.1.1.2, ⟨hk.1.2, hk.2⟩⟩⟩))), (rI (Kd.R_mono HO204.out (fun _ hk => ⟨hk.1.1.1, ⟨hk.1.1.2, ⟨hk.1.2, hk.2⟩⟩⟩))), (rI (Kd.R_mono HO231.out (fun _ hk => ⟨hk.1.1.1.2, ⟨hk.1.1.2, ⟨hk.1.2, hk.2⟩⟩⟩))), (rI (Kd.R_mono HO236.out (fun _ hk => ⟨hk.1.1.1.2, ⟨hk.1.1.2, ⟨hk.1.2, hk.2⟩⟩⟩))), (rI (Kd.R_mono HO241.out (fun _ hk => ⟨hk.1.1.1.2, ⟨hk.1.1.2, ⟨hk.1.2, hk.2⟩⟩⟩))), (kI BK168.out), (kI BK169.out), (kI BK187.out), (kI BK193.out), (kI BK199.out), (kI BK205.out), (kI BK242.out), GW242.out, GE242.out, NB168_242.out, NB242_168.out, NB169_242.out, NB242_169.out, NB187_242.out, NB242_187.out, NB193_242.out, NB242_193.out, NB199_242.out, NB242_199.out, NB205_242.out, NB242_205.out, (bI HB.out)⟩)
        rintro ⟨v230, v235, v240, gb242⟩ w126 ⟨hS_, h0_, h1_, h2_, h3_, h4_, h5_, h6_, h7_, h8_, h9_, h10_, h11_, h12_, h13_, h14_, h15_, h16_, h17_, h18_, h19_, h20_, h21_, h22_, h23_, h24_, h25_, h26_⟩
        have n0_ : Aside0 (Kd.R (Kd.int .i64) 3 w126 w.heap.size (fun k_ => some k_ ≠ (.slice Ao97 t202.length co97 : Value).ownBlock ∧ some k_ ≠ (v230 : Value).ownBlock ∧ some k_ ≠ (v235 : Value).ownBlock ∧ some k_ ≠ (v240 : Value).ownBlock) (.slice Ao67 t184.length co67) t184) := ⟨h0_⟩
        have n1_ : Aside0 (Kd.R (Kd.int .i64) 3 w126 w.heap.size (fun k_ => some k_ ≠ (.slice Ao67 t184.length co67 : Value).ownBlock ∧ some k_ ≠ (v230 : Value).ownBlock ∧ some k_ ≠ (v235 : Value).ownBlock ∧ some k_ ≠ (v240 : Value).ownBlock) (.slice Ao97 t202.length co97) t225) := ⟨h1_⟩
        have n2_ : Aside0 (Kd.R (Kd.int .i64) 3 w126 w.heap.size (fun k_ => some k_ ≠ (.slice Ao67 t184.length co67 : Value).ownBlock ∧ some k_ ≠ (.slice Ao97 t202.length co97 : Value).ownBlock ∧ some k_ ≠ (v235 : Value).ownBlock ∧ some k_ ≠ (v240 : Value).ownBlock) v230 t229) := ⟨h2_⟩
        have n3_ : Aside0 (Kd.R (Kd.int .i64) 3 w126 w.heap.size (fun k_ => some k_ ≠ (.slice Ao67 t184.length co67 : Value).ownBlock ∧ some k_ ≠ (.slice Ao97 t202.length co97 : Value).ownBlock ∧ some k_ ≠ (v230 : Value).ownBlock ∧ some k_ ≠ (v240 : Value).ownBlock) v235 t234) := ⟨h3_⟩
        have n4_ : Aside0 (Kd.R (Kd.int .i64) 3 w126 w.heap.size (fun k_ => some k_ ≠ (.slice Ao67 t184.length co67 : Value).ownBlock ∧ some k_ ≠ (.slice Ao97 t202.length co97 : Value).ownBlock ∧ some k_ ≠ (v230 : Value).ownBlock ∧ some k_ ≠ (v235 : Value).ownBlock) v240 t239) := ⟨h4_⟩
        have n5_ : Aside0 (w126.heap[gb168]? = some (.cells #[.int .i64 a0_0, .string a0_1, .slice A0_2 l0_2.length c0_2] 48 (0, 0))) := ⟨h5_⟩
        have n6_ : Aside0 (w126.heap[gb169]? = some (.cells #[.int .i64 a1_0, .string a1_1, .slice A1_2 l1_2.length c1_2] 48 (0, 0))) := ⟨h6_⟩
        have n7_ : Aside0 (w126.heap[gb187]? = some (.cells #[.int .i64 t182, .string t183, .slice Ao67 t184.length co67] 41 (0, 0))) := ⟨h7_⟩
        have n8_ : Aside0 (w126.heap[gb193]? = some (.cells #[.int .i64 t188, .string t189, .slice Ao77 t190.length co77] 41 (0, 0))) := ⟨h8_⟩
        have n9_ : Aside0 (w126.heap[gb199]? = some (.cells #[.int .i64 t194, .string t195, .slice Ao87 t196.length co87] 41 (0, 0))) := ⟨h9_⟩
        have n10_ : Aside0 (w126.heap[gb205]? = some (.cells #[.int .i64 t200, .string t201, .slice Ao97 t202.length co97] 41 (0, 0))) := ⟨h10_⟩
        have n11_ : Aside0 (w126.heap[gb242]? = some (.cells #[.int .i64 0, .string (⟨#[]⟩ : ByteArray), .slice none 0 0] 41 (0, 0))) := ⟨h11_⟩
        have n12_ : Aside0 (w.heap.size ≤ gb242) := ⟨h12_⟩
        have n13_ : Aside0 (w.heap.size ≤ gb242) := ⟨h13_⟩
        have n14_ : Aside0 (gb168 ≠ gb242) := ⟨h14_⟩
        have n15_ : Aside0 (gb242 ≠ gb168) := ⟨h15_⟩
        have n16_ : Aside0 (gb169 ≠ gb242) := ⟨h16_⟩
        have n17_ : Aside0 (gb242 ≠ gb169) := ⟨h17_⟩
        have n18_ : Aside0 (gb187 ≠ gb242) := ⟨h18_⟩
        have n19_ : Aside0 (gb242 ≠ gb187) := ⟨h19_⟩
        have n20_ : Aside0 (gb193 ≠ gb242) := ⟨h20_⟩
        have n21_ : Aside0 (gb242 ≠ gb193) := ⟨h21_⟩
        have n22_ : Aside0 (gb199 ≠ gb242) := ⟨h22_⟩
        have n23_ : Aside0 (gb242 ≠ gb199) := ⟨h23_⟩
        have n24_ : Aside0 (gb205 ≠ gb242) := ⟨h24_⟩
        have n25_ : Aside0 (gb242 ≠ gb205) := ⟨h25_⟩
        have n26_ : Aside0 (Below w.heap.size w w126) := ⟨h26_⟩
        clear HO186
        clear HO204
        clear BK168
        clear BK169
        clear BK187
        clear BK193
        clear BK199
        clear BK205
        clear HB
        clear h0_ h1_ h2_ h3_ h4_ h5_ h6_ h7_ h8_ h9_ h10_ h11_ h12_ h13_ h14_ h15_ h16_ h17_ h18_ h19_ h20_ h21_ h22_ h23_ h24_ h25_ h26_
        have HO186 := n0_
        have HO204 := n1_
        have HO231 := n2_
        have HO236 := n3_
        have HO241 := n4_
        have BK168 := n5_
        have BK169 := n6_
        have BK187 := n7_
        have BK193 := n8_
        have BK199 := n9_
        have BK205 := n10_
        have BK242 := n11_
        have GW242 := n12_
        have GE242 := n13_
        have GI242 := GeI.mk GE242.out
        have NB168_242 := n14_
        have NB242_168 := n15_
        have NB169_242 := n16_
        have NB242_169 := n17_
        have NB187_242 := n18_
        have NB242_187 := n19_
        have NB193_242 := n20_
        have NB242_193 := n21_
        have NB199_242 := n22_
        have NB242_199 := n23_
        have NB205_242 := n24_
        have NB242_205 := n25_
        have HB := n26_
        clear n0_ n1_ n2_ n3_ n4_ n5_ n6_ n7_ n8_ n9_ n10_ n11_ n12_ n13_ n14_ n15_ n16_ n17_ n18_ n19_ n20_ n21_ n22_ n23_ n24_ n25_ n26_
        have hHeld : w126.cell? ⟨gb168, 0, none⟩ = some (.int .i64 a0_0) ∧ w126.cell? ⟨gb168, 1, none⟩ = some (.string a0_1) ∧ w126.cell? ⟨gb168, 2, none⟩ = some (.slice A0_2 l0_2.length c0_2) ∧ w126.cell? ⟨gb169, 0, none⟩ = some (.int .i64 a1_0) ∧ w126.cell? ⟨gb169, 1, none⟩ = some (.string a1_1) ∧ w126.cell? ⟨gb169, 2, none⟩ = some (.slice A1_2 l1_2.length c1_2) := hS_
        obtain ⟨Ao129, co129, eo129⟩ := Kd.R_slice HO241.out
        (first | subst eo129 | (injection eo129 with f1_ f2_ f3_; have f4_ := f1_.symm; have f5_ := f3_.symm; clear f1_ f2_ f3_; subst f4_; subst f5_))
        refine norm_ (a' := ?_) ?_ ?_
        rotate_left
        · simp only [putAll, Act.put, List.setIfInBounds_toArray, List.set_cons_zero, List.set_cons_succ]
          rfl
        refine one_ (i := 6) (N := none) #[true, true, true, true, true, true, true] rfl rfl (by kernel_rfl) (by decide) (fun K hK => ?_)
        have hs127 : w126.cell? ⟨gb242, 0, none⟩ = some (.int .i64 0) := (blk_cell BK242.out 0).trans rfl
        have hfs127 := blk_frozen BK242.out 0
        have hns127_0 := NB168_242.out
        have hns127_1 := NB169_242.out
        have hns127_2 := NB187_242.out
        have hns127_3 := NB193_242.out
        have hns127_4 := NB199_242.out
        have hns127_5 := NB205_242.out
        have hms127_0 := NB242_168.out
        have hms127_1 := NB242_169.out
        have hms127_2 := NB242_187.out
        have hms127_3 := NB242_193.out
        have hms127_4 := NB242_199.out
        have hms127_5 := NB242_205.out
        have hs128 : w126.cell? ⟨gb242, 1, none⟩ = some (.string (⟨#[]⟩ : ByteArray)) := (blk_cell BK242.out 1).trans rfl
        have hfs128 := blk_frozen BK242.out 1
        have hns128_0 := NB168_242.out
        have hns128_1 := NB169_242.out
        have hns128_2 := NB187_242.out
        have hns128_3 := NB193_242.out
        have hns128_4 := NB199_242.out
        have hns128_5 := NB205_242.out
        have hms128_0 := NB242_168.out
        have hms128_1 := NB242_169.out
        have hms128_2 := NB242_187.out
        have hms128_3 := NB242_193.out
        have hms128_4 := NB242_199.out
        have hms128_5 := NB242_205.out
        have hs130 : w126.cell? ⟨gb242, 2, none⟩ = some (.slice none 0 0) := (blk_cell BK242.out 2).trans rfl
        have hfs130 := blk_frozen BK242.out 2
        have hns130_0 := NB168_242.out
        have hns130_1 := NB169_242.out
        have hns130_2 := NB187_242.out
        have hns130_3 := NB193_242.out
        have hns130_4 := NB199_242.out
        have hns130_5 := NB205_242.out
        have hms130_0 := NB242_168.out
        have hms130_1 := NB242_169.out
        have hms130_2 := NB242_187.out
        have hms130_3 := NB242_193.out
        have hms130_4 := NB242_199.out
        have hms130_5 := NB242_205.out
        refine skip_ (w1 := ?_) (by rfl) rfl ?_ ?_
        rotate_left
        · go_simp
          rfl
        refine hK.out _ _ ⟨((cell_far (p := ⟨gb242, _, none⟩) NB168_242.out _).trans (((cell_far (p := ⟨gb242, _, none⟩) NB168_242.out _).trans (((cell_far (p := ⟨gb242, _, none⟩) NB168_242.out _).trans (hHeld.1)))))), ((cell_far (p := ⟨gb242, _, none⟩) NB168_242.out _).trans (((cell_far (p := ⟨gb242, _, none⟩) NB168_242.out _).trans (((cell_far (p := ⟨gb242, _, none⟩) NB168_242.out _).trans (hHeld.2.1)))))), ((cell_far (p := ⟨gb242, _, none⟩) NB168_242.out _).trans (((cell_far (p := ⟨gb242, _, none⟩) NB168_242.out _).trans (((cell_far (p := ⟨gb242, _, none⟩) NB168_242.out _).trans (hHeld.2.2.1)))))), ((cell_far (p := ⟨gb242, _, none⟩) NB169_242.out _).trans (((cell_far (p := ⟨gb242, _, none⟩) NB169_242.out _).trans (((cell_far (p := ⟨gb242, _, none⟩) NB169_242.out _).trans (hHeld.2.2.2.1)))))), ((cell_far (p := ⟨gb242, _, none⟩) NB169_242.out _).trans (((cell_far (p := ⟨gb242, _, none⟩) NB169_242.out _).trans (((cell_far (p := ⟨gb242, _, none⟩) NB169_242.out _).trans (hHeld.2.2.2.2.1)))))), ((cell_far (p := ⟨gb242, _, none⟩) NB169_242.out _).trans (((cell_far (p := ⟨gb242, _, none⟩) NB169_242.out _).trans (((cell_far (p := ⟨gb242, _, none⟩) NB169_242.out _).trans (hHeld.2.2.2.2.2))))))⟩ (fun hHeld => ?_)
        clear hK K
        refine done_ (by kernel_rfl) ?_
        have hnb131 := NB242_168.out
        have hnc131 := NB168_242.out
        have hnb132 := NB242_169.out
        have hnc132 := NB169_242.out
        have hnb133 := NB242_187.out
        have hnc133 := NB187_242.out
        have hnb134 := NB242_193.out
        have hnc134 := NB193_242.out
        have hnb135 := NB242_199.out
        have hnc135 := NB199_242.out
        have hnb136 := NB242_205.out
        have hnc136 := NB205_242.out
        have hcz137_0 : w126.cell? ⟨gb242, 0, none⟩ = some (.int .i64 0) := (blk_cell BK242.out 0).trans rfl
        have hcz137_1 : w126.cell? ⟨gb242, 1, none⟩ = some (.string (⟨#[]⟩ : ByteArray)) := (blk_cell BK242.out 1).trans rfl
        have hcz137_2 : w126.cell? ⟨gb242, 2, none⟩ = some (.slice none 0 0) := (blk_cell BK242.out 2).trans rfl
        have hfz137_0 := blk_frozen BK242.out 0
        have hfz137_1 := blk_frozen BK242.out 1
        have hfz137_2 := blk_frozen BK242.out 2
        have hcz138_0 : w126.cell? ⟨gb187, 0, none⟩ = some (.int .i64 t182) := (blk_cell BK187.out 0).trans rfl
        have hcz138_1 : w126.cell? ⟨gb187, 1, none⟩ = some (.string t183) := (blk_cell BK187.out 1).trans rfl
        have hcz138_2 : w126.cell? ⟨gb187, 2, none⟩ = some (.slice Ao67 t184.length co67) := (blk_cell BK187.out 2).trans rfl
        have hfz138_0 := blk_frozen BK187.out 0
        have hfz138_1 := blk_frozen BK187.out 1
        have hfz138_2 := blk_frozen BK187.out 2
        try go_wp2_with (first | ((with_reducible refine gate_callee (f := 38) rfl ?_); refine goesL_ (some 82) rfl rfl Try.func38 (by kernel_rfl) rfl #[.agg #[.int .i64 t237, .string t238, .slice Ao129 t239.length co129], .agg #[.int .i64 t182, .string t183, .slice Ao67 t184.length co67]] rfl (by (try simp only [List.map_toArray, List.map_cons, List.map_nil]); first | done | rfl | (simp only [List.length_drop, List.length_take]; rfl)) ?_; (with_reducible refine (laws_eqQc.calls k t237 t238 _ _ t239 t182 t183 _ _ t184 true _ ?side1 ?side2 ?side3 ?side4 A45.out).mono ?_); (case side1 => refine (Kd.R_reads' (e := 3) (base := w.heap.size) (ok := fun k_ => (some k_ ≠ (.slice Ao67 t184.length co67 : Value).ownBlock ∧ (some k_ ≠ (.slice Ao97 t202.length co97 : Value).ownBlock ∧ (some k_ ≠ (v230 : Value).ownBlock ∧ some k_ ≠ (v235 : Value).ownBlock)))) (n := t239.length) (c := co129) ?_).2.2; exact (rI (Kd.R_mono (Kd.R_far (p := ⟨gb242, 2, none⟩) (Kd.R_far (p := ⟨gb242, 1, none⟩) (Kd.R_far (p := ⟨gb242, 0, none⟩) (Kd.R_types HO241.out BK242.out (by decide)) (fun _ hk => hk.2) (.int .i64 t237)) (fun _ hk => hk.2) (.string t238)) (fun _ hk => hk.2) (.slice Ao129 t239.length co129)) (fun _ h_ => h_.1)))); (case side2 => exact (Kd.R_reads' HO241.out).2.1); (case side3 => refine (Kd.R_reads' (e := 3) (base := w.heap.size) (ok := fun k_ => (some k_ ≠ (.slice Ao97 t202.length co97 : Value).ownBlock ∧ (some k_ ≠ (v230 : Value).ownBlock ∧ (some k_ ≠ (v235 : Value).ownBlock ∧ some k_ ≠ (.slice Ao129 t239.length co129 : Value).ownBlock)))) (n := t184.length) (c := co67) ?_).2.2; exact (rI (Kd.R_mono (Kd.R_far (p := ⟨gb242, 2, none⟩) (Kd.R_far (p := ⟨gb242, 1, none⟩) (Kd.R_far (p := ⟨gb242, 0, none⟩) (Kd.R_types HO186.out BK242.out (by decide)) (fun _ hk => hk.2) (.int .i64 t237)) (fun _ hk => hk.2) (.string t238)) (fun _ hk => hk.2) (.slice Ao129 t239.length co129)) (fun _ h_ => h_.1)))); (case side4 => exact (Kd.R_reads' HO186.out).2.1); rintro e w139 ⟨rfl, hb⟩; refine ⟨_, rfl, ?_⟩; replace HO186 := Aside0.mk (Kd.R_below (rI (Kd.R_mono (Kd.R_far (p := ⟨gb242, 2, none⟩) (Kd.R_far (p := ⟨gb242, 1, none⟩) (Kd.R_far (p := ⟨gb242, 0, none⟩) (Kd.R_types HO186.out BK242.out (by decide)) (fun _ hk => hk.2) (.int .i64 t237)) (fun _ hk => hk.2) (.string t238)) (fun _ hk => hk.2) (.slice Ao129 t239.length co129)) (fun _ h_ => h_.1))) hb); replace HO204 := Aside0.mk (Kd.R_below (rI (Kd.R_mono (Kd.R_far (p := ⟨gb242, 2, none⟩) (Kd.R_far (p := ⟨gb242, 1, none⟩) (Kd.R_far (p := ⟨gb242, 0, none⟩) (Kd.R_types HO204.out BK242.out (by decide)) (fun _ hk => hk.2) (.int .i64 t237)) (fun _ hk => hk.2) (.string t238)) (fun _ hk => hk.2) (.slice Ao129 t239.length co129)) (fun _ h_ => h_.1))) hb); replace HO231 := Aside0.mk (Kd.R_below (rI (Kd.R_mono (Kd.R_far (p := ⟨gb242, 2, none⟩) (Kd.R_far (p := ⟨gb242, 1, none⟩) (Kd.R_far (p := ⟨gb242, 0, none⟩) (Kd.R_types HO231.out BK242.out (by decide)) (fun _ hk => hk.2) (.int .i64 t237)) (fun _ hk => hk.2) (.string t238)) (fun _ hk => hk.2) (.slice Ao129 t239.length co129)) (fun _ h_ => h_.1))) hb); replace HO236 := Aside0.mk (Kd.R_below (rI (Kd.R_mono (Kd.R_far (p := ⟨gb242, 2, none⟩) (Kd.R_far (p := ⟨gb242, 1, none⟩) (Kd.R_far (p := ⟨gb242, 0, none⟩) (Kd.R_types HO236.out BK242.out (by decide)) (fun _ hk => hk.2) (.int .i64 t237)) (fun _ hk => hk.2) (.string t238)) (fun _ hk => hk.2) (.slice Ao129 t239.length co129)) (fun _ h_ => h_.1))) hb); replace HO241 := Aside0.mk (Kd.R_below (rI (Kd.R_mono (Kd.R_far (p := ⟨gb242, 2, none⟩) (Kd.R_far (p := ⟨gb242, 1, none⟩) (Kd.R_far (p := ⟨gb242, 0, none⟩) (Kd.R_types HO241.out BK242.out (by decide)) (fun _ hk => hk.2) (.int .i64 t237)) (fun _ hk => hk.2) (.string t238)) (fun _ hk => hk.2) (.slice Ao129 t239.length co129)) (fun _ h_ => h_.1))) hb); replace BK168 := Aside0.mk (blk_below (g := gb168) (o := .cells #[.int .i64 a0_0, .string a0_1, .slice A0_2 l0_2.length c0_2] 48 (0, 0)) (by (with_reducible repeat (first | refine blk_drewN ?_ _ | refine blk_drew ?_ | refine blk_alloc ?_ _)); refine blk_far ?_ NB168_242.out _; (with_reducible repeat (first | refine blk_drewN ?_ _ | refine blk_drew ?_ | refine blk_alloc ?_ _)); refine blk_far ?_ NB168_242.out _; (with_reducible repeat (first | refine blk_drewN ?_ _ | refine blk_drew ?_ | refine blk_alloc ?_ _)); refine blk_far ?_ NB168_242.out _; (with_reducible repeat (first | refine blk_drewN ?_ _ | refine blk_drew ?_ | refine blk_alloc ?_ _)); exact BK168.out) hb); replace BK169 := Aside0.mk (blk_below (g := gb169) (o := .cells #[.int .i64 a1_0, .string a1_1, .slice A1_2 l1_2.length c1_2] 48 (0, 0)) (by (with_reducible repeat (first | refine blk_drewN ?_ _ | refine blk_drew ?_ | refine blk_alloc ?_ _)); refine blk_far ?_ NB169_242.out _; (with_reducible repeat (first | refine blk_drewN ?_ _ | refine blk_drew ?_ | refine blk_alloc ?_ _)); refine blk_far ?_ NB169_242.out _; (with_reducible repeat (first | refine blk_drewN ?_ _ | refine blk_drew ?_ | refine blk_alloc ?_ _)); refine blk_far ?_ NB169_242.out _; (with_reducible repeat (first | refine blk_drewN ?_ _ | refine blk_drew ?_ | refine blk_alloc ?_ _)); exact BK169.out) hb); replace BK187 := Aside0.mk (blk_below (g := gb187) (o := .cells #[.int .i64 t182, .string t183, .slice Ao67 t184.length co67] 41 (0, 0)) (by (with_reducible repeat (first | refine blk_drewN ?_ _ | refine blk_drew ?_ | refine blk_alloc ?_ _)); refine blk_far ?_ NB187_242.out _; (with_reducible repeat (first | refine blk_drewN ?_ _ | refine blk_drew ?_ | refine blk_alloc ?_ _)); refine blk_far ?_ NB187_242.out _; (with_reducible repeat (first | refine blk_drewN ?_ _ | refine blk_drew ?_ | refine blk_alloc ?_ _)); refine blk_far ?_ NB187_242.out _; (with_reducible repeat (first | refine blk_drewN ?_ _ | refine blk_drew ?_ | refine blk_alloc ?_ _)); exact BK187.out) hb); replace BK193 := Aside0.mk (blk_below (g := gb193) (o := .cells #[.int .i64 t188, .string t189, .slice Ao77 t190.length co77] 41 (0, 0)) (by (with_reducible repeat (first | refine blk_drewN ?_ _ | refine blk_drew ?_ | refine blk_alloc ?_ _)); refine blk_far ?_ NB193_242.out _; (with_reducible repeat (first | refine blk_drewN ?_ _ | refine blk_drew ?_ | refine blk_alloc ?_ _)); refine blk_far ?_ NB193_242.out _; (with_reducible repeat (first | refine blk_drewN ?_ _ | refine blk_drew ?_ | refine blk_alloc ?_ _)); refine blk_far ?_ NB193_242.out _; (with_reducible repeat (first | refine blk_drewN ?_ _ | refine blk_drew ?_ | refine blk_alloc ?_ _)); exact BK193.out) hb); replace BK199 := Aside0.mk (blk_below (g := gb199) (o := .cells #[.int .i64 t194, .string t195, .slice Ao87 t196.length co87] 41 (0, 0)) (by (with_reducible repeat (first | refine blk_drewN ?_ _ | refine blk_drew ?_ | refine blk_alloc ?_ _)); refine blk_far ?_ NB199_242.out _; (with_reducible repeat (first | refine blk_drewN ?_ _ | refine blk_drew ?_ | refine blk_alloc ?_ _)); refine blk_far ?_ NB199_242.out _; (with_reducible repeat (first | refine blk_drewN ?_ _ | refine blk_drew ?_ | refine blk_alloc ?_ _)); refine blk_far ?_ NB199_242.out _; (with_reducible repeat (first | refine blk_drewN ?_ _ | refine blk_drew ?_ | refine blk_alloc ?_ _)); exact BK199.out) hb); replace BK205 := Aside0.mk (blk_below (g := gb205) (o := .cells #[.int .i64 t200, .string t201, .slice Ao97 t202.length co97] 41 (0, 0)) (by (with_reducible repeat (first | refine blk_drewN ?_ _ | refine blk_drew ?_ | refine blk_alloc ?_ _)); refine blk_far ?_ NB205_242.out _; (with_reducible repeat (first | refine blk_drewN ?_ _ | refine blk_drew ?_ | refine blk_alloc ?_ _)); refine blk_far ?_ NB205_242.out _; (with_reducible repeat (first | refine blk_drewN ?_ _ | refine blk_drew ?_ | refine blk_alloc ?_ _)); refine blk_far ?_ NB205_242.out _; (with_reducible repeat (first | refine blk_drewN ?_ _ | refine blk_drew ?_ | refine blk_alloc ?_ _)); exact BK205.out) hb); replace BK242 := Aside0.mk (blk_below (g := gb242) (o := .cells #[.int .i64 t237, .string t238, .slice Ao129 t239.length co129] 41 (0, 0)) (by (with_reducible repeat (first | refine blk_drewN ?_ _ | refine blk_drew ?_ | refine blk_alloc ?_ _)); refine blk_put (cs := #[.int .i64 t237, .string t238, .slice none 0 0]) ?_ 2 _ rfl; (with_reducible repeat (first | refine blk_drewN ?_ _ | refine blk_drew ?_ | refine blk_alloc ?_ _)); refine blk_put (cs := #[.int .i64 t237, .string (⟨#[]⟩ : ByteArray), .slice none 0 0]) ?_ 1 _ rfl; (with_reducible repeat (first | refine blk_drewN ?_ _ | refine blk_drew ?_ | refine blk_alloc ?_ _)); refine blk_put (cs := #[.int .i64 0, .string (⟨#[]⟩ : ByteArray), .slice none 0 0]) ?_ 0 _ rfl; (with_reducible repeat (first | refine blk_drewN ?_ _ | refine blk_drew ?_ | refine blk_alloc ?_ _)); exact BK242.out) hb); replace HB := Aside0.mk (below_step (bI HB.out) hb); (try clear hb); (try clear hb2); (try clear hk); (try clear hi); have hcz140_0 : w139.cell? ⟨gb205, 0, none⟩ = some (.int .i64 t200) := (blk_cell BK205.out 0).trans rfl; have hcz140_1 : w139.cell? ⟨gb205, 1, none⟩ = some (.string t201) := (blk_cell BK205.out 1).trans rfl; have hcz140_2 : w139.cell? ⟨gb205, 2, none⟩ = some (.slice Ao97 t202.length co97) := (blk_cell BK205.out 2).trans rfl; have hfz140_0 := blk_frozen BK205.out 0; have hfz140_1 := blk_frozen BK205.out 1; have hfz140_2 := blk_frozen BK205.out 2; clear HO186; clear HO231; clear HO236; clear HO241; have n_ := Aside0.mk (Kd.R_mono (ok' := (fun _ => True)) HO204.out (fun k_ hk => trivial)); clear HO204; have HO204 := n_; clear n_) | ((with_reducible refine gate_callee (f := 53) rfl ?_); refine goesL_ (some 86) rfl rfl Try.func53 (by kernel_rfl) rfl #[.agg #[.int .i64 t200, .string t201, .slice Ao97 t225.length co97], .int .i64 1] rfl (by (try simp only [List.map_toArray, List.map_cons, List.map_nil]); first | done | (rw [show t225.length = t202.length from (Kd.R_reads' HO204.out).1.symm] <;> rfl) | rfl | (simp only [List.length_drop, List.length_take]; rfl)) ?_; (with_reducible refine (laws_heldQc.calls k t200 t201 _ _ t225 1 t244 _ ?side1 ?side2 A47.out).mono ?_); (case side1 => repeat (first | exact (Kd.R_reads' HO204.out).2.2 | (with_reducible refine Kd.C_alloc ?_ _) | (with_reducible refine Kd.C_drewN ?_ _) | (with_reducible refine Kd.C_drew ?_))); (case side2 => rw [show t225.length = t202.length from (Kd.R_reads' HO204.out).1.symm]; exact (Kd.R_reads' HO204.out).2.1); rintro e w141 ⟨rfl, hb⟩; refine ⟨_, rfl, ?_⟩; replace HO204 := Aside0.mk (Kd.R_below (rI HO204.out) hb); replace BK168 := Aside0.mk (blk_below (g := gb168) (o := .cells #[.int .i64 a0_0, .string a0_1, .slice A0_2 l0_2.length c0_2] 48 (0, 0)) (kI BK168.out) hb); replace BK169 := Aside0.mk (blk_below (g := gb169) (o := .cells #[.int .i64 a1_0, .string a1_1, .slice A1_2 l1_2.length c1_2] 48 (0, 0)) (kI BK169.out) hb); replace BK187 := Aside0.mk (blk_below (g := gb187) (o := .cells #[.int .i64 t182, .string t183, .slice Ao67 t184.length co67] 41 (0, 0)) (kI BK187.out) hb); replace BK193 := Aside0.mk (blk_below (g := gb193) (o := .cells #[.int .i64 t188, .string t189, .slice Ao77 t190.length co77] 41 (0, 0)) (kI BK193.out) hb); replace BK199 := Aside0.mk (blk_below (g := gb199) (o := .cells #[.int .i64 t194, .string t195, .slice Ao87 t196.length co87] 41 (0, 0)) (kI BK199.out) hb); replace BK205 := Aside0.mk (blk_below (g := gb205) (o := .cells #[.int .i64 t200, .string t201, .slice Ao97 t202.length co97] 41 (0, 0)) (kI BK205.out) hb); replace BK242 := Aside0.mk (blk_below (g := gb242) (o := .cells #[.int .i64 t237, .string t238, .slice Ao129 t239.length co129] 41 (0, 0)) (kI BK242.out) hb); replace HB := Aside0.mk (below_step (bI HB.out) hb); (try clear hb); (try clear hb2); (try clear hk); (try clear hi)))
        go_ret
        exact ⟨by first | rfl | (simp [errW_none, errW_some] <;> rfl) | (simp [*, errW_none, errW_some] <;> rfl), bI HB.out⟩
      · replace c26 := Bool.eq_false_iff.mpr c26
        subst c26
        have H1 : (some false) = some r := by rw [if_neg (show ¬ (false = true) by decide)] at H; exact H
        clear H
        have H := H1
        clear H1
        exact absurd (hrt.out.symm.trans (Option.some.inj H).symm) (by decide)

end Go.Proofs.Ytlkmjjojjlihaaa.PFnExactQcLater
