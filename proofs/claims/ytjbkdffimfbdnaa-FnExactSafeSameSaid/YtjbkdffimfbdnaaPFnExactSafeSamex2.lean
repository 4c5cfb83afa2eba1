-- By a program of this session, out of the translation (the print of the kit, with turns of its own). Lean checks it.
import Derived.Test.YtjbkdffimfbdnaaPFnExactSafeSamex0
import Derived.Test.YtjbkdffimfbdnaaPFnExactSafeSamex1
namespace Go.Proofs.Ytjbkdffimfbdnaa.PFnExactSafeSame
open Go.RowKit Go.Proofs.YtjbkdffimfbdnaaW.PrintWords Go.Proofs.YtjbkdffimfbdnaaW.PrintLast Go.Proofs.YtjbkdffimfbdnaaW.PrintMore
attribute [local go_sem] max2_int min2_int max_two min_two max_three min_three max_four min_four   -- for this text's walks alone
set_option linter.unusedVariables false
set_option linter.unusedSimpArgs false

/-! ### impl_QcSame: function 67 -/
def impl_QcSame.f (k : Nat) (a0_0 : Int) (a0_1 : ByteArray) (l0_2 : List Int) (a1_0 : Int) (a1_1 : ByteArray) (l1_2 : List Int) : Option (Bool) := if a0_0 = a1_0 then (if a0_1.toList = a1_1.toList then ((slices_Equal_int_int.f k l0_2 l1_2).bind fun t136 => (some t136)) else (some false)) else (some false)
theorem impl_QcSame.mono : ∀ a0 a1 a2 a3 a4 a5 k, LeO (impl_QcSame.f k a0 a1 a2 a3 a4 a5) (impl_QcSame.f (k + 1) a0 a1 a2 a3 a4 a5) := by
  intro a0 a1 a2 a3 a4 a5 k
  unfold impl_QcSame.f
  repeat' first
      | (with_reducible exact slices_Equal_int_int.mono _ _ _)
      | (with_reducible exact LeO.refl _)
      | (with_reducible exact LeO.none _)
      | (with_reducible refine LeO.ite ?_ ?_)
      | (with_reducible refine LeO.bind ?_ (fun _ => ?_))
      | exact slices_Equal_int_int.mono _ _ _
      | exact LeO.none _
      | refine LeO.ite ?_ ?_
      | refine LeO.bind ?_ (fun _ => ?_)
set_option maxHeartbeats 8000000 in
set_option maxRecDepth 100000 in
theorem impl_QcSame.calls (k : Nat) (a0_0 : Int) (a0_1 : ByteArray) (A0_2 : Option Addr) (c0_2 : Nat) (l0_2 : List Int) (a1_0 : Int) (a1_1 : ByteArray) (A1_2 : Option Addr) (c1_2 : Nat) (l1_2 : List Int) (r : Bool) (w : World) (hr0_2 : Kd.C (Kd.int .i64) w A0_2 l0_2.length l0_2) (hc0_2 : l0_2.length ≤ c0_2) (hr1_2 : Kd.C (Kd.int .i64) w A1_2 l1_2.length l1_2) (hc1_2 : l1_2.length ≤ c1_2) (h : impl_QcSame.f k a0_0 a0_1 l0_2 a1_0 a1_1 l1_2 = some r) :
    Calls Try.prog 67 #[.agg #[.int .i64 a0_0, .string a0_1, .slice A0_2 l0_2.length c0_2], .agg #[.int .i64 a1_0, .string a1_1, .slice A1_2 l1_2.length c1_2]] w fun e w' => e = .returned (.bool r) ∧ Below w.heap.size w w' := by
  have hu29 := Try.underlying29
  have HR0_2 := Aside0.mk hr0_2
  have HC0_2 := Aside0.mk hc0_2
  clear hr0_2 hc0_2
  have HR1_2 := Aside0.mk hr1_2
  have HC1_2 := Aside0.mk hc1_2
  clear hr1_2 hc1_2
  have HB := Aside0.mk (Below.refl w.heap.size w)
  have H : (if a0_0 = a1_0 then (if a0_1.toList = a1_1.toList then ((slices_Equal_int_int.f k l0_2 l1_2).bind fun t136 => (some t136)) else (some false)) else (some false)) = some r := h
  clear h
  by_cases c3 : a0_0 = a1_0
  · rw [if_pos c3] at H
    have c3b0 : (a0_0 == a1_0) = true := beq_iff_eq.mpr c3
    have c3b1 : (a0_0 != a1_0) = false := bne_eq_false_iff_eq.mpr c3
    clear c3
    by_cases c4 : a0_1.toList = a1_1.toList
    · rw [if_pos c4] at H
      have c4b0 : (a0_1.toList == a1_1.toList) = true := beq_iff_eq.mpr c4
      have c4b1 : (a0_1.toList != a1_1.toList) = false := bne_eq_false_iff_eq.mpr c4
      clear c4
      obtain ⟨t136, A50, H⟩ := Option.bind_eq_some_iff.mp H
      try dsimp only at H
      have A5 := Aside0.mk A50
      clear A50
      obtain rfl := Option.some.inj H
      go_enter Try.func67, Try.ntmps67
      go_wp2_with (first | ((with_reducible refine gate_dst (N := 2) rfl ?_); refine box_event ?hg (N := 2) ?hd (cs := #[.int .i64 a0_0, .string a0_1, .slice A0_2 l0_2.length c0_2]) (t := 29) ?hr ?_; (case hd => rfl); (case hg => rfl); (case hr => first | (go_simp; done) | (go_simp; rfl)); intro gb134 hg w6 hbox hb; have BK134 := Aside0.mk (hbox); have GW134 := Aside0.mk ((by rw [hg]; exact (below_size (bI HB.out)) : w.heap.size ≤ gb134)); have GJ134 := GeI.mk GW134.out; have GE134 := Aside0.mk ((by rw [hg]; exact (below_size (bI HB.out)) : w.heap.size ≤ gb134)); have GI134 := GeI.mk GE134.out; replace HB := Aside0.mk (below_step (bI HB.out) hb); clear hb hbox hg) | ((with_reducible refine gate_dst (N := 3) rfl ?_); refine box_event ?hg (N := 3) ?hd (cs := #[.int .i64 a1_0, .string a1_1, .slice A1_2 l1_2.length c1_2]) (t := 29) ?hr ?_; (case hd => rfl); (case hg => rfl); (case hr => first | (go_simp; done) | (go_simp; rfl)); intro gb135 hg w7 hbox hb; have BK135 := Aside0.mk (hbox); have GW135 := Aside0.mk ((by rw [hg]; exact (below_size (bI HB.out)) : w.heap.size ≤ gb135)); have GJ135 := GeI.mk GW135.out; have GE135 := Aside0.mk ((by rw [hg]; exact (below_size (bI HB.out)) : w.heap.size ≤ gb135)); have GI135 := GeI.mk GE135.out; replace HB := Aside0.mk (below_step (bI HB.out) hb); have NB134_135 := Aside0.mk ((by rw [hg]; exact Nat.ne_of_lt (blk_lt (g := gb134) (o := .cells #[.int .i64 a0_0, .string a0_1, .slice A0_2 l0_2.length c0_2] 29 (0, 0)) (kI BK134.out)) : gb134 ≠ gb135)); have NI134_135 := NeI.mk NB134_135.out; have NB135_134 := Aside0.mk ((by rw [hg]; exact Nat.ne_of_gt (blk_lt (g := gb134) (o := .cells #[.int .i64 a0_0, .string a0_1, .slice A0_2 l0_2.length c0_2] 29 (0, 0)) (kI BK134.out)) : gb135 ≠ gb134)); have NI135_134 := NeI.mk NB135_134.out; replace BK134 := Aside0.mk (blk_below (g := gb134) (o := .cells #[.int .i64 a0_0, .string a0_1, .slice A0_2 l0_2.length c0_2] 29 (0, 0)) (kI BK134.out) hb); clear hb hbox hg; have hnb8 := NB134_135.out; have hnc8 := NB135_134.out; have hcz9_0 := bc0 BK134.out; have hcz9_1 := bc1 BK134.out; have hcz9_2 := bc2 BK134.out; have hfz9_0 := blk_frozen BK134.out 0; have hfz9_1 := blk_frozen BK134.out 1; have hfz9_2 := blk_frozen BK134.out 2; have hcz10_0 := bc0 BK135.out; have hcz10_1 := bc1 BK135.out; have hcz10_2 := bc2 BK135.out; have hfz10_0 := blk_frozen BK135.out 0; have hfz10_1 := blk_frozen BK135.out 1; have hfz10_2 := blk_frozen BK135.out 2) | (go_at_call 91; (with_reducible refine (slices_Equal_int_int.calls k _ _ l0_2 _ _ l1_2 t136 _ ?side1 ?side2 ?side3 ?side4 A5.out).mono ?_); (case side1 => exact cI (Kd.C_below HR0_2.out HB.out)); (case side2 => exact HC0_2.out); (case side3 => exact cI (Kd.C_below HR1_2.out HB.out)); (case side4 => exact HC1_2.out); rintro e w' ⟨rfl, ⟨nd, rfl⟩⟩))
      go_ret
      exact ⟨by first | rfl | (simp [errW_none, errW_some] <;> rfl) | (simp [*, errW_none, errW_some] <;> rfl), bI HB.out⟩
    · rw [if_neg c4] at H
      have c4b0 : (a0_1.toList == a1_1.toList) = false := beq_eq_false_iff_ne.mpr c4
      have c4b1 : (a0_1.toList != a1_1.toList) = true := bne_iff_ne.mpr c4
      obtain rfl := Option.some.inj H
      go_enter Try.func67, Try.ntmps67
      go_wp2_with (first | ((with_reducible refine gate_dst (N := 2) rfl ?_); refine box_event ?hg (N := 2) ?hd (cs := #[.int .i64 a0_0, .string a0_1, .slice A0_2 l0_2.length c0_2]) (t := 29) ?hr ?_; (case hd => rfl); (case hg => rfl); (case hr => first | (go_simp; done) | (go_simp; rfl)); intro gb134 hg w11 hbox hb; have BK134 := Aside0.mk (hbox); have GW134 := Aside0.mk ((by rw [hg]; exact (below_size (bI HB.out)) : w.heap.size ≤ gb134)); have GJ134 := GeI.mk GW134.out; have GE134 := Aside0.mk ((by rw [hg]; exact (below_size (bI HB.out)) : w.heap.size ≤ gb134)); have GI134 := GeI.mk GE134.out; replace HB := Aside0.mk (below_step (bI HB.out) hb); clear hb hbox hg) | ((with_reducible refine gate_dst (N := 3) rfl ?_); refine box_event ?hg (N := 3) ?hd (cs := #[.int .i64 a1_0, .string a1_1, .slice A1_2 l1_2.length c1_2]) (t := 29) ?hr ?_; (case hd => rfl); (case hg => rfl); (case hr => first | (go_simp; done) | (go_simp; rfl)); intro gb135 hg w12 hbox hb; have BK135 := Aside0.mk (hbox); have GW135 := Aside0.mk ((by rw [hg]; exact (below_size (bI HB.out)) : w.heap.size ≤ gb135)); have GJ135 := GeI.mk GW135.out; have GE135 := Aside0.mk ((by rw [hg]; exact (below_size (bI HB.out)) : w.heap.size ≤ gb135)); have GI135 := GeI.mk GE135.out; replace HB := Aside0.mk (below_step (bI HB.out) hb); have NB134_135 := Aside0.mk ((by rw [hg]; exact Nat.ne_of_lt (blk_lt (g := gb134) (o := .cells #[.int .i64 a0_0, .string a0_1, .slice A0_2 l0_2.length c0_2] 29 (0, 0)) (kI BK134.out)) : gb134 ≠ gb135)); have NI134_135 := NeI.mk NB134_135.out; have NB135_134 := Aside0.mk ((by rw [hg]; exact Nat.ne_of_gt (blk_lt (g := gb134) (o := .cells #[.int .i64 a0_0, .string a0_1, .slice A0_2 l0_2.length c0_2] 29 (0, 0)) (kI BK134.out)) : gb135 ≠ gb134)); have NI135_134 := NeI.mk NB135_134.out; replace BK134 := Aside0.mk (blk_below (g := gb134) (o := .cells #[.int .i64 a0_0, .string a0_1, .slice A0_2 l0_2.length c0_2] 29 (0, 0)) (kI BK134.out) hb); clear hb hbox hg; have hnb13 := NB134_135.out; have hnc13 := NB135_134.out; have hcz14_0 := bc0 BK134.out; have hcz14_1 := bc1 BK134.out; have hcz14_2 := bc2 BK134.out; have hfz14_0 := blk_frozen BK134.out 0; have hfz14_1 := blk_frozen BK134.out 1; have hfz14_2 := blk_frozen BK134.out 2; have hcz15_0 := bc0 BK135.out; have hcz15_1 := bc1 BK135.out; have hcz15_2 := bc2 BK135.out; have hfz15_0 := blk_frozen BK135.out 0; have hfz15_1 := blk_frozen BK135.out 1; have hfz15_2 := blk_frozen BK135.out 2))
      go_ret
      exact ⟨by first | rfl | (simp [errW_none, errW_some] <;> rfl) | (simp [*, errW_none, errW_some] <;> rfl), bI HB.out⟩
  · rw [if_neg c3] at H
    have c3b0 : (a0_0 == a1_0) = false := beq_eq_false_iff_ne.mpr c3
    have c3b1 : (a0_0 != a1_0) = true := bne_iff_ne.mpr c3
    obtain rfl := Option.some.inj H
    go_enter Try.func67, Try.ntmps67
    go_wp2_with (first | ((with_reducible refine gate_dst (N := 2) rfl ?_); refine box_event ?hg (N := 2) ?hd (cs := #[.int .i64 a0_0, .string a0_1, .slice A0_2 l0_2.length c0_2]) (t := 29) ?hr ?_; (case hd => rfl); (case hg => rfl); (case hr => first | (go_simp; done) | (go_simp; rfl)); intro gb134 hg w16 hbox hb; have BK134 := Aside0.mk (hbox); have GW134 := Aside0.mk ((by rw [hg]; exact (below_size (bI HB.out)) : w.heap.size ≤ gb134)); have GJ134 := GeI.mk GW134.out; have GE134 := Aside0.mk ((by rw [hg]; exact (below_size (bI HB.out)) : w.heap.size ≤ gb134)); have GI134 := GeI.mk GE134.out; replace HB := Aside0.mk (below_step (bI HB.out) hb); clear hb hbox hg) | ((with_reducible refine gate_dst (N := 3) rfl ?_); refine box_event ?hg (N := 3) ?hd (cs := #[.int .i64 a1_0, .string a1_1, .slice A1_2 l1_2.length c1_2]) (t := 29) ?hr ?_; (case hd => rfl); (case hg => rfl); (case hr => first | (go_simp; done) | (go_simp; rfl)); intro gb135 hg w17 hbox hb; have BK135 := Aside0.mk (hbox); have GW135 := Aside0.mk ((by rw [hg]; exact (below_size (bI HB.out)) : w.heap.size ≤ gb135)); have GJ135 := GeI.mk GW135.out; have GE135 := Aside0.mk ((by rw [hg]; exact (below_size (bI HB.out)) : w.heap.size ≤ gb135)); have GI135 := GeI.mk GE135.out; replace HB := Aside0.mk (below_step (bI HB.out) hb); have NB134_135 := Aside0.mk ((by rw [hg]; exact Nat.ne_of_lt (blk_lt (g := gb134) (o := .cells #[.int .i64 a0_0, .string a0_1, .slice A0_2 l0_2.length c0_2] 29 (0, 0)) (kI BK134.out)) : gb134 ≠ gb135)); have NI134_135 := NeI.mk NB134_135.out; have NB135_134 := Aside0.mk ((by rw [hg]; exact Nat.ne_of_gt (blk_lt (g := gb134) (o := .cells #[.int .i64 a0_0, .string a0_1, .slice A0_2 l0_2.length c0_2] 29 (0, 0)) (kI BK134.out)) : gb135 ≠ gb134)); have NI135_134 := NeI.mk NB135_134.out; replace BK134 := Aside0.mk (blk_below (g := gb134) (o := .cells #[.int .i64 a0_0, .string a0_1, .slice A0_2 l0_2.length c0_2] 29 (0, 0)) (kI BK134.out) hb); clear hb hbox hg; have hnb18 := NB134_135.out; have hnc18 := NB135_134.out; have hcz19_0 := bc0 BK134.out; have hcz19_1 := bc1 BK134.out; have hcz19_2 := bc2 BK134.out; have hfz19_0 := blk_frozen BK134.out 0; have hfz19_1 := blk_frozen BK134.out 1; have hfz19_2 := blk_frozen BK134.out 2; have hcz20_0 := bc0 BK135.out; have hcz20_1 := bc1 BK135.out; have hcz20_2 := bc2 BK135.out; have hfz20_0 := blk_frozen BK135.out 0; have hfz20_1 := blk_frozen BK135.out 1; have hfz20_2 := blk_frozen BK135.out 2))
    go_ret
    exact ⟨by first | rfl | (simp [errW_none, errW_some] <;> rfl) | (simp [*, errW_none, errW_some] <;> rfl), bI HB.out⟩

/-! ### impl_SafeSame: function 15 -/
def impl_SafeSame.f (k : Nat) (a0_0 : Int) (a0_1 : Int) (a0_2 : Int) (a0_3 : ByteArray) (l0_4 : List Int) (a0_5 : ByteArray) (a1_0 : Int) (a1_1 : Int) (a1_2 : Int) (a1_3 : ByteArray) (l1_4 : List Int) (a1_5 : ByteArray) : Option (Bool) := if a0_0 = a1_0 then (if a0_1 = a1_1 then ((impl_QcSame.f k a0_2 a0_3 l0_4 a1_2 a1_3 l1_4).bind fun t139 => (if t139 = true then (some (a0_5.toList == a1_5.toList)) else (some false))) else (some false)) else (some false)
theorem impl_SafeSame.mono : ∀ a0 a1 a2 a3 a4 a5 a6 a7 a8 a9 a10 a11 k, LeO (impl_SafeSame.f k a0 a1 a2 a3 a4 a5 a6 a7 a8 a9 a10 a11) (impl_SafeSame.f (k + 1) a0 a1 a2 a3 a4 a5 a6 a7 a8 a9 a10 a11) := by
  intro a0 a1 a2 a3 a4 a5 a6 a7 a8 a9 a10 a11 k
  unfold impl_SafeSame.f
  repeat' first
      | (with_reducible exact impl_QcSame.mono _ _ _ _ _ _ _)
      | (with_reducible exact LeO.refl _)
      | (with_reducible exact LeO.none _)
      | (with_reducible refine LeO.ite ?_ ?_)
      | (with_reducible refine LeO.bind ?_ (fun _ => ?_))
      | exact impl_QcSame.mono _ _ _ _ _ _ _
      | exact LeO.none _
      | refine LeO.ite ?_ ?_
      | refine LeO.bind ?_ (fun _ => ?_)
set_option maxHeartbeats 8000000 in
set_option maxRecDepth 100000 in
theorem impl_SafeSame.calls (k : Nat) (a0_0 : Int) (a0_1 : Int) (a0_2 : Int) (a0_3 : ByteArray) (A0_4 : Option Addr) (c0_4 : Nat) (l0_4 : List Int) (a0_5 : ByteArray) (a1_0 : Int) (a1_1 : Int) (a1_2 : Int) (a1_3 : ByteArray) (A1_4 : Option Addr) (c1_4 : Nat) (l1_4 : List Int) (a1_5 : ByteArray) (r : Bool) (w : World) (hr0_4 : Kd.C (Kd.int .i64) w A0_4 l0_4.length l0_4) (hc0_4 : l0_4.length ≤ c0_4) (hr1_4 : Kd.C (Kd.int .i64) w A1_4 l1_4.length l1_4) (hc1_4 : l1_4.length ≤ c1_4) (h : impl_SafeSame.f k a0_0 a0_1 a0_2 a0_3 l0_4 a0_5 a1_0 a1_1 a1_2 a1_3 l1_4 a1_5 = some r) :
    Calls Try.prog 15 #[.agg #[.int .i64 a0_0, .int .i64 a0_1, .int .i64 a0_2, .string a0_3, .slice A0_4 l0_4.length c0_4, .string a0_5], .agg #[.int .i64 a1_0, .int .i64 a1_1, .int .i64 a1_2, .string a1_3, .slice A1_4 l1_4.length c1_4, .string a1_5]] w fun e w' => e = .returned (.bool r) ∧ Below w.heap.size w w' := by
  have hu31 := Try.underlying31
  have hu29 := Try.underlying29
  have HR0_4 := Aside0.mk hr0_4
  have HC0_4 := Aside0.mk hc0_4
  clear hr0_4 hc0_4
  have HR1_4 := Aside0.mk hr1_4
  have HC1_4 := Aside0.mk hc1_4
  clear hr1_4 hc1_4
  have HB := Aside0.mk (Below.refl w.heap.size w)
  have H : (if a0_0 = a1_0 then (if a0_1 = a1_1 then ((impl_QcSame.f k a0_2 a0_3 l0_4 a1_2 a1_3 l1_4).bind fun t139 => (if t139 = true then (some (a0_5.toList == a1_5.toList)) else (some false))) else (some false)) else (some false)) = some r := h
  clear h
  by_cases c3 : a0_0 = a1_0
  · rw [if_pos c3] at H
    have c3b0 : (a0_0 == a1_0) = true := beq_iff_eq.mpr c3
    have c3b1 : (a0_0 != a1_0) = false := bne_eq_false_iff_eq.mpr c3
    clear c3
    by_cases c4 : a0_1 = a1_1
    · rw [if_pos c4] at H
      have c4b0 : (a0_1 == a1_1) = true := beq_iff_eq.mpr c4
      have c4b1 : (a0_1 != a1_1) = false := bne_eq_false_iff_eq.mpr c4
      clear c4
      obtain ⟨t139, A50, H⟩ := Option.bind_eq_some_iff.mp H
      try dsimp only at H
      have A5 := Aside0.mk A50
      clear A50
      by_cases c6 : t139 = true
      · subst c6
        rw [if_pos rfl] at H
        obtain rfl := Option.some.inj H
        go_enter Try.func15, Try.ntmps15
        go_wp2_with (first | ((with_reducible refine gate_dst (N := 2) rfl ?_); refine box_event ?hg (N := 2) ?hd (cs := #[.int .i64 a0_0, .int .i64 a0_1, .int .i64 a0_2, .string a0_3, .slice A0_4 l0_4.length c0_4, .string a0_5]) (t := 31) ?hr ?_; (case hd => rfl); (case hg => rfl); (case hr => first | (go_simp; done) | (go_simp; rfl)); intro gb137 hg w7 hbox hb; have BK137 := Aside0.mk (hbox); have GW137 := Aside0.mk ((by rw [hg]; exact (below_size (bI HB.out)) : w.heap.size ≤ gb137)); have GJ137 := GeI.mk GW137.out; have GE137 := Aside0.mk ((by rw [hg]; exact (below_size (bI HB.out)) : w.heap.size ≤ gb137)); have GI137 := GeI.mk GE137.out; replace HB := Aside0.mk (below_step (bI HB.out) hb); clear hb hbox hg) | ((with_reducible refine gate_dst (N := 3) rfl ?_); refine box_event ?hg (N := 3) ?hd (cs := #[.int .i64 a1_0, .int .i64 a1_1, .int .i64 a1_2, .string a1_3, .slice A1_4 l1_4.length c1_4, .string a1_5]) (t := 31) ?hr ?_; (case hd => rfl); (case hg => rfl); (case hr => first | (go_simp; done) | (go_simp; rfl)); intro gb138 hg w8 hbox hb; have BK138 := Aside0.mk (hbox); have GW138 := Aside0.mk ((by rw [hg]; exact (below_size (bI HB.out)) : w.heap.size ≤ gb138)); have GJ138 := GeI.mk GW138.out; have GE138 := Aside0.mk ((by rw [hg]; exact (below_size (bI HB.out)) : w.heap.size ≤ gb138)); have GI138 := GeI.mk GE138.out; replace HB := Aside0.mk (below_step (bI HB.out) hb); have NB137_138 := Aside0.mk ((by rw [hg]; exact Nat.ne_of_lt (blk_lt (g := gb137) (o := .cells #[.int .i64 a0_0, .int .i64 a0_1, .int .i64 a0_2, .string a0_3, .slice A0_4 l0_4.length c0_4, .string a0_5] 31 (0, 0)) (kI BK137.out)) : gb137 ≠ gb138)); have NI137_138 := NeI.mk NB137_138.out; have NB138_137 := Aside0.mk ((by rw [hg]; exact Nat.ne_of_gt (blk_lt (g := gb137) (o := .cells #[.int .i64 a0_0, .int .i64 a0_1, .int .i64 a0_2, .string a0_3, .slice A0_4 l0_4.length c0_4, .string a0_5] 31 (0, 0)) (kI BK137.out)) : gb138 ≠ gb137)); have NI138_137 := NeI.mk NB138_137.out; replace BK137 := Aside0.mk (blk_below (g := gb137) (o := .cells #[.int .i64 a0_0, .int .i64 a0_1, .int .i64 a0_2, .string a0_3, .slice A0_4 l0_4.length c0_4, .string a0_5] 31 (0, 0)) (kI BK137.out) hb); clear hb hbox hg; have hnb9 := NB137_138.out; have hnc9 := NB138_137.out; have hcz10_0 := bc0 BK137.out; have hcz10_1 := bc1 BK137.out; have hcz10_2 := bc2 BK137.out; have hcz10_3 := bc3 BK137.out; have hcz10_4 := bc4 BK137.out; have hcz10_5 := bc5 BK137.out; have hfz10_0 := blk_frozen BK137.out 0; have hfz10_1 := blk_frozen BK137.out 1; have hfz10_2 := blk_frozen BK137.out 2; have hfz10_3 := blk_frozen BK137.out 3; have hfz10_4 := blk_frozen BK137.out 4; have hfz10_5 := blk_frozen BK137.out 5; have hcz11_0 := bc0 BK138.out; have hcz11_1 := bc1 BK138.out; have hcz11_2 := bc2 BK138.out; have hcz11_3 := bc3 BK138.out; have hcz11_4 := bc4 BK138.out; have hcz11_5 := bc5 BK138.out; have hfz11_0 := blk_frozen BK138.out 0; have hfz11_1 := blk_frozen BK138.out 1; have hfz11_2 := blk_frozen BK138.out 2; have hfz11_3 := blk_frozen BK138.out 3; have hfz11_4 := blk_frozen BK138.out 4; have hfz11_5 := blk_frozen BK138.out 5) | (go_at_call 67; (with_reducible refine (impl_QcSame.calls k a0_2 a0_3 _ _ l0_4 a1_2 a1_3 _ _ l1_4 true _ ?side1 ?side2 ?side3 ?side4 A5.out).mono ?_); (case side1 => exact cI (Kd.C_below HR0_4.out HB.out)); (case side2 => exact HC0_4.out); (case side3 => exact cI (Kd.C_below HR1_4.out HB.out)); (case side4 => exact HC1_4.out); rintro e w12 ⟨rfl, hb⟩; replace BK137 := Aside0.mk (blk_below (g := gb137) (o := .cells #[.int .i64 a0_0, .int .i64 a0_1, .int .i64 a0_2, .string a0_3, .slice A0_4 l0_4.length c0_4, .string a0_5] 31 (0, 0)) (kI BK137.out) hb); replace BK138 := Aside0.mk (blk_below (g := gb138) (o := .cells #[.int .i64 a1_0, .int .i64 a1_1, .int .i64 a1_2, .string a1_3, .slice A1_4 l1_4.length c1_4, .string a1_5] 31 (0, 0)) (kI BK138.out) hb); replace HB := Aside0.mk (below_step (bI HB.out) hb); (try clear hb); (try clear hb2); (try clear hk); (try clear hi); have hcz13_0 := bc0 BK137.out; have hcz13_1 := bc1 BK137.out; have hcz13_2 := bc2 BK137.out; have hcz13_3 := bc3 BK137.out; have hcz13_4 := bc4 BK137.out; have hcz13_5 := bc5 BK137.out; have hfz13_0 := blk_frozen BK137.out 0; have hfz13_1 := blk_frozen BK137.out 1; have hfz13_2 := blk_frozen BK137.out 2; have hfz13_3 := blk_frozen BK137.out 3; have hfz13_4 := blk_frozen BK137.out 4; have hfz13_5 := blk_frozen BK137.out 5; have hcz14_0 := bc0 BK138.out; have hcz14_1 := bc1 BK138.out; have hcz14_2 := bc2 BK138.out; have hcz14_3 := bc3 BK138.out; have hcz14_4 := bc4 BK138.out; have hcz14_5 := bc5 BK138.out; have hfz14_0 := blk_frozen BK138.out 0; have hfz14_1 := blk_frozen BK138.out 1; have hfz14_2 := blk_frozen BK138.out 2; have hfz14_3 := blk_frozen BK138.out 3; have hfz14_4 := blk_frozen BK138.out 4; have hfz14_5 := blk_frozen BK138.out 5))
        go_ret
        exact ⟨by first | rfl | (simp [errW_none, errW_some] <;> rfl) | (simp [*, errW_none, errW_some] <;> rfl), bI HB.out⟩
      · replace c6 := Bool.eq_false_iff.mpr c6
        subst c6
        rw [if_neg (show ¬ (false = true) by decide)] at H
        obtain rfl := Option.some.inj H
        go_enter Try.func15, Try.ntmps15
        go_wp2_with (first | ((with_reducible refine gate_dst (N := 2) rfl ?_); refine box_event ?hg (N := 2) ?hd (cs := #[.int .i64 a0_0, .int .i64 a0_1, .int .i64 a0_2, .string a0_3, .slice A0_4 l0_4.length c0_4, .string a0_5]) (t := 31) ?hr ?_; (case hd => rfl); (case hg => rfl); (case hr => first | (go_simp; done) | (go_simp; rfl)); intro gb137 hg w15 hbox hb; have BK137 := Aside0.mk (hbox); have GW137 := Aside0.mk ((by rw [hg]; exact (below_size (bI HB.out)) : w.heap.size ≤ gb137)); have GJ137 := GeI.mk GW137.out; have GE137 := Aside0.mk ((by rw [hg]; exact (below_size (bI HB.out)) : w.heap.size ≤ gb137)); have GI137 := GeI.mk GE137.out; replace HB := Aside0.mk (below_step (bI HB.out) hb); clear hb hbox hg) | ((with_reducible refine gate_dst (N := 3) rfl ?_); refine box_event ?hg (N := 3) ?hd (cs := #[.int .i64 a1_0, .int .i64 a1_1, .int .i64 a1_2, .string a1_3, .slice A1_4 l1_4.length c1_4, .string a1_5]) (t := 31) ?hr ?_; (case hd => rfl); (case hg => rfl); (case hr => first | (go_simp; done) | (go_simp; rfl)); intro gb138 hg w16 hbox hb; have BK138 := Aside0.mk (hbox); have GW138 := Aside0.mk ((by rw [hg]; exact (below_size (bI HB.out)) : w.heap.size ≤ gb138)); have GJ138 := GeI.mk GW138.out; have GE138 := Aside0.mk ((by rw [hg]; exact (below_size (bI HB.out)) : w.heap.size ≤ gb138)); have GI138 := GeI.mk GE138.out; replace HB := Aside0.mk (below_step (bI HB.out) hb); have NB137_138 := Aside0.mk ((by rw [hg]; exact Nat.ne_of_lt (blk_lt (g := gb137) (o := .cells #[.int .i64 a0_0, .int .i64 a0_1, .int .i64 a0_2, .string a0_3, .slice A0_4 l0_4.length c0_4, .string a0_5] 31 (0, 0)) (kI BK137.out)) : gb137 ≠ gb138)); have NI137_138 := NeI.mk NB137_138.out; have NB138_137 := Aside0.mk ((by rw [hg]; exact Nat.ne_of_gt (blk_lt (g := gb137) (o := .cells #[.int .i64 a0_0, .int .i64 a0_1, .int .i64 a0_2, .string a0_3, .slice A0_4 l0_4.length c0_4, .string a0_5] 31 (0, 0)) (kI BK137.out)) : gb138 ≠ gb137)); have NI138_137 := NeI.mk NB138_137.out; replace BK137 := Aside0.mk (blk_below (g := gb137) (o := .cells #[.int .i64 a0_0, .int .i64 a0_1, .int .i64 a0_2, .string a0_3, .slice A0_4 l0_4.length c0_4, .string a0_5] 31 (0, 0)) (kI BK137.out) hb); clear hb hbox hg; have hnb17 := NB137_138.out; have hnc17 := NB138_137.out; have hcz18_0 := bc0 BK137.out; have hcz18_1 := bc1 BK137.out; have hcz18_2 := bc2 BK137.out; have hcz18_3 := bc3 BK137.out; have hcz18_4 := bc4 BK137.out; have hcz18_5 := bc5 BK137.out; have hfz18_0 := blk_frozen BK137.out 0; have hfz18_1 := blk_frozen BK137.out 1; have hfz18_2 := blk_frozen BK137.out 2; have hfz18_3 := blk_frozen BK137.out 3; have hfz18_4 := blk_frozen BK137.out 4; have hfz18_5 := blk_frozen BK137.out 5; have hcz19_0 := bc0 BK138.out; have hcz19_1 := bc1 BK138.out; have hcz19_2 := bc2 BK138.out; have hcz19_3 := bc3 BK138.out; have hcz19_4 := bc4 BK138.out; have hcz19_5 := bc5 BK138.out; have hfz19_0 := blk_frozen BK138.out 0; have hfz19_1 := blk_frozen BK138.out 1; have hfz19_2 := blk_frozen BK138.out 2; have hfz19_3 := blk_frozen BK138.out 3; have hfz19_4 := blk_frozen BK138.out 4; have hfz19_5 := blk_frozen BK138.out 5) | (go_at_call 67; (with_reducible refine (impl_QcSame.calls k a0_2 a0_3 _ _ l0_4 a1_2 a1_3 _ _ l1_4 false _ ?side1 ?side2 ?side3 ?side4 A5.out).mono ?_); (case side1 => exact cI (Kd.C_below HR0_4.out HB.out)); (case side2 => exact HC0_4.out); (case side3 => exact cI (Kd.C_below HR1_4.out HB.out)); (case side4 => exact HC1_4.out); rintro e w20 ⟨rfl, hb⟩; replace BK137 := Aside0.mk (blk_below (g := gb137) (o := .cells #[.int .i64 a0_0, .int .i64 a0_1, .int .i64 a0_2, .string a0_3, .slice A0_4 l0_4.length c0_4, .string a0_5] 31 (0, 0)) (kI BK137.out) hb); replace BK138 := Aside0.mk (blk_below (g := gb138) (o := .cells #[.int .i64 a1_0, .int .i64 a1_1, .int .i64 a1_2, .string a1_3, .slice A1_4 l1_4.length c1_4, .string a1_5] 31 (0, 0)) (kI BK138.out) hb); replace HB := Aside0.mk (below_step (bI HB.out) hb); (try clear hb); (try clear hb2); (try clear hk); (try clear hi)))
        go_ret
        exact ⟨by first | rfl | (simp [errW_none, errW_some] <;> rfl) | (simp [*, errW_none, errW_some] <;> rfl), bI HB.out⟩
    · rw [if_neg c4] at H
      have c4b0 : (a0_1 == a1_1) = false := beq_eq_false_iff_ne.mpr c4
      have c4b1 : (a0_1 != a1_1) = true := bne_iff_ne.mpr c4
      obtain rfl := Option.some.inj H
      go_enter Try.func15, Try.ntmps15
      go_wp2_with (first | ((with_reducible refine gate_dst (N := 2) rfl ?_); refine box_event ?hg (N := 2) ?hd (cs := #[.int .i64 a0_0, .int .i64 a0_1, .int .i64 a0_2, .string a0_3, .slice A0_4 l0_4.length c0_4, .string a0_5]) (t := 31) ?hr ?_; (case hd => rfl); (case hg => rfl); (case hr => first | (go_simp; done) | (go_simp; rfl)); intro gb137 hg w21 hbox hb; have BK137 := Aside0.mk (hbox); have GW137 := Aside0.mk ((by rw [hg]; exact (below_size (bI HB.out)) : w.heap.size ≤ gb137)); have GJ137 := GeI.mk GW137.out; have GE137 := Aside0.mk ((by rw [hg]; exact (below_size (bI HB.out)) : w.heap.size ≤ gb137)); have GI137 := GeI.mk GE137.out; replace HB := Aside0.mk (below_step (bI HB.out) hb); clear hb hbox hg) | ((with_reducible refine gate_dst (N := 3) rfl ?_); refine box_event ?hg (N := 3) ?hd (cs := #[.int .i64 a1_0, .int .i64 a1_1, .int .i64 a1_2, .string a1_3, .slice A1_4 l1_4.length c1_4, .string a1_5]) (t := 31) ?hr ?_; (case hd => rfl); (case hg => rfl); (case hr => first | (go_simp; done) | (go_simp; rfl)); intro gb138 hg w22 hbox hb; have BK138 := Aside0.mk (hbox); have GW138 := Aside0.mk ((by rw [hg]; exact (below_size (bI HB.out)) : w.heap.size ≤ gb138)); have GJ138 := GeI.mk GW138.out; have GE138 := Aside0.mk ((by rw [hg]; exact (below_size (bI HB.out)) : w.heap.size ≤ gb138)); have GI138 := GeI.mk GE138.out; replace HB := Aside0.mk (below_step (bI HB.out) hb); have NB137_138 := Aside0.mk ((by rw [hg]; exact Nat.ne_of_lt (blk_lt (g := gb137) (o := .cells #[.int .i64 a0_0, .int .i64 a0_1, .int .i64 a0_2, .string a0_3, .slice A0_4 l0_4.length c0_4, .string a0_5] 31 (0, 0)) (kI BK137.out)) : gb137 ≠ gb138)); have NI137_138 := NeI.mk NB137_138.out; have NB138_137 := Aside0.mk ((by rw [hg]; exact Nat.ne_of_gt (blk_lt (g := gb137) (o := .cells #[.int .i64 a0_0, .int .i64 a0_1, .int .i64 a0_2, .string a0_3, .slice A0_4 l0_4.length c0_4, .string a0_5] 31 (0, 0)) (kI BK137.out)) : gb138 ≠ gb137)); have NI138_137 := NeI.mk NB138_137.out; replace BK137 := Aside0.mk (blk_below (g := gb137) (o := .cells #[.int .i64 a0_0, .int .i64 a0_1, .int .i64 a0_2, .string a0_3, .slice A0_4 l0_4.length c0_4, .string a0_5] 31 (0, 0)) (kI BK137.out) hb); clear hb hbox hg; have hnb23 := NB137_138.out; have hnc23 := NB138_137.out; have hcz24_0 := bc0 BK137.out; have hcz24_1 := bc1 BK137.out; have hcz24_2 := bc2 BK137.out; have hcz24_3 := bc3 BK137.out; have hcz24_4 := bc4 BK137.out; have hcz24_5 := bc5 BK137.out; have hfz24_0 := blk_frozen BK137.out 0; have hfz24_1 := blk_frozen BK137.out 1; have hfz24_2 := blk_frozen BK137.out 2; have hfz24_3 := blk_frozen BK137.out 3; have hfz24_4 := blk_frozen BK137.out 4; have hfz24_5 := blk_frozen BK137.out 5; have hcz25_0 := bc0 BK138.out; have hcz25_1 := bc1 BK138.out; have hcz25_2 := bc2 BK138.out; have hcz25_3 := bc3 BK138.out; have hcz25_4 := bc4 BK138.out; have hcz25_5 := bc5 BK138.out; have hfz25_0 := blk_frozen BK138.out 0; have hfz25_1 := blk_frozen BK138.out 1; have hfz25_2 := blk_frozen BK138.out 2; have hfz25_3 := blk_frozen BK138.out 3; have hfz25_4 := blk_frozen BK138.out 4; have hfz25_5 := blk_frozen BK138.out 5))
      go_ret
      exact ⟨by first | rfl | (simp [errW_none, errW_some] <;> rfl) | (simp [*, errW_none, errW_some] <;> rfl), bI HB.out⟩
  · rw [if_neg c3] at H
    have c3b0 : (a0_0 == a1_0) = false := beq_eq_false_iff_ne.mpr c3
    have c3b1 : (a0_0 != a1_0) = true := bne_iff_ne.mpr c3
    obtain rfl := Option.some.inj H
    go_enter Try.func15, Try.ntmps15
    go_wp2_with (first | ((with_reducible refine gate_dst (N := 2) rfl ?_); refine box_event ?hg (N := 2) ?hd (cs := #[.int .i64 a0_0, .int .i64 a0_1, .int .i64 a0_2, .string a0_3, .slice A0_4 l0_4.length c0_4, .string a0_5]) (t := 31) ?hr ?_; (case hd => rfl); (case hg => rfl); (case hr => first | (go_simp; done) | (go_simp; rfl)); intro gb137 hg w26 hbox hb; have BK137 := Aside0.mk (hbox); have GW137 := Aside0.mk ((by rw [hg]; exact (below_size (bI HB.out)) : w.heap.size ≤ gb137)); have GJ137 := GeI.mk GW137.out; have GE137 := Aside0.mk ((by rw [hg]; exact (below_size (bI HB.out)) : w.heap.size ≤ gb137)); have GI137 := GeI.mk GE137.out; replace HB := Aside0.mk (below_step (bI HB.out) hb); clear hb hbox hg) | ((with_reducible refine gate_dst (N := 3) rfl ?_); refine box_event ?hg (N := 3) ?hd (cs := #[.int .i64 a1_0, .int .i64 a1_1, .int .i64 a1_2, .string a1_3, .slice A1_4 l1_4.length c1_4, .string a1_5]) (t := 31) ?hr ?_; (case hd => rfl); (case hg => rfl); (case hr => first | (go_simp; done) | (go_simp; rfl)); intro gb138 hg w27 hbox hb; have BK138 := Aside0.mk (hbox); have GW138 := Aside0.mk ((by rw [hg]; exact (below_size (bI HB.out)) : w.heap.size ≤ gb138)); have GJ138 := GeI.mk GW138.out; have GE138 := Aside0.mk ((by rw [hg]; exact (below_size (bI HB.out)) : w.heap.size ≤ gb138)); have GI138 := GeI.mk GE138.out; replace HB := Aside0.mk (below_step (bI HB.out) hb); have NB137_138 := Aside0.mk ((by rw [hg]; exact Nat.ne_of_lt (blk_lt (g := gb137) (o := .cells #[.int .i64 a0_0, .int .i64 a0_1, .int .i64 a0_2, .string a0_3, .slice A0_4 l0_4.length c0_4, .string a0_5] 31 (0, 0)) (kI BK137.out)) : gb137 ≠ gb138)); have NI137_138 := NeI.mk NB137_138.out; have NB138_137 := Aside0.mk ((by rw [hg]; exact Nat.ne_of_gt (blk_lt (g := gb137) (o := .cells #[.int .i64 a0_0, .int .i64 a0_1, .int .i64 a0_2, .string a0_3, .slice A0_4 l0_4.length c0_4, .string a0_5] 31 (0, 0)) (kI BK137.out)) : gb138 ≠ gb137)); have NI138_137 := NeI.mk NB138_137.out; replace BK137 := Aside0.mk (blk_below (g := gb137) (o := .cells #[.int .i64 a0_0, .int .i64 a0_1, .int .i64 a0_2, .string a0_3, .slice A0_4 l0_4.length c0_4, .string a0_5] 31 (0, 0)) (kI BK137.out) hb); clear hb hbox hg; have hnb28 := NB137_138.out; have hnc28 := NB138_137.out; have hcz29_0 := bc0 BK137.out; have hcz29_1 := bc1 BK137.out; have hcz29_2 := bc2 BK137.out; have hcz29_3 := bc3 BK137.out; have hcz29_4 := bc4 BK137.out; have hcz29_5 := bc5 BK137.out; have hfz29_0 := blk_frozen BK137.out 0; have hfz29_1 := blk_frozen BK137.out 1; have hfz29_2 := blk_frozen BK137.out 2; have hfz29_3 := blk_frozen BK137.out 3; have hfz29_4 := blk_frozen BK137.out 4; have hfz29_5 := blk_frozen BK137.out 5; have hcz30_0 := bc0 BK138.out; have hcz30_1 := bc1 BK138.out; have hcz30_2 := bc2 BK138.out; have hcz30_3 := bc3 BK138.out; have hcz30_4 := bc4 BK138.out; have hcz30_5 := bc5 BK138.out; have hfz30_0 := blk_frozen BK138.out 0; have hfz30_1 := blk_frozen BK138.out 1; have hfz30_2 := blk_frozen BK138.out 2; have hfz30_3 := blk_frozen BK138.out 3; have hfz30_4 := blk_frozen BK138.out 4; have hfz30_5 := blk_frozen BK138.out 5))
    go_ret
    exact ⟨by first | rfl | (simp [errW_none, errW_some] <;> rfl) | (simp [*, errW_none, errW_some] <;> rfl), bI HB.out⟩

/-! ### laws_eqIntS: function 20 -/
def laws_eqIntS.l0 : Nat → List Int → List Int → Int → Option (Bool)
  | 0, _, _, _ => none
  | k + 1, x0, x1, x5 => if x5 < (x0.length : Int) then (if 0 ≤ x5 then (if x5 < (x1.length : Int) then (if (rd x0 x5) = (rd x1 x5) then (laws_eqIntS.l0 k x0 x1 (wrap64 (x5 + 1))) else (some false)) else (none)) else (none)) else (some true)
def laws_eqIntS.f (k : Nat) (l0 : List Int) (l1 : List Int) : Option (Bool) := if (l0.length : Int) = (l1.length : Int) then (laws_eqIntS.l0 k l0 l1 0) else (some false)
theorem laws_eqIntS.mono_l : ∀ k, (∀ y0 y1 y2, LeO (laws_eqIntS.l0 k y0 y1 y2) (laws_eqIntS.l0 (k + 1) y0 y1 y2))
  | 0 => fun _ _ _ r h => by simp [laws_eqIntS.l0] at h
  | k + 1 => by
    have ih0 := laws_eqIntS.mono_l k
    · intro y0 y1 y2
      unfold laws_eqIntS.l0
      repeat' first
      | (with_reducible exact ih0 _ _ _)
      | (with_reducible exact LeO.refl _)
      | (with_reducible exact LeO.none _)
      | (with_reducible refine LeO.ite ?_ ?_)
      | (with_reducible refine LeO.bind ?_ (fun _ => ?_))
      | exact ih0 _ _ _
      | exact LeO.none _
      | refine LeO.ite ?_ ?_
      | refine LeO.bind ?_ (fun _ => ?_)
theorem laws_eqIntS.mono : ∀ a0 a1 k, LeO (laws_eqIntS.f k a0 a1) (laws_eqIntS.f (k + 1) a0 a1) := by
  intro a0 a1 k
  have ih0 := laws_eqIntS.mono_l k
  unfold laws_eqIntS.f
  repeat' first
      | (with_reducible exact ih0 _ _ _)
      | (with_reducible exact LeO.refl _)
      | (with_reducible exact LeO.none _)
      | (with_reducible refine LeO.ite ?_ ?_)
      | (with_reducible refine LeO.bind ?_ (fun _ => ?_))
      | exact ih0 _ _ _
      | exact LeO.none _
      | refine LeO.ite ?_ ?_
      | refine LeO.bind ?_ (fun _ => ?_)
set_option maxHeartbeats 8000000 in
set_option maxRecDepth 100000 in
theorem laws_eqIntS.calls (k : Nat) (A0 : Option Addr) (c0 : Nat) (l0 : List Int) (A1 : Option Addr) (c1 : Nat) (l1 : List Int) (r : Bool) (w : World) (hr0 : Kd.C (Kd.int .i64) w A0 l0.length l0) (hc0 : l0.length ≤ c0) (hr1 : Kd.C (Kd.int .i64) w A1 l1.length l1) (hc1 : l1.length ≤ c1) (h : laws_eqIntS.f k l0 l1 = some r) :
    Calls Try.prog 20 #[.slice A0 l0.length c0, .slice A1 l1.length c1] w fun e w' => e = .returned (.bool r) ∧ Drawn0 w w' := by
  have HR0 := Aside0.mk hr0
  have HC0 := Aside0.mk hc0
  clear hr0 hc0
  have HR1 := Aside0.mk hr1
  have HC1 := Aside0.mk hc1
  clear hr1 hc1
  have H : (if (l0.length : Int) = (l1.length : Int) then (laws_eqIntS.l0 k l0 l1 0) else (some false)) = some r := h
  clear h
  by_cases c3 : (l0.length : Int) = (l1.length : Int)
  · rw [if_pos c3] at H
    have c3b0 : ((l0.length : Int) == (l1.length : Int)) = true := beq_iff_eq.mpr c3
    have c3b1 : ((l0.length : Int) != (l1.length : Int)) = false := bne_eq_false_iff_eq.mpr c3
    have c3b2 : (l0.length == l1.length) = true := by first | simpa using c3 | (simp at c3 ⊢; omega)
    clear c3
    have H' := Aside0.mk H
    clear H
    go_enter Try.func20, Try.ntmps20
    go_wp2
    repeat (go_quiet (fail); try go_wp2)
    go_loopg [5] k (fun kq v5 w' => ∃ (x5_1 : Int), v5 = .int .i64 x5_1 ∧ Aside0 (laws_eqIntS.l0 kq l0 l1 x5_1 = some r) ∧ Aside0 (kq ≤ k) ∧ Drawn0 w w')
    case atStart => exact ⟨(0), (by first | rfl | (simp; done) | (simp [*]; done)), H', ⟨Nat.le_refl _⟩, by repeat (first | exact Drawn0.refl _ | apply Drawn0.step)⟩
    case round =>
      clear H'
      try clear c1
      try clear c2
      try clear p2
      try clear c3
      try clear c3b0
      try clear c3b1
      try clear c3b2
      obtain ⟨x5_1, rfl, HA, HK1, ⟨m1, rfl⟩⟩ := hrel
      cases gk with
      | zero => exact absurd HA.out (by simp [laws_eqIntS.l0])
      | succ k1 =>
        have H := HA.out
        clear HA
        simp only [laws_eqIntS.l0] at H
        by_cases c4 : x5_1 < (l0.length : Int)
        · rw [if_pos c4] at H
          have c4b0 : decide (x5_1 < (l0.length : Int)) = true := decide_eq_true c4
          clear c4
          by_cases c5 : 0 ≤ x5_1
          rotate_left
          · rw [if_neg c5] at H
            exact absurd H (by simp)
          rw [if_pos c5] at H
          have c5b0 : decide (0 ≤ x5_1) = true := decide_eq_true c5
          clear c5
          by_cases c6 : x5_1 < (l1.length : Int)
          rotate_left
          · rw [if_neg c6] at H
            exact absurd H (by simp)
          rw [if_pos c6] at H
          have c6b0 : decide (x5_1 < (l1.length : Int)) = true := decide_eq_true c6
          clear c6
          by_cases c7 : (rd l0 x5_1) = (rd l1 x5_1)
          · rw [if_pos c7] at H
            have c7b0 : ((rd l0 x5_1) == (rd l1 x5_1)) = true := beq_iff_eq.mpr c7
            have c7b1 : ((rd l0 x5_1) != (rd l1 x5_1)) = false := bne_eq_false_iff_eq.mpr c7
            clear c7
            have H' := Aside0.mk H
            clear H
            have p140 : 0 ≤ (x5_1 : Int) := of_decide_eq_true (by first | (with_reducible assumption) | assumption)
            have q140 : x5_1 < (l0.length : Int) := of_decide_eq_true (by first | (with_reducible assumption) | assumption)
            obtain ⟨ad140, e140, hx140_0⟩ := Kd.at_int HR0.out x5_1 p140 q140
            cases e140
            replace p140 := eq_true p140
            replace q140 := eq_true q140
            have p141 : 0 ≤ (x5_1 : Int) := of_decide_eq_true (by first | (with_reducible assumption) | assumption)
            have q141 : x5_1 < (l1.length : Int) := of_decide_eq_true (by first | (with_reducible assumption) | assumption)
            obtain ⟨ad141, e141, hx141_0⟩ := Kd.at_int HR1.out x5_1 p141 q141
            cases e141
            replace p141 := eq_true p141
            replace q141 := eq_true q141
            go_wp2
            repeat (go_quiet (fail); try go_wp2)
            go_roundg k1
            case measure => have := HK1.out; omega
            case rel => exact ⟨(wrap64 (x5_1 + 1)), (by first | rfl | (simp; done) | (simp [*]; done)), H', ⟨by have := HK1.out; omega⟩, by repeat (first | exact Drawn0.refl _ | apply Drawn0.step)⟩
          · rw [if_neg c7] at H
            have c7b0 : ((rd l0 x5_1) == (rd l1 x5_1)) = false := beq_eq_false_iff_ne.mpr c7
            have c7b1 : ((rd l0 x5_1) != (rd l1 x5_1)) = true := bne_iff_ne.mpr c7
            obtain rfl := Option.some.inj H
            have p140 : 0 ≤ (x5_1 : Int) := of_decide_eq_true (by first | (with_reducible assumption) | assumption)
            have q140 : x5_1 < (l0.length : Int) := of_decide_eq_true (by first | (with_reducible assumption) | assumption)
            obtain ⟨ad140, e140, hx140_0⟩ := Kd.at_int HR0.out x5_1 p140 q140
            cases e140
            replace p140 := eq_true p140
            replace q140 := eq_true q140
            have p141 : 0 ≤ (x5_1 : Int) := of_decide_eq_true (by first | (with_reducible assumption) | assumption)
            have q141 : x5_1 < (l1.length : Int) := of_decide_eq_true (by first | (with_reducible assumption) | assumption)
            obtain ⟨ad141, e141, hx141_0⟩ := Kd.at_int HR1.out x5_1 p141 q141
            cases e141
            replace p141 := eq_true p141
            replace q141 := eq_true q141
            go_wp2
            repeat (go_quiet (fail); try go_wp2)
            go_ret
            exact ⟨by first | rfl | (simp; done) | (simp [*]; done), by repeat (first | exact Drawn0.refl _ | apply Drawn0.step)⟩
        · rw [if_neg c4] at H
          have c4b0 : decide (x5_1 < (l0.length : Int)) = false := decide_eq_false c4
          clear c4
          obtain rfl := Option.some.inj H
          go_wp2
          repeat (go_quiet (fail); try go_wp2)
          go_ret
          exact ⟨by first | rfl | (simp; done) | (simp [*]; done), by repeat (first | exact Drawn0.refl _ | apply Drawn0.step)⟩
  · rw [if_neg c3] at H
    have c3b0 : ((l0.length : Int) == (l1.length : Int)) = false := beq_eq_false_iff_ne.mpr c3
    have c3b1 : ((l0.length : Int) != (l1.length : Int)) = true := bne_iff_ne.mpr c3
    have c3b2 : (l0.length == l1.length) = false := by first | simpa using c3 | (simp at c3 ⊢; omega)
    obtain rfl := Option.some.inj H
    go_enter Try.func20, Try.ntmps20
    go_wp2
    repeat (go_quiet (fail); try go_wp2)
    go_ret
    exact ⟨by first | rfl | (simp; done) | (simp [*]; done), by repeat (first | exact Drawn0.refl _ | apply Drawn0.step)⟩

/-! ### laws_eqQc: function 68 -/
def laws_eqQc.f (k : Nat) (a0_0 : Int) (a0_1 : ByteArray) (l0_2 : List Int) (a1_0 : Int) (a1_1 : ByteArray) (l1_2 : List Int) : Option (Bool) := if a0_0 = a1_0 then (if a0_1.toList = a1_1.toList then ((laws_eqIntS.f k l0_2 l1_2).bind fun t144 => (if t144 = true then (some true) else (some false))) else (some false)) else (some false)
theorem laws_eqQc.mono : ∀ a0 a1 a2 a3 a4 a5 k, LeO (laws_eqQc.f k a0 a1 a2 a3 a4 a5) (laws_eqQc.f (k + 1) a0 a1 a2 a3 a4 a5) := by
  intro a0 a1 a2 a3 a4 a5 k
  unfold laws_eqQc.f
  repeat' first
      | (with_reducible exact laws_eqIntS.mono _ _ _)
      | (with_reducible exact LeO.refl _)
      | (with_reducible exact LeO.none _)
      | (with_reducible refine LeO.ite ?_ ?_)
      | (with_reducible refine LeO.bind ?_ (fun _ => ?_))
      | exact laws_eqIntS.mono _ _ _
      | exact LeO.none _
      | refine LeO.ite ?_ ?_
      | refine LeO.bind ?_ (fun _ => ?_)
set_option maxHeartbeats 8000000 in
set_option maxRecDepth 100000 in
theorem laws_eqQc.calls (k : Nat) (a0_0 : Int) (a0_1 : ByteArray) (A0_2 : Option Addr) (c0_2 : Nat) (l0_2 : List Int) (a1_0 : Int) (a1_1 : ByteArray) (A1_2 : Option Addr) (c1_2 : Nat) (l1_2 : List Int) (r : Bool) (w : World) (hr0_2 : Kd.C (Kd.int .i64) w A0_2 l0_2.length l0_2) (hc0_2 : l0_2.length ≤ c0_2) (hr1_2 : Kd.C (Kd.int .i64) w A1_2 l1_2.length l1_2) (hc1_2 : l1_2.length ≤ c1_2) (h : laws_eqQc.f k a0_0 a0_1 l0_2 a1_0 a1_1 l1_2 = some r) :
    Calls Try.prog 68 #[.agg #[.int .i64 a0_0, .string a0_1, .slice A0_2 l0_2.length c0_2], .agg #[.int .i64 a1_0, .string a1_1, .slice A1_2 l1_2.length c1_2]] w fun e w' => e = .returned (.bool r) ∧ Below w.heap.size w w' := by
  have hu29 := Try.underlying29
  have HR0_2 := Aside0.mk hr0_2
  have HC0_2 := Aside0.mk hc0_2
  clear hr0_2 hc0_2
  have HR1_2 := Aside0.mk hr1_2
  have HC1_2 := Aside0.mk hc1_2
  clear hr1_2 hc1_2
  have HB := Aside0.mk (Below.refl w.heap.size w)
  have H : (if a0_0 = a1_0 then (if a0_1.toList = a1_1.toList then ((laws_eqIntS.f k l0_2 l1_2).bind fun t144 => (if t144 = true then (some true) else (some false))) else (some false)) else (some false)) = some r := h
  clear h
  by_cases c3 : a0_0 = a1_0
  · rw [if_pos c3] at H
    have c3b0 : (a0_0 == a1_0) = true := beq_iff_eq.mpr c3
    have c3b1 : (a0_0 != a1_0) = false := bne_eq_false_iff_eq.mpr c3
    clear c3
    by_cases c4 : a0_1.toList = a1_1.toList
    · rw [if_pos c4] at H
      have c4b0 : (a0_1.toList == a1_1.toList) = true := beq_iff_eq.mpr c4
      have c4b1 : (a0_1.toList != a1_1.toList) = false := bne_eq_false_iff_eq.mpr c4
      clear c4
      obtain ⟨t144, A50, H⟩ := Option.bind_eq_some_iff.mp H
      try dsimp only at H
      have A5 := Aside0.mk A50
      clear A50
      by_cases c6 : t144 = true
      · subst c6
        rw [if_pos rfl] at H
        obtain rfl := Option.some.inj H
        go_enter Try.func68, Try.ntmps68
        go_wp2_with (first | ((with_reducible refine gate_dst (N := 2) rfl ?_); refine box_event ?hg (N := 2) ?hd (cs := #[.int .i64 a0_0, .string a0_1, .slice A0_2 l0_2.length c0_2]) (t := 29) ?hr ?_; (case hd => rfl); (case hg => rfl); (case hr => first | (go_simp; done) | (go_simp; rfl)); intro gb142 hg w7 hbox hb; have BK142 := Aside0.mk (hbox); have GW142 := Aside0.mk ((by rw [hg]; exact (below_size (bI HB.out)) : w.heap.size ≤ gb142)); have GJ142 := GeI.mk GW142.out; have GE142 := Aside0.mk ((by rw [hg]; exact (below_size (bI HB.out)) : w.heap.size ≤ gb142)); have GI142 := GeI.mk GE142.out; replace HB := Aside0.mk (below_step (bI HB.out) hb); clear hb hbox hg) | ((with_reducible refine gate_dst (N := 3) rfl ?_); refine box_event ?hg (N := 3) ?hd (cs := #[.int .i64 a1_0, .string a1_1, .slice A1_2 l1_2.length c1_2]) (t := 29) ?hr ?_; (case hd => rfl); (case hg => rfl); (case hr => first | (go_simp; done) | (go_simp; rfl)); intro gb143 hg w8 hbox hb; have BK143 := Aside0.mk (hbox); have GW143 := Aside0.mk ((by rw [hg]; exact (below_size (bI HB.out)) : w.heap.size ≤ gb143)); have GJ143 := GeI.mk GW143.out; have GE143 := Aside0.mk ((by rw [hg]; exact (below_size (bI HB.out)) : w.heap.size ≤ gb143)); have GI143 := GeI.mk GE143.out; replace HB := Aside0.mk (below_step (bI HB.out) hb); have NB142_143 := Aside0.mk ((by rw [hg]; exact Nat.ne_of_lt (blk_lt (g := gb142) (o := .cells #[.int .i64 a0_0, .string a0_1, .slice A0_2 l0_2.length c0_2] 29 (0, 0)) (kI BK142.out)) : gb142 ≠ gb143)); have NI142_143 := NeI.mk NB142_143.out; have NB143_142 := Aside0.mk ((by rw [hg]; exact Nat.ne_of_gt (blk_lt (g := gb142) (o := .cells #[.int .i64 a0_0, .string a0_1, .slice A0_2 l0_2.length c0_2] 29 (0, 0)) (kI BK142.out)) : gb143 ≠ gb142)); have NI143_142 := NeI.mk NB143_142.out; replace BK142 := Aside0.mk (blk_below (g := gb142) (o := .cells #[.int .i64 a0_0, .string a0_1, .slice A0_2 l0_2.length c0_2] 29 (0, 0)) (kI BK142.out) hb); clear hb hbox hg; have hnb9 := NB142_143.out; have hnc9 := NB143_142.out; have hcz10_0 := bc0 BK142.out; have hcz10_1 := bc1 BK142.out; have hcz10_2 := bc2 BK142.out; have hfz10_0 := blk_frozen BK142.out 0; have hfz10_1 := blk_frozen BK142.out 1; have hfz10_2 := blk_frozen BK142.out 2; have hcz11_0 := bc0 BK143.out; have hcz11_1 := bc1 BK143.out; have hcz11_2 := bc2 BK143.out; have hfz11_0 := blk_frozen BK143.out 0; have hfz11_1 := blk_frozen BK143.out 1; have hfz11_2 := blk_frozen BK143.out 2) | ((with_reducible refine gate_callee (f := 20) rfl ?_); refine goesL_ (some 19) rfl rfl Try.func20 (by kernel_rfl) rfl #[.slice A0_2 l0_2.length c0_2, .slice A1_2 l1_2.length c1_2] rfl (by (try simp only [List.map_toArray, List.map_cons, List.map_nil]); first | done | rfl | (simp only [List.length_drop, List.length_take]; rfl)) ?_; (with_reducible refine (laws_eqIntS.calls k _ _ l0_2 _ _ l1_2 true _ ?side1 ?side2 ?side3 ?side4 A5.out).mono ?_); (case side1 => exact cI (Kd.C_below HR0_2.out HB.out)); (case side2 => exact HC0_2.out); (case side3 => exact cI (Kd.C_below HR1_2.out HB.out)); (case side4 => exact HC1_2.out); rintro e w' ⟨rfl, ⟨nd, rfl⟩⟩; refine ⟨_, rfl, ?_⟩))
        go_ret
        exact ⟨by first | rfl | (simp [errW_none, errW_some] <;> rfl) | (simp [*, errW_none, errW_some] <;> rfl), bI HB.out⟩
      · replace c6 := Bool.eq_false_iff.mpr c6
        subst c6
        rw [if_neg (show ¬ (false = true) by decide)] at H
        obtain rfl := Option.some.inj H
        go_enter Try.func68, Try.ntmps68
        go_wp2_with (first | ((with_reducible refine gate_dst (N := 2) rfl ?_); refine box_event ?hg (N := 2) ?hd (cs := #[.int .i64 a0_0, .string a0_1, .slice A0_2 l0_2.length c0_2]) (t := 29) ?hr ?_; (case hd => rfl); (case hg => rfl); (case hr => first | (go_simp; done) | (go_simp; rfl)); intro gb142 hg w12 hbox hb; have BK142 := Aside0.mk (hbox); have GW142 := Aside0.mk ((by rw [hg]; exact (below_size (bI HB.out)) : w.heap.size ≤ gb142)); have GJ142 := GeI.mk GW142.out; have GE142 := Aside0.mk ((by rw [hg]; exact (below_size (bI HB.out)) : w.heap.size ≤ gb142)); have GI142 := GeI.mk GE142.out; replace HB := Aside0.mk (below_step (bI HB.out) hb); clear hb hbox hg) | ((with_reducible refine gate_dst (N := 3) rfl ?_); refine box_event ?hg (N := 3) ?hd (cs := #[.int .i64 a1_0, .string a1_1, .slice A1_2 l1_2.length c1_2]) (t := 29) ?hr ?_; (case hd => rfl); (case hg => rfl); (case hr => first | (go_simp; done) | (go_simp; rfl)); intro gb143 hg w13 hbox hb; have BK143 := Aside0.mk (hbox); have GW143 := Aside0.mk ((by rw [hg]; exact (below_size (bI HB.out)) : w.heap.size ≤ gb143)); have GJ143 := GeI.mk GW143.out; have GE143 := Aside0.mk ((by rw [hg]; exact (below_size (bI HB.out)) : w.heap.size ≤ gb143)); have GI143 := GeI.mk GE143.out; replace HB := Aside0.mk (below_step (bI HB.out) hb); have NB142_143 := Aside0.mk ((by rw [hg]; exact Nat.ne_of_lt (blk_lt (g := gb142) (o := .cells #[.int .i64 a0_0, .string a0_1, .slice A0_2 l0_2.length c0_2] 29 (0, 0)) (kI BK142.out)) : gb142 ≠ gb143)); have NI142_143 := NeI.mk NB142_143.out; have NB143_142 := Aside0.mk ((by rw [hg]; exact Nat.ne_of_gt (blk_lt (g := gb142) (o := .cells #[.int .i64 a0_0, .string a0_1, .slice A0_2 l0_2.length c0_2] 29 (0, 0)) (kI BK142.out)) : gb143 ≠ gb142)); have NI143_142 := NeI.mk NB143_142.out; replace BK142 := Aside0.mk (blk_below (g := gb142) (o := .cells #[.int .i64 a0_0, .string a0_1, .slice A0_2 l0_2.length c0_2] 29 (0, 0)) (kI BK142.out) hb); clear hb hbox hg; have hnb14 := NB142_143.out; have hnc14 := NB143_142.out; have hcz15_0 := bc0 BK142.out; have hcz15_1 := bc1 BK142.out; have hcz15_2 := bc2 BK142.out; have hfz15_0 := blk_frozen BK142.out 0; have hfz15_1 := blk_frozen BK142.out 1; have hfz15_2 := blk_frozen BK142.out 2; have hcz16_0 := bc0 BK143.out; have hcz16_1 := bc1 BK143.out; have hcz16_2 := bc2 BK143.out; have hfz16_0 := blk_frozen BK143.out 0; have hfz16_1 := blk_frozen BK143.out 1; have hfz16_2 := blk_frozen BK143.out 2) | ((with_reducible refine gate_callee (f := 20) rfl ?_); refine goesL_ (some 19) rfl rfl Try.func20 (by kernel_rfl) rfl #[.slice A0_2 l0_2.length c0_2, .slice A1_2 l1_2.length c1_2] rfl (by (try simp only [List.map_toArray, List.map_cons, List.map_nil]); first | done | rfl | (simp only [List.length_drop, List.length_take]; rfl)) ?_; (with_reducible refine (laws_eqIntS.calls k _ _ l0_2 _ _ l1_2 false _ ?side1 ?side2 ?side3 ?side4 A5.out).mono ?_); (case side1 => exact cI (Kd.C_below HR0_2.out HB.out)); (case side2 => exact HC0_2.out); (case side3 => exact cI (Kd.C_below HR1_2.out HB.out)); (case side4 => exact HC1_2.out); rintro e w' ⟨rfl, ⟨nd, rfl⟩⟩; refine ⟨_, rfl, ?_⟩))
        go_ret
        exact ⟨by first | rfl | (simp [errW_none, errW_some] <;> rfl) | (simp [*, errW_none, errW_some] <;> rfl), bI HB.out⟩
    · rw [if_neg c4] at H
      have c4b0 : (a0_1.toList == a1_1.toList) = false := beq_eq_false_iff_ne.mpr c4
      have c4b1 : (a0_1.toList != a1_1.toList) = true := bne_iff_ne.mpr c4
      obtain rfl := Option.some.inj H
      go_enter Try.func68, Try.ntmps68
      go_wp2_with (first | ((with_reducible refine gate_dst (N := 2) rfl ?_); refine box_event ?hg (N := 2) ?hd (cs := #[.int .i64 a0_0, .string a0_1, .slice A0_2 l0_2.length c0_2]) (t := 29) ?hr ?_; (case hd => rfl); (case hg => rfl); (case hr => first | (go_simp; done) | (go_simp; rfl)); intro gb142 hg w17 hbox hb; have BK142 := Aside0.mk (hbox); have GW142 := Aside0.mk ((by rw [hg]; exact (below_size (bI HB.out)) : w.heap.size ≤ gb142)); have GJ142 := GeI.mk GW142.out; have GE142 := Aside0.mk ((by rw [hg]; exact (below_size (bI HB.out)) : w.heap.size ≤ gb142)); have GI142 := GeI.mk GE142.out; replace HB := Aside0.mk (below_step (bI HB.out) hb); clear hb hbox hg) | ((with_reducible refine gate_dst (N := 3) rfl ?_); refine box_event ?hg (N := 3) ?hd (cs := #[.int .i64 a1_0, .string a1_1, .slice A1_2 l1_2.length c1_2]) (t := 29) ?hr ?_; (case hd => rfl); (case hg => rfl); (case hr => first | (go_simp; done) | (go_simp; rfl)); intro gb143 hg w18 hbox hb; have BK143 := Aside0.mk (hbox); have GW143 := Aside0.mk ((by rw [hg]; exact (below_size (bI HB.out)) : w.heap.size ≤ gb143)); have GJ143 := GeI.mk GW143.out; have GE143 := Aside0.mk ((by rw [hg]; exact (below_size (bI HB.out)) : w.heap.size ≤ gb143)); have GI143 := GeI.mk GE143.out; replace HB := Aside0.mk (below_step (bI HB.out) hb); have NB142_143 := Aside0.mk ((by rw [hg]; exact Nat.ne_of_lt (blk_lt (g := gb142) (o := .cells #[.int .i64 a0_0, .string a0_1, .slice A0_2 l0_2.length c0_2] 29 (0, 0)) (kI BK142.out)) : gb142 ≠ gb143)); have NI142_143 := NeI.mk NB142_143.out; have NB143_142 := Aside0.mk ((by rw [hg]; exact Nat.ne_of_gt (blk_lt (g := gb142) (o := .cells #[.int .i64 a0_0, .string a0_1, .slice A0_2 l0_2.length c0_2] 29 (0, 0)) (kI BK142.out)) : gb143 ≠ gb142)); have NI143_142 := NeI.mk NB143_142.out; replace BK142 := Aside0.mk (blk_below (g := gb142) (o := .cells #[.int .i64 a0_0, .string a0_1, .slice A0_2 l0_2.length c0_2] 29 (0, 0)) (kI BK142.out) hb); clear hb hbox hg; have hnb19 := NB142_143.out; have hnc19 := NB143_142.out; have hcz20_0 := bc0 BK142.out; have hcz20_1 := bc1 BK142.out; have hcz20_2 := bc2 BK142.out; have hfz20_0 := blk_frozen BK142.out 0; have hfz20_1 := blk_frozen BK142.out 1; have hfz20_2 := blk_frozen BK142.out 2; have hcz21_0 := bc0 BK143.out; have hcz21_1 := bc1 BK143.out; have hcz21_2 := bc2 BK143.out; have hfz21_0 := blk_frozen BK143.out 0; have hfz21_1 := blk_frozen BK143.out 1; have hfz21_2 := blk_frozen BK143.out 2))
      go_ret
      exact ⟨by first | rfl | (simp [errW_none, errW_some] <;> rfl) | (simp [*, errW_none, errW_some] <;> rfl), bI HB.out⟩
  · rw [if_neg c3] at H
    have c3b0 : (a0_0 == a1_0) = false := beq_eq_false_iff_ne.mpr c3
    have c3b1 : (a0_0 != a1_0) = true := bne_iff_ne.mpr c3
    obtain rfl := Option.some.inj H
    go_enter Try.func68, Try.ntmps68
    go_wp2_with (first | ((with_reducible refine gate_dst (N := 2) rfl ?_); refine box_event ?hg (N := 2) ?hd (cs := #[.int .i64 a0_0, .string a0_1, .slice A0_2 l0_2.length c0_2]) (t := 29) ?hr ?_; (case hd => rfl); (case hg => rfl); (case hr => first | (go_simp; done) | (go_simp; rfl)); intro gb142 hg w22 hbox hb; have BK142 := Aside0.mk (hbox); have GW142 := Aside0.mk ((by rw [hg]; exact (below_size (bI HB.out)) : w.heap.size ≤ gb142)); have GJ142 := GeI.mk GW142.out; have GE142 := Aside0.mk ((by rw [hg]; exact (below_size (bI HB.out)) : w.heap.size ≤ gb142)); have GI142 := GeI.mk GE142.out; replace HB := Aside0.mk (below_step (bI HB.out) hb); clear hb hbox hg) | ((with_reducible refine gate_dst (N := 3) rfl ?_); refine box_event ?hg (N := 3) ?hd (cs := #[.int .i64 a1_0, .string a1_1, .slice A1_2 l1_2.length c1_2]) (t := 29) ?hr ?_; (case hd => rfl); (case hg => rfl); (case hr => first | (go_simp; done) | (go_simp; rfl)); intro gb143 hg w23 hbox hb; have BK143 := Aside0.mk (hbox); have GW143 := Aside0.mk ((by rw [hg]; exact (below_size (bI HB.out)) : w.heap.size ≤ gb143)); have GJ143 := GeI.mk GW143.out; have GE143 := Aside0.mk ((by rw [hg]; exact (below_size (bI HB.out)) : w.heap.size ≤ gb143)); have GI143 := GeI.mk GE143.out; replace HB := Aside0.mk (below_step (bI HB.out) hb); have NB142_143 := Aside0.mk ((by rw [hg]; exact Nat.ne_of_lt (blk_lt (g := gb142) (o := .cells #[.int .i64 a0_0, .string a0_1, .slice A0_2 l0_2.length c0_2] 29 (0, 0)) (kI BK142.out)) : gb142 ≠ gb143)); have NI142_143 := NeI.mk NB142_143.out; have NB143_142 := Aside0.mk ((by rw [hg]; exact Nat.ne_of_gt (blk_lt (g := gb142) (o := .cells #[.int .i64 a0_0, .string a0_1, .slice A0_2 l0_2.length c0_2] 29 (0, 0)) (kI BK142.out)) : gb143 ≠ gb142)); have NI143_142 := NeI.mk NB143_142.out; replace BK142 := Aside0.mk (blk_below (g := gb142) (o := .cells #[.int .i64 a0_0, .string a0_1, .slice A0_2 l0_2.length c0_2] 29 (0, 0)) (kI BK142.out) hb); clear hb hbox hg; have hnb24 := NB142_143.out; have hnc24 := NB143_142.out; have hcz25_0 := bc0 BK142.out; have hcz25_1 := bc1 BK142.out; have hcz25_2 := bc2 BK142.out; have hfz25_0 := blk_frozen BK142.out 0; have hfz25_1 := blk_frozen BK142.out 1; have hfz25_2 := blk_frozen BK142.out 2; have hcz26_0 := bc0 BK143.out; have hcz26_1 := bc1 BK143.out; have hcz26_2 := bc2 BK143.out; have hfz26_0 := blk_frozen BK143.out 0; have hfz26_1 := blk_frozen BK143.out 1; have hfz26_2 := blk_frozen BK143.out 2))
    go_ret
    exact ⟨by first | rfl | (simp [errW_none, errW_some] <;> rfl) | (simp [*, errW_none, errW_some] <;> rfl), bI HB.out⟩

/-! ### laws_eqSafe: function 16 -/
def laws_eqSafe.f (k : Nat) (a0_0 : Int) (a0_1 : Int) (a0_2 : Int) (a0_3 : ByteArray) (l0_4 : List Int) (a0_5 : ByteArray) (a1_0 : Int) (a1_1 : Int) (a1_2 : Int) (a1_3 : ByteArray) (l1_4 : List Int) (a1_5 : ByteArray) : Option (Bool) := if a0_0 = a1_0 then (if a0_1 = a1_1 then ((laws_eqQc.f k a0_2 a0_3 l0_4 a1_2 a1_3 l1_4).bind fun t147 => (if t147 = true then (if a0_5.toList = a1_5.toList then (some true) else (some false)) else (some false))) else (some false)) else (some false)
theorem laws_eqSafe.mono : ∀ a0 a1 a2 a3 a4 a5 a6 a7 a8 a9 a10 a11 k, LeO (laws_eqSafe.f k a0 a1 a2 a3 a4 a5 a6 a7 a8 a9 a10 a11) (laws_eqSafe.f (k + 1) a0 a1 a2 a3 a4 a5 a6 a7 a8 a9 a10 a11) := by
  intro a0 a1 a2 a3 a4 a5 a6 a7 a8 a9 a10 a11 k
  unfold laws_eqSafe.f
  repeat' first
      | (with_reducible exact laws_eqQc.mono _ _ _ _ _ _ _)
      | (with_reducible exact LeO.refl _)
      | (with_reducible exact LeO.none _)
      | (with_reducible refine LeO.ite ?_ ?_)
      | (with_reducible refine LeO.bind ?_ (fun _ => ?_))
      | exact laws_eqQc.mono _ _ _ _ _ _ _
      | exact LeO.none _
      | refine LeO.ite ?_ ?_
      | refine LeO.bind ?_ (fun _ => ?_)
set_option maxHeartbeats 8000000 in
set_option maxRecDepth 100000 in
theorem laws_eqSafe.calls (k : Nat) (a0_0 : Int) (a0_1 : Int) (a0_2 : Int) (a0_3 : ByteArray) (A0_4 : Option Addr) (c0_4 : Nat) (l0_4 : List Int) (a0_5 : ByteArray) (a1_0 : Int) (a1_1 : Int) (a1_2 : Int) (a1_3 : ByteArray) (A1_4 : Option Addr) (c1_4 : Nat) (l1_4 : List Int) (a1_5 : ByteArray) (r : Bool) (w : World) (hr0_4 : Kd.C (Kd.int .i64) w A0_4 l0_4.length l0_4) (hc0_4 : l0_4.length ≤ c0_4) (hr1_4 : Kd.C (Kd.int .i64) w A1_4 l1_4.length l1_4) (hc1_4 : l1_4.length ≤ c1_4) (h : laws_eqSafe.f k a0_0 a0_1 a0_2 a0_3 l0_4 a0_5 a1_0 a1_1 a1_2 a1_3 l1_4 a1_5 = some r) :
    Calls Try.prog 16 #[.agg #[.int .i64 a0_0, .int .i64 a0_1, .int .i64 a0_2, .string a0_3, .slice A0_4 l0_4.length c0_4, .string a0_5], .agg #[.int .i64 a1_0, .int .i64 a1_1, .int .i64 a1_2, .string a1_3, .slice A1_4 l1_4.length c1_4, .string a1_5]] w fun e w' => e = .returned (.bool r) ∧ Below w.heap.size w w' := by
  have hu31 := Try.underlying31
  have hu29 := Try.underlying29
  have HR0_4 := Aside0.mk hr0_4
  have HC0_4 := Aside0.mk hc0_4
  clear hr0_4 hc0_4
  have HR1_4 := Aside0.mk hr1_4
  have HC1_4 := Aside0.mk hc1_4
  clear hr1_4 hc1_4
  have HB := Aside0.mk (Below.refl w.heap.size w)
  have H : (if a0_0 = a1_0 then (if a0_1 = a1_1 then ((laws_eqQc.f k a0_2 a0_3 l0_4 a1_2 a1_3 l1_4).bind fun t147 => (if t147 = true then (if a0_5.toList = a1_5.toList then (some true) else (some false)) else (some false))) else (some false)) else (some false)) = some r := h
  clear h
  by_cases c3 : a0_0 = a1_0
  · rw [if_pos c3] at H
    have c3b0 : (a0_0 == a1_0) = true := beq_iff_eq.mpr c3
    have c3b1 : (a0_0 != a1_0) = false := bne_eq_false_iff_eq.mpr c3
    clear c3
    by_cases c4 : a0_1 = a1_1
    · rw [if_pos c4] at H
      have c4b0 : (a0_1 == a1_1) = true := beq_iff_eq.mpr c4
      have c4b1 : (a0_1 != a1_1) = false := bne_eq_false_iff_eq.mpr c4
      clear c4
      obtain ⟨t147, A50, H⟩ := Option.bind_eq_some_iff.mp H
      try dsimp only at H
      have A5 := Aside0.mk A50
      clear A50
      by_cases c6 : t147 = true
      · subst c6
        rw [if_pos rfl] at H
        by_cases c7 : a0_5.toList = a1_5.toList
        · rw [if_pos c7] at H
          have c7b0 : (a0_5.toList == a1_5.toList) = true := beq_iff_eq.mpr c7
          have c7b1 : (a0_5.toList != a1_5.toList) = false := bne_eq_false_iff_eq.mpr c7
          clear c7
          obtain rfl := Option.some.inj H
          go_enter Try.func16, Try.ntmps16
          go_wp2_with (first | ((with_reducible refine gate_dst (N := 2) rfl ?_); refine box_event ?hg (N := 2) ?hd (cs := #[.int .i64 a0_0, .int .i64 a0_1, .int .i64 a0_2, .string a0_3, .slice A0_4 l0_4.length c0_4, .string a0_5]) (t := 31) ?hr ?_; (case hd => rfl); (case hg => rfl); (case hr => first | (go_simp; done) | (go_simp; rfl)); intro gb145 hg w8 hbox hb; have BK145 := Aside0.mk (hbox); have GW145 := Aside0.mk ((by rw [hg]; exact (below_size (bI HB.out)) : w.heap.size ≤ gb145)); have GJ145 := GeI.mk GW145.out; have GE145 := Aside0.mk ((by rw [hg]; exact (below_size (bI HB.out)) : w.heap.size ≤ gb145)); have GI145 := GeI.mk GE145.out; replace HB := Aside0.mk (below_step (bI HB.out) hb); clear hb hbox hg) | ((with_reducible refine gate_dst (N := 3) rfl ?_); refine box_event ?hg (N := 3) ?hd (cs := #[.int .i64 a1_0, .int .i64 a1_1, .int .i64 a1_2, .string a1_3, .slice A1_4 l1_4.length c1_4, .string a1_5]) (t := 31) ?hr ?_; (case hd => rfl); (case hg => rfl); (case hr => first | (go_simp; done) | (go_simp; rfl)); intro gb146 hg w9 hbox hb; have BK146 := Aside0.mk (hbox); have GW146 := Aside0.mk ((by rw [hg]; exact (below_size (bI HB.out)) : w.heap.size ≤ gb146)); have GJ146 := GeI.mk GW146.out; have GE146 := Aside0.mk ((by rw [hg]; exact (below_size (bI HB.out)) : w.heap.size ≤ gb146)); have GI146 := GeI.mk GE146.out; replace HB := Aside0.mk (below_step (bI HB.out) hb); have NB145_146 := Aside0.mk ((by rw [hg]; exact Nat.ne_of_lt (blk_lt (g := gb145) (o := .cells #[.int .i64 a0_0, .int .i64 a0_1, .int .i64 a0_2, .string a0_3, .slice A0_4 l0_4.length c0_4, .string a0_5] 31 (0, 0)) (kI BK145.out)) : gb145 ≠ gb146)); have NI145_146 := NeI.mk NB145_146.out; have NB146_145 := Aside0.mk ((by rw [hg]; exact Nat.ne_of_gt (blk_lt (g := gb145) (o := .cells #[.int .i64 a0_0, .int .i64 a0_1, .int .i64 a0_2, .string a0_3, .slice A0_4 l0_4.length c0_4, .string a0_5] 31 (0, 0)) (kI BK145.out)) : gb146 ≠ gb145)); have NI146_145 := NeI.mk NB146_145.out; replace BK145 := Aside0.mk (blk_below (g := gb145) (o := .cells #[.int .i64 a0_0, .int .i64 a0_1, .int .i64 a0_2, .string a0_3, .slice A0_4 l0_4.length c0_4, .string a0_5] 31 (0, 0)) (kI BK145.out) hb); clear hb hbox hg; have hnb10 := NB145_146.out; have hnc10 := NB146_145.out; have hcz11_0 := bc0 BK145.out; have hcz11_1 := bc1 BK145.out; have hcz11_2 := bc2 BK145.out; have hcz11_3 := bc3 BK145.out; have hcz11_4 := bc4 BK145.out; have hcz11_5 := bc5 BK145.out; have hfz11_0 := blk_frozen BK145.out 0; have hfz11_1 := blk_frozen BK145.out 1; have hfz11_2 := blk_frozen BK145.out 2; have hfz11_3 := blk_frozen BK145.out 3; have hfz11_4 := blk_frozen BK145.out 4; have hfz11_5 := blk_frozen BK145.out 5; have hcz12_0 := bc0 BK146.out; have hcz12_1 := bc1 BK146.out; have hcz12_2 := bc2 BK146.out; have hcz12_3 := bc3 BK146.out; have hcz12_4 := bc4 BK146.out; have hcz12_5 := bc5 BK146.out; have hfz12_0 := blk_frozen BK146.out 0; have hfz12_1 := blk_frozen BK146.out 1; have hfz12_2 := blk_frozen BK146.out 2; have hfz12_3 := blk_frozen BK146.out 3; have hfz12_4 := blk_frozen BK146.out 4; have hfz12_5 := blk_frozen BK146.out 5) | ((with_reducible refine gate_callee (f := 68) rfl ?_); refine goesL_ (some 19) rfl rfl Try.func68 (by kernel_rfl) rfl #[.agg #[.int .i64 a0_2, .string a0_3, .slice A0_4 l0_4.length c0_4], .agg #[.int .i64 a1_2, .string a1_3, .slice A1_4 l1_4.length c1_4]] rfl (by (try simp only [List.map_toArray, List.map_cons, List.map_nil]); first | done | rfl | (simp only [List.length_drop, List.length_take]; rfl)) ?_; (with_reducible refine (laws_eqQc.calls k a0_2 a0_3 _ _ l0_4 a1_2 a1_3 _ _ l1_4 true _ ?side1 ?side2 ?side3 ?side4 A5.out).mono ?_); (case side1 => exact cI (Kd.C_below HR0_4.out HB.out)); (case side2 => exact HC0_4.out); (case side3 => exact cI (Kd.C_below HR1_4.out HB.out)); (case side4 => exact HC1_4.out); rintro e w13 ⟨rfl, hb⟩; refine ⟨_, rfl, ?_⟩; replace BK145 := Aside0.mk (blk_below (g := gb145) (o := .cells #[.int .i64 a0_0, .int .i64 a0_1, .int .i64 a0_2, .string a0_3, .slice A0_4 l0_4.length c0_4, .string a0_5] 31 (0, 0)) (kI BK145.out) hb); replace BK146 := Aside0.mk (blk_below (g := gb146) (o := .cells #[.int .i64 a1_0, .int .i64 a1_1, .int .i64 a1_2, .string a1_3, .slice A1_4 l1_4.length c1_4, .string a1_5] 31 (0, 0)) (kI BK146.out) hb); replace HB := Aside0.mk (below_step (bI HB.out) hb); (try clear hb); (try clear hb2); (try clear hk); (try clear hi); have hcz14_0 := bc0 BK145.out; have hcz14_1 := bc1 BK145.out; have hcz14_2 := bc2 BK145.out; have hcz14_3 := bc3 BK145.out; have hcz14_4 := bc4 BK145.out; have hcz14_5 := bc5 BK145.out; have hfz14_0 := blk_frozen BK145.out 0; have hfz14_1 := blk_frozen BK145.out 1; have hfz14_2 := blk_frozen BK145.out 2; have hfz14_3 := blk_frozen BK145.out 3; have hfz14_4 := blk_frozen BK145.out 4; have hfz14_5 := blk_frozen BK145.out 5; have hcz15_0 := bc0 BK146.out; have hcz15_1 := bc1 BK146.out; have hcz15_2 := bc2 BK146.out; have hcz15_3 := bc3 BK146.out; have hcz15_4 := bc4 BK146.out; have hcz15_5 := bc5 BK146.out; have hfz15_0 := blk_frozen BK146.out 0; have hfz15_1 := blk_frozen BK146.out 1; have hfz15_2 := blk_frozen BK146.out 2; have hfz15_3 := blk_frozen BK146.out 3; have hfz15_4 := blk_frozen BK146.out 4; have hfz15_5 := blk_frozen BK146.out 5))
          go_ret
          exact ⟨by first | rfl | (simp [errW_none, errW_some] <;> rfl) | (simp [*, errW_none, errW_some] <;> rfl), bI HB.out⟩
        · rw [if_neg c7] at H
          have c7b0 : (a0_5.toList == a1_5.toList) = false := beq_eq_false_iff_ne.mpr c7
          have c7b1 : (a0_5.toList != a1_5.toList) = true := bne_iff_ne.mpr c7
          obtain rfl := Option.some.inj H
          go_enter Try.func16, Try.ntmps16
          go_wp2_with (first | ((with_reducible refine gate_dst (N := 2) rfl ?_); refine box_event ?hg (N := 2) ?hd (cs := #[.int .i64 a0_0, .int .i64 a0_1, .int .i64 a0_2, .string a0_3, .slice A0_4 l0_4.length c0_4, .string a0_5]) (t := 31) ?hr ?_; (case hd => rfl); (case hg => rfl); (case hr => first | (go_simp; done) | (go_simp; rfl)); intro gb145 hg w16 hbox hb; have BK145 := Aside0.mk (hbox); have GW145 := Aside0.mk ((by rw [hg]; exact (below_size (bI HB.out)) : w.heap.size ≤ gb145)); have GJ145 := GeI.mk GW145.out; have GE145 := Aside0.mk ((by rw [hg]; exact (below_size (bI HB.out)) : w.heap.size ≤ gb145)); have GI145 := GeI.mk GE145.out; replace HB := Aside0.mk (below_step (bI HB.out) hb); clear hb hbox hg) | ((with_reducible refine gate_dst (N := 3) rfl ?_); refine box_event ?hg (N := 3) ?hd (cs := #[.int .i64 a1_0, .int .i64 a1_1, .int .i64 a1_2, .string a1_3, .slice A1_4 l1_4.length c1_4, .string a1_5]) (t := 31) ?hr ?_; (case hd => rfl); (case hg => rfl); (case hr => first | (go_simp; done) | (go_simp; rfl)); intro gb146 hg w17 hbox hb; have BK146 := Aside0.mk (hbox); have GW146 := Aside0.mk ((by rw [hg]; exact (below_size (bI HB.out)) : w.heap.size ≤ gb146)); have GJ146 := GeI.mk GW146.out; have GE146 := Aside0.mk ((by rw [hg]; exact (below_size (bI HB.out)) : w.heap.size ≤ gb146)); have GI146 := GeI.mk GE146.out; replace HB := Aside0.mk (below_step (bI HB.out) hb); have NB145_146 := Aside0.mk ((by rw [hg]; exact Nat.ne_of_lt (blk_lt (g := gb145) (o := .cells #[.int .i64 a0_0, .int .i64 a0_1, .int .i64 a0_2, .string a0_3, .slice A0_4 l0_4.length c0_4, .string a0_5] 31 (0, 0)) (kI BK145.out)) : gb145 ≠ gb146)); have NI145_146 := NeI.mk NB145_146.out; have NB146_145 := Aside0.mk ((by rw [hg]; exact Nat.ne_of_gt (blk_lt (g := gb145) (o := .cells #[.int .i64 a0_0, .int .i64 a0_1, .int .i64 a0_2, .string a0_3, .slice A0_4 l0_4.length c0_4, .string a0_5] 31 (0, 0)) (kI BK145.out)) : gb146 ≠ gb145)); have NI146_145 := NeI.mk NB146_145.out; replace BK145 := Aside0.mk (blk_below (g := gb145) (o := .cells #[.int .i64 a0_0, .int .i64 a0_1, .int .i64 a0_2, .string a0_3, .slice A0_4 l0_4.length c0_4, .string a0_5] 31 (0, 0)) (kI BK145.out) hb); clear hb hbox hg; have hnb18 := NB145_146.out; have hnc18 := NB146_145.out; have hcz19_0 := bc0 BK145.out; have hcz19_1 := bc1 BK145.out; have hcz19_2 := bc2 BK145.out; have hcz19_3 := bc3 BK145.out; have hcz19_4 := bc4 BK145.out; have hcz19_5 := bc5 BK145.out; have hfz19_0 := blk_frozen BK145.out 0; have hfz19_1 := blk_frozen BK145.out 1; have hfz19_2 := blk_frozen BK145.out 2; have hfz19_3 := blk_frozen BK145.out 3; have hfz19_4 := blk_frozen BK145.out 4; have hfz19_5 := blk_frozen BK145.out 5; have hcz20_0 := bc0 BK146.out; have hcz20_1 := bc1 BK146.out; have hcz20_2 := bc2 BK146.out; have hcz20_3 := bc3 BK146.out; have hcz20_4 := bc4 BK146.out; have hcz20_5 := bc5 BK146.out; have hfz20_0 := blk_frozen BK146.out 0; have hfz20_1 := blk_frozen BK146.out 1; have hfz20_2 := blk_frozen BK146.out 2; have hfz20_3 := blk_frozen BK146.out 3; have hfz20_4 := blk_frozen BK146.out 4; have hfz20_5 := blk_frozen BK146.out 5) | ((with_reducible refine gate_callee (f := 68) rfl ?_); refine goesL_ (some 19) rfl rfl Try.func68 (by kernel_rfl) rfl #[.agg #[.int .i64 a0_2, .string a0_3, .slice A0_4 l0_4.length c0_4], .agg #[.int .i64 a1_2, .string a1_3, .slice A1_4 l1_4.length c1_4]] rfl (by (try simp only [List.map_toArray, List.map_cons, List.map_nil]); first | done | rfl | (simp only [List.length_drop, List.length_take]; rfl)) ?_; (with_reducible refine (laws_eqQc.calls k a0_2 a0_3 _ _ l0_4 a1_2 a1_3 _ _ l1_4 true _ ?side1 ?side2 ?side3 ?side4 A5.out).mono ?_); (case side1 => exact cI (Kd.C_below HR0_4.out HB.out)); (case side2 => exact HC0_4.out); (case side3 => exact cI (Kd.C_below HR1_4.out HB.out)); (case side4 => exact HC1_4.out); rintro e w21 ⟨rfl, hb⟩; refine ⟨_, rfl, ?_⟩; replace BK145 := Aside0.mk (blk_below (g := gb145) (o := .cells #[.int .i64 a0_0, .int .i64 a0_1, .int .i64 a0_2, .string a0_3, .slice A0_4 l0_4.length c0_4, .string a0_5] 31 (0, 0)) (kI BK145.out) hb); replace BK146 := Aside0.mk (blk_below (g := gb146) (o := .cells #[.int .i64 a1_0, .int .i64 a1_1, .int .i64 a1_2, .string a1_3, .slice A1_4 l1_4.length c1_4, .string a1_5] 31 (0, 0)) (kI BK146.out) hb); replace HB := Aside0.mk (below_step (bI HB.out) hb); (try clear hb); (try clear hb2); (try clear hk); (try clear hi); have hcz22_0 := bc0 BK145.out; have hcz22_1 := bc1 BK145.out; have hcz22_2 := bc2 BK145.out; have hcz22_3 := bc3 BK145.out; have hcz22_4 := bc4 BK145.out; have hcz22_5 := bc5 BK145.out; have hfz22_0 := blk_frozen BK145.out 0; have hfz22_1 := blk_frozen BK145.out 1; have hfz22_2 := blk_frozen BK145.out 2; have hfz22_3 := blk_frozen BK145.out 3; have hfz22_4 := blk_frozen BK145.out 4; have hfz22_5 := blk_frozen BK145.out 5; have hcz23_0 := bc0 BK146.out; have hcz23_1 := bc1 BK146.out; have hcz23_2 := bc2 BK146.out; have hcz23_3 := bc3 BK146.out; have hcz23_4 := bc4 BK146.out; have hcz23_5 := bc5 BK146.out; have hfz23_0 := blk_frozen BK146.out 0; have hfz23_1 := blk_frozen BK146.out 1; have hfz23_2 := blk_frozen BK146.out 2; have hfz23_3 := blk_frozen BK146.out 3; have hfz23_4 := blk_frozen BK146.out 4; have hfz23_5 := blk_frozen BK146.out 5))
          go_ret
          exact ⟨by first | rfl | (simp [errW_none, errW_some] <;> rfl) | (simp [*, errW_none, errW_some] <;> rfl), bI HB.out⟩
      · replace c6 := Bool.eq_false_iff.mpr c6
        subst c6
        rw [if_neg (show ¬ (false = true) by decide)] at H
        obtain rfl := Option.some.inj H
        go_enter Try.func16, Try.ntmps16
        go_wp2_with (first | ((with_reducible refine gate_dst (N := 2) rfl ?_); refine box_event ?hg (N := 2) ?hd (cs := #[.int .i64 a0_0, .int .i64 a0_1, .int .i64 a0_2, .string a0_3, .slice A0_4 l0_4.length c0_4, .string a0_5]) (t := 31) ?hr ?_; (case hd => rfl); (case hg => rfl); (case hr => first | (go_simp; done) | (go_simp; rfl)); intro gb145 hg w24 hbox hb; have BK145 := Aside0.mk (hbox); have GW145 := Aside0.mk ((by rw [hg]; exact (below_size (bI HB.out)) : w.heap.size ≤ gb145)); have GJ145 := GeI.mk GW145.out; have GE145 := Aside0.mk ((by rw [hg]; exact (below_size (bI HB.out)) : w.heap.size ≤ gb145)); have GI145 := GeI.mk GE145.out; replace HB := Aside0.mk (below_step (bI HB.out) hb); clear hb hbox hg) | ((with_reducible refine gate_dst (N := 3) rfl ?_); refine box_event ?hg (N := 3) ?hd (cs := #[.int .i64 a1_0, .int .i64 a1_1, .int .i64 a1_2, .string a1_3, .slice A1_4 l1_4.length c1_4, .string a1_5]) (t := 31) ?hr ?_; (case hd => rfl); (case hg => rfl); (case hr => first | (go_simp; done) | (go_simp; rfl)); intro gb146 hg w25 hbox hb; have BK146 := Aside0.mk (hbox); have GW146 := Aside0.mk ((by rw [hg]; exact (below_size (bI HB.out)) : w.heap.size ≤ gb146)); have GJ146 := GeI.mk GW146.out; have GE146 := Aside0.mk ((by rw [hg]; exact (below_size (bI HB.out)) : w.heap.size ≤ gb146)); have GI146 := GeI.mk GE146.out; replace HB := Aside0.mk (below_step (bI HB.out) hb); have NB145_146 := Aside0.mk ((by rw [hg]; exact Nat.ne_of_lt (blk_lt (g := gb145) (o := .cells #[.int .i64 a0_0, .int .i64 a0_1, .int .i64 a0_2, .string a0_3, .slice A0_4 l0_4.length c0_4, .string a0_5] 31 (0, 0)) (kI BK145.out)) : gb145 ≠ gb146)); have NI145_146 := NeI.mk NB145_146.out; have NB146_145 := Aside0.mk ((by rw [hg]; exact Nat.ne_of_gt (blk_lt (g := gb145) (o := .cells #[.int .i64 a0_0, .int .i64 a0_1, .int .i64 a0_2, .string a0_3, .slice A0_4 l0_4.length c0_4, .string a0_5] 31 (0, 0)) (kI BK145.out)) : gb146 ≠ gb145)); have NI146_145 := NeI.mk NB146_145.out; replace BK145 := Aside0.mk (blk_below (g := gb145) (o := .cells #[.int .i64 a0_0, .int .i64 a0_1, .int .i64 a0_2, .string a0_3, .slice A0_4 l0_4.length c0_4, .string a0_5] 31 (0, 0)) (kI BK145.out) hb); clear hb hbox hg; have hnb26 := NB145_146.out; have hnc26 := NB146_145.out; have hcz27_0 := bc0 BK145.out; have hcz27_1 := bc1 BK145.out; have hcz27_2 := bc2 BK145.out; have hcz27_3 := bc3 BK145.out; have hcz27_4 := bc4 BK145.out; have hcz27_5 := bc5 BK145.out; have hfz27_0 := blk_frozen BK145.out 0; have hfz27_1 := blk_frozen BK145.out 1; have hfz27_2 := blk_frozen BK145.out 2; have hfz27_3 := blk_frozen BK145.out 3; have hfz27_4 := blk_frozen BK145.out 4; have hfz27_5 := blk_frozen BK145.out 5; have hcz28_0 := bc0 BK146.out; have hcz28_1 := bc1 BK146.out; have hcz28_2 := bc2 BK146.out; have hcz28_3 := bc3 BK146.out; have hcz28_4 := bc4 BK146.out; have hcz28_5 := bc5 BK146.out; have hfz28_0 := blk_frozen BK146.out 0; have hfz28_1 := blk_frozen BK146.out 1; have hfz28_2 := blk_frozen BK146.out 2; have hfz28_3 := blk_frozen BK146.out 3; have hfz28_4 := blk_frozen BK146.out 4; have hfz28_5 := blk_frozen BK146.out 5) | ((with_reducible refine gate_callee (f := 68) rfl ?_); refine goesL_ (some 19) rfl rfl Try.func68 (by kernel_rfl) rfl #[.agg #[.int .i64 a0_2, .string a0_3, .slice A0_4 l0_4.length c0_4], .agg #[.int .i64 a1_2, .string a1_3, .slice A1_4 l1_4.length c1_4]] rfl (by (try simp only [List.map_toArray, List.map_cons, List.map_nil]); first | done | rfl | (simp only [List.length_drop, List.length_take]; rfl)) ?_; (with_reducible refine (laws_eqQc.calls k a0_2 a0_3 _ _ l0_4 a1_2 a1_3 _ _ l1_4 false _ ?side1 ?side2 ?side3 ?side4 A5.out).mono ?_); (case side1 => exact cI (Kd.C_below HR0_4.out HB.out)); (case side2 => exact HC0_4.out); (case side3 => exact cI (Kd.C_below HR1_4.out HB.out)); (case side4 => exact HC1_4.out); rintro e w29 ⟨rfl, hb⟩; refine ⟨_, rfl, ?_⟩; replace BK145 := Aside0.mk (blk_below (g := gb145) (o := .cells #[.int .i64 a0_0, .int .i64 a0_1, .int .i64 a0_2, .string a0_3, .slice A0_4 l0_4.length c0_4, .string a0_5] 31 (0, 0)) (kI BK145.out) hb); replace BK146 := Aside0.mk (blk_below (g := gb146) (o := .cells #[.int .i64 a1_0, .int .i64 a1_1, .int .i64 a1_2, .string a1_3, .slice A1_4 l1_4.length c1_4, .string a1_5] 31 (0, 0)) (kI BK146.out) hb); replace HB := Aside0.mk (below_step (bI HB.out) hb); (try clear hb); (try clear hb2); (try clear hk); (try clear hi)))
        go_ret
        exact ⟨by first | rfl | (simp [errW_none, errW_some] <;> rfl) | (simp [*, errW_none, errW_some] <;> rfl), bI HB.out⟩
    · rw [if_neg c4] at H
      have c4b0 : (a0_1 == a1_1) = false := beq_eq_false_iff_ne.mpr c4
      have c4b1 : (a0_1 != a1_1) = true := bne_iff_ne.mpr c4
      obtain rfl := Option.some.inj H
      go_enter Try.func16, Try.ntmps16
      go_wp2_with (first | ((with_reducible refine gate_dst (N := 2) rfl ?_); refine box_event ?hg (N := 2) ?hd (cs := #[.int .i64 a0_0, .int .i64 a0_1, .int .i64 a0_2, .string a0_3, .slice A0_4 l0_4.length c0_4, .string a0_5]) (t := 31) ?hr ?_; (case hd => rfl); (case hg => rfl); (case hr => first | (go_simp; done) | (go_simp; rfl)); intro gb145 hg w30 hbox hb; have BK145 := Aside0.mk (hbox); have GW145 := Aside0.mk ((by rw [hg]; exact (below_size (bI HB.out)) : w.heap.size ≤ gb145)); have GJ145 := GeI.mk GW145.out; have GE145 := Aside0.mk ((by rw [hg]; exact (below_size (bI HB.out)) : w.heap.size ≤ gb145)); have GI145 := GeI.mk GE145.out; replace HB := Aside0.mk (below_step (bI HB.out) hb); clear hb hbox hg) | ((with_reducible refine gate_dst (N := 3) rfl ?_); refine box_event ?hg (N := 3) ?hd (cs := #[.int .i64 a1_0, .int .i64 a1_1, .int .i64 a1_2, .string a1_3, .slice A1_4 l1_4.length c1_4, .string a1_5]) (t := 31) ?hr ?_; (case hd => rfl); (case hg => rfl); (case hr => first | (go_simp; done) | (go_simp; rfl)); intro gb146 hg w31 hbox hb; have BK146 := Aside0.mk (hbox); have GW146 := Aside0.mk ((by rw [hg]; exact (below_size (bI HB.out)) : w.heap.size ≤ gb146)); have GJ146 := GeI.mk GW146.out; have GE146 := Aside0.mk ((by rw [hg]; exact (below_size (bI HB.out)) : w.heap.size ≤ gb146)); have GI146 := GeI.mk GE146.out; replace HB := Aside0.mk (below_step (bI HB.out) hb); have NB145_146 := Aside0.mk ((by rw [hg]; exact Nat.ne_of_lt (blk_lt (g := gb145) (o := .cells #[.int .i64 a0_0, .int .i64 a0_1, .int .i64 a0_2, .string a0_3, .slice A0_4 l0_4.length c0_4, .string a0_5] 31 (0, 0)) (kI BK145.out)) : gb145 ≠ gb146)); have NI145_146 := NeI.mk NB145_146.out; have NB146_145 := Aside0.mk ((by rw [hg]; exact Nat.ne_of_gt (blk_lt (g := gb145) (o := .cells #[.int .i64 a0_0, .int .i64 a0_1, .int .i64 a0_2, .string a0_3, .slice A0_4 l0_4.length c0_4, .string a0_5] 31 (0, 0)) (kI BK145.out)) : gb146 ≠ gb145)); have NI146_145 := NeI.mk NB146_145.out; replace BK145 := Aside0.mk (blk_below (g := gb145) (o := .cells #[.int .i64 a0_0, .int .i64 a0_1, .int .i64 a0_2, .string a0_3, .slice A0_4 l0_4.length c0_4, .string a0_5] 31 (0, 0)) (kI BK145.out) hb); clear hb hbox hg; have hnb32 := NB145_146.out; have hnc32 := NB146_145.out; have hcz33_0 := bc0 BK145.out; have hcz33_1 := bc1 BK145.out; have hcz33_2 := bc2 BK145.out; have hcz33_3 := bc3 BK145.out; have hcz33_4 := bc4 BK145.out; have hcz33_5 := bc5 BK145.out; have hfz33_0 := blk_frozen BK145.out 0; have hfz33_1 := blk_frozen BK145.out 1; have hfz33_2 := blk_frozen BK145.out 2; have hfz33_3 := blk_frozen BK145.out 3; have hfz33_4 := blk_frozen BK145.out 4; have hfz33_5 := blk_frozen BK145.out 5; have hcz34_0 := bc0 BK146.out; have hcz34_1 := bc1 BK146.out; have hcz34_2 := bc2 BK146.out; have hcz34_3 := bc3 BK146.out; have hcz34_4 := bc4 BK146.out; have hcz34_5 := bc5 BK146.out; have hfz34_0 := blk_frozen BK146.out 0; have hfz34_1 := blk_frozen BK146.out 1; have hfz34_2 := blk_frozen BK146.out 2; have hfz34_3 := blk_frozen BK146.out 3; have hfz34_4 := blk_frozen BK146.out 4; have hfz34_5 := blk_frozen BK146.out 5))
      go_ret
      exact ⟨by first | rfl | (simp [errW_none, errW_some] <;> rfl) | (simp [*, errW_none, errW_some] <;> rfl), bI HB.out⟩
  · rw [if_neg c3] at H
    have c3b0 : (a0_0 == a1_0) = false := beq_eq_false_iff_ne.mpr c3
    have c3b1 : (a0_0 != a1_0) = true := bne_iff_ne.mpr c3
    obtain rfl := Option.some.inj H
    go_enter Try.func16, Try.ntmps16
    go_wp2_with (first | ((with_reducible refine gate_dst (N := 2) rfl ?_); refine box_event ?hg (N := 2) ?hd (cs := #[.int .i64 a0_0, .int .i64 a0_1, .int .i64 a0_2, .string a0_3, .slice A0_4 l0_4.length c0_4, .string a0_5]) (t := 31) ?hr ?_; (case hd => rfl); (case hg => rfl); (case hr => first | (go_simp; done) | (go_simp; rfl)); intro gb145 hg w35 hbox hb; have BK145 := Aside0.mk (hbox); have GW145 := Aside0.mk ((by rw [hg]; exact (below_size (bI HB.out)) : w.heap.size ≤ gb145)); have GJ145 := GeI.mk GW145.out; have GE145 := Aside0.mk ((by rw [hg]; exact (below_size (bI HB.out)) : w.heap.size ≤ gb145)); have GI145 := GeI.mk GE145.out; replace HB := Aside0.mk (below_step (bI HB.out) hb); clear hb hbox hg) | ((with_reducible refine gate_dst (N := 3) rfl ?_); refine box_event ?hg (N := 3) ?hd (cs := #[.int .i64 a1_0, .int .i64 a1_1, .int .i64 a1_2, .string a1_3, .slice A1_4 l1_4.length c1_4, .string a1_5]) (t := 31) ?hr ?_; (case hd => rfl); (case hg => rfl); (case hr => first | (go_simp; done) | (go_simp; rfl)); intro gb146 hg w36 hbox hb; have BK146 := Aside0.mk (hbox); have GW146 := Aside0.mk ((by rw [hg]; exact (below_size (bI HB.out)) : w.heap.size ≤ gb146)); have GJ146 := GeI.mk GW146.out; have GE146 := Aside0.mk ((by rw [hg]; exact (below_size (bI HB.out)) : w.heap.size ≤ gb146)); have GI146 := GeI.mk GE146.out; replace HB := Aside0.mk (below_step (bI HB.out) hb); have NB145_146 := Aside0.mk ((by rw [hg]; exact Nat.ne_of_lt (blk_lt (g := gb145) (o := .cells #[.int .i64 a0_0, .int .i64 a0_1, .int .i64 a0_2, .string a0_3, .slice A0_4 l0_4.length c0_4, .string a0_5] 31 (0, 0)) (kI BK145.out)) : gb145 ≠ gb146)); have NI145_146 := NeI.mk NB145_146.out; have NB146_145 := Aside0.mk ((by rw [hg]; exact Nat.ne_of_gt (blk_lt (g := gb145) (o := .cells #[.int .i64 a0_0, .int .i64 a0_1, .int .i64 a0_2, .string a0_3, .slice A0_4 l0_4.length c0_4, .string a0_5] 31 (0, 0)) (kI BK145.out)) : gb146 ≠ gb145)); have NI146_145 := NeI.mk NB146_145.out; replace BK145 := Aside0.mk (blk_below (g := gb145) (o := .cells #[.int .i64 a0_0, .int .i64 a0_1, .int .i64 a0_2, .string a0_3, .slice A0_4 l0_4.length c0_4, .string a0_5] 31 (0, 0)) (kI BK145.out) hb); clear hb hbox hg; have hnb37 := NB145_146.out; have hnc37 := NB146_145.out; have hcz38_0 := bc0 BK145.out; have hcz38_1 := bc1 BK145.out; have hcz38_2 := bc2 BK145.out; have hcz38_3 := bc3 BK145.out; have hcz38_4 := bc4 BK145.out; have hcz38_5 := bc5 BK145.out; have hfz38_0 := blk_frozen BK145.out 0; have hfz38_1 := blk_frozen BK145.out 1; have hfz38_2 := blk_frozen BK145.out 2; have hfz38_3 := blk_frozen BK145.out 3; have hfz38_4 := blk_frozen BK145.out 4; have hfz38_5 := blk_frozen BK145.out 5; have hcz39_0 := bc0 BK146.out; have hcz39_1 := bc1 BK146.out; have hcz39_2 := bc2 BK146.out; have hcz39_3 := bc3 BK146.out; have hcz39_4 := bc4 BK146.out; have hcz39_5 := bc5 BK146.out; have hfz39_0 := blk_frozen BK146.out 0; have hfz39_1 := blk_frozen BK146.out 1; have hfz39_2 := blk_frozen BK146.out 2; have hfz39_3 := blk_frozen BK146.out 3; have hfz39_4 := blk_frozen BK146.out 4; have hfz39_5 := blk_frozen BK146.out 5))
    go_ret
    exact ⟨by first | rfl | (simp [errW_none, errW_some] <;> rfl) | (simp [*, errW_none, errW_some] <;> rfl), bI HB.out⟩

end Go.Proofs.Ytjbkdffimfbdnaa.PFnExactSafeSame
