-- By a program of this session, out of the translation (the print of the kit, with turns of its own). Lean checks it.
import Derived.Test.YtjbkdffimfbdnaaPFnExactSafeSamex0
import Derived.Test.YtjbkdffimfbdnaaPFnExactSafeSamex1
import Derived.Test.YtjbkdffimfbdnaaPFnExactSafeSamex2
namespace Go.Proofs.Ytjbkdffimfbdnaa.PFnExactSafeSame
open Go.RowKit Go.Proofs.YtjbkdffimfbdnaaW.PrintWords Go.Proofs.YtjbkdffimfbdnaaW.PrintLast Go.Proofs.YtjbkdffimfbdnaaW.PrintMore
attribute [local go_sem] max2_int min2_int max_two min_two max_three min_three max_four min_four   -- for this text's walks alone
set_option linter.unusedVariables false
set_option linter.unusedSimpArgs false

/-! ### laws_FnExactSafeSame: function 3 -/
def laws_FnExactSafeSame.f (k : Nat) (a0_0 : Int) (a0_1 : Int) (a0_2 : Int) (a0_3 : ByteArray) (l0_4 : List Int) (a0_5 : ByteArray) (a1_0 : Int) (a1_1 : Int) (a1_2 : Int) (a1_3 : ByteArray) (l1_4 : List Int) (a1_5 : ByteArray) : Option (Bool) := (laws_szSafe.f a0_0 a0_1 a0_2 a0_3 l0_4 a0_5 1048576).bind fun t150 => (if t150 < 0 then (some true) else ((laws_szSafe.f a1_0 a1_1 a1_2 a1_3 l1_4 a1_5 t150).bind fun t151 => (if t151 < 0 then (some true) else ((laws_toSafe.f k a0_0 a0_1 a0_2 a0_3 l0_4 a0_5).bind fun bt152 => ((laws_toSafe.f k a1_0 a1_1 a1_2 a1_3 l1_4 a1_5).bind fun bt160 => ((spec_SafeSame.f k bt152.1 bt152.2.1 bt152.2.2.1 bt152.2.2.2.1 bt152.2.2.2.2.1 bt152.2.2.2.2.2 bt160.1 bt160.2.1 bt160.2.2.1 bt160.2.2.2.1 bt160.2.2.2.2.1 bt160.2.2.2.2.2).bind fun t168 => ((laws_toSafe.f k a0_0 a0_1 a0_2 a0_3 l0_4 a0_5).bind fun bt169 => ((laws_toSafe.f k a1_0 a1_1 a1_2 a1_3 l1_4 a1_5).bind fun bt178 => ((impl_SafeSame.f k bt169.1 bt169.2.1 bt169.2.2.1 bt169.2.2.2.1 bt169.2.2.2.2.1 bt169.2.2.2.2.2 bt178.1 bt178.2.1 bt178.2.2.1 bt178.2.2.2.1 bt178.2.2.2.2.1 bt178.2.2.2.2.2).bind fun t187 => (if (t187 != t168) = true then (some false) else ((laws_toSafe.f k a0_0 a0_1 a0_2 a0_3 l0_4 a0_5).bind fun bt188 => ((laws_eqSafe.f k bt169.1 bt169.2.1 bt169.2.2.1 bt169.2.2.2.1 bt169.2.2.2.2.1 bt169.2.2.2.2.2 bt188.1 bt188.2.1 bt188.2.2.1 bt188.2.2.2.1 bt188.2.2.2.2.1 bt188.2.2.2.2.2).bind fun t196 => (if t196 = true then ((laws_toSafe.f k a1_0 a1_1 a1_2 a1_3 l1_4 a1_5).bind fun bt197 => ((laws_eqSafe.f k bt178.1 bt178.2.1 bt178.2.2.1 bt178.2.2.2.1 bt178.2.2.2.2.1 bt178.2.2.2.2.2 bt197.1 bt197.2.1 bt197.2.2.1 bt197.2.2.2.1 bt197.2.2.2.2.1 bt197.2.2.2.2.2).bind fun t205 => (if t205 = true then (some true) else (some false)))) else (some false))))))))))))))
theorem laws_FnExactSafeSame.mono : ∀ a0 a1 a2 a3 a4 a5 a6 a7 a8 a9 a10 a11 k, LeO (laws_FnExactSafeSame.f k a0 a1 a2 a3 a4 a5 a6 a7 a8 a9 a10 a11) (laws_FnExactSafeSame.f (k + 1) a0 a1 a2 a3 a4 a5 a6 a7 a8 a9 a10 a11) := by
  intro a0 a1 a2 a3 a4 a5 a6 a7 a8 a9 a10 a11 k
  unfold laws_FnExactSafeSame.f
  repeat' first
      | (with_reducible exact impl_SafeSame.mono _ _ _ _ _ _ _ _ _ _ _ _ _)
      | (with_reducible exact laws_eqSafe.mono _ _ _ _ _ _ _ _ _ _ _ _ _)
      | (with_reducible exact laws_toSafe.mono _ _ _ _ _ _ _)
      | (with_reducible exact spec_SafeSame.mono _ _ _ _ _ _ _ _ _ _ _ _ _)
      | (with_reducible exact LeO.refl _)
      | (with_reducible exact LeO.none _)
      | (with_reducible refine LeO.ite ?_ ?_)
      | (with_reducible refine LeO.bind ?_ (fun _ => ?_))
      | exact impl_SafeSame.mono _ _ _ _ _ _ _ _ _ _ _ _ _
      | exact laws_eqSafe.mono _ _ _ _ _ _ _ _ _ _ _ _ _
      | exact laws_toSafe.mono _ _ _ _ _ _ _
      | exact spec_SafeSame.mono _ _ _ _ _ _ _ _ _ _ _ _ _
      | exact LeO.none _
      | refine LeO.ite ?_ ?_
      | refine LeO.bind ?_ (fun _ => ?_)
set_option maxHeartbeats 8000000 in
set_option maxRecDepth 100000 in
theorem laws_FnExactSafeSame.calls (k : Nat) (a0_0 : Int) (a0_1 : Int) (a0_2 : Int) (a0_3 : ByteArray) (A0_4 : Option Addr) (c0_4 : Nat) (l0_4 : List Int) (a0_5 : ByteArray) (a1_0 : Int) (a1_1 : Int) (a1_2 : Int) (a1_3 : ByteArray) (A1_4 : Option Addr) (c1_4 : Nat) (l1_4 : List Int) (a1_5 : ByteArray) (r : Bool) (hrt : Aside0 (r = true)) (w : World) (hr0_4 : Kd.C (Kd.int .i64) w A0_4 l0_4.length l0_4) (hc0_4 : l0_4.length ≤ c0_4) (hr1_4 : Kd.C (Kd.int .i64) w A1_4 l1_4.length l1_4) (hc1_4 : l1_4.length ≤ c1_4) (h : laws_FnExactSafeSame.f k a0_0 a0_1 a0_2 a0_3 l0_4 a0_5 a1_0 a1_1 a1_2 a1_3 l1_4 a1_5 = some r) :
    Calls Try.prog 3 #[.agg #[.int .i64 a0_0, .int .i64 a0_1, .int .i64 a0_2, .string a0_3, .slice A0_4 l0_4.length c0_4, .string a0_5], .agg #[.int .i64 a1_0, .int .i64 a1_1, .int .i64 a1_2, .string a1_3, .slice A1_4 l1_4.length c1_4, .string a1_5]] w fun e w' => e = .returned (.bool r) ∧ Below w.heap.size w w' := by
  have hu26 := Try.underlying26
  have hu31 := Try.underlying31
  have HR0_4 := Aside0.mk hr0_4
  have HC0_4 := Aside0.mk hc0_4
  clear hr0_4 hc0_4
  have HR1_4 := Aside0.mk hr1_4
  have HC1_4 := Aside0.mk hc1_4
  clear hr1_4 hc1_4
  have HB := Aside0.mk (Below.refl w.heap.size w)
  have H : ((laws_szSafe.f a0_0 a0_1 a0_2 a0_3 l0_4 a0_5 1048576).bind fun t150 => (if t150 < 0 then (some true) else ((laws_szSafe.f a1_0 a1_1 a1_2 a1_3 l1_4 a1_5 t150).bind fun t151 => (if t151 < 0 then (some true) else ((laws_toSafe.f k a0_0 a0_1 a0_2 a0_3 l0_4 a0_5).bind fun bt152 => ((laws_toSafe.f k a1_0 a1_1 a1_2 a1_3 l1_4 a1_5).bind fun bt160 => ((spec_SafeSame.f k bt152.1 bt152.2.1 bt152.2.2.1 bt152.2.2.2.1 bt152.2.2.2.2.1 bt152.2.2.2.2.2 bt160.1 bt160.2.1 bt160.2.2.1 bt160.2.2.2.1 bt160.2.2.2.2.1 bt160.2.2.2.2.2).bind fun t168 => ((laws_toSafe.f k a0_0 a0_1 a0_2 a0_3 l0_4 a0_5).bind fun bt169 => ((laws_toSafe.f k a1_0 a1_1 a1_2 a1_3 l1_4 a1_5).bind fun bt178 => ((impl_SafeSame.f k bt169.1 bt169.2.1 bt169.2.2.1 bt169.2.2.2.1 bt169.2.2.2.2.1 bt169.2.2.2.2.2 bt178.1 bt178.2.1 bt178.2.2.1 bt178.2.2.2.1 bt178.2.2.2.2.1 bt178.2.2.2.2.2).bind fun t187 => (if (t187 != t168) = true then (some false) else ((laws_toSafe.f k a0_0 a0_1 a0_2 a0_3 l0_4 a0_5).bind fun bt188 => ((laws_eqSafe.f k bt169.1 bt169.2.1 bt169.2.2.1 bt169.2.2.2.1 bt169.2.2.2.2.1 bt169.2.2.2.2.2 bt188.1 bt188.2.1 bt188.2.2.1 bt188.2.2.2.1 bt188.2.2.2.2.1 bt188.2.2.2.2.2).bind fun t196 => (if t196 = true then ((laws_toSafe.f k a1_0 a1_1 a1_2 a1_3 l1_4 a1_5).bind fun bt197 => ((laws_eqSafe.f k bt178.1 bt178.2.1 bt178.2.2.1 bt178.2.2.2.1 bt178.2.2.2.2.1 bt178.2.2.2.2.2 bt197.1 bt197.2.1 bt197.2.2.1 bt197.2.2.2.1 bt197.2.2.2.2.1 bt197.2.2.2.2.2).bind fun t205 => (if t205 = true then (some true) else (some false)))) else (some false))))))))))))))) = some r := h
  clear h
  obtain ⟨t150, A30, H⟩ := Option.bind_eq_some_iff.mp H
  try dsimp only at H
  have A3 := Aside0.mk A30
  clear A30
  by_cases c4 : t150 < 0
  · rw [if_pos c4] at H
    have c4b0 : decide (t150 < 0) = true := decide_eq_true c4
    clear c4
    obtain rfl := Option.some.inj H
    go_enter Try.func3, Try.ntmps3
    go_wp2_with (first | ((with_reducible refine gate_dst (N := 2) rfl ?_); refine box_event ?hg (N := 2) ?hd (cs := #[.int .i64 a0_0, .int .i64 a0_1, .int .i64 a0_2, .string a0_3, .slice A0_4 l0_4.length c0_4, .string a0_5]) (t := 26) ?hr ?_; (case hd => rfl); (case hg => rfl); (case hr => first | (go_simp; done) | (go_simp; rfl)); intro gb148 hg w5 hbox hb; have BK148 := Aside0.mk (hbox); have GW148 := Aside0.mk ((by rw [hg]; exact (below_size (bI HB.out)) : w.heap.size ≤ gb148)); have GJ148 := GeI.mk GW148.out; have GE148 := Aside0.mk ((by rw [hg]; exact (below_size (bI HB.out)) : w.heap.size ≤ gb148)); have GI148 := GeI.mk GE148.out; replace HB := Aside0.mk (below_step (bI HB.out) hb); clear hb hbox hg) | ((with_reducible refine gate_dst (N := 3) rfl ?_); refine box_event ?hg (N := 3) ?hd (cs := #[.int .i64 a1_0, .int .i64 a1_1, .int .i64 a1_2, .string a1_3, .slice A1_4 l1_4.length c1_4, .string a1_5]) (t := 26) ?hr ?_; (case hd => rfl); (case hg => rfl); (case hr => first | (go_simp; done) | (go_simp; rfl)); intro gb149 hg w6 hbox hb; have BK149 := Aside0.mk (hbox); have GW149 := Aside0.mk ((by rw [hg]; exact (below_size (bI HB.out)) : w.heap.size ≤ gb149)); have GJ149 := GeI.mk GW149.out; have GE149 := Aside0.mk ((by rw [hg]; exact (below_size (bI HB.out)) : w.heap.size ≤ gb149)); have GI149 := GeI.mk GE149.out; replace HB := Aside0.mk (below_step (bI HB.out) hb); have NB148_149 := Aside0.mk ((by rw [hg]; exact Nat.ne_of_lt (blk_lt (g := gb148) (o := .cells #[.int .i64 a0_0, .int .i64 a0_1, .int .i64 a0_2, .string a0_3, .slice A0_4 l0_4.length c0_4, .string a0_5] 26 (0, 0)) (kI BK148.out)) : gb148 ≠ gb149)); have NI148_149 := NeI.mk NB148_149.out; have NB149_148 := Aside0.mk ((by rw [hg]; exact Nat.ne_of_gt (blk_lt (g := gb148) (o := .cells #[.int .i64 a0_0, .int .i64 a0_1, .int .i64 a0_2, .string a0_3, .slice A0_4 l0_4.length c0_4, .string a0_5] 26 (0, 0)) (kI BK148.out)) : gb149 ≠ gb148)); have NI149_148 := NeI.mk NB149_148.out; replace BK148 := Aside0.mk (blk_below (g := gb148) (o := .cells #[.int .i64 a0_0, .int .i64 a0_1, .int .i64 a0_2, .string a0_3, .slice A0_4 l0_4.length c0_4, .string a0_5] 26 (0, 0)) (kI BK148.out) hb); clear hb hbox hg; have hnb7 := NB148_149.out; have hnc7 := NB149_148.out; have hcz8_0 := bc0 BK148.out; have hcz8_1 := bc1 BK148.out; have hcz8_2 := bc2 BK148.out; have hcz8_3 := bc3 BK148.out; have hcz8_4 := bc4 BK148.out; have hcz8_5 := bc5 BK148.out; have hfz8_0 := blk_frozen BK148.out 0; have hfz8_1 := blk_frozen BK148.out 1; have hfz8_2 := blk_frozen BK148.out 2; have hfz8_3 := blk_frozen BK148.out 3; have hfz8_4 := blk_frozen BK148.out 4; have hfz8_5 := blk_frozen BK148.out 5) | ((with_reducible refine gate_callee (f := 12) rfl ?_); refine goesL_ (some 12) rfl rfl Try.func12 (by kernel_rfl) rfl #[.agg #[.int .i64 a0_0, .int .i64 a0_1, .int .i64 a0_2, .string a0_3, .slice A0_4 l0_4.length c0_4, .string a0_5], .int .i64 1048576] rfl (by (try simp only [List.map_toArray, List.map_cons, List.map_nil]); first | done | rfl | (simp only [List.length_drop, List.length_take]; rfl)) ?_; (with_reducible refine (laws_szSafe.calls a0_0 a0_1 a0_2 a0_3 _ _ l0_4 a0_5 1048576 t150 _ ?side1 ?side2 A3.out).mono ?_); (case side1 => exact cI (Kd.C_below HR0_4.out HB.out)); (case side2 => exact HC0_4.out); rintro e w9 ⟨rfl, hb⟩; refine ⟨_, rfl, ?_⟩; replace BK148 := Aside0.mk (blk_below (g := gb148) (o := .cells #[.int .i64 a0_0, .int .i64 a0_1, .int .i64 a0_2, .string a0_3, .slice A0_4 l0_4.length c0_4, .string a0_5] 26 (0, 0)) (kI BK148.out) hb); replace BK149 := Aside0.mk (blk_below (g := gb149) (o := .cells #[.int .i64 a1_0, .int .i64 a1_1, .int .i64 a1_2, .string a1_3, .slice A1_4 l1_4.length c1_4, .string a1_5] 26 (0, 0)) (kI BK149.out) hb); replace HB := Aside0.mk (below_step (bI HB.out) hb); (try clear hb); (try clear hb2); (try clear hk); (try clear hi)))
    go_ret
    exact ⟨by first | rfl | (simp [errW_none, errW_some] <;> rfl) | (simp [*, errW_none, errW_some] <;> rfl), bI HB.out⟩
  · rw [if_neg c4] at H
    have c4b0 : decide (t150 < 0) = false := decide_eq_false c4
    clear c4
    obtain ⟨t151, A100, H⟩ := Option.bind_eq_some_iff.mp H
    try dsimp only at H
    have A10 := Aside0.mk A100
    clear A100
    by_cases c11 : t151 < 0
    · rw [if_pos c11] at H
      have c11b0 : decide (t151 < 0) = true := decide_eq_true c11
      clear c11
      obtain rfl := Option.some.inj H
      go_enter Try.func3, Try.ntmps3
      go_wp2_with (first | ((with_reducible refine gate_dst (N := 2) rfl ?_); refine box_event ?hg (N := 2) ?hd (cs := #[.int .i64 a0_0, .int .i64 a0_1, .int .i64 a0_2, .string a0_3, .slice A0_4 l0_4.length c0_4, .string a0_5]) (t := 26) ?hr ?_; (case hd => rfl); (case hg => rfl); (case hr => first | (go_simp; done) | (go_simp; rfl)); intro gb148 hg w12 hbox hb; have BK148 := Aside0.mk (hbox); have GW148 := Aside0.mk ((by rw [hg]; exact (below_size (bI HB.out)) : w.heap.size ≤ gb148)); have GJ148 := GeI.mk GW148.out; have GE148 := Aside0.mk ((by rw [hg]; exact (below_size (bI HB.out)) : w.heap.size ≤ gb148)); have GI148 := GeI.mk GE148.out; replace HB := Aside0.mk (below_step (bI HB.out) hb); clear hb hbox hg) | ((with_reducible refine gate_dst (N := 3) rfl ?_); refine box_event ?hg (N := 3) ?hd (cs := #[.int .i64 a1_0, .int .i64 a1_1, .int .i64 a1_2, .string a1_3, .slice A1_4 l1_4.length c1_4, .string a1_5]) (t := 26) ?hr ?_; (case hd => rfl); (case hg => rfl); (case hr => first | (go_simp; done) | (go_simp; rfl)); intro gb149 hg w13 hbox hb; have BK149 := Aside0.mk (hbox); have GW149 := Aside0.mk ((by rw [hg]; exact (below_size (bI HB.out)) : w.heap.size ≤ gb149)); have GJ149 := GeI.mk GW149.out; have GE149 := Aside0.mk ((by rw [hg]; exact (below_size (bI HB.out)) : w.heap.size ≤ gb149)); have GI149 := GeI.mk GE149.out; replace HB := Aside0.mk (below_step (bI HB.out) hb); have NB148_149 := Aside0.mk ((by rw [hg]; exact Nat.ne_of_lt (blk_lt (g := gb148) (o := .cells #[.int .i64 a0_0, .int .i64 a0_1, .int .i64 a0_2, .string a0_3, .slice A0_4 l0_4.length c0_4, .string a0_5] 26 (0, 0)) (kI BK148.out)) : gb148 ≠ gb149)); have NI148_149 := NeI.mk NB148_149.out; have NB149_148 := Aside0.mk ((by rw [hg]; exact Nat.ne_of_gt (blk_lt (g := gb148) (o := .cells #[.int .i64 a0_0, .int .i64 a0_1, .int .i64 a0_2, .string a0_3, .slice A0_4 l0_4.length c0_4, .string a0_5] 26 (0, 0)) (kI BK148.out)) : gb149 ≠ gb148)); have NI149_148 := NeI.mk NB149_148.out; replace BK148 := Aside0.mk (blk_below (g := gb148) (o := .cells #[.int .i64 a0_0, .int .i64 a0_1, .int .i64 a0_2, .string a0_3, .slice A0_4 l0_4.length c0_4, .string a0_5] 26 (0, 0)) (kI BK148.out) hb); clear hb hbox hg; have hnb14 := NB148_149.out; have hnc14 := NB149_148.out; have hcz15_0 := bc0 BK148.out; have hcz15_1 := bc1 BK148.out; have hcz15_2 := bc2 BK148.out; have hcz15_3 := bc3 BK148.out; have hcz15_4 := bc4 BK148.out; have hcz15_5 := bc5 BK148.out; have hfz15_0 := blk_frozen BK148.out 0; have hfz15_1 := blk_frozen BK148.out 1; have hfz15_2 := blk_frozen BK148.out 2; have hfz15_3 := blk_frozen BK148.out 3; have hfz15_4 := blk_frozen BK148.out 4; have hfz15_5 := blk_frozen BK148.out 5) | ((with_reducible refine gate_callee (f := 12) rfl ?_); refine goesL_ (some 12) rfl rfl Try.func12 (by kernel_rfl) rfl #[.agg #[.int .i64 a0_0, .int .i64 a0_1, .int .i64 a0_2, .string a0_3, .slice A0_4 l0_4.length c0_4, .string a0_5], .int .i64 1048576] rfl (by (try simp only [List.map_toArray, List.map_cons, List.map_nil]); first | done | rfl | (simp only [List.length_drop, List.length_take]; rfl)) ?_; (with_reducible refine (laws_szSafe.calls a0_0 a0_1 a0_2 a0_3 _ _ l0_4 a0_5 1048576 t150 _ ?side1 ?side2 A3.out).mono ?_); (case side1 => exact cI (Kd.C_below HR0_4.out HB.out)); (case side2 => exact HC0_4.out); rintro e w16 ⟨rfl, hb⟩; refine ⟨_, rfl, ?_⟩; replace BK148 := Aside0.mk (blk_below (g := gb148) (o := .cells #[.int .i64 a0_0, .int .i64 a0_1, .int .i64 a0_2, .string a0_3, .slice A0_4 l0_4.length c0_4, .string a0_5] 26 (0, 0)) (kI BK148.out) hb); replace BK149 := Aside0.mk (blk_below (g := gb149) (o := .cells #[.int .i64 a1_0, .int .i64 a1_1, .int .i64 a1_2, .string a1_3, .slice A1_4 l1_4.length c1_4, .string a1_5] 26 (0, 0)) (kI BK149.out) hb); replace HB := Aside0.mk (below_step (bI HB.out) hb); (try clear hb); (try clear hb2); (try clear hk); (try clear hi); have hcz17_0 := bc0 BK149.out; have hcz17_1 := bc1 BK149.out; have hcz17_2 := bc2 BK149.out; have hcz17_3 := bc3 BK149.out; have hcz17_4 := bc4 BK149.out; have hcz17_5 := bc5 BK149.out; have hfz17_0 := blk_frozen BK149.out 0; have hfz17_1 := blk_frozen BK149.out 1; have hfz17_2 := blk_frozen BK149.out 2; have hfz17_3 := blk_frozen BK149.out 3; have hfz17_4 := blk_frozen BK149.out 4; have hfz17_5 := blk_frozen BK149.out 5) | ((with_reducible refine gate_callee (f := 12) rfl ?_); refine goesL_ (some 17) rfl rfl Try.func12 (by kernel_rfl) rfl #[.agg #[.int .i64 a1_0, .int .i64 a1_1, .int .i64 a1_2, .string a1_3, .slice A1_4 l1_4.length c1_4, .string a1_5], .int .i64 t150] rfl (by (try simp only [List.map_toArray, List.map_cons, List.map_nil]); first | done | rfl | (simp only [List.length_drop, List.length_take]; rfl)) ?_; (with_reducible refine (laws_szSafe.calls a1_0 a1_1 a1_2 a1_3 _ _ l1_4 a1_5 t150 t151 _ ?side1 ?side2 A10.out).mono ?_); (case side1 => exact cI (Kd.C_below HR1_4.out HB.out)); (case side2 => exact HC1_4.out); rintro e w18 ⟨rfl, hb⟩; refine ⟨_, rfl, ?_⟩; replace BK148 := Aside0.mk (blk_below (g := gb148) (o := .cells #[.int .i64 a0_0, .int .i64 a0_1, .int .i64 a0_2, .string a0_3, .slice A0_4 l0_4.length c0_4, .string a0_5] 26 (0, 0)) (kI BK148.out) hb); replace BK149 := Aside0.mk (blk_below (g := gb149) (o := .cells #[.int .i64 a1_0, .int .i64 a1_1, .int .i64 a1_2, .string a1_3, .slice A1_4 l1_4.length c1_4, .string a1_5] 26 (0, 0)) (kI BK149.out) hb); replace HB := Aside0.mk (below_step (bI HB.out) hb); (try clear hb); (try clear hb2); (try clear hk); (try clear hi)))
      go_ret
      exact ⟨by first | rfl | (simp [errW_none, errW_some] <;> rfl) | (simp [*, errW_none, errW_some] <;> rfl), bI HB.out⟩
    · rw [if_neg c11] at H
      have c11b0 : decide (t151 < 0) = false := decide_eq_false c11
      clear c11
      obtain ⟨⟨t152, t153, t154, t155, t156, t159⟩, A190, H⟩ := Option.bind_eq_some_iff.mp H
      try dsimp only at H
      have A19 := Aside0.mk A190
      clear A190
      obtain ⟨⟨t160, t161, t162, t163, t164, t167⟩, A200, H⟩ := Option.bind_eq_some_iff.mp H
      try dsimp only at H
      have A20 := Aside0.mk A200
      clear A200
      obtain ⟨t168, A210, H⟩ := Option.bind_eq_some_iff.mp H
      try dsimp only at H
      have A21 := Aside0.mk A210
      clear A210
      obtain ⟨⟨t169, t170, t171, t172, t173, t176⟩, A220, H⟩ := Option.bind_eq_some_iff.mp H
      try dsimp only at H
      have A22 := Aside0.mk A220
      clear A220
      obtain ⟨⟨t178, t179, t180, t181, t182, t185⟩, A230, H⟩ := Option.bind_eq_some_iff.mp H
      try dsimp only at H
      have A23 := Aside0.mk A230
      clear A230
      obtain ⟨t187, A240, H⟩ := Option.bind_eq_some_iff.mp H
      try dsimp only at H
      have A24 := Aside0.mk A240
      clear A240
      by_cases c25 : (t187 != t168) = true
      · rw [if_pos c25] at H
        have c25b0 : (t187 != t168) = true := c25
        (try (have c25b1 : decide (t187 = t168) = false := by simpa using c25))
        (try (have c25b2 : (t187 == t168) = false := by simpa using c25))
        (try (have c25b3 : ¬ (t187 = t168) := by simpa using c25))
        clear c25
        exact absurd (hrt.out.symm.trans (Option.some.inj H).symm) (by decide)
      rw [if_neg c25] at H
      have c25b0 : (t187 != t168) = false := by simpa using c25
      (try (have c25b1 : decide (t187 = t168) = true := by simpa using c25))
      (try (have c25b2 : (t187 == t168) = true := by simpa using c25))
      clear c25
      obtain ⟨⟨t188, t189, t190, t191, t192, t195⟩, A260, H⟩ := Option.bind_eq_some_iff.mp H
      try dsimp only at H
      have A26 := Aside0.mk A260
      clear A260
      obtain ⟨t196, A270, H⟩ := Option.bind_eq_some_iff.mp H
      try dsimp only at H
      have A27 := Aside0.mk A270
      clear A270
      by_cases c28 : t196 = true
      · subst c28
        rw [if_pos rfl] at H
        obtain ⟨⟨t197, t198, t199, t200, t201, t204⟩, A290, H⟩ := Option.bind_eq_some_iff.mp H
        try dsimp only at H
        have A29 := Aside0.mk A290
        clear A290
        obtain ⟨t205, A300, H⟩ := Option.bind_eq_some_iff.mp H
        try dsimp only at H
        have A30 := Aside0.mk A300
        clear A300
        by_cases c31 : t205 = true
        rotate_left
        · replace c31 := Bool.eq_false_iff.mpr c31
          subst c31
          rw [if_neg (show ¬ (false = true) by decide)] at H
          exact absurd (hrt.out.symm.trans (Option.some.inj H).symm) (by decide)
        subst c31
        rw [if_pos rfl] at H
        obtain rfl := Option.some.inj H
        go_enter Try.func3, Try.ntmps3
        try go_wp2_with (first | ((with_reducible refine gate_dst (N := 2) rfl ?_); refine box_event ?hg (N := 2) ?hd (cs := #[.int .i64 a0_0, .int .i64 a0_1, .int .i64 a0_2, .string a0_3, .slice A0_4 l0_4.length c0_4, .string a0_5]) (t := 26) ?hr ?_; (case hd => rfl); (case hg => rfl); (case hr => first | (go_simp; done) | (go_simp; rfl)); intro gb148 hg w32 hbox hb; have BK148 := Aside0.mk (hbox); have GW148 := Aside0.mk ((by rw [hg]; exact (below_size (bI HB.out)) : w.heap.size ≤ gb148)); have GJ148 := GeI.mk GW148.out; have GE148 := Aside0.mk ((by rw [hg]; exact (below_size (bI HB.out)) : w.heap.size ≤ gb148)); have GI148 := GeI.mk GE148.out; replace HB := Aside0.mk (below_step (bI HB.out) hb); clear hb hbox hg) | ((with_reducible refine gate_dst (N := 3) rfl ?_); refine box_event ?hg (N := 3) ?hd (cs := #[.int .i64 a1_0, .int .i64 a1_1, .int .i64 a1_2, .string a1_3, .slice A1_4 l1_4.length c1_4, .string a1_5]) (t := 26) ?hr ?_; (case hd => rfl); (case hg => rfl); (case hr => first | (go_simp; done) | (go_simp; rfl)); intro gb149 hg w33 hbox hb; have BK149 := Aside0.mk (hbox); have GW149 := Aside0.mk ((by rw [hg]; exact (below_size (bI HB.out)) : w.heap.size ≤ gb149)); have GJ149 := GeI.mk GW149.out; have GE149 := Aside0.mk ((by rw [hg]; exact (below_size (bI HB.out)) : w.heap.size ≤ gb149)); have GI149 := GeI.mk GE149.out; replace HB := Aside0.mk (below_step (bI HB.out) hb); have NB148_149 := Aside0.mk ((by rw [hg]; exact Nat.ne_of_lt (blk_lt (g := gb148) (o := .cells #[.int .i64 a0_0, .int .i64 a0_1, .int .i64 a0_2, .string a0_3, .slice A0_4 l0_4.length c0_4, .string a0_5] 26 (0, 0)) (kI BK148.out)) : gb148 ≠ gb149)); have NI148_149 := NeI.mk NB148_149.out; have NB149_148 := Aside0.mk ((by rw [hg]; exact Nat.ne_of_gt (blk_lt (g := gb148) (o := .cells #[.int .i64 a0_0, .int .i64 a0_1, .int .i64 a0_2, .string a0_3, .slice A0_4 l0_4.length c0_4, .string a0_5] 26 (0, 0)) (kI BK148.out)) : gb149 ≠ gb148)); have NI149_148 := NeI.mk NB149_148.out; replace BK148 := Aside0.mk (blk_below (g := gb148) (o := .cells #[.int .i64 a0_0, .int .i64 a0_1, .int .i64 a0_2, .string a0_3, .slice A0_4 l0_4.length c0_4, .string a0_5] 26 (0, 0)) (kI BK148.out) hb); clear hb hbox hg; have hnb34 := NB148_149.out; have hnc34 := NB149_148.out; have hcz35_0 := bc0 BK148.out; have hcz35_1 := bc1 BK148.out; have hcz35_2 := bc2 BK148.out; have hcz35_3 := bc3 BK148.out; have hcz35_4 := bc4 BK148.out; have hcz35_5 := bc5 BK148.out; have hfz35_0 := blk_frozen BK148.out 0; have hfz35_1 := blk_frozen BK148.out 1; have hfz35_2 := blk_frozen BK148.out 2; have hfz35_3 := blk_frozen BK148.out 3; have hfz35_4 := blk_frozen BK148.out 4; have hfz35_5 := blk_frozen BK148.out 5) | ((with_reducible refine gate_callee (f := 12) rfl ?_); refine goesL_ (some 12) rfl rfl Try.func12 (by kernel_rfl) rfl #[.agg #[.int .i64 a0_0, .int .i64 a0_1, .int .i64 a0_2, .string a0_3, .slice A0_4 l0_4.length c0_4, .string a0_5], .int .i64 1048576] rfl (by (try simp only [List.map_toArray, List.map_cons, List.map_nil]); first | done | rfl | (simp only [List.length_drop, List.length_take]; rfl)) ?_; (with_reducible refine (laws_szSafe.calls a0_0 a0_1 a0_2 a0_3 _ _ l0_4 a0_5 1048576 t150 _ ?side1 ?side2 A3.out).mono ?_); (case side1 => exact cI (Kd.C_below HR0_4.out HB.out)); (case side2 => exact HC0_4.out); rintro e w36 ⟨rfl, hb⟩; refine ⟨_, rfl, ?_⟩; replace BK148 := Aside0.mk (blk_below (g := gb148) (o := .cells #[.int .i64 a0_0, .int .i64 a0_1, .int .i64 a0_2, .string a0_3, .slice A0_4 l0_4.length c0_4, .string a0_5] 26 (0, 0)) (kI BK148.out) hb); replace BK149 := Aside0.mk (blk_below (g := gb149) (o := .cells #[.int .i64 a1_0, .int .i64 a1_1, .int .i64 a1_2, .string a1_3, .slice A1_4 l1_4.length c1_4, .string a1_5] 26 (0, 0)) (kI BK149.out) hb); replace HB := Aside0.mk (below_step (bI HB.out) hb); (try clear hb); (try clear hb2); (try clear hk); (try clear hi); have hcz37_0 := bc0 BK149.out; have hcz37_1 := bc1 BK149.out; have hcz37_2 := bc2 BK149.out; have hcz37_3 := bc3 BK149.out; have hcz37_4 := bc4 BK149.out; have hcz37_5 := bc5 BK149.out; have hfz37_0 := blk_frozen BK149.out 0; have hfz37_1 := blk_frozen BK149.out 1; have hfz37_2 := blk_frozen BK149.out 2; have hfz37_3 := blk_frozen BK149.out 3; have hfz37_4 := blk_frozen BK149.out 4; have hfz37_5 := blk_frozen BK149.out 5) | ((with_reducible refine gate_callee (f := 12) rfl ?_); refine goesL_ (some 17) rfl rfl Try.func12 (by kernel_rfl) rfl #[.agg #[.int .i64 a1_0, .int .i64 a1_1, .int .i64 a1_2, .string a1_3, .slice A1_4 l1_4.length c1_4, .string a1_5], .int .i64 t150] rfl (by (try simp only [List.map_toArray, List.map_cons, List.map_nil]); first | done | rfl | (simp only [List.length_drop, List.length_take]; rfl)) ?_; (with_reducible refine (laws_szSafe.calls a1_0 a1_1 a1_2 a1_3 _ _ l1_4 a1_5 t150 t151 _ ?side1 ?side2 A10.out).mono ?_); (case side1 => exact cI (Kd.C_below HR1_4.out HB.out)); (case side2 => exact HC1_4.out); rintro e w38 ⟨rfl, hb⟩; refine ⟨_, rfl, ?_⟩; replace BK148 := Aside0.mk (blk_below (g := gb148) (o := .cells #[.int .i64 a0_0, .int .i64 a0_1, .int .i64 a0_2, .string a0_3, .slice A0_4 l0_4.length c0_4, .string a0_5] 26 (0, 0)) (kI BK148.out) hb); replace BK149 := Aside0.mk (blk_below (g := gb149) (o := .cells #[.int .i64 a1_0, .int .i64 a1_1, .int .i64 a1_2, .string a1_3, .slice A1_4 l1_4.length c1_4, .string a1_5] 26 (0, 0)) (kI BK149.out) hb); replace HB := Aside0.mk (below_step (bI HB.out) hb); (try clear hb); (try clear hb2); (try clear hk); (try clear hi)))
        replace BK148 := Aside0.mk (blk_drew BK148.out)
        replace BK149 := Aside0.mk (blk_drew BK149.out)
        replace HB := Aside0.mk (below_drew1 HB.out)
        refine start_ (n := 6) (S := fun w' => w'.cell? ⟨gb148, 0, none⟩ = some (.int .i64 a0_0) ∧ w'.cell? ⟨gb148, 1, none⟩ = some (.int .i64 a0_1) ∧ w'.cell? ⟨gb148, 2, none⟩ = some (.int .i64 a0_2) ∧ w'.cell? ⟨gb148, 3, none⟩ = some (.string a0_3) ∧ w'.cell? ⟨gb148, 4, none⟩ = some (.slice A0_4 l0_4.length c0_4) ∧ w'.cell? ⟨gb148, 5, none⟩ = some (.string a0_5) ∧ w'.cell? ⟨gb149, 0, none⟩ = some (.int .i64 a1_0) ∧ w'.cell? ⟨gb149, 1, none⟩ = some (.int .i64 a1_1) ∧ w'.cell? ⟨gb149, 2, none⟩ = some (.int .i64 a1_2) ∧ w'.cell? ⟨gb149, 3, none⟩ = some (.string a1_3) ∧ w'.cell? ⟨gb149, 4, none⟩ = some (.slice A1_4 l1_4.length c1_4) ∧ w'.cell? ⟨gb149, 5, none⟩ = some (.string a1_5)) (ds := []) #[false, false, false, false, false, false] (by kernel_rfl) rfl rfl ⟨(blk_cell BK148.out 0).trans rfl, (blk_cell BK148.out 1).trans rfl, (blk_cell BK148.out 2).trans rfl, (blk_cell BK148.out 3).trans rfl, (blk_cell BK148.out 4).trans rfl, (blk_cell BK148.out 5).trans rfl, (blk_cell BK149.out 0).trans rfl, (blk_cell BK149.out 1).trans rfl, (blk_cell BK149.out 2).trans rfl, (blk_cell BK149.out 3).trans rfl, (blk_cell BK149.out 4).trans rfl, (blk_cell BK149.out 5).trans rfl⟩ (fun hHeld => ?_)
        generalize w38.drew = w39 at BK148 BK149 HB hHeld ⊢
        refine take_ (i := 0) (N := some 20) (v := ?_) (a' := ?_) #[true, false, false, false, false, false] rfl rfl (by kernel_rfl) (fun _ _ _ h => h) (Or.inl ⟨by rfl, ?_⟩) hHeld ?_ ?_
        rotate_left
        · rintro w' ⟨s0, s1, s2, s3, s4, s5, s6, s7, s8, s9, s10, s11⟩
          go_simp
          with_reducible rfl
        rotate_left
        · simp only [Act.put, List.setIfInBounds_toArray, List.set_cons_zero, List.set_cons_succ, i64_w, i32_w]
          rfl
        refine take_ (i := 2) (N := some 22) (v := ?_) (a' := ?_) #[true, false, true, false, false, false] rfl rfl (by kernel_rfl) (fun _ _ _ h => h) (Or.inl ⟨by rfl, ?_⟩) hHeld ?_ ?_
        rotate_left
        · rintro w' ⟨s0, s1, s2, s3, s4, s5, s6, s7, s8, s9, s10, s11⟩
          go_simp
          with_reducible rfl
        rotate_left
        · simp only [Act.put, List.setIfInBounds_toArray, List.set_cons_zero, List.set_cons_succ, i64_w, i32_w]
          rfl
        refine one_ (i := 1) (N := some 21) #[true, true, true, false, false, false] rfl rfl (by kernel_rfl) (by decide) (fun K hK => ?_)
        refine goes_ Try.func14 (by kernel_rfl) rfl #[.agg #[.int .i64 a0_0, .int .i64 a0_1, .int .i64 a0_2, .string a0_3, .slice A0_4 l0_4.length c0_4, .string a0_5]] (by rfl) rfl rfl (by (try simp only [List.map_toArray, List.map_cons, List.map_nil]); first | done | rfl | (simp only [List.length_drop, List.length_take]; rfl)) ?_
        with_reducible refine (laws_toSafe.calls k a0_0 a0_1 a0_2 a0_3 _ _ l0_4 a0_5 t152 t153 t154 t155 t156 t159 _ ?side1 ?side2 A19.out).mono ?_
        (case side1 => exact cI (Kd.C_below HR0_4.out HB.out))
        (case side2 => exact HC0_4.out)
        rintro e w40 ⟨v157, rfl, ho0, hb⟩
        refine ⟨_, rfl, ?_⟩
        have HO158 := Aside0.mk (Kd.R_lower ho0 (below_size (bI HB.out)))
        replace BK148 := Aside0.mk (blk_below (g := gb148) (o := .cells #[.int .i64 a0_0, .int .i64 a0_1, .int .i64 a0_2, .string a0_3, .slice A0_4 l0_4.length c0_4, .string a0_5] 26 (0, 0)) (kI BK148.out) hb)
        replace BK149 := Aside0.mk (blk_below (g := gb149) (o := .cells #[.int .i64 a1_0, .int .i64 a1_1, .int .i64 a1_2, .string a1_3, .slice A1_4 l1_4.length c1_4, .string a1_5] 26 (0, 0)) (kI BK149.out) hb)
        replace HB := Aside0.mk (below_step (bI HB.out) hb)
        (try clear hb)
        (try clear hb2)
        (try clear hk)
        (try clear hi)
        (try clear ho0)
        refine hK.out _ _ ⟨(blk_cell BK148.out 0).trans rfl, (blk_cell BK148.out 1).trans rfl, (blk_cell BK148.out 2).trans rfl, (blk_cell BK148.out 3).trans rfl, (blk_cell BK148.out 4).trans rfl, (blk_cell BK148.out 5).trans rfl, (blk_cell BK149.out 0).trans rfl, (blk_cell BK149.out 1).trans rfl, (blk_cell BK149.out 2).trans rfl, (blk_cell BK149.out 3).trans rfl, (blk_cell BK149.out 4).trans rfl, (blk_cell BK149.out 5).trans rfl⟩ (fun hHeld => ?_)
        clear hK K
        refine norm_ (a' := ?_) ?_ ?_
        rotate_left
        · show Act.put _ (some 21) _ = _
          simp only [Act.put, List.setIfInBounds_toArray, List.set_cons_zero, List.set_cons_succ, i64_w, i32_w]
          rfl
        refine one_ (i := 3) (N := some 23) #[true, true, true, true, false, false] rfl rfl (by kernel_rfl) (by decide) (fun K hK => ?_)
        refine goes_ Try.func14 (by kernel_rfl) rfl #[.agg #[.int .i64 a1_0, .int .i64 a1_1, .int .i64 a1_2, .string a1_3, .slice A1_4 l1_4.length c1_4, .string a1_5]] (by rfl) rfl rfl (by (try simp only [List.map_toArray, List.map_cons, List.map_nil]); first | done | rfl | (simp only [List.length_drop, List.length_take]; rfl)) ?_
        with_reducible refine (laws_toSafe.calls k a1_0 a1_1 a1_2 a1_3 _ _ l1_4 a1_5 t160 t161 t162 t163 t164 t167 _ ?side1 ?side2 A20.out).mono ?_
        (case side1 => exact cI (Kd.C_below HR1_4.out HB.out))
        (case side2 => exact HC1_4.out)
        rintro e w41 ⟨v165, rfl, ho0, hb⟩
        refine ⟨_, rfl, ?_⟩
        have HO166 := Aside0.mk (Kd.R_lower (Kd.R_new' ho0 (Kd.R_lt (rI HO158.out))) (below_size (bI HB.out)))
        replace HO158 := Aside0.mk (Kd.R_elder' (rI HO158.out) (Kd.R_base ho0) hb)
        replace BK148 := Aside0.mk (blk_below (g := gb148) (o := .cells #[.int .i64 a0_0, .int .i64 a0_1, .int .i64 a0_2, .string a0_3, .slice A0_4 l0_4.length c0_4, .string a0_5] 26 (0, 0)) (kI BK148.out) hb)
        replace BK149 := Aside0.mk (blk_below (g := gb149) (o := .cells #[.int .i64 a1_0, .int .i64 a1_1, .int .i64 a1_2, .string a1_3, .slice A1_4 l1_4.length c1_4, .string a1_5] 26 (0, 0)) (kI BK149.out) hb)
        replace HB := Aside0.mk (below_step (bI HB.out) hb)
        (try clear hb)
        (try clear hb2)
        (try clear hk)
        (try clear hi)
        (try clear ho0)
        obtain ⟨Ao42, co42, eo42⟩ := Kd.R_slice HO158.out
        (first | subst eo42 | (injection eo42 with f1_ f2_ f3_; have f4_ := f1_.symm; have f5_ := f3_.symm; clear f1_ f2_ f3_; subst f4_; subst f5_))
        obtain ⟨Ao43, co43, eo43⟩ := Kd.R_slice HO166.out
        (first | subst eo43 | (injection eo43 with f1_ f2_ f3_; have f4_ := f1_.symm; have f5_ := f3_.symm; clear f1_ f2_ f3_; subst f4_; subst f5_))
        refine hK.out _ _ ⟨(blk_cell BK148.out 0).trans rfl, (blk_cell BK148.out 1).trans rfl, (blk_cell BK148.out 2).trans rfl, (blk_cell BK148.out 3).trans rfl, (blk_cell BK148.out 4).trans rfl, (blk_cell BK148.out 5).trans rfl, (blk_cell BK149.out 0).trans rfl, (blk_cell BK149.out 1).trans rfl, (blk_cell BK149.out 2).trans rfl, (blk_cell BK149.out 3).trans rfl, (blk_cell BK149.out 4).trans rfl, (blk_cell BK149.out 5).trans rfl⟩ (fun hHeld => ?_)
        clear hK K
        refine norm_ (a' := ?_) ?_ ?_
        rotate_left
        · show Act.put _ (some 23) _ = _
          simp only [Act.put, List.setIfInBounds_toArray, List.set_cons_zero, List.set_cons_succ, i64_w, i32_w]
          rfl
        refine one_ (i := 4) (N := some 24) #[true, true, true, true, true, false] rfl rfl (by kernel_rfl) (by decide) (fun K hK => ?_)
        refine goes_ Try.func13 (by kernel_rfl) rfl #[.agg #[.int .i64 t152, .int .i64 t153, .int .i64 t154, .string t155, .slice Ao42 t156.length co42, .string t159], .agg #[.int .i64 t160, .int .i64 t161, .int .i64 t162, .string t163, .slice Ao43 t164.length co43, .string t167]] (by rfl) rfl rfl (by (try simp only [List.map_toArray, List.map_cons, List.map_nil]); first | done | rfl | (simp only [List.length_drop, List.length_take]; rfl)) ?_
        with_reducible refine (spec_SafeSame.calls k t152 t153 t154 t155 _ _ t156 t159 t160 t161 t162 t163 _ _ t164 t167 t168 _ ?side1 ?side2 ?side3 ?side4 A21.out).mono ?_
        (case side1 => repeat (first | exact (Kd.R_reads' HO158.out).2.2 | (with_reducible refine Kd.C_alloc ?_ _) | (with_reducible refine Kd.C_drewN ?_ _) | (with_reducible refine Kd.C_drew ?_)))
        (case side2 => exact (Kd.R_reads' HO158.out).2.1)
        (case side3 => repeat (first | exact (Kd.R_reads' HO166.out).2.2 | (with_reducible refine Kd.C_alloc ?_ _) | (with_reducible refine Kd.C_drewN ?_ _) | (with_reducible refine Kd.C_drew ?_)))
        (case side4 => exact (Kd.R_reads' HO166.out).2.1)
        rintro e w44 ⟨rfl, hb⟩
        refine ⟨_, rfl, ?_⟩
        replace HO158 := Aside0.mk (Kd.R_below (rI HO158.out) hb)
        replace HO166 := Aside0.mk (Kd.R_below (rI HO166.out) hb)
        replace BK148 := Aside0.mk (blk_below (g := gb148) (o := .cells #[.int .i64 a0_0, .int .i64 a0_1, .int .i64 a0_2, .string a0_3, .slice A0_4 l0_4.length c0_4, .string a0_5] 26 (0, 0)) (kI BK148.out) hb)
        replace BK149 := Aside0.mk (blk_below (g := gb149) (o := .cells #[.int .i64 a1_0, .int .i64 a1_1, .int .i64 a1_2, .string a1_3, .slice A1_4 l1_4.length c1_4, .string a1_5] 26 (0, 0)) (kI BK149.out) hb)
        replace HB := Aside0.mk (below_step (bI HB.out) hb)
        (try clear hb)
        (try clear hb2)
        (try clear hk)
        (try clear hi)
        refine hK.out _ _ ⟨(blk_cell BK148.out 0).trans rfl, (blk_cell BK148.out 1).trans rfl, (blk_cell BK148.out 2).trans rfl, (blk_cell BK148.out 3).trans rfl, (blk_cell BK148.out 4).trans rfl, (blk_cell BK148.out 5).trans rfl, (blk_cell BK149.out 0).trans rfl, (blk_cell BK149.out 1).trans rfl, (blk_cell BK149.out 2).trans rfl, (blk_cell BK149.out 3).trans rfl, (blk_cell BK149.out 4).trans rfl, (blk_cell BK149.out 5).trans rfl⟩ (fun hHeld => ?_)
        clear hK K
        refine norm_ (a' := ?_) ?_ ?_
        rotate_left
        · show Act.put _ (some 24) _ = _
          simp only [Act.put, List.setIfInBounds_toArray, List.set_cons_zero, List.set_cons_succ, i64_w, i32_w]
          rfl
        refine pure_ (i := 5) (N := some 6) (v := ?_) (a' := ?_) #[true, true, true, true, true, true] rfl rfl (by kernel_rfl) (fun _ _ _ h => h) (Or.inl ⟨by rfl, ?_⟩) ?_ ?_
        rotate_left
        · intro w'
          go_simp
          with_reducible rfl
        rotate_left
        · simp only [Act.put, List.setIfInBounds_toArray, List.set_cons_zero, List.set_cons_succ, i64_w, i32_w]
          rfl
        refine done_ (by kernel_rfl) ?_
        have hcz45_0 := bc0 BK148.out
        have hcz45_1 := bc1 BK148.out
        have hcz45_2 := bc2 BK148.out
        have hcz45_3 := bc3 BK148.out
        have hcz45_4 := bc4 BK148.out
        have hcz45_5 := bc5 BK148.out
        have hfz45_0 := blk_frozen BK148.out 0
        have hfz45_1 := blk_frozen BK148.out 1
        have hfz45_2 := blk_frozen BK148.out 2
        have hfz45_3 := blk_frozen BK148.out 3
        have hfz45_4 := blk_frozen BK148.out 4
        have hfz45_5 := blk_frozen BK148.out 5
        clear HO158
        clear HO166
        try go_wp2_with (first | ((with_reducible refine gate_callee (f := 14) rfl ?_); refine goesL_ (some 26) rfl rfl Try.func14 (by kernel_rfl) rfl #[.agg #[.int .i64 a0_0, .int .i64 a0_1, .int .i64 a0_2, .string a0_3, .slice A0_4 l0_4.length c0_4, .string a0_5]] rfl (by (try simp only [List.map_toArray, List.map_cons, List.map_nil]); first | done | rfl | (simp only [List.length_drop, List.length_take]; rfl)) ?_; (with_reducible refine (laws_toSafe.calls k a0_0 a0_1 a0_2 a0_3 _ _ l0_4 a0_5 t169 t170 t171 t172 t173 t176 _ ?side1 ?side2 A22.out).mono ?_); (case side1 => exact cI (Kd.C_below HR0_4.out HB.out)); (case side2 => exact HC0_4.out); rintro e w46 ⟨v174, rfl, ho0, hb⟩; refine ⟨_, rfl, ?_⟩; have HO175 := Aside0.mk (Kd.R_lower ho0 (below_size (bI HB.out))); replace BK148 := Aside0.mk (blk_below (g := gb148) (o := .cells #[.int .i64 a0_0, .int .i64 a0_1, .int .i64 a0_2, .string a0_3, .slice A0_4 l0_4.length c0_4, .string a0_5] 26 (0, 0)) (kI BK148.out) hb); replace BK149 := Aside0.mk (blk_below (g := gb149) (o := .cells #[.int .i64 a1_0, .int .i64 a1_1, .int .i64 a1_2, .string a1_3, .slice A1_4 l1_4.length c1_4, .string a1_5] 26 (0, 0)) (kI BK149.out) hb); replace HB := Aside0.mk (below_step (bI HB.out) hb); (try clear hb); (try clear hb2); (try clear hk); (try clear hi); (try clear ho0)) | ((with_reducible refine gate_dst (N := 7) rfl ?_); refine box_event ?hg (N := 7) ?hd (cs := #[.int .i64 0, .int .i64 0, .int .i64 0, .string (⟨#[]⟩ : ByteArray), .slice none 0 0, .string (⟨#[]⟩ : ByteArray)]) (t := 31) ?hr ?_; (case hd => rfl); (case hg => rfl); (case hr => first | (go_simp; done) | (go_simp; rfl)); intro gb177 hg w47 hbox hb; replace HO175 := Aside0.mk (Kd.R_below (rI HO175.out) hb); have BK177 := Aside0.mk (hbox); have GW177 := Aside0.mk ((by rw [hg]; exact (below_size (bI HB.out)) : w.heap.size ≤ gb177)); have GJ177 := GeI.mk GW177.out; have GE177 := Aside0.mk ((by rw [hg]; exact (below_size (bI HB.out)) : w.heap.size ≤ gb177)); have GI177 := GeI.mk GE177.out; replace HB := Aside0.mk (below_step (bI HB.out) hb); have NB148_177 := Aside0.mk ((by rw [hg]; exact Nat.ne_of_lt (blk_lt (g := gb148) (o := .cells #[.int .i64 a0_0, .int .i64 a0_1, .int .i64 a0_2, .string a0_3, .slice A0_4 l0_4.length c0_4, .string a0_5] 26 (0, 0)) (kI BK148.out)) : gb148 ≠ gb177)); have NI148_177 := NeI.mk NB148_177.out; have NB177_148 := Aside0.mk ((by rw [hg]; exact Nat.ne_of_gt (blk_lt (g := gb148) (o := .cells #[.int .i64 a0_0, .int .i64 a0_1, .int .i64 a0_2, .string a0_3, .slice A0_4 l0_4.length c0_4, .string a0_5] 26 (0, 0)) (kI BK148.out)) : gb177 ≠ gb148)); have NI177_148 := NeI.mk NB177_148.out; replace BK148 := Aside0.mk (blk_below (g := gb148) (o := .cells #[.int .i64 a0_0, .int .i64 a0_1, .int .i64 a0_2, .string a0_3, .slice A0_4 l0_4.length c0_4, .string a0_5] 26 (0, 0)) (kI BK148.out) hb); have NB149_177 := Aside0.mk ((by rw [hg]; exact Nat.ne_of_lt (blk_lt (g := gb149) (o := .cells #[.int .i64 a1_0, .int .i64 a1_1, .int .i64 a1_2, .string a1_3, .slice A1_4 l1_4.length c1_4, .string a1_5] 26 (0, 0)) (kI BK149.out)) : gb149 ≠ gb177)); have NI149_177 := NeI.mk NB149_177.out; have NB177_149 := Aside0.mk ((by rw [hg]; exact Nat.ne_of_gt (blk_lt (g := gb149) (o := .cells #[.int .i64 a1_0, .int .i64 a1_1, .int .i64 a1_2, .string a1_3, .slice A1_4 l1_4.length c1_4, .string a1_5] 26 (0, 0)) (kI BK149.out)) : gb177 ≠ gb149)); have NI177_149 := NeI.mk NB177_149.out; replace BK149 := Aside0.mk (blk_below (g := gb149) (o := .cells #[.int .i64 a1_0, .int .i64 a1_1, .int .i64 a1_2, .string a1_3, .slice A1_4 l1_4.length c1_4, .string a1_5] 26 (0, 0)) (kI BK149.out) hb); clear hb hbox hg; have hnb48 := NB177_148.out; have hnc48 := NB148_177.out; have hnb49 := NB177_149.out; have hnc49 := NB149_177.out; have hcz50_0 := bc0 BK177.out; have hcz50_1 := bc1 BK177.out; have hcz50_2 := bc2 BK177.out; have hcz50_3 := bc3 BK177.out; have hcz50_4 := bc4 BK177.out; have hcz50_5 := bc5 BK177.out; have hfz50_0 := blk_frozen BK177.out 0; have hfz50_1 := blk_frozen BK177.out 1; have hfz50_2 := blk_frozen BK177.out 2; have hfz50_3 := blk_frozen BK177.out 3; have hfz50_4 := blk_frozen BK177.out 4; have hfz50_5 := blk_frozen BK177.out 5; obtain ⟨Ao51, co51, eo51⟩ := Kd.R_slice HO175.out; subst eo51; have hcz52_0 := bc0 BK149.out; have hcz52_1 := bc1 BK149.out; have hcz52_2 := bc2 BK149.out; have hcz52_3 := bc3 BK149.out; have hcz52_4 := bc4 BK149.out; have hcz52_5 := bc5 BK149.out; have hfz52_0 := blk_frozen BK149.out 0; have hfz52_1 := blk_frozen BK149.out 1; have hfz52_2 := blk_frozen BK149.out 2; have hfz52_3 := blk_frozen BK149.out 3; have hfz52_4 := blk_frozen BK149.out 4; have hfz52_5 := blk_frozen BK149.out 5) | ((with_reducible refine gate_callee (f := 14) rfl ?_); refine goesL_ (some 28) rfl rfl Try.func14 (by kernel_rfl) rfl #[.agg #[.int .i64 a1_0, .int .i64 a1_1, .int .i64 a1_2, .string a1_3, .slice A1_4 l1_4.length c1_4, .string a1_5]] rfl (by (try simp only [List.map_toArray, List.map_cons, List.map_nil]); first | done | rfl | (simp only [List.length_drop, List.length_take]; rfl)) ?_; (with_reducible refine (laws_toSafe.calls k a1_0 a1_1 a1_2 a1_3 _ _ l1_4 a1_5 t178 t179 t180 t181 t182 t185 _ ?side1 ?side2 A23.out).mono ?_); (case side1 => exact Kd.C_below HR1_4.out (bI HB.out)); (case side2 => exact HC1_4.out); rintro e w53 ⟨v183, rfl, ho0, hb⟩; refine ⟨_, rfl, ?_⟩; have HO184 := Aside0.mk (Kd.R_lower (Kd.R_new' ho0 (Kd.R_lt (rI (Kd.R_mono (Kd.R_far (p := ⟨gb177, 5, none⟩) (Kd.R_far (p := ⟨gb177, 4, none⟩) (Kd.R_far (p := ⟨gb177, 3, none⟩) (Kd.R_far (p := ⟨gb177, 2, none⟩) (Kd.R_far (p := ⟨gb177, 1, none⟩) (Kd.R_far (p := ⟨gb177, 0, none⟩) (Kd.R_types HO175.out BK177.out (by decide)) (fun _ hk => hk.2) (.int .i64 t169)) (fun _ hk => hk.2) (.int .i64 t170)) (fun _ hk => hk.2) (.int .i64 t171)) (fun _ hk => hk.2) (.string t172)) (fun _ hk => hk.2) (.slice Ao51 t173.length co51)) (fun _ hk => hk.2) (.string t176)) (fun _ h_ => h_.1))))) (below_size (bI HB.out))); replace HO175 := Aside0.mk (Kd.R_elder' (rI (Kd.R_mono (Kd.R_far (p := ⟨gb177, 5, none⟩) (Kd.R_far (p := ⟨gb177, 4, none⟩) (Kd.R_far (p := ⟨gb177, 3, none⟩) (Kd.R_far (p := ⟨gb177, 2, none⟩) (Kd.R_far (p := ⟨gb177, 1, none⟩) (Kd.R_far (p := ⟨gb177, 0, none⟩) (Kd.R_types HO175.out BK177.out (by decide)) (fun _ hk => hk.2) (.int .i64 t169)) (fun _ hk => hk.2) (.int .i64 t170)) (fun _ hk => hk.2) (.int .i64 t171)) (fun _ hk => hk.2) (.string t172)) (fun _ hk => hk.2) (.slice Ao51 t173.length co51)) (fun _ hk => hk.2) (.string t176)) (fun _ h_ => h_.1))) (Kd.R_base ho0) hb); replace BK148 := Aside0.mk (blk_below (g := gb148) (o := .cells #[.int .i64 a0_0, .int .i64 a0_1, .int .i64 a0_2, .string a0_3, .slice A0_4 l0_4.length c0_4, .string a0_5] 26 (0, 0)) (gI BK148.out) hb); replace BK149 := Aside0.mk (blk_below (g := gb149) (o := .cells #[.int .i64 a1_0, .int .i64 a1_1, .int .i64 a1_2, .string a1_3, .slice A1_4 l1_4.length c1_4, .string a1_5] 26 (0, 0)) (gI BK149.out) hb); replace BK177 := Aside0.mk (blk_below (g := gb177) (o := .cells #[.int .i64 t169, .int .i64 t170, .int .i64 t171, .string t172, .slice Ao51 t173.length co51, .string t176] 31 (0, 0)) (by (with_reducible repeat (first | refine blk_drewN ?_ _ | refine blk_drew ?_ | refine blk_alloc ?_ _)); refine blk_put (cs := #[.int .i64 t169, .int .i64 t170, .int .i64 t171, .string t172, .slice Ao51 t173.length co51, .string (⟨#[]⟩ : ByteArray)]) ?_ 5 _ rfl; (with_reducible repeat (first | refine blk_drewN ?_ _ | refine blk_drew ?_ | refine blk_alloc ?_ _)); refine blk_put (cs := #[.int .i64 t169, .int .i64 t170, .int .i64 t171, .string t172, .slice none 0 0, .string (⟨#[]⟩ : ByteArray)]) ?_ 4 _ rfl; (with_reducible repeat (first | refine blk_drewN ?_ _ | refine blk_drew ?_ | refine blk_alloc ?_ _)); refine blk_put (cs := #[.int .i64 t169, .int .i64 t170, .int .i64 t171, .string (⟨#[]⟩ : ByteArray), .slice none 0 0, .string (⟨#[]⟩ : ByteArray)]) ?_ 3 _ rfl; (with_reducible repeat (first | refine blk_drewN ?_ _ | refine blk_drew ?_ | refine blk_alloc ?_ _)); refine blk_put (cs := #[.int .i64 t169, .int .i64 t170, .int .i64 0, .string (⟨#[]⟩ : ByteArray), .slice none 0 0, .string (⟨#[]⟩ : ByteArray)]) ?_ 2 _ rfl; (with_reducible repeat (first | refine blk_drewN ?_ _ | refine blk_drew ?_ | refine blk_alloc ?_ _)); refine blk_put (cs := #[.int .i64 t169, .int .i64 0, .int .i64 0, .string (⟨#[]⟩ : ByteArray), .slice none 0 0, .string (⟨#[]⟩ : ByteArray)]) ?_ 1 _ rfl; (with_reducible repeat (first | refine blk_drewN ?_ _ | refine blk_drew ?_ | refine blk_alloc ?_ _)); refine blk_put (cs := #[.int .i64 0, .int .i64 0, .int .i64 0, .string (⟨#[]⟩ : ByteArray), .slice none 0 0, .string (⟨#[]⟩ : ByteArray)]) ?_ 0 _ rfl; (with_reducible repeat (first | refine blk_drewN ?_ _ | refine blk_drew ?_ | refine blk_alloc ?_ _)); exact BK177.out) hb); replace HB := Aside0.mk (below_step (bI HB.out) hb); (try clear hb); (try clear hb2); (try clear hk); (try clear hi); (try clear ho0)) | ((with_reducible refine gate_dst (N := 8) rfl ?_); refine box_event ?hg (N := 8) ?hd (cs := #[.int .i64 0, .int .i64 0, .int .i64 0, .string (⟨#[]⟩ : ByteArray), .slice none 0 0, .string (⟨#[]⟩ : ByteArray)]) (t := 31) ?hr ?_; (case hd => rfl); (case hg => rfl); (case hr => first | (go_simp; done) | (go_simp; rfl)); intro gb186 hg w54 hbox hb; replace HO175 := Aside0.mk (Kd.R_below (rI HO175.out) hb); replace HO184 := Aside0.mk (Kd.R_below (rI HO184.out) hb); have BK186 := Aside0.mk (hbox); have GW186 := Aside0.mk ((by rw [hg]; exact (below_size (bI HB.out)) : w.heap.size ≤ gb186)); have GJ186 := GeI.mk GW186.out; have GE186 := Aside0.mk ((by rw [hg]; exact (below_size (bI HB.out)) : w.heap.size ≤ gb186)); have GI186 := GeI.mk GE186.out; replace HB := Aside0.mk (below_step (bI HB.out) hb); have NB148_186 := Aside0.mk ((by rw [hg]; exact Nat.ne_of_lt (blk_lt (g := gb148) (o := .cells #[.int .i64 a0_0, .int .i64 a0_1, .int .i64 a0_2, .string a0_3, .slice A0_4 l0_4.length c0_4, .string a0_5] 26 (0, 0)) (kI BK148.out)) : gb148 ≠ gb186)); have NI148_186 := NeI.mk NB148_186.out; have NB186_148 := Aside0.mk ((by rw [hg]; exact Nat.ne_of_gt (blk_lt (g := gb148) (o := .cells #[.int .i64 a0_0, .int .i64 a0_1, .int .i64 a0_2, .string a0_3, .slice A0_4 l0_4.length c0_4, .string a0_5] 26 (0, 0)) (kI BK148.out)) : gb186 ≠ gb148)); have NI186_148 := NeI.mk NB186_148.out; replace BK148 := Aside0.mk (blk_below (g := gb148) (o := .cells #[.int .i64 a0_0, .int .i64 a0_1, .int .i64 a0_2, .string a0_3, .slice A0_4 l0_4.length c0_4, .string a0_5] 26 (0, 0)) (kI BK148.out) hb); have NB149_186 := Aside0.mk ((by rw [hg]; exact Nat.ne_of_lt (blk_lt (g := gb149) (o := .cells #[.int .i64 a1_0, .int .i64 a1_1, .int .i64 a1_2, .string a1_3, .slice A1_4 l1_4.length c1_4, .string a1_5] 26 (0, 0)) (kI BK149.out)) : gb149 ≠ gb186)); have NI149_186 := NeI.mk NB149_186.out; have NB186_149 := Aside0.mk ((by rw [hg]; exact Nat.ne_of_gt (blk_lt (g := gb149) (o := .cells #[.int .i64 a1_0, .int .i64 a1_1, .int .i64 a1_2, .string a1_3, .slice A1_4 l1_4.length c1_4, .string a1_5] 26 (0, 0)) (kI BK149.out)) : gb186 ≠ gb149)); have NI186_149 := NeI.mk NB186_149.out; replace BK149 := Aside0.mk (blk_below (g := gb149) (o := .cells #[.int .i64 a1_0, .int .i64 a1_1, .int .i64 a1_2, .string a1_3, .slice A1_4 l1_4.length c1_4, .string a1_5] 26 (0, 0)) (kI BK149.out) hb); have NB177_186 := Aside0.mk ((by rw [hg]; exact Nat.ne_of_lt (blk_lt (g := gb177) (o := .cells #[.int .i64 t169, .int .i64 t170, .int .i64 t171, .string t172, .slice Ao51 t173.length co51, .string t176] 31 (0, 0)) (kI BK177.out)) : gb177 ≠ gb186)); have NI177_186 := NeI.mk NB177_186.out; have NB186_177 := Aside0.mk ((by rw [hg]; exact Nat.ne_of_gt (blk_lt (g := gb177) (o := .cells #[.int .i64 t169, .int .i64 t170, .int .i64 t171, .string t172, .slice Ao51 t173.length co51, .string t176] 31 (0, 0)) (kI BK177.out)) : gb186 ≠ gb177)); have NI186_177 := NeI.mk NB186_177.out; replace BK177 := Aside0.mk (blk_below (g := gb177) (o := .cells #[.int .i64 t169, .int .i64 t170, .int .i64 t171, .string t172, .slice Ao51 t173.length co51, .string t176] 31 (0, 0)) (kI BK177.out) hb); clear hb hbox hg; have hnb55 := NB186_148.out; have hnc55 := NB148_186.out; have hnb56 := NB186_149.out; have hnc56 := NB149_186.out; have hnb57 := NB186_177.out; have hnc57 := NB177_186.out; have hcz58_0 := bc0 BK186.out; have hcz58_1 := bc1 BK186.out; have hcz58_2 := bc2 BK186.out; have hcz58_3 := bc3 BK186.out; have hcz58_4 := bc4 BK186.out; have hcz58_5 := bc5 BK186.out; have hfz58_0 := blk_frozen BK186.out 0; have hfz58_1 := blk_frozen BK186.out 1; have hfz58_2 := blk_frozen BK186.out 2; have hfz58_3 := blk_frozen BK186.out 3; have hfz58_4 := blk_frozen BK186.out 4; have hfz58_5 := blk_frozen BK186.out 5; obtain ⟨Ao59, co59, eo59⟩ := Kd.R_slice HO184.out; subst eo59; have hcz60_0 := bc0 BK177.out; have hcz60_1 := bc1 BK177.out; have hcz60_2 := bc2 BK177.out; have hcz60_3 := bc3 BK177.out; have hcz60_4 := bc4 BK177.out; have hcz60_5 := bc5 BK177.out; have hfz60_0 := blk_frozen BK177.out 0; have hfz60_1 := blk_frozen BK177.out 1; have hfz60_2 := blk_frozen BK177.out 2; have hfz60_3 := blk_frozen BK177.out 3; have hfz60_4 := blk_frozen BK177.out 4; have hfz60_5 := blk_frozen BK177.out 5) | ((with_reducible refine gate_callee (f := 15) rfl ?_); refine goesL_ (some 31) rfl rfl Try.func15 (by kernel_rfl) rfl #[.agg #[.int .i64 t169, .int .i64 t170, .int .i64 t171, .string t172, .slice Ao51 t173.length co51, .string t176], .agg #[.int .i64 t178, .int .i64 t179, .int .i64 t180, .string t181, .slice Ao59 t182.length co59, .string t185]] rfl (by (try simp only [List.map_toArray, List.map_cons, List.map_nil]); first | done | rfl | (simp only [List.length_drop, List.length_take]; rfl)) ?_; (with_reducible refine (impl_SafeSame.calls k t169 t170 t171 t172 _ _ t173 t176 t178 t179 t180 t181 _ _ t182 t185 t187 _ ?side1 ?side2 ?side3 ?side4 A24.out).mono ?_); (case side1 => refine (Kd.R_reads' (e := 3) (base := w.heap.size) (ok := fun k_ => (True ∧ some k_ ≠ (.slice Ao59 t182.length co59 : Value).ownBlock)) (n := t173.length) (c := co51) ?_).2.2; exact (rI (Kd.R_mono (Kd.R_far (p := ⟨gb186, 5, none⟩) (Kd.R_far (p := ⟨gb186, 4, none⟩) (Kd.R_far (p := ⟨gb186, 3, none⟩) (Kd.R_far (p := ⟨gb186, 2, none⟩) (Kd.R_far (p := ⟨gb186, 1, none⟩) (Kd.R_far (p := ⟨gb186, 0, none⟩) (Kd.R_types HO175.out BK186.out (by decide)) (fun _ hk => hk.2) (.int .i64 t178)) (fun _ hk => hk.2) (.int .i64 t179)) (fun _ hk => hk.2) (.int .i64 t180)) (fun _ hk => hk.2) (.string t181)) (fun _ hk => hk.2) (.slice Ao59 t182.length co59)) (fun _ hk => hk.2) (.string t185)) (fun _ h_ => h_.1)))); (case side2 => exact (Kd.R_reads' HO175.out).2.1); (case side3 => refine (Kd.R_reads' (e := 3) (base := w.heap.size) (ok := fun k_ => (True ∧ some k_ ≠ (.slice Ao51 t173.length co51 : Value).ownBlock)) (n := t182.length) (c := co59) ?_).2.2; exact (rI (Kd.R_mono (Kd.R_far (p := ⟨gb186, 5, none⟩) (Kd.R_far (p := ⟨gb186, 4, none⟩) (Kd.R_far (p := ⟨gb186, 3, none⟩) (Kd.R_far (p := ⟨gb186, 2, none⟩) (Kd.R_far (p := ⟨gb186, 1, none⟩) (Kd.R_far (p := ⟨gb186, 0, none⟩) (Kd.R_types HO184.out BK186.out (by decide)) (fun _ hk => hk.2) (.int .i64 t178)) (fun _ hk => hk.2) (.int .i64 t179)) (fun _ hk => hk.2) (.int .i64 t180)) (fun _ hk => hk.2) (.string t181)) (fun _ hk => hk.2) (.slice Ao59 t182.length co59)) (fun _ hk => hk.2) (.string t185)) (fun _ h_ => h_.1)))); (case side4 => exact (Kd.R_reads' HO184.out).2.1); rintro e w61 ⟨rfl, hb⟩; refine ⟨_, rfl, ?_⟩; replace HO175 := Aside0.mk (Kd.R_below (rI (Kd.R_mono (Kd.R_far (p := ⟨gb186, 5, none⟩) (Kd.R_far (p := ⟨gb186, 4, none⟩) (Kd.R_far (p := ⟨gb186, 3, none⟩) (Kd.R_far (p := ⟨gb186, 2, none⟩) (Kd.R_far (p := ⟨gb186, 1, none⟩) (Kd.R_far (p := ⟨gb186, 0, none⟩) (Kd.R_types HO175.out BK186.out (by decide)) (fun _ hk => hk.2) (.int .i64 t178)) (fun _ hk => hk.2) (.int .i64 t179)) (fun _ hk => hk.2) (.int .i64 t180)) (fun _ hk => hk.2) (.string t181)) (fun _ hk => hk.2) (.slice Ao59 t182.length co59)) (fun _ hk => hk.2) (.string t185)) (fun _ h_ => h_.1))) hb); replace HO184 := Aside0.mk (Kd.R_below (rI (Kd.R_mono (Kd.R_far (p := ⟨gb186, 5, none⟩) (Kd.R_far (p := ⟨gb186, 4, none⟩) (Kd.R_far (p := ⟨gb186, 3, none⟩) (Kd.R_far (p := ⟨gb186, 2, none⟩) (Kd.R_far (p := ⟨gb186, 1, none⟩) (Kd.R_far (p := ⟨gb186, 0, none⟩) (Kd.R_types HO184.out BK186.out (by decide)) (fun _ hk => hk.2) (.int .i64 t178)) (fun _ hk => hk.2) (.int .i64 t179)) (fun _ hk => hk.2) (.int .i64 t180)) (fun _ hk => hk.2) (.string t181)) (fun _ hk => hk.2) (.slice Ao59 t182.length co59)) (fun _ hk => hk.2) (.string t185)) (fun _ h_ => h_.1))) hb); replace BK148 := Aside0.mk (blk_below (g := gb148) (o := .cells #[.int .i64 a0_0, .int .i64 a0_1, .int .i64 a0_2, .string a0_3, .slice A0_4 l0_4.length c0_4, .string a0_5] 26 (0, 0)) (gI BK148.out) hb); replace BK149 := Aside0.mk (blk_below (g := gb149) (o := .cells #[.int .i64 a1_0, .int .i64 a1_1, .int .i64 a1_2, .string a1_3, .slice A1_4 l1_4.length c1_4, .string a1_5] 26 (0, 0)) (gI BK149.out) hb); replace BK177 := Aside0.mk (blk_below (g := gb177) (o := .cells #[.int .i64 t169, .int .i64 t170, .int .i64 t171, .string t172, .slice Ao51 t173.length co51, .string t176] 31 (0, 0)) (gI BK177.out) hb); replace BK186 := Aside0.mk (blk_below (g := gb186) (o := .cells #[.int .i64 t178, .int .i64 t179, .int .i64 t180, .string t181, .slice Ao59 t182.length co59, .string t185] 31 (0, 0)) (by (with_reducible repeat (first | refine blk_drewN ?_ _ | refine blk_drew ?_ | refine blk_alloc ?_ _)); refine blk_put (cs := #[.int .i64 t178, .int .i64 t179, .int .i64 t180, .string t181, .slice Ao59 t182.length co59, .string (⟨#[]⟩ : ByteArray)]) ?_ 5 _ rfl; (with_reducible repeat (first | refine blk_drewN ?_ _ | refine blk_drew ?_ | refine blk_alloc ?_ _)); refine blk_put (cs := #[.int .i64 t178, .int .i64 t179, .int .i64 t180, .string t181, .slice none 0 0, .string (⟨#[]⟩ : ByteArray)]) ?_ 4 _ rfl; (with_reducible repeat (first | refine blk_drewN ?_ _ | refine blk_drew ?_ | refine blk_alloc ?_ _)); refine blk_put (cs := #[.int .i64 t178, .int .i64 t179, .int .i64 t180, .string (⟨#[]⟩ : ByteArray), .slice none 0 0, .string (⟨#[]⟩ : ByteArray)]) ?_ 3 _ rfl; (with_reducible repeat (first | refine blk_drewN ?_ _ | refine blk_drew ?_ | refine blk_alloc ?_ _)); refine blk_put (cs := #[.int .i64 t178, .int .i64 t179, .int .i64 0, .string (⟨#[]⟩ : ByteArray), .slice none 0 0, .string (⟨#[]⟩ : ByteArray)]) ?_ 2 _ rfl; (with_reducible repeat (first | refine blk_drewN ?_ _ | refine blk_drew ?_ | refine blk_alloc ?_ _)); refine blk_put (cs := #[.int .i64 t178, .int .i64 0, .int .i64 0, .string (⟨#[]⟩ : ByteArray), .slice none 0 0, .string (⟨#[]⟩ : ByteArray)]) ?_ 1 _ rfl; (with_reducible repeat (first | refine blk_drewN ?_ _ | refine blk_drew ?_ | refine blk_alloc ?_ _)); refine blk_put (cs := #[.int .i64 0, .int .i64 0, .int .i64 0, .string (⟨#[]⟩ : ByteArray), .slice none 0 0, .string (⟨#[]⟩ : ByteArray)]) ?_ 0 _ rfl; (with_reducible repeat (first | refine blk_drewN ?_ _ | refine blk_drew ?_ | refine blk_alloc ?_ _)); exact BK186.out) hb); replace HB := Aside0.mk (below_step (bI HB.out) hb); (try clear hb); (try clear hb2); (try clear hk); (try clear hi)))
        replace HO175 := Aside0.mk (Kd.R_drew HO175.out)
        replace HO184 := Aside0.mk (Kd.R_drew HO184.out)
        replace BK148 := Aside0.mk (blk_drew BK148.out)
        replace BK149 := Aside0.mk (blk_drew BK149.out)
        replace BK177 := Aside0.mk (blk_drew BK177.out)
        replace BK186 := Aside0.mk (blk_drew BK186.out)
        replace HB := Aside0.mk (below_drew1 HB.out)
        refine start_ (n := 5) (S := fun w' => w'.cell? ⟨gb177, 0, none⟩ = some (.int .i64 t169) ∧ w'.cell? ⟨gb177, 1, none⟩ = some (.int .i64 t170) ∧ w'.cell? ⟨gb177, 2, none⟩ = some (.int .i64 t171) ∧ w'.cell? ⟨gb177, 3, none⟩ = some (.string t172) ∧ w'.cell? ⟨gb177, 4, none⟩ = some (.slice Ao51 t173.length co51) ∧ w'.cell? ⟨gb177, 5, none⟩ = some (.string t176) ∧ w'.cell? ⟨gb148, 0, none⟩ = some (.int .i64 a0_0) ∧ w'.cell? ⟨gb148, 1, none⟩ = some (.int .i64 a0_1) ∧ w'.cell? ⟨gb148, 2, none⟩ = some (.int .i64 a0_2) ∧ w'.cell? ⟨gb148, 3, none⟩ = some (.string a0_3) ∧ w'.cell? ⟨gb148, 4, none⟩ = some (.slice A0_4 l0_4.length c0_4) ∧ w'.cell? ⟨gb148, 5, none⟩ = some (.string a0_5)) (ds := []) #[false, false, false, false, false] (by kernel_rfl) rfl rfl ⟨(blk_cell BK177.out 0).trans rfl, (blk_cell BK177.out 1).trans rfl, (blk_cell BK177.out 2).trans rfl, (blk_cell BK177.out 3).trans rfl, (blk_cell BK177.out 4).trans rfl, (blk_cell BK177.out 5).trans rfl, (blk_cell BK148.out 0).trans rfl, (blk_cell BK148.out 1).trans rfl, (blk_cell BK148.out 2).trans rfl, (blk_cell BK148.out 3).trans rfl, (blk_cell BK148.out 4).trans rfl, (blk_cell BK148.out 5).trans rfl⟩ (fun hHeld => ?_)
        generalize w61.drew = w62 at HO175 HO184 BK148 BK149 BK177 BK186 HB hHeld ⊢
        refine take_ (i := 0) (N := some 35) (v := ?_) (a' := ?_) #[true, false, false, false, false] rfl rfl (by kernel_rfl) (fun _ _ _ h => h) (Or.inl ⟨by rfl, ?_⟩) hHeld ?_ ?_
        rotate_left
        · rintro w' ⟨s0, s1, s2, s3, s4, s5, s6, s7, s8, s9, s10, s11⟩
          go_simp
          with_reducible rfl
        rotate_left
        · simp only [Act.put, List.setIfInBounds_toArray, List.set_cons_zero, List.set_cons_succ, i64_w, i32_w]
          rfl
        refine take_ (i := 1) (N := some 36) (v := ?_) (a' := ?_) #[true, true, false, false, false] rfl rfl (by kernel_rfl) (fun _ _ _ h => h) (Or.inl ⟨by rfl, ?_⟩) hHeld ?_ ?_
        rotate_left
        · rintro w' ⟨s0, s1, s2, s3, s4, s5, s6, s7, s8, s9, s10, s11⟩
          go_simp
          with_reducible rfl
        rotate_left
        · simp only [Act.put, List.setIfInBounds_toArray, List.set_cons_zero, List.set_cons_succ, i64_w, i32_w]
          rfl
        refine one_ (i := 2) (N := some 37) #[true, true, true, false, false] rfl rfl (by kernel_rfl) (by decide) (fun K hK => ?_)
        refine goes_ Try.func14 (by kernel_rfl) rfl #[.agg #[.int .i64 a0_0, .int .i64 a0_1, .int .i64 a0_2, .string a0_3, .slice A0_4 l0_4.length c0_4, .string a0_5]] (by rfl) rfl rfl (by (try simp only [List.map_toArray, List.map_cons, List.map_nil]); first | done | rfl | (simp only [List.length_drop, List.length_take]; rfl)) ?_
        with_reducible refine (laws_toSafe.calls k a0_0 a0_1 a0_2 a0_3 _ _ l0_4 a0_5 t188 t189 t190 t191 t192 t195 _ ?side1 ?side2 A26.out).mono ?_
        (case side1 => exact cI (Kd.C_below HR0_4.out HB.out))
        (case side2 => exact HC0_4.out)
        rintro e w63 ⟨v193, rfl, ho0, hb⟩
        refine ⟨_, rfl, ?_⟩
        have HO194 := Aside0.mk (Kd.R_lower (Kd.R_new' (Kd.R_new' ho0 (Kd.R_lt (rI HO175.out))) (Kd.R_lt (rI HO184.out))) (below_size (bI HB.out)))
        replace HO175 := Aside0.mk (Kd.R_elder' (rI HO175.out) (Kd.R_base ho0) hb)
        replace HO184 := Aside0.mk (Kd.R_elder' (rI HO184.out) (Kd.R_base ho0) hb)
        replace BK148 := Aside0.mk (blk_below (g := gb148) (o := .cells #[.int .i64 a0_0, .int .i64 a0_1, .int .i64 a0_2, .string a0_3, .slice A0_4 l0_4.length c0_4, .string a0_5] 26 (0, 0)) (kI BK148.out) hb)
        replace BK149 := Aside0.mk (blk_below (g := gb149) (o := .cells #[.int .i64 a1_0, .int .i64 a1_1, .int .i64 a1_2, .string a1_3, .slice A1_4 l1_4.length c1_4, .string a1_5] 26 (0, 0)) (kI BK149.out) hb)
        replace BK177 := Aside0.mk (blk_below (g := gb177) (o := .cells #[.int .i64 t169, .int .i64 t170, .int .i64 t171, .string t172, .slice Ao51 t173.length co51, .string t176] 31 (0, 0)) (kI BK177.out) hb)
        replace BK186 := Aside0.mk (blk_below (g := gb186) (o := .cells #[.int .i64 t178, .int .i64 t179, .int .i64 t180, .string t181, .slice Ao59 t182.length co59, .string t185] 31 (0, 0)) (kI BK186.out) hb)
        replace HB := Aside0.mk (below_step (bI HB.out) hb)
        (try clear hb)
        (try clear hb2)
        (try clear hk)
        (try clear hi)
        (try clear ho0)
        obtain ⟨Ao64, co64, eo64⟩ := Kd.R_slice HO194.out
        (first | subst eo64 | (injection eo64 with f1_ f2_ f3_; have f4_ := f1_.symm; have f5_ := f3_.symm; clear f1_ f2_ f3_; subst f4_; subst f5_))
        refine hK.out _ _ ⟨(blk_cell BK177.out 0).trans rfl, (blk_cell BK177.out 1).trans rfl, (blk_cell BK177.out 2).trans rfl, (blk_cell BK177.out 3).trans rfl, (blk_cell BK177.out 4).trans rfl, (blk_cell BK177.out 5).trans rfl, (blk_cell BK148.out 0).trans rfl, (blk_cell BK148.out 1).trans rfl, (blk_cell BK148.out 2).trans rfl, (blk_cell BK148.out 3).trans rfl, (blk_cell BK148.out 4).trans rfl, (blk_cell BK148.out 5).trans rfl⟩ (fun hHeld => ?_)
        clear hK K
        refine norm_ (a' := ?_) ?_ ?_
        rotate_left
        · show Act.put _ (some 37) _ = _
          simp only [Act.put, List.setIfInBounds_toArray, List.set_cons_zero, List.set_cons_succ, i64_w, i32_w]
          rfl
        refine one_ (i := 3) (N := some 38) #[true, true, true, true, false] rfl rfl (by kernel_rfl) (by decide) (fun K hK => ?_)
        refine goes_ Try.func16 (by kernel_rfl) rfl #[.agg #[.int .i64 t169, .int .i64 t170, .int .i64 t171, .string t172, .slice Ao51 t173.length co51, .string t176], .agg #[.int .i64 t188, .int .i64 t189, .int .i64 t190, .string t191, .slice Ao64 t192.length co64, .string t195]] (by rfl) rfl rfl (by (try simp only [List.map_toArray, List.map_cons, List.map_nil]); first | done | rfl | (simp only [List.length_drop, List.length_take]; rfl)) ?_
        with_reducible refine (laws_eqSafe.calls k t169 t170 t171 t172 _ _ t173 t176 t188 t189 t190 t191 _ _ t192 t195 true _ ?side1 ?side2 ?side3 ?side4 A27.out).mono ?_
        (case side1 => repeat (first | exact (Kd.R_reads' HO175.out).2.2 | (with_reducible refine Kd.C_alloc ?_ _) | (with_reducible refine Kd.C_drewN ?_ _) | (with_reducible refine Kd.C_drew ?_)))
        (case side2 => exact (Kd.R_reads' HO175.out).2.1)
        (case side3 => repeat (first | exact (Kd.R_reads' HO194.out).2.2 | (with_reducible refine Kd.C_alloc ?_ _) | (with_reducible refine Kd.C_drewN ?_ _) | (with_reducible refine Kd.C_drew ?_)))
        (case side4 => exact (Kd.R_reads' HO194.out).2.1)
        rintro e w65 ⟨rfl, hb⟩
        refine ⟨_, rfl, ?_⟩
        replace HO175 := Aside0.mk (Kd.R_below (rI HO175.out) hb)
        replace HO184 := Aside0.mk (Kd.R_below (rI HO184.out) hb)
        replace HO194 := Aside0.mk (Kd.R_below (rI HO194.out) hb)
        replace BK148 := Aside0.mk (blk_below (g := gb148) (o := .cells #[.int .i64 a0_0, .int .i64 a0_1, .int .i64 a0_2, .string a0_3, .slice A0_4 l0_4.length c0_4, .string a0_5] 26 (0, 0)) (kI BK148.out) hb)
        replace BK149 := Aside0.mk (blk_below (g := gb149) (o := .cells #[.int .i64 a1_0, .int .i64 a1_1, .int .i64 a1_2, .string a1_3, .slice A1_4 l1_4.length c1_4, .string a1_5] 26 (0, 0)) (kI BK149.out) hb)
        replace BK177 := Aside0.mk (blk_below (g := gb177) (o := .cells #[.int .i64 t169, .int .i64 t170, .int .i64 t171, .string t172, .slice Ao51 t173.length co51, .string t176] 31 (0, 0)) (kI BK177.out) hb)
        replace BK186 := Aside0.mk (blk_below (g := gb186) (o := .cells #[.int .i64 t178, .int .i64 t179, .int .i64 t180, .string t181, .slice Ao59 t182.length co59, .string t185] 31 (0, 0)) (kI BK186.out) hb)
        replace HB := Aside0.mk (below_step (bI HB.out) hb)
        (try clear hb)
        (try clear hb2)
        (try clear hk)
        (try clear hi)
        refine hK.out _ _ ⟨(blk_cell BK177.out 0).trans rfl, (blk_cell BK177.out 1).trans rfl, (blk_cell BK177.out 2).trans rfl, (blk_cell BK177.out 3).trans rfl, (blk_cell BK177.out 4).trans rfl, (blk_cell BK177.out 5).trans rfl, (blk_cell BK148.out 0).trans rfl, (blk_cell BK148.out 1).trans rfl, (blk_cell BK148.out 2).trans rfl, (blk_cell BK148.out 3).trans rfl, (blk_cell BK148.out 4).trans rfl, (blk_cell BK148.out 5).trans rfl⟩ (fun hHeld => ?_)
        clear hK K
        refine norm_ (a' := ?_) ?_ ?_
        rotate_left
        · show Act.put _ (some 38) _ = _
          simp only [Act.put, List.setIfInBounds_toArray, List.set_cons_zero, List.set_cons_succ, i64_w, i32_w]
          rfl
        refine pure_ (i := 4) (N := some 39) (v := ?_) (a' := ?_) #[true, true, true, true, true] rfl rfl (by kernel_rfl) (fun _ _ _ h => h) (Or.inl ⟨by rfl, ?_⟩) ?_ ?_
        rotate_left
        · intro w'
          go_simp
          with_reducible rfl
        rotate_left
        · simp only [Act.put, List.setIfInBounds_toArray, List.set_cons_zero, List.set_cons_succ, i64_w, i32_w]
          rfl
        refine done_ (by kernel_rfl) ?_
        clear HO175
        clear HO194
        have n_ := Aside0.mk (Kd.R_mono (ok' := (fun _ => True)) HO184.out (fun k_ hk => trivial))
        clear HO184
        have HO184 := n_
        clear n_
        try go_wp2
        replace HO184 := Aside0.mk (Kd.R_drew HO184.out)
        replace BK148 := Aside0.mk (blk_drew BK148.out)
        replace BK149 := Aside0.mk (blk_drew BK149.out)
        replace BK177 := Aside0.mk (blk_drew BK177.out)
        replace BK186 := Aside0.mk (blk_drew BK186.out)
        replace HB := Aside0.mk (below_drew1 HB.out)
        refine start_ (n := 5) (S := fun w' => w'.cell? ⟨gb186, 0, none⟩ = some (.int .i64 t178) ∧ w'.cell? ⟨gb186, 1, none⟩ = some (.int .i64 t179) ∧ w'.cell? ⟨gb186, 2, none⟩ = some (.int .i64 t180) ∧ w'.cell? ⟨gb186, 3, none⟩ = some (.string t181) ∧ w'.cell? ⟨gb186, 4, none⟩ = some (.slice Ao59 t182.length co59) ∧ w'.cell? ⟨gb186, 5, none⟩ = some (.string t185) ∧ w'.cell? ⟨gb149, 0, none⟩ = some (.int .i64 a1_0) ∧ w'.cell? ⟨gb149, 1, none⟩ = some (.int .i64 a1_1) ∧ w'.cell? ⟨gb149, 2, none⟩ = some (.int .i64 a1_2) ∧ w'.cell? ⟨gb149, 3, none⟩ = some (.string a1_3) ∧ w'.cell? ⟨gb149, 4, none⟩ = some (.slice A1_4 l1_4.length c1_4) ∧ w'.cell? ⟨gb149, 5, none⟩ = some (.string a1_5)) (ds := []) #[false, false, false, false, false] (by kernel_rfl) rfl rfl ⟨(blk_cell BK186.out 0).trans rfl, (blk_cell BK186.out 1).trans rfl, (blk_cell BK186.out 2).trans rfl, (blk_cell BK186.out 3).trans rfl, (blk_cell BK186.out 4).trans rfl, (blk_cell BK186.out 5).trans rfl, (blk_cell BK149.out 0).trans rfl, (blk_cell BK149.out 1).trans rfl, (blk_cell BK149.out 2).trans rfl, (blk_cell BK149.out 3).trans rfl, (blk_cell BK149.out 4).trans rfl, (blk_cell BK149.out 5).trans rfl⟩ (fun hHeld => ?_)
        generalize w65.drew = w66 at HO184 BK148 BK149 BK177 BK186 HB hHeld ⊢
        refine take_ (i := 0) (N := some 40) (v := ?_) (a' := ?_) #[true, false, false, false, false] rfl rfl (by kernel_rfl) (fun _ _ _ h => h) (Or.inl ⟨by rfl, ?_⟩) hHeld ?_ ?_
        rotate_left
        · rintro w' ⟨s0, s1, s2, s3, s4, s5, s6, s7, s8, s9, s10, s11⟩
          go_simp
          with_reducible rfl
        rotate_left
        · simp only [Act.put, List.setIfInBounds_toArray, List.set_cons_zero, List.set_cons_succ, i64_w, i32_w]
          rfl
        refine take_ (i := 1) (N := some 41) (v := ?_) (a' := ?_) #[true, true, false, false, false] rfl rfl (by kernel_rfl) (fun _ _ _ h => h) (Or.inl ⟨by rfl, ?_⟩) hHeld ?_ ?_
        rotate_left
        · rintro w' ⟨s0, s1, s2, s3, s4, s5, s6, s7, s8, s9, s10, s11⟩
          go_simp
          with_reducible rfl
        rotate_left
        · simp only [Act.put, List.setIfInBounds_toArray, List.set_cons_zero, List.set_cons_succ, i64_w, i32_w]
          rfl
        refine one_ (i := 2) (N := some 42) #[true, true, true, false, false] rfl rfl (by kernel_rfl) (by decide) (fun K hK => ?_)
        refine goes_ Try.func14 (by kernel_rfl) rfl #[.agg #[.int .i64 a1_0, .int .i64 a1_1, .int .i64 a1_2, .string a1_3, .slice A1_4 l1_4.length c1_4, .string a1_5]] (by rfl) rfl rfl (by (try simp only [List.map_toArray, List.map_cons, List.map_nil]); first | done | rfl | (simp only [List.length_drop, List.length_take]; rfl)) ?_
        with_reducible refine (laws_toSafe.calls k a1_0 a1_1 a1_2 a1_3 _ _ l1_4 a1_5 t197 t198 t199 t200 t201 t204 _ ?side1 ?side2 A29.out).mono ?_
        (case side1 => exact cI (Kd.C_below HR1_4.out HB.out))
        (case side2 => exact HC1_4.out)
        rintro e w67 ⟨v202, rfl, ho0, hb⟩
        refine ⟨_, rfl, ?_⟩
        have HO203 := Aside0.mk (Kd.R_lower (Kd.R_new' ho0 (Kd.R_lt (rI HO184.out))) (below_size (bI HB.out)))
        replace HO184 := Aside0.mk (Kd.R_elder' (rI HO184.out) (Kd.R_base ho0) hb)
        replace BK148 := Aside0.mk (blk_below (g := gb148) (o := .cells #[.int .i64 a0_0, .int .i64 a0_1, .int .i64 a0_2, .string a0_3, .slice A0_4 l0_4.length c0_4, .string a0_5] 26 (0, 0)) (kI BK148.out) hb)
        replace BK149 := Aside0.mk (blk_below (g := gb149) (o := .cells #[.int .i64 a1_0, .int .i64 a1_1, .int .i64 a1_2, .string a1_3, .slice A1_4 l1_4.length c1_4, .string a1_5] 26 (0, 0)) (kI BK149.out) hb)
        replace BK177 := Aside0.mk (blk_below (g := gb177) (o := .cells #[.int .i64 t169, .int .i64 t170, .int .i64 t171, .string t172, .slice Ao51 t173.length co51, .string t176] 31 (0, 0)) (kI BK177.out) hb)
        replace BK186 := Aside0.mk (blk_below (g := gb186) (o := .cells #[.int .i64 t178, .int .i64 t179, .int .i64 t180, .string t181, .slice Ao59 t182.length co59, .string t185] 31 (0, 0)) (kI BK186.out) hb)
        replace HB := Aside0.mk (below_step (bI HB.out) hb)
        (try clear hb)
        (try clear hb2)
        (try clear hk)
        (try clear hi)
        (try clear ho0)
        obtain ⟨Ao68, co68, eo68⟩ := Kd.R_slice HO203.out
        (first | subst eo68 | (injection eo68 with f1_ f2_ f3_; have f4_ := f1_.symm; have f5_ := f3_.symm; clear f1_ f2_ f3_; subst f4_; subst f5_))
        refine hK.out _ _ ⟨(blk_cell BK186.out 0).trans rfl, (blk_cell BK186.out 1).trans rfl, (blk_cell BK186.out 2).trans rfl, (blk_cell BK186.out 3).trans rfl, (blk_cell BK186.out 4).trans rfl, (blk_cell BK186.out 5).trans rfl, (blk_cell BK149.out 0).trans rfl, (blk_cell BK149.out 1).trans rfl, (blk_cell BK149.out 2).trans rfl, (blk_cell BK149.out 3).trans rfl, (blk_cell BK149.out 4).trans rfl, (blk_cell BK149.out 5).trans rfl⟩ (fun hHeld => ?_)
        clear hK K
        refine norm_ (a' := ?_) ?_ ?_
        rotate_left
        · show Act.put _ (some 42) _ = _
          simp only [Act.put, List.setIfInBounds_toArray, List.set_cons_zero, List.set_cons_succ, i64_w, i32_w]
          rfl
        refine one_ (i := 3) (N := some 43) #[true, true, true, true, false] rfl rfl (by kernel_rfl) (by decide) (fun K hK => ?_)
        refine goes_ Try.func16 (by kernel_rfl) rfl #[.agg #[.int .i64 t178, .int .i64 t179, .int .i64 t180, .string t181, .slice Ao59 t182.length co59, .string t185], .agg #[.int .i64 t197, .int .i64 t198, .int .i64 t199, .string t200, .slice Ao68 t201.length co68, .string t204]] (by rfl) rfl rfl (by (try simp only [List.map_toArray, List.map_cons, List.map_nil]); first | done | rfl | (simp only [List.length_drop, List.length_take]; rfl)) ?_
        with_reducible refine (laws_eqSafe.calls k t178 t179 t180 t181 _ _ t182 t185 t197 t198 t199 t200 _ _ t201 t204 true _ ?side1 ?side2 ?side3 ?side4 A30.out).mono ?_
        (case side1 => repeat (first | exact (Kd.R_reads' HO184.out).2.2 | (with_reducible refine Kd.C_alloc ?_ _) | (with_reducible refine Kd.C_drewN ?_ _) | (with_reducible refine Kd.C_drew ?_)))
        (case side2 => exact (Kd.R_reads' HO184.out).2.1)
        (case side3 => repeat (first | exact (Kd.R_reads' HO203.out).2.2 | (with_reducible refine Kd.C_alloc ?_ _) | (with_reducible refine Kd.C_drewN ?_ _) | (with_reducible refine Kd.C_drew ?_)))
        (case side4 => exact (Kd.R_reads' HO203.out).2.1)
        rintro e w69 ⟨rfl, hb⟩
        refine ⟨_, rfl, ?_⟩
        replace HO184 := Aside0.mk (Kd.R_below (rI HO184.out) hb)
        replace HO203 := Aside0.mk (Kd.R_below (rI HO203.out) hb)
        replace BK148 := Aside0.mk (blk_below (g := gb148) (o := .cells #[.int .i64 a0_0, .int .i64 a0_1, .int .i64 a0_2, .string a0_3, .slice A0_4 l0_4.length c0_4, .string a0_5] 26 (0, 0)) (kI BK148.out) hb)
        replace BK149 := Aside0.mk (blk_below (g := gb149) (o := .cells #[.int .i64 a1_0, .int .i64 a1_1, .int .i64 a1_2, .string a1_3, .slice A1_4 l1_4.length c1_4, .string a1_5] 26 (0, 0)) (kI BK149.out) hb)
        replace BK177 := Aside0.mk (blk_below (g := gb177) (o := .cells #[.int .i64 t169, .int .i64 t170, .int .i64 t171, .string t172, .slice Ao51 t173.length co51, .string t176] 31 (0, 0)) (kI BK177.out) hb)
        replace BK186 := Aside0.mk (blk_below (g := gb186) (o := .cells #[.int .i64 t178, .int .i64 t179, .int .i64 t180, .string t181, .slice Ao59 t182.length co59, .string t185] 31 (0, 0)) (kI BK186.out) hb)
        replace HB := Aside0.mk (below_step (bI HB.out) hb)
        (try clear hb)
        (try clear hb2)
        (try clear hk)
        (try clear hi)
        refine hK.out _ _ ⟨(blk_cell BK186.out 0).trans rfl, (blk_cell BK186.out 1).trans rfl, (blk_cell BK186.out 2).trans rfl, (blk_cell BK186.out 3).trans rfl, (blk_cell BK186.out 4).trans rfl, (blk_cell BK186.out 5).trans rfl, (blk_cell BK149.out 0).trans rfl, (blk_cell BK149.out 1).trans rfl, (blk_cell BK149.out 2).trans rfl, (blk_cell BK149.out 3).trans rfl, (blk_cell BK149.out 4).trans rfl, (blk_cell BK149.out 5).trans rfl⟩ (fun hHeld => ?_)
        clear hK K
        refine norm_ (a' := ?_) ?_ ?_
        rotate_left
        · show Act.put _ (some 43) _ = _
          simp only [Act.put, List.setIfInBounds_toArray, List.set_cons_zero, List.set_cons_succ, i64_w, i32_w]
          rfl
        refine pure_ (i := 4) (N := some 44) (v := ?_) (a' := ?_) #[true, true, true, true, true] rfl rfl (by kernel_rfl) (fun _ _ _ h => h) (Or.inl ⟨by rfl, ?_⟩) ?_ ?_
        rotate_left
        · intro w'
          go_simp
          with_reducible rfl
        rotate_left
        · simp only [Act.put, List.setIfInBounds_toArray, List.set_cons_zero, List.set_cons_succ, i64_w, i32_w]
          rfl
        refine done_ (by kernel_rfl) ?_
        try go_wp2
        go_ret
        exact ⟨by first | rfl | (simp [errW_none, errW_some] <;> rfl) | (simp [*, errW_none, errW_some] <;> rfl), bI HB.out⟩
      · replace c28 := Bool.eq_false_iff.mpr c28
        subst c28
        rw [if_neg (show ¬ (false = true) by decide)] at H
        exact absurd (hrt.out.symm.trans (Option.some.inj H).symm) (by decide)

end Go.Proofs.Ytjbkdffimfbdnaa.PFnExactSafeSame
