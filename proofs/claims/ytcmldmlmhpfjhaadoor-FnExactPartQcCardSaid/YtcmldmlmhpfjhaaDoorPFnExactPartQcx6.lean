-- By a program of this session, out of the translation (the print of the kit, with turns of its own). Lean checks it.
import Derived.Test.YtcmldmlmhpfjhaaDoorPFnExactPartQcx0
import Derived.Test.YtcmldmlmhpfjhaaDoorPFnExactPartQcx5
namespace Go.Proofs.YtcmldmlmhpfjhaaDoor.PFnExactPartQc
open Go.RowKit Go.Proofs.YtcmldmlmhpfjhaaDoorW.PrintWords Go.Proofs.YtcmldmlmhpfjhaaDoorW.PrintLast Go.Proofs.YtcmldmlmhpfjhaaDoorW.PrintMore
attribute [local go_sem] max2_int min2_int max_two min_two max_three min_three max_four min_four   -- for this text's walks alone
set_option linter.unusedVariables false
set_option linter.unusedSimpArgs false

/-! ### spec_PartQc: function 38 -/
def spec_PartQc.f (k : Nat) (a0_0 : Int) (a0_1 : Int) (a1_0 : Int) (a1_1 : ByteArray) (l1_2 : List Int) : Option (Int × ByteArray × List Int × Bool) := (some (([] : List Int) : List Int)).bind fun y242 => (if y242.length + l1_2.length < 17592186044416 then ((some (y242 ++ l1_2 : List Int)).bind fun y245 => (if a1_1.toList = ([] : List UInt8) then (some (0, (⟨#[]⟩ : ByteArray), ([] : List Int), false)) else ((spec_QcOk.f k a0_0 a0_1 a1_0 a1_1 y245).bind fun t249 => (if t249 = true then (some (a1_0, a1_1, y245, true)) else (some (0, (⟨#[]⟩ : ByteArray), ([] : List Int), false)))))) else (none))
theorem spec_PartQc.mono : ∀ a0 a1 a2 a3 a4 k, LeO (spec_PartQc.f k a0 a1 a2 a3 a4) (spec_PartQc.f (k + 1) a0 a1 a2 a3 a4) := by
  intro a0 a1 a2 a3 a4 k
  unfold spec_PartQc.f
  repeat' first
      | (with_reducible exact spec_QcOk.mono _ _ _ _ _ _)
      | (with_reducible exact LeO.refl _)
      | (with_reducible exact LeO.none _)
      | (with_reducible refine LeO.ite ?_ ?_)
      | (with_reducible refine LeO.bind ?_ (fun _ => ?_))
      | exact spec_QcOk.mono _ _ _ _ _ _
      | exact LeO.none _
      | refine LeO.ite ?_ ?_
      | refine LeO.bind ?_ (fun _ => ?_)
def spec_PartQc.T1 : Bool × List (List Nat × List Nat) := (true, [([], []), ([0], [0]), ([], []), ([2], [2]), ([], []), ([], []), ([5], [5]), ([4, 6], [4, 6]), ([1, 3, 7], [1, 3, 7]), ([], []), ([9, 8, 7, 0, 1, 2, 3, 4, 5, 6, 7, 8, 9], [8, 9])])
def spec_PartQc.B1 : List Nat := [0, 1, 0, 4, 0, 0, 32, 112, 255, 0, 1023]
theorem spec_PartQc.tab1 : rtab .any (opsOf Tryd.f38 1) = spec_PartQc.T1 := by kernel_rfl
theorem spec_PartQc.bits1 : waitsOk spec_PartQc.T1.2 spec_PartQc.B1 = true := by kernel_rfl
set_option maxHeartbeats 8000000 in
set_option maxRecDepth 100000 in
theorem spec_PartQc.calls (k : Nat) (a0_0 : Int) (a0_1 : Int) (a1_0 : Int) (a1_1 : ByteArray) (A1_2 : Option Addr) (c1_2 : Nat) (l1_2 : List Int) (r1 : Int) (r2 : ByteArray) (r3 : List Int) (r4 : Bool) (w : World) (hr1_2 : Kd.C (Kd.int .i64) w A1_2 l1_2.length l1_2) (hc1_2 : l1_2.length ≤ c1_2) (h : spec_PartQc.f k a0_0 a0_1 a1_0 a1_1 l1_2 = some (r1, r2, r3, r4)) :
    Calls Tryd.prog 38 #[.agg #[.int .i64 a0_0, .int .i64 a0_1], .agg #[.int .i64 a1_0, .string a1_1, .slice A1_2 l1_2.length c1_2]] w fun e w' => ∃ v2_ : Value, e = .returned (.tuple #[.agg #[.int .i64 r1, .string r2, v2_], .bool r4]) ∧ Kd.R (Kd.int .i64) 3 w' w.heap.size (fun _ => True) v2_ r3 ∧ Below w.heap.size w w' := by
  have hu32 := Tryd.underlying32
  have hu34 := Tryd.underlying34
  have hu41 := Tryd.underlying41
  have HR1_2 := Aside0.mk hr1_2
  have HC1_2 := Aside0.mk hc1_2
  clear hr1_2 hc1_2
  have HB := Aside0.mk (Below.refl w.heap.size w)
  have H : ((some (([] : List Int) : List Int)).bind fun y242 => (if y242.length + l1_2.length < 17592186044416 then ((some (y242 ++ l1_2 : List Int)).bind fun y245 => (if a1_1.toList = ([] : List UInt8) then (some (0, (⟨#[]⟩ : ByteArray), ([] : List Int), false)) else ((spec_QcOk.f k a0_0 a0_1 a1_0 a1_1 y245).bind fun t249 => (if t249 = true then (some (a1_0, a1_1, y245, true)) else (some (0, (⟨#[]⟩ : ByteArray), ([] : List Int), false)))))) else (none))) = some (r1, r2, r3, r4) := h
  clear h
  obtain ⟨y242, hy242⟩ : ∃ y_ : List Int, y_ = (([] : List Int)) := ⟨_, rfl⟩
  replace H : (if y242.length + l1_2.length < 17592186044416 then ((some (y242 ++ l1_2 : List Int)).bind fun y245 => (if a1_1.toList = ([] : List UInt8) then (some (0, (⟨#[]⟩ : ByteArray), ([] : List Int), false)) else ((spec_QcOk.f k a0_0 a0_1 a1_0 a1_1 y245).bind fun t249 => (if t249 = true then (some (a1_0, a1_1, y245, true)) else (some (0, (⟨#[]⟩ : ByteArray), ([] : List Int), false)))))) else (none)) = some (r1, r2, r3, r4) := by first | (rw [hy242]; with_reducible exact H) | (have H2_ := (Option.bind_some _ _).symm.trans H; rw [hy242]; with_reducible exact H2_) | (have H2_ := (Option.bind_some _ _).symm.trans H; with_reducible exact H2_) | with_reducible exact H | (rw [hy242]; exact H) | exact H
  have Ny242 := Aside0.mk hy242
  clear hy242
  by_cases c3 : y242.length + l1_2.length < 17592186044416
  · rw [if_pos c3] at H
    have LMc3 := Aside0.mk c3
    clear c3
    obtain ⟨y245, hy245⟩ : ∃ y_ : List Int, y_ = (y242 ++ l1_2) := ⟨_, rfl⟩
    replace H : (if a1_1.toList = ([] : List UInt8) then (some (0, (⟨#[]⟩ : ByteArray), ([] : List Int), false)) else ((spec_QcOk.f k a0_0 a0_1 a1_0 a1_1 y245).bind fun t249 => (if t249 = true then (some (a1_0, a1_1, y245, true)) else (some (0, (⟨#[]⟩ : ByteArray), ([] : List Int), false))))) = some (r1, r2, r3, r4) := by first | (rw [hy245]; with_reducible exact H) | (have H2_ := (Option.bind_some _ _).symm.trans H; rw [hy245]; with_reducible exact H2_) | (have H2_ := (Option.bind_some _ _).symm.trans H; with_reducible exact H2_) | with_reducible exact H | (rw [hy245]; exact H) | exact H
    have Ny245 := Aside0.mk hy245
    clear hy245
    by_cases c4 : a1_1.toList = ([] : List UInt8)
    · rw [if_pos c4] at H
      have c4b0 : (a1_1.toList == ([] : List UInt8)) = true := beq_iff_eq.mpr c4
      have c4b1 : (a1_1.toList != ([] : List UInt8)) = false := bne_eq_false_iff_eq.mpr c4
      clear c4
      simp only [Option.some.injEq, Prod.mk.injEq] at H
      obtain ⟨rfl, rfl, rfl, rfl⟩ := H
      go_enter Tryd.func38, Tryd.ntmps38
      try go_wp2_with (first | ((with_reducible refine gd 2 ?_); refine bA 2 #[.int .i64 a0_0, .int .i64 a0_1] 32 ?_; intro gb239 hg w5 hbox hb; have BK239 := Aside0.mk (hbox); have GW239 := bg hg HB; have GJ239 := gi GW239; have GE239 := GW239; replace HB := bs HB hb; clear hb hbox hg) | ((with_reducible refine gd 3 ?_); refine bA 3 #[.int .i64 a1_0, .string a1_1, .slice A1_2 l1_2.length c1_2] 34 ?_; intro gb240 hg w6 hbox hb; have BK240 := Aside0.mk (hbox); have GW240 := bg hg HB; have GJ240 := gi GW240; have GE240 := GW240; replace HB := bs HB hb; have NB239_240 := b1 BK239 hg; have NI239_240 := ni NB239_240; have NB240_239 := b2 BK239 hg; have NI240_239 := ni NB240_239; replace BK239 := bk BK239 hb; clear hb hbox hg) | ((with_reducible refine gd 4 ?_); refine bA 4 #[.int .i64 0, .string (⟨#[]⟩ : ByteArray), .slice none 0 0] 41 ?_; intro gb241 hg w7 hbox hb; have BK241 := Aside0.mk (hbox); have GW241 := bg hg HB; have GJ241 := gi GW241; have GE241 := GW241; replace HB := bs HB hb; have NB239_241 := b1 BK239 hg; have NI239_241 := ni NB239_241; have NB241_239 := b2 BK239 hg; have NI241_239 := ni NB241_239; replace BK239 := bk BK239 hb; have NB240_241 := b1 BK240 hg; have NI240_241 := ni NB240_241; have NB241_240 := b2 BK240 hg; have NI241_240 := ni NB241_240; replace BK240 := bk BK240 hb; clear hb hbox hg))
      replace BK239 := Aside0.mk (blk_drew BK239.out)
      replace BK240 := Aside0.mk (blk_drew BK240.out)
      replace BK241 := Aside0.mk (blk_drew BK241.out)
      replace HB := Aside0.mk (below_drew1 HB.out)
      refine start_ (n := 11) (S := fun w' => w'.cell? ⟨gb240, 0, none⟩ = some (.int .i64 a1_0) ∧ w'.cell? ⟨gb240, 1, none⟩ = some (.string a1_1) ∧ w'.cell? ⟨gb240, 2, none⟩ = some (.slice A1_2 l1_2.length c1_2)) (ds := []) #[false, false, false, false, false, false, false, false, false, false, false] (by kernel_rfl) rfl rfl ⟨bc0 BK240.out, bc1 BK240.out, bc2 BK240.out⟩ (fun hHeld => ?_); refine with_tabW spec_PartQc.tab1 spec_PartQc.bits1 (fun HT_ HW_ => ?_)
      generalize w7.drew = w8 at BK239 BK240 BK241 HB hHeld ⊢
      refine pA 0 (some 7) (bz 11 1) HT_ ?_
      refine pA 2 (some 9) (bz 11 5) HT_ ?_
      refine pA 5 (some 12) (bz 11 37) HT_ ?_
      refine tA 1 (some 8) (bz 11 39) HT_ HW_ hHeld ?_
      refine tA 3 (some 10) (bz 11 47) HT_ HW_ hHeld ?_
      refine tA 6 (some 13) (bz 11 111) HT_ HW_ hHeld ?_
      refine join_ (σ := Value × Value × Nat) 1 #[true, true, true, true, true, true, true, true, true, true, false] (fun s_ => [(11, s_.1), (14, s_.2.1), (6, .pointer (some ⟨s_.2.2, 0, none⟩)), (15, .agg #[.int .i64 a1_0, .string a1_1, s_.2.1])]) (fun s_ w' => (w'.cell? ⟨gb240, 0, none⟩ = some (.int .i64 a1_0) ∧ w'.cell? ⟨gb240, 1, none⟩ = some (.string a1_1) ∧ w'.cell? ⟨gb240, 2, none⟩ = some (.slice A1_2 l1_2.length c1_2)) ∧ (Kd.R (Kd.int .i64) 3 w' w.heap.size (fun _ => True) s_.2.1 y245) ∧ (w'.heap[gb239]? = some (.cells #[.int .i64 a0_0, .int .i64 a0_1] 32 (0, 0))) ∧ (w'.heap[gb240]? = some (.cells #[.int .i64 a1_0, .string a1_1, .slice A1_2 l1_2.length c1_2] 34 (0, 0))) ∧ (w'.heap[gb241]? = some (.cells #[.int .i64 0, .string (⟨#[]⟩ : ByteArray), .slice none 0 0] 41 (0, 0))) ∧ (w'.heap[s_.2.2]? = some (.cells #[.int .i64 0, .string (⟨#[]⟩ : ByteArray), .slice none 0 0] 41 (0, 0))) ∧ (w.heap.size ≤ s_.2.2) ∧ (w.heap.size ≤ s_.2.2) ∧ (gb239 ≠ s_.2.2) ∧ (s_.2.2 ≠ gb239) ∧ (gb240 ≠ s_.2.2) ∧ (s_.2.2 ≠ gb240) ∧ (gb241 ≠ s_.2.2) ∧ (s_.2.2 ≠ gb241) ∧ (Below w.heap.size w w')) ?_ ?_
      rotate_left
      · intro hCont
        refine two_ (i := 4) (j := 9) (Ni := some 11) (Nj := some 6) #[true, true, true, true, true, true, true, false, false, false, false] #[true, true, true, true, false, true, true, false, false, true, false] rfl rfl rfl rfl (two_of HT_.out (by kernel_rfl)) (by decide) (by decide) (fun K hK => ?_) (fun K hK => ?_)
        · skip
          refine Kd.R_lit_step (Kd.int .i64) _ 3 ?hg (N := 11) ?hd (xs := ([] : List Int)) (inner := []) (ok := fun _ => True) (okp := fun _ => True) ?hr ?hp (fun _ hk => hk) trivial (Below.refl _ _) (Nat.le_refl _) (by simp) ?_; (case hd => rfl); (case hg => rfl); (case hr => first | (go_simp; done) | (go_simp; rfl)); (case hp => exact (Reps.none _ _))
          intro v243 w9 ho10 hb hg_ hnew_
          clear hg_ hnew_
          (first | rw [← Ny242.out] at ho10 | (simp only [Int.reduceToNat] at ho10; rw [← Ny242.out] at ho10))
          have HO244 := Aside0.mk (Kd.R_lower ho10 (below_size (bI HB.out)))
          replace BK239 := bk BK239 hb
          replace BK240 := bk BK240 hb
          replace BK241 := bk BK241 hb
          replace HB := bs HB hb
          clear hb ho10
          refine hK.out _ _ ⟨bc0 BK240.out, bc1 BK240.out, bc2 BK240.out⟩ (fun hHeld => ?_)
          clear hK K
          refine nA (some 11) ?_
          refine two_ (i := 7) (j := 9) (Ni := some 14) (Nj := some 6) #[true, true, true, true, true, true, true, true, false, false, false] #[true, true, true, true, true, true, true, false, false, true, false] rfl rfl rfl rfl (two_of HT_.out (by kernel_rfl)) (by decide) (by decide) (fun K hK => ?_) (fun K hK => ?_)
          · skip
            refine Kd.R_append_rows_step (Kd.int .i64) (w0 := w) w.heap.size (by rfl) (.tmp 11) (.tmp 13) 27 3 (.int .i64 0) 8 rfl Tryd.underlying27 info3 rfl (by decide) (by omega) v243 y242 l1_2 _ _ _ (fun _ => True) (fun _ => False) rfl rfl ?aO ?aR (fun _ _ h => h) (fun _ h => h.elim) ?aF ?aB ?aS ?aL ?_
            (case aR => exact ch HR1_2 HB)
            (case aB => exact (bI HB.out))
            (case aF => exact (fun _ _ => trivial))
            (case aO => exact (rI HO244.out))
            (case aS => exact (below_size (bI HB.out)))
            (case aL => have := LMc3.out; omega)
            intro v246 w11 ho hb hg hat
            rw [← Ny245.out] at ho
            have n0_ := bn BK239 hg (Kd.R_ne HO244.out BK239.out (by decide))
            have n1_ := bn BK240 hg (Kd.R_ne HO244.out BK240.out (by decide))
            have n2_ := bn BK241 hg (Kd.R_ne HO244.out BK241.out (by decide))
            have n3_ := Aside0.mk (hb)
            have n4_ := Aside0.mk (ho)
            clear BK239
            clear BK240
            clear BK241
            clear HB
            clear HO244
            have BK239 := n0_
            have BK240 := n1_
            have BK241 := n2_
            have HB := n3_
            have HO247 := n4_
            clear n0_ n1_ n2_ n3_ n4_
            clear ho hb hg hat
            obtain ⟨Ao12, co12, eo12⟩ := Kd.R_slice HO247.out
            (first | subst eo12 | (injection eo12 with f1_ f2_ f3_; have f4_ := f1_.symm; have f5_ := f3_.symm; clear f1_ f2_ f3_; subst f4_; subst f5_))
            refine hK.out _ _ ⟨bc0 BK240.out, bc1 BK240.out, bc2 BK240.out⟩ (fun hHeld => ?_)
            clear hK K
            refine nA (some 14) ?_
            refine pA 8 (some 15) (bz 11 511) HT_ ?_
            refine oA 9 (some 6) (bz 11 1023) HT_ (fun K hK => ?_)
            refine box_step ?hg (N := 6) ?hd (cs := #[.int .i64 0, .string (⟨#[]⟩ : ByteArray), .slice none 0 0]) (t := 41) ?hr ?_; (case hd => rfl); (case hg => rfl); (case hr => first | (go_simp; done) | (go_simp; rfl))
            intro gb248 hg w13 hbox hb
            replace HO247 := rb HO247 hb
            have BK248 := Aside0.mk (hbox)
            have GW248 := bg hg HB
            have GJ248 := gi GW248
            have GE248 := bg hg HB
            have GI248 := gi GE248
            replace HB := bs HB hb
            have NB239_248 := b1 BK239 hg
            have NI239_248 := ni NB239_248
            have NB248_239 := b2 BK239 hg
            have NI248_239 := ni NB248_239
            replace BK239 := bk BK239 hb
            have NB240_248 := b1 BK240 hg
            have NI240_248 := ni NB240_248
            have NB248_240 := b2 BK240 hg
            have NI248_240 := ni NB248_240
            replace BK240 := bk BK240 hb
            have NB241_248 := b1 BK241 hg
            have NI241_248 := ni NB241_248
            have NB248_241 := b2 BK241 hg
            have NI248_241 := ni NB248_241
            replace BK241 := bk BK241 hb
            clear hb hbox hg
            refine hK.out _ _ ⟨bc0 BK240.out, bc1 BK240.out, bc2 BK240.out⟩ (fun hHeld => ?_)
            clear hK K
            refine nA (some 6) ?_
            exact norm_ y0_5 (hCont (v243, .slice Ao12 y245.length co12, gb248) _ ⟨hHeld, (rI HO247.out), (kI BK239.out), (kI BK240.out), (kI BK241.out), (kI BK248.out), GW248.out, GE248.out, NB239_248.out, NB248_239.out, NB240_248.out, NB248_240.out, NB241_248.out, NB248_241.out, (bI HB.out)⟩)
          · skip
            refine box_step ?hg (N := 6) ?hd (cs := #[.int .i64 0, .string (⟨#[]⟩ : ByteArray), .slice none 0 0]) (t := 41) ?hr ?_; (case hd => rfl); (case hg => rfl); (case hr => first | (go_simp; done) | (go_simp; rfl))
            intro gb248 hg w11 hbox hb
            replace HO244 := rb HO244 hb
            have BK248 := Aside0.mk (hbox)
            have GW248 := bg hg HB
            have GJ248 := gi GW248
            have GE248 := bg hg HB
            have GI248 := gi GE248
            replace HB := bs HB hb
            have NB239_248 := b1 BK239 hg
            have NI239_248 := ni NB239_248
            have NB248_239 := b2 BK239 hg
            have NI248_239 := ni NB248_239
            replace BK239 := bk BK239 hb
            have NB240_248 := b1 BK240 hg
            have NI240_248 := ni NB240_248
            have NB248_240 := b2 BK240 hg
            have NI248_240 := ni NB248_240
            replace BK240 := bk BK240 hb
            have NB241_248 := b1 BK241 hg
            have NI241_248 := ni NB241_248
            have NB248_241 := b2 BK241 hg
            have NI248_241 := ni NB248_241
            replace BK241 := bk BK241 hb
            clear hb hbox hg
            refine hK.out _ _ ⟨bc0 BK240.out, bc1 BK240.out, bc2 BK240.out⟩ (fun hHeld => ?_)
            clear hK K
            refine nA (some 6) ?_
            refine oA 7 (some 14) (bz 11 767) HT_ (fun K hK => ?_)
            refine Kd.R_append_rows_step (Kd.int .i64) (w0 := w) w.heap.size (by rfl) (.tmp 11) (.tmp 13) 27 3 (.int .i64 0) 8 rfl Tryd.underlying27 info3 rfl (by decide) (by omega) v243 y242 l1_2 _ _ _ (fun _ => True) (fun _ => False) rfl rfl ?aO ?aR (fun _ _ h => h) (fun _ h => h.elim) ?aF ?aB ?aS ?aL ?_
            (case aR => exact ch HR1_2 HB)
            (case aB => exact (bI HB.out))
            (case aF => exact (fun _ _ => trivial))
            (case aO => exact (rI HO244.out))
            (case aS => exact (below_size (bI HB.out)))
            (case aL => have := LMc3.out; omega)
            intro v246 w12 ho hb hg hat
            rw [← Ny245.out] at ho
            have n0_ := bn BK239 hg (Kd.R_ne HO244.out BK239.out (by decide))
            have n1_ := bn BK240 hg (Kd.R_ne HO244.out BK240.out (by decide))
            have n2_ := bn BK241 hg (Kd.R_ne HO244.out BK241.out (by decide))
            have n3_ := bn BK248 hg (Kd.R_ne HO244.out BK248.out (by decide))
            have n4_ := Aside0.mk (hb)
            have n5_ := Aside0.mk (ho)
            clear BK239
            clear BK240
            clear BK241
            clear BK248
            clear HB
            clear HO244
            have BK239 := n0_
            have BK240 := n1_
            have BK241 := n2_
            have BK248 := n3_
            have HB := n4_
            have HO247 := n5_
            clear n0_ n1_ n2_ n3_ n4_ n5_
            clear ho hb hg hat
            obtain ⟨Ao13, co13, eo13⟩ := Kd.R_slice HO247.out
            (first | subst eo13 | (injection eo13 with f1_ f2_ f3_; have f4_ := f1_.symm; have f5_ := f3_.symm; clear f1_ f2_ f3_; subst f4_; subst f5_))
            refine hK.out _ _ ⟨bc0 BK240.out, bc1 BK240.out, bc2 BK240.out⟩ (fun hHeld => ?_)
            clear hK K
            refine nA (some 14) ?_
            refine pA 8 (some 15) (bz 11 1023) HT_ ?_
            exact norm_ y0_5 (hCont (v243, .slice Ao13 y245.length co13, gb248) _ ⟨hHeld, (rI HO247.out), (kI BK239.out), (kI BK240.out), (kI BK241.out), (kI BK248.out), GW248.out, GE248.out, NB239_248.out, NB248_239.out, NB240_248.out, NB248_240.out, NB241_248.out, NB248_241.out, (bI HB.out)⟩)
        · skip
          refine box_step ?hg (N := 6) ?hd (cs := #[.int .i64 0, .string (⟨#[]⟩ : ByteArray), .slice none 0 0]) (t := 41) ?hr ?_; (case hd => rfl); (case hg => rfl); (case hr => first | (go_simp; done) | (go_simp; rfl))
          intro gb248 hg w9 hbox hb
          have BK248 := Aside0.mk (hbox)
          have GW248 := bg hg HB
          have GJ248 := gi GW248
          have GE248 := bg hg HB
          have GI248 := gi GE248
          replace HB := bs HB hb
          have NB239_248 := b1 BK239 hg
          have NI239_248 := ni NB239_248
          have NB248_239 := b2 BK239 hg
          have NI248_239 := ni NB248_239
          replace BK239 := bk BK239 hb
          have NB240_248 := b1 BK240 hg
          have NI240_248 := ni NB240_248
          have NB248_240 := b2 BK240 hg
          have NI248_240 := ni NB248_240
          replace BK240 := bk BK240 hb
          have NB241_248 := b1 BK241 hg
          have NI241_248 := ni NB241_248
          have NB248_241 := b2 BK241 hg
          have NI248_241 := ni NB248_241
          replace BK241 := bk BK241 hb
          clear hb hbox hg
          refine hK.out _ _ ⟨bc0 BK240.out, bc1 BK240.out, bc2 BK240.out⟩ (fun hHeld => ?_)
          clear hK K
          refine nA (some 6) ?_
          refine oA 4 (some 11) (bz 11 639) HT_ (fun K hK => ?_)
          refine Kd.R_lit_step (Kd.int .i64) _ 3 ?hg (N := 11) ?hd (xs := ([] : List Int)) (inner := []) (ok := fun _ => True) (okp := fun _ => True) ?hr ?hp (fun _ hk => hk) trivial (Below.refl _ _) (Nat.le_refl _) (by simp) ?_; (case hd => rfl); (case hg => rfl); (case hr => first | (go_simp; done) | (go_simp; rfl)); (case hp => exact (Reps.none _ _))
          intro v243 w10 ho11 hb hg_ hnew_
          clear hg_ hnew_
          (first | rw [← Ny242.out] at ho11 | (simp only [Int.reduceToNat] at ho11; rw [← Ny242.out] at ho11))
          have HO244 := Aside0.mk (Kd.R_lower ho11 (below_size (bI HB.out)))
          replace BK239 := bk BK239 hb
          replace BK240 := bk BK240 hb
          replace BK241 := bk BK241 hb
          replace BK248 := bk BK248 hb
          replace HB := bs HB hb
          clear hb ho11
          refine hK.out _ _ ⟨bc0 BK240.out, bc1 BK240.out, bc2 BK240.out⟩ (fun hHeld => ?_)
          clear hK K
          refine nA (some 11) ?_
          refine oA 7 (some 14) (bz 11 767) HT_ (fun K hK => ?_)
          refine Kd.R_append_rows_step (Kd.int .i64) (w0 := w) w.heap.size (by rfl) (.tmp 11) (.tmp 13) 27 3 (.int .i64 0) 8 rfl Tryd.underlying27 info3 rfl (by decide) (by omega) v243 y242 l1_2 _ _ _ (fun _ => True) (fun _ => False) rfl rfl ?aO ?aR (fun _ _ h => h) (fun _ h => h.elim) ?aF ?aB ?aS ?aL ?_
          (case aR => exact ch HR1_2 HB)
          (case aB => exact (bI HB.out))
          (case aF => exact (fun _ _ => trivial))
          (case aO => exact (rI HO244.out))
          (case aS => exact (below_size (bI HB.out)))
          (case aL => have := LMc3.out; omega)
          intro v246 w12 ho hb hg hat
          rw [← Ny245.out] at ho
          have n0_ := bn BK239 hg (Kd.R_ne HO244.out BK239.out (by decide))
          have n1_ := bn BK240 hg (Kd.R_ne HO244.out BK240.out (by decide))
          have n2_ := bn BK241 hg (Kd.R_ne HO244.out BK241.out (by decide))
          have n3_ := bn BK248 hg (Kd.R_ne HO244.out BK248.out (by decide))
          have n4_ := Aside0.mk (hb)
          have n5_ := Aside0.mk (ho)
          clear BK239
          clear BK240
          clear BK241
          clear BK248
          clear HB
          clear HO244
          have BK239 := n0_
          have BK240 := n1_
          have BK241 := n2_
          have BK248 := n3_
          have HB := n4_
          have HO247 := n5_
          clear n0_ n1_ n2_ n3_ n4_ n5_
          clear ho hb hg hat
          obtain ⟨Ao13, co13, eo13⟩ := Kd.R_slice HO247.out
          (first | subst eo13 | (injection eo13 with f1_ f2_ f3_; have f4_ := f1_.symm; have f5_ := f3_.symm; clear f1_ f2_ f3_; subst f4_; subst f5_))
          refine hK.out _ _ ⟨bc0 BK240.out, bc1 BK240.out, bc2 BK240.out⟩ (fun hHeld => ?_)
          clear hK K
          refine nA (some 14) ?_
          refine pA 8 (some 15) (bz 11 1023) HT_ ?_
          exact norm_ y0_5 (hCont (v243, .slice Ao13 y245.length co13, gb248) _ ⟨hHeld, (rI HO247.out), (kI BK239.out), (kI BK240.out), (kI BK241.out), (kI BK248.out), GW248.out, GE248.out, NB239_248.out, NB248_239.out, NB240_248.out, NB248_240.out, NB241_248.out, NB248_241.out, (bI HB.out)⟩)
      rintro ⟨v243, v246, gb248⟩ w14 ⟨hS_, h0_, h1_, h2_, h3_, h4_, h5_, h6_, h7_, h8_, h9_, h10_, h11_, h12_, h13_⟩
      have n0_ : Aside0 (Kd.R (Kd.int .i64) 3 w14 w.heap.size (fun _ => True) v246 y245) := ⟨h0_⟩
      have n1_ : Aside0 (w14.heap[gb239]? = some (.cells #[.int .i64 a0_0, .int .i64 a0_1] 32 (0, 0))) := ⟨h1_⟩
      have n2_ : Aside0 (w14.heap[gb240]? = some (.cells #[.int .i64 a1_0, .string a1_1, .slice A1_2 l1_2.length c1_2] 34 (0, 0))) := ⟨h2_⟩
      have n3_ : Aside0 (w14.heap[gb241]? = some (.cells #[.int .i64 0, .string (⟨#[]⟩ : ByteArray), .slice none 0 0] 41 (0, 0))) := ⟨h3_⟩
      have n4_ : Aside0 (w14.heap[gb248]? = some (.cells #[.int .i64 0, .string (⟨#[]⟩ : ByteArray), .slice none 0 0] 41 (0, 0))) := ⟨h4_⟩
      have n5_ : Aside0 (w.heap.size ≤ gb248) := ⟨h5_⟩
      have n6_ : Aside0 (w.heap.size ≤ gb248) := ⟨h6_⟩
      have n7_ : Aside0 (gb239 ≠ gb248) := ⟨h7_⟩
      have n8_ : Aside0 (gb248 ≠ gb239) := ⟨h8_⟩
      have n9_ : Aside0 (gb240 ≠ gb248) := ⟨h9_⟩
      have n10_ : Aside0 (gb248 ≠ gb240) := ⟨h10_⟩
      have n11_ : Aside0 (gb241 ≠ gb248) := ⟨h11_⟩
      have n12_ : Aside0 (gb248 ≠ gb241) := ⟨h12_⟩
      have n13_ : Aside0 (Below w.heap.size w w14) := ⟨h13_⟩
      clear BK239
      clear BK240
      clear BK241
      clear HB
      clear h0_ h1_ h2_ h3_ h4_ h5_ h6_ h7_ h8_ h9_ h10_ h11_ h12_ h13_
      have HO247 := n0_
      have BK239 := n1_
      have BK240 := n2_
      have BK241 := n3_
      have BK248 := n4_
      have GW248 := n5_
      have GJ248 := gi GW248
      have GE248 := n6_
      have GI248 := gi GE248
      have NB239_248 := n7_
      have NI239_248 := ni NB239_248
      have NB248_239 := n8_
      have NI248_239 := ni NB248_239
      have NB240_248 := n9_
      have NI240_248 := ni NB240_248
      have NB248_240 := n10_
      have NI248_240 := ni NB248_240
      have NB241_248 := n11_
      have NI241_248 := ni NB241_248
      have NB248_241 := n12_
      have NI248_241 := ni NB248_241
      have HB := n13_
      clear n0_ n1_ n2_ n3_ n4_ n5_ n6_ n7_ n8_ n9_ n10_ n11_ n12_ n13_
      have hHeld : w14.cell? ⟨gb240, 0, none⟩ = some (.int .i64 a1_0) ∧ w14.cell? ⟨gb240, 1, none⟩ = some (.string a1_1) ∧ w14.cell? ⟨gb240, 2, none⟩ = some (.slice A1_2 l1_2.length c1_2) := hS_
      obtain ⟨Ao15, co15, eo15⟩ := Kd.R_slice HO247.out
      (first | subst eo15 | (injection eo15 with f1_ f2_ f3_; have f4_ := f1_.symm; have f5_ := f3_.symm; clear f1_ f2_ f3_; subst f4_; subst f5_))
      refine norm_ (a' := ?_) ?_ ?_
      rotate_left
      · simp only [putAll, Act.put, List.setIfInBounds_toArray, List.set_cons_zero, List.set_cons_succ]
        rfl
      refine oA 10 none (bz 11 2047) HT_ (fun K hK => ?_)
      have hs16 : w14.cell? ⟨gb248, 0, none⟩ = some (.int .i64 0) := bc0 BK248.out
      have hfs16 := blk_frozen BK248.out 0
      have hns16_0 := NB239_248.out
      have hns16_1 := NB240_248.out
      have hns16_2 := NB241_248.out
      have hms16_0 := NB248_239.out
      have hms16_1 := NB248_240.out
      have hms16_2 := NB248_241.out
      have hs17 : w14.cell? ⟨gb248, 1, none⟩ = some (.string (⟨#[]⟩ : ByteArray)) := bc1 BK248.out
      have hfs17 := blk_frozen BK248.out 1
      have hns17_0 := NB239_248.out
      have hns17_1 := NB240_248.out
      have hns17_2 := NB241_248.out
      have hms17_0 := NB248_239.out
      have hms17_1 := NB248_240.out
      have hms17_2 := NB248_241.out
      have hs18 : w14.cell? ⟨gb248, 2, none⟩ = some (.slice none 0 0) := bc2 BK248.out
      have hfs18 := blk_frozen BK248.out 2
      have hns18_0 := NB239_248.out
      have hns18_1 := NB240_248.out
      have hns18_2 := NB241_248.out
      have hms18_0 := NB248_239.out
      have hms18_1 := NB248_240.out
      have hms18_2 := NB248_241.out
      refine skip_ (w1 := ?_) (by rfl) rfl ?_ ?_
      rotate_left
      · go_simp
        rfl
      refine hK.out _ _ ⟨((cell_far (p := ⟨gb248, _, none⟩) NB240_248.out _).trans (((cell_far (p := ⟨gb248, _, none⟩) NB240_248.out _).trans (((cell_far (p := ⟨gb248, _, none⟩) NB240_248.out _).trans (hHeld.1)))))), ((cell_far (p := ⟨gb248, _, none⟩) NB240_248.out _).trans (((cell_far (p := ⟨gb248, _, none⟩) NB240_248.out _).trans (((cell_far (p := ⟨gb248, _, none⟩) NB240_248.out _).trans (hHeld.2.1)))))), ((cell_far (p := ⟨gb248, _, none⟩) NB240_248.out _).trans (((cell_far (p := ⟨gb248, _, none⟩) NB240_248.out _).trans (((cell_far (p := ⟨gb248, _, none⟩) NB240_248.out _).trans (hHeld.2.2))))))⟩ (fun hHeld => ?_)
      clear hK K
      refine done_ (done_of HT_.out (by kernel_rfl)) ?_
      have hnb19 := NB240_239.out
      have hnc19 := NB239_240.out
      have hnb20 := NB240_241.out
      have hnc20 := NB241_240.out
      have hnb21 := NB240_248.out
      have hnc21 := NB248_240.out
      have hcz22_0 := bc0 BK240.out
      have hcz22_1 := bc1 BK240.out
      have hcz22_2 := bc2 BK240.out
      have hfz22_0 := blk_frozen BK240.out 0
      have hfz22_1 := blk_frozen BK240.out 1
      have hfz22_2 := blk_frozen BK240.out 2
      have hnb23 := NB241_239.out
      have hnc23 := NB239_241.out
      have hnb24 := NB241_248.out
      have hnc24 := NB248_241.out
      have hcz25_0 := bc0 BK241.out
      have hcz25_1 := bc1 BK241.out
      have hcz25_2 := bc2 BK241.out
      have hfz25_0 := blk_frozen BK241.out 0
      have hfz25_1 := blk_frozen BK241.out 1
      have hfz25_2 := blk_frozen BK241.out 2
      try go_wp2
      refine bodyPost_ret (results_ct rfl _ _ gb241 41 #[.int .i64 0, .string (⟨#[]⟩ : ByteArray), .slice none 0 0] (0, 0) _ rfl (pI BK241) Tryd.underlying41 rfl (by kernel_rfl)) rfl ?_
      exact ⟨_, y0_6, y0_0, bI HB.out⟩
    · rw [if_neg c4] at H
      have c4b0 : (a1_1.toList == ([] : List UInt8)) = false := beq_eq_false_iff_ne.mpr c4
      have c4b1 : (a1_1.toList != ([] : List UInt8)) = true := bne_iff_ne.mpr c4
      obtain ⟨t249, A260, H⟩ := Option.bind_eq_some_iff.mp H
      try dsimp only at H
      have A26 := Aside0.mk A260
      clear A260
      by_cases c27 : t249 = true
      · subst c27
        rw [if_pos rfl] at H
        simp only [Option.some.injEq, Prod.mk.injEq] at H
        obtain ⟨rfl, rfl, rfl, rfl⟩ := H
        go_enter Tryd.func38, Tryd.ntmps38
        try go_wp2_with (first | ((with_reducible refine gd 2 ?_); refine bA 2 #[.int .i64 a0_0, .int .i64 a0_1] 32 ?_; intro gb239 hg w28 hbox hb; have BK239 := Aside0.mk (hbox); have GW239 := bg hg HB; have GJ239 := gi GW239; have GE239 := GW239; replace HB := bs HB hb; clear hb hbox hg) | ((with_reducible refine gd 3 ?_); refine bA 3 #[.int .i64 a1_0, .string a1_1, .slice A1_2 l1_2.length c1_2] 34 ?_; intro gb240 hg w29 hbox hb; have BK240 := Aside0.mk (hbox); have GW240 := bg hg HB; have GJ240 := gi GW240; have GE240 := GW240; replace HB := bs HB hb; have NB239_240 := b1 BK239 hg; have NI239_240 := ni NB239_240; have NB240_239 := b2 BK239 hg; have NI240_239 := ni NB240_239; replace BK239 := bk BK239 hb; clear hb hbox hg) | ((with_reducible refine gd 4 ?_); refine bA 4 #[.int .i64 0, .string (⟨#[]⟩ : ByteArray), .slice none 0 0] 41 ?_; intro gb241 hg w30 hbox hb; have BK241 := Aside0.mk (hbox); have GW241 := bg hg HB; have GJ241 := gi GW241; have GE241 := GW241; replace HB := bs HB hb; have NB239_241 := b1 BK239 hg; have NI239_241 := ni NB239_241; have NB241_239 := b2 BK239 hg; have NI241_239 := ni NB241_239; replace BK239 := bk BK239 hb; have NB240_241 := b1 BK240 hg; have NI240_241 := ni NB240_241; have NB241_240 := b2 BK240 hg; have NI241_240 := ni NB241_240; replace BK240 := bk BK240 hb; clear hb hbox hg))
        replace BK239 := Aside0.mk (blk_drew BK239.out)
        replace BK240 := Aside0.mk (blk_drew BK240.out)
        replace BK241 := Aside0.mk (blk_drew BK241.out)
        replace HB := Aside0.mk (below_drew1 HB.out)
        refine start_ (n := 11) (S := fun w' => w'.cell? ⟨gb240, 0, none⟩ = some (.int .i64 a1_0) ∧ w'.cell? ⟨gb240, 1, none⟩ = some (.string a1_1) ∧ w'.cell? ⟨gb240, 2, none⟩ = some (.slice A1_2 l1_2.length c1_2)) (ds := []) #[false, false, false, false, false, false, false, false, false, false, false] (by kernel_rfl) rfl rfl ⟨bc0 BK240.out, bc1 BK240.out, bc2 BK240.out⟩ (fun hHeld => ?_); refine with_tabW spec_PartQc.tab1 spec_PartQc.bits1 (fun HT_ HW_ => ?_)
        generalize w30.drew = w31 at BK239 BK240 BK241 HB hHeld ⊢
        refine pA 0 (some 7) (bz 11 1) HT_ ?_
        refine pA 2 (some 9) (bz 11 5) HT_ ?_
        refine pA 5 (some 12) (bz 11 37) HT_ ?_
        refine tA 1 (some 8) (bz 11 39) HT_ HW_ hHeld ?_
        refine tA 3 (some 10) (bz 11 47) HT_ HW_ hHeld ?_
        refine tA 6 (some 13) (bz 11 111) HT_ HW_ hHeld ?_
        refine join_ (σ := Value × Value × Nat) 1 #[true, true, true, true, true, true, true, true, true, true, false] (fun s_ => [(11, s_.1), (14, s_.2.1), (6, .pointer (some ⟨s_.2.2, 0, none⟩)), (15, .agg #[.int .i64 a1_0, .string a1_1, s_.2.1])]) (fun s_ w' => (w'.cell? ⟨gb240, 0, none⟩ = some (.int .i64 a1_0) ∧ w'.cell? ⟨gb240, 1, none⟩ = some (.string a1_1) ∧ w'.cell? ⟨gb240, 2, none⟩ = some (.slice A1_2 l1_2.length c1_2)) ∧ (Kd.R (Kd.int .i64) 3 w' w.heap.size (fun _ => True) s_.2.1 y245) ∧ (w'.heap[gb239]? = some (.cells #[.int .i64 a0_0, .int .i64 a0_1] 32 (0, 0))) ∧ (w'.heap[gb240]? = some (.cells #[.int .i64 a1_0, .string a1_1, .slice A1_2 l1_2.length c1_2] 34 (0, 0))) ∧ (w'.heap[gb241]? = some (.cells #[.int .i64 0, .string (⟨#[]⟩ : ByteArray), .slice none 0 0] 41 (0, 0))) ∧ (w'.heap[s_.2.2]? = some (.cells #[.int .i64 0, .string (⟨#[]⟩ : ByteArray), .slice none 0 0] 41 (0, 0))) ∧ (w.heap.size ≤ s_.2.2) ∧ (w.heap.size ≤ s_.2.2) ∧ (gb239 ≠ s_.2.2) ∧ (s_.2.2 ≠ gb239) ∧ (gb240 ≠ s_.2.2) ∧ (s_.2.2 ≠ gb240) ∧ (gb241 ≠ s_.2.2) ∧ (s_.2.2 ≠ gb241) ∧ (Below w.heap.size w w')) ?_ ?_
        rotate_left
        · intro hCont
          refine two_ (i := 4) (j := 9) (Ni := some 11) (Nj := some 6) #[true, true, true, true, true, true, true, false, false, false, false] #[true, true, true, true, false, true, true, false, false, true, false] rfl rfl rfl rfl (two_of HT_.out (by kernel_rfl)) (by decide) (by decide) (fun K hK => ?_) (fun K hK => ?_)
          · skip
            refine Kd.R_lit_step (Kd.int .i64) _ 3 ?hg (N := 11) ?hd (xs := ([] : List Int)) (inner := []) (ok := fun _ => True) (okp := fun _ => True) ?hr ?hp (fun _ hk => hk) trivial (Below.refl _ _) (Nat.le_refl _) (by simp) ?_; (case hd => rfl); (case hg => rfl); (case hr => first | (go_simp; done) | (go_simp; rfl)); (case hp => exact (Reps.none _ _))
            intro v243 w32 ho33 hb hg_ hnew_
            clear hg_ hnew_
            (first | rw [← Ny242.out] at ho33 | (simp only [Int.reduceToNat] at ho33; rw [← Ny242.out] at ho33))
            have HO244 := Aside0.mk (Kd.R_lower ho33 (below_size (bI HB.out)))
            replace BK239 := bk BK239 hb
            replace BK240 := bk BK240 hb
            replace BK241 := bk BK241 hb
            replace HB := bs HB hb
            clear hb ho33
            refine hK.out _ _ ⟨bc0 BK240.out, bc1 BK240.out, bc2 BK240.out⟩ (fun hHeld => ?_)
            clear hK K
            refine nA (some 11) ?_
            refine two_ (i := 7) (j := 9) (Ni := some 14) (Nj := some 6) #[true, true, true, true, true, true, true, true, false, false, false] #[true, true, true, true, true, true, true, false, false, true, false] rfl rfl rfl rfl (two_of HT_.out (by kernel_rfl)) (by decide) (by decide) (fun K hK => ?_) (fun K hK => ?_)
            · skip
              refine Kd.R_append_rows_step (Kd.int .i64) (w0 := w) w.heap.size (by rfl) (.tmp 11) (.tmp 13) 27 3 (.int .i64 0) 8 rfl Tryd.underlying27 info3 rfl (by decide) (by omega) v243 y242 l1_2 _ _ _ (fun _ => True) (fun _ => False) rfl rfl ?aO ?aR (fun _ _ h => h) (fun _ h => h.elim) ?aF ?aB ?aS ?aL ?_
              (case aR => exact ch HR1_2 HB)
              (case aB => exact (bI HB.out))
              (case aF => exact (fun _ _ => trivial))
              (case aO => exact (rI HO244.out))
              (case aS => exact (below_size (bI HB.out)))
              (case aL => have := LMc3.out; omega)
              intro v246 w34 ho hb hg hat
              rw [← Ny245.out] at ho
              have n0_ := bn BK239 hg (Kd.R_ne HO244.out BK239.out (by decide))
              have n1_ := bn BK240 hg (Kd.R_ne HO244.out BK240.out (by decide))
              have n2_ := bn BK241 hg (Kd.R_ne HO244.out BK241.out (by decide))
              have n3_ := Aside0.mk (hb)
              have n4_ := Aside0.mk (ho)
              clear BK239
              clear BK240
              clear BK241
              clear HB
              clear HO244
              have BK239 := n0_
              have BK240 := n1_
              have BK241 := n2_
              have HB := n3_
              have HO247 := n4_
              clear n0_ n1_ n2_ n3_ n4_
              clear ho hb hg hat
              obtain ⟨Ao35, co35, eo35⟩ := Kd.R_slice HO247.out
              (first | subst eo35 | (injection eo35 with f1_ f2_ f3_; have f4_ := f1_.symm; have f5_ := f3_.symm; clear f1_ f2_ f3_; subst f4_; subst f5_))
              refine hK.out _ _ ⟨bc0 BK240.out, bc1 BK240.out, bc2 BK240.out⟩ (fun hHeld => ?_)
              clear hK K
              refine nA (some 14) ?_
              refine pA 8 (some 15) (bz 11 511) HT_ ?_
              refine oA 9 (some 6) (bz 11 1023) HT_ (fun K hK => ?_)
              refine box_step ?hg (N := 6) ?hd (cs := #[.int .i64 0, .string (⟨#[]⟩ : ByteArray), .slice none 0 0]) (t := 41) ?hr ?_; (case hd => rfl); (case hg => rfl); (case hr => first | (go_simp; done) | (go_simp; rfl))
              intro gb248 hg w36 hbox hb
              replace HO247 := rb HO247 hb
              have BK248 := Aside0.mk (hbox)
              have GW248 := bg hg HB
              have GJ248 := gi GW248
              have GE248 := bg hg HB
              have GI248 := gi GE248
              replace HB := bs HB hb
              have NB239_248 := b1 BK239 hg
              have NI239_248 := ni NB239_248
              have NB248_239 := b2 BK239 hg
              have NI248_239 := ni NB248_239
              replace BK239 := bk BK239 hb
              have NB240_248 := b1 BK240 hg
              have NI240_248 := ni NB240_248
              have NB248_240 := b2 BK240 hg
              have NI248_240 := ni NB248_240
              replace BK240 := bk BK240 hb
              have NB241_248 := b1 BK241 hg
              have NI241_248 := ni NB241_248
              have NB248_241 := b2 BK241 hg
              have NI248_241 := ni NB248_241
              replace BK241 := bk BK241 hb
              clear hb hbox hg
              refine hK.out _ _ ⟨bc0 BK240.out, bc1 BK240.out, bc2 BK240.out⟩ (fun hHeld => ?_)
              clear hK K
              refine nA (some 6) ?_
              exact norm_ y0_5 (hCont (v243, .slice Ao35 y245.length co35, gb248) _ ⟨hHeld, (rI HO247.out), (kI BK239.out), (kI BK240.out), (kI BK241.out), (kI BK248.out), GW248.out, GE248.out, NB239_248.out, NB248_239.out, NB240_248.out, NB248_240.out, NB241_248.out, NB248_241.out, (bI HB.out)⟩)
            · skip
              refine box_step ?hg (N := 6) ?hd (cs := #[.int .i64 0, .string (⟨#[]⟩ : ByteArray), .slice none 0 0]) (t := 41) ?hr ?_; (case hd => rfl); (case hg => rfl); (case hr => first | (go_simp; done) | (go_simp; rfl))
              intro gb248 hg w34 hbox hb
              replace HO244 := rb HO244 hb
              have BK248 := Aside0.mk (hbox)
              have GW248 := bg hg HB
              have GJ248 := gi GW248
              have GE248 := bg hg HB
              have GI248 := gi GE248
              replace HB := bs HB hb
              have NB239_248 := b1 BK239 hg
              have NI239_248 := ni NB239_248
              have NB248_239 := b2 BK239 hg
              have NI248_239 := ni NB248_239
              replace BK239 := bk BK239 hb
              have NB240_248 := b1 BK240 hg
              have NI240_248 := ni NB240_248
              have NB248_240 := b2 BK240 hg
              have NI248_240 := ni NB248_240
              replace BK240 := bk BK240 hb
              have NB241_248 := b1 BK241 hg
              have NI241_248 := ni NB241_248
              have NB248_241 := b2 BK241 hg
              have NI248_241 := ni NB248_241
              replace BK241 := bk BK241 hb
              clear hb hbox hg
              refine hK.out _ _ ⟨bc0 BK240.out, bc1 BK240.out, bc2 BK240.out⟩ (fun hHeld => ?_)
              clear hK K
              refine nA (some 6) ?_
              refine oA 7 (some 14) (bz 11 767) HT_ (fun K hK => ?_)
              refine Kd.R_append_rows_step (Kd.int .i64) (w0 := w) w.heap.size (by rfl) (.tmp 11) (.tmp 13) 27 3 (.int .i64 0) 8 rfl Tryd.underlying27 info3 rfl (by decide) (by omega) v243 y242 l1_2 _ _ _ (fun _ => True) (fun _ => False) rfl rfl ?aO ?aR (fun _ _ h => h) (fun _ h => h.elim) ?aF ?aB ?aS ?aL ?_
              (case aR => exact ch HR1_2 HB)
              (case aB => exact (bI HB.out))
              (case aF => exact (fun _ _ => trivial))
              (case aO => exact (rI HO244.out))
              (case aS => exact (below_size (bI HB.out)))
              (case aL => have := LMc3.out; omega)
              intro v246 w35 ho hb hg hat
              rw [← Ny245.out] at ho
              have n0_ := bn BK239 hg (Kd.R_ne HO244.out BK239.out (by decide))
              have n1_ := bn BK240 hg (Kd.R_ne HO244.out BK240.out (by decide))
              have n2_ := bn BK241 hg (Kd.R_ne HO244.out BK241.out (by decide))
              have n3_ := bn BK248 hg (Kd.R_ne HO244.out BK248.out (by decide))
              have n4_ := Aside0.mk (hb)
              have n5_ := Aside0.mk (ho)
              clear BK239
              clear BK240
              clear BK241
              clear BK248
              clear HB
              clear HO244
              have BK239 := n0_
              have BK240 := n1_
              have BK241 := n2_
              have BK248 := n3_
              have HB := n4_
              have HO247 := n5_
              clear n0_ n1_ n2_ n3_ n4_ n5_
              clear ho hb hg hat
              obtain ⟨Ao36, co36, eo36⟩ := Kd.R_slice HO247.out
              (first | subst eo36 | (injection eo36 with f1_ f2_ f3_; have f4_ := f1_.symm; have f5_ := f3_.symm; clear f1_ f2_ f3_; subst f4_; subst f5_))
              refine hK.out _ _ ⟨bc0 BK240.out, bc1 BK240.out, bc2 BK240.out⟩ (fun hHeld => ?_)
              clear hK K
              refine nA (some 14) ?_
              refine pA 8 (some 15) (bz 11 1023) HT_ ?_
              exact norm_ y0_5 (hCont (v243, .slice Ao36 y245.length co36, gb248) _ ⟨hHeld, (rI HO247.out), (kI BK239.out), (kI BK240.out), (kI BK241.out), (kI BK248.out), GW248.out, GE248.out, NB239_248.out, NB248_239.out, NB240_248.out, NB248_240.out, NB241_248.out, NB248_241.out, (bI HB.out)⟩)
          · skip
            refine box_step ?hg (N := 6) ?hd (cs := #[.int .i64 0, .string (⟨#[]⟩ : ByteArray), .slice none 0 0]) (t := 41) ?hr ?_; (case hd => rfl); (case hg => rfl); (case hr => first | (go_simp; done) | (go_simp; rfl))
            intro gb248 hg w32 hbox hb
            have BK248 := Aside0.mk (hbox)
            have GW248 := bg hg HB
            have GJ248 := gi GW248
            have GE248 := bg hg HB
            have GI248 := gi GE248
            replace HB := bs HB hb
            have NB239_248 := b1 BK239 hg
            have NI239_248 := ni NB239_248
            have NB248_239 := b2 BK239 hg
            have NI248_239 := ni NB248_239
            replace BK239 := bk BK239 hb
            have NB240_248 := b1 BK240 hg
            have NI240_248 := ni NB240_248
            have NB248_240 := b2 BK240 hg
            have NI248_240 := ni NB248_240
            replace BK240 := bk BK240 hb
            have NB241_248 := b1 BK241 hg
            have NI241_248 := ni NB241_248
            have NB248_241 := b2 BK241 hg
            have NI248_241 := ni NB248_241
            replace BK241 := bk BK241 hb
            clear hb hbox hg
            refine hK.out _ _ ⟨bc0 BK240.out, bc1 BK240.out, bc2 BK240.out⟩ (fun hHeld => ?_)
            clear hK K
            refine nA (some 6) ?_
            refine oA 4 (some 11) (bz 11 639) HT_ (fun K hK => ?_)
            refine Kd.R_lit_step (Kd.int .i64) _ 3 ?hg (N := 11) ?hd (xs := ([] : List Int)) (inner := []) (ok := fun _ => True) (okp := fun _ => True) ?hr ?hp (fun _ hk => hk) trivial (Below.refl _ _) (Nat.le_refl _) (by simp) ?_; (case hd => rfl); (case hg => rfl); (case hr => first | (go_simp; done) | (go_simp; rfl)); (case hp => exact (Reps.none _ _))
            intro v243 w33 ho34 hb hg_ hnew_
            clear hg_ hnew_
            (first | rw [← Ny242.out] at ho34 | (simp only [Int.reduceToNat] at ho34; rw [← Ny242.out] at ho34))
            have HO244 := Aside0.mk (Kd.R_lower ho34 (below_size (bI HB.out)))
            replace BK239 := bk BK239 hb
            replace BK240 := bk BK240 hb
            replace BK241 := bk BK241 hb
            replace BK248 := bk BK248 hb
            replace HB := bs HB hb
            clear hb ho34
            refine hK.out _ _ ⟨bc0 BK240.out, bc1 BK240.out, bc2 BK240.out⟩ (fun hHeld => ?_)
            clear hK K
            refine nA (some 11) ?_
            refine oA 7 (some 14) (bz 11 767) HT_ (fun K hK => ?_)
            refine Kd.R_append_rows_step (Kd.int .i64) (w0 := w) w.heap.size (by rfl) (.tmp 11) (.tmp 13) 27 3 (.int .i64 0) 8 rfl Tryd.underlying27 info3 rfl (by decide) (by omega) v243 y242 l1_2 _ _ _ (fun _ => True) (fun _ => False) rfl rfl ?aO ?aR (fun _ _ h => h) (fun _ h => h.elim) ?aF ?aB ?aS ?aL ?_
            (case aR => exact ch HR1_2 HB)
            (case aB => exact (bI HB.out))
            (case aF => exact (fun _ _ => trivial))
            (case aO => exact (rI HO244.out))
            (case aS => exact (below_size (bI HB.out)))
            (case aL => have := LMc3.out; omega)
            intro v246 w35 ho hb hg hat
            rw [← Ny245.out] at ho
            have n0_ := bn BK239 hg (Kd.R_ne HO244.out BK239.out (by decide))
            have n1_ := bn BK240 hg (Kd.R_ne HO244.out BK240.out (by decide))
            have n2_ := bn BK241 hg (Kd.R_ne HO244.out BK241.out (by decide))
            have n3_ := bn BK248 hg (Kd.R_ne HO244.out BK248.out (by decide))
            have n4_ := Aside0.mk (hb)
            have n5_ := Aside0.mk (ho)
            clear BK239
            clear BK240
            clear BK241
            clear BK248
            clear HB
            clear HO244
            have BK239 := n0_
            have BK240 := n1_
            have BK241 := n2_
            have BK248 := n3_
            have HB := n4_
            have HO247 := n5_
            clear n0_ n1_ n2_ n3_ n4_ n5_
            clear ho hb hg hat
            obtain ⟨Ao36, co36, eo36⟩ := Kd.R_slice HO247.out
            (first | subst eo36 | (injection eo36 with f1_ f2_ f3_; have f4_ := f1_.symm; have f5_ := f3_.symm; clear f1_ f2_ f3_; subst f4_; subst f5_))
            refine hK.out _ _ ⟨bc0 BK240.out, bc1 BK240.out, bc2 BK240.out⟩ (fun hHeld => ?_)
            clear hK K
            refine nA (some 14) ?_
            refine pA 8 (some 15) (bz 11 1023) HT_ ?_
            exact norm_ y0_5 (hCont (v243, .slice Ao36 y245.length co36, gb248) _ ⟨hHeld, (rI HO247.out), (kI BK239.out), (kI BK240.out), (kI BK241.out), (kI BK248.out), GW248.out, GE248.out, NB239_248.out, NB248_239.out, NB240_248.out, NB248_240.out, NB241_248.out, NB248_241.out, (bI HB.out)⟩)
        rintro ⟨v243, v246, gb248⟩ w37 ⟨hS_, h0_, h1_, h2_, h3_, h4_, h5_, h6_, h7_, h8_, h9_, h10_, h11_, h12_, h13_⟩
        have n0_ : Aside0 (Kd.R (Kd.int .i64) 3 w37 w.heap.size (fun _ => True) v246 y245) := ⟨h0_⟩
        have n1_ : Aside0 (w37.heap[gb239]? = some (.cells #[.int .i64 a0_0, .int .i64 a0_1] 32 (0, 0))) := ⟨h1_⟩
        have n2_ : Aside0 (w37.heap[gb240]? = some (.cells #[.int .i64 a1_0, .string a1_1, .slice A1_2 l1_2.length c1_2] 34 (0, 0))) := ⟨h2_⟩
        have n3_ : Aside0 (w37.heap[gb241]? = some (.cells #[.int .i64 0, .string (⟨#[]⟩ : ByteArray), .slice none 0 0] 41 (0, 0))) := ⟨h3_⟩
        have n4_ : Aside0 (w37.heap[gb248]? = some (.cells #[.int .i64 0, .string (⟨#[]⟩ : ByteArray), .slice none 0 0] 41 (0, 0))) := ⟨h4_⟩
        have n5_ : Aside0 (w.heap.size ≤ gb248) := ⟨h5_⟩
        have n6_ : Aside0 (w.heap.size ≤ gb248) := ⟨h6_⟩
        have n7_ : Aside0 (gb239 ≠ gb248) := ⟨h7_⟩
        have n8_ : Aside0 (gb248 ≠ gb239) := ⟨h8_⟩
        have n9_ : Aside0 (gb240 ≠ gb248) := ⟨h9_⟩
        have n10_ : Aside0 (gb248 ≠ gb240) := ⟨h10_⟩
        have n11_ : Aside0 (gb241 ≠ gb248) := ⟨h11_⟩
        have n12_ : Aside0 (gb248 ≠ gb241) := ⟨h12_⟩
        have n13_ : Aside0 (Below w.heap.size w w37) := ⟨h13_⟩
        clear BK239
        clear BK240
        clear BK241
        clear HB
        clear h0_ h1_ h2_ h3_ h4_ h5_ h6_ h7_ h8_ h9_ h10_ h11_ h12_ h13_
        have HO247 := n0_
        have BK239 := n1_
        have BK240 := n2_
        have BK241 := n3_
        have BK248 := n4_
        have GW248 := n5_
        have GJ248 := gi GW248
        have GE248 := n6_
        have GI248 := gi GE248
        have NB239_248 := n7_
        have NI239_248 := ni NB239_248
        have NB248_239 := n8_
        have NI248_239 := ni NB248_239
        have NB240_248 := n9_
        have NI240_248 := ni NB240_248
        have NB248_240 := n10_
        have NI248_240 := ni NB248_240
        have NB241_248 := n11_
        have NI241_248 := ni NB241_248
        have NB248_241 := n12_
        have NI248_241 := ni NB248_241
        have HB := n13_
        clear n0_ n1_ n2_ n3_ n4_ n5_ n6_ n7_ n8_ n9_ n10_ n11_ n12_ n13_
        have hHeld : w37.cell? ⟨gb240, 0, none⟩ = some (.int .i64 a1_0) ∧ w37.cell? ⟨gb240, 1, none⟩ = some (.string a1_1) ∧ w37.cell? ⟨gb240, 2, none⟩ = some (.slice A1_2 l1_2.length c1_2) := hS_
        obtain ⟨Ao38, co38, eo38⟩ := Kd.R_slice HO247.out
        (first | subst eo38 | (injection eo38 with f1_ f2_ f3_; have f4_ := f1_.symm; have f5_ := f3_.symm; clear f1_ f2_ f3_; subst f4_; subst f5_))
        refine norm_ (a' := ?_) ?_ ?_
        rotate_left
        · simp only [putAll, Act.put, List.setIfInBounds_toArray, List.set_cons_zero, List.set_cons_succ]
          rfl
        refine oA 10 none (bz 11 2047) HT_ (fun K hK => ?_)
        have hs39 : w37.cell? ⟨gb248, 0, none⟩ = some (.int .i64 0) := bc0 BK248.out
        have hfs39 := blk_frozen BK248.out 0
        have hns39_0 := NB239_248.out
        have hns39_1 := NB240_248.out
        have hns39_2 := NB241_248.out
        have hms39_0 := NB248_239.out
        have hms39_1 := NB248_240.out
        have hms39_2 := NB248_241.out
        have hs40 : w37.cell? ⟨gb248, 1, none⟩ = some (.string (⟨#[]⟩ : ByteArray)) := bc1 BK248.out
        have hfs40 := blk_frozen BK248.out 1
        have hns40_0 := NB239_248.out
        have hns40_1 := NB240_248.out
        have hns40_2 := NB241_248.out
        have hms40_0 := NB248_239.out
        have hms40_1 := NB248_240.out
        have hms40_2 := NB248_241.out
        have hs41 : w37.cell? ⟨gb248, 2, none⟩ = some (.slice none 0 0) := bc2 BK248.out
        have hfs41 := blk_frozen BK248.out 2
        have hns41_0 := NB239_248.out
        have hns41_1 := NB240_248.out
        have hns41_2 := NB241_248.out
        have hms41_0 := NB248_239.out
        have hms41_1 := NB248_240.out
        have hms41_2 := NB248_241.out
        refine skip_ (w1 := ?_) (by rfl) rfl ?_ ?_
        rotate_left
        · go_simp
          rfl
        refine hK.out _ _ ⟨((cell_far (p := ⟨gb248, _, none⟩) NB240_248.out _).trans (((cell_far (p := ⟨gb248, _, none⟩) NB240_248.out _).trans (((cell_far (p := ⟨gb248, _, none⟩) NB240_248.out _).trans (hHeld.1)))))), ((cell_far (p := ⟨gb248, _, none⟩) NB240_248.out _).trans (((cell_far (p := ⟨gb248, _, none⟩) NB240_248.out _).trans (((cell_far (p := ⟨gb248, _, none⟩) NB240_248.out _).trans (hHeld.2.1)))))), ((cell_far (p := ⟨gb248, _, none⟩) NB240_248.out _).trans (((cell_far (p := ⟨gb248, _, none⟩) NB240_248.out _).trans (((cell_far (p := ⟨gb248, _, none⟩) NB240_248.out _).trans (hHeld.2.2))))))⟩ (fun hHeld => ?_)
        clear hK K
        refine done_ (done_of HT_.out (by kernel_rfl)) ?_
        have hnb42 := NB240_239.out
        have hnc42 := NB239_240.out
        have hnb43 := NB240_241.out
        have hnc43 := NB241_240.out
        have hnb44 := NB240_248.out
        have hnc44 := NB248_240.out
        have hcz45_0 := bc0 BK240.out
        have hcz45_1 := bc1 BK240.out
        have hcz45_2 := bc2 BK240.out
        have hfz45_0 := blk_frozen BK240.out 0
        have hfz45_1 := blk_frozen BK240.out 1
        have hfz45_2 := blk_frozen BK240.out 2
        have hnb46 := NB239_241.out
        have hnc46 := NB241_239.out
        have hnb47 := NB239_248.out
        have hnc47 := NB248_239.out
        have hcz48_0 := bc0 BK239.out
        have hcz48_1 := bc1 BK239.out
        have hfz48_0 := blk_frozen BK239.out 0
        have hfz48_1 := blk_frozen BK239.out 1
        have hnb49 := NB248_241.out
        have hnc49 := NB241_248.out
        have hcz50_0 := bc0 BK248.out
        have hcz50_1 := bc1 BK248.out
        have hcz50_2 := bc2 BK248.out
        have hfz50_0 := blk_frozen BK248.out 0
        have hfz50_1 := blk_frozen BK248.out 1
        have hfz50_2 := blk_frozen BK248.out 2
        try go_wp2_with (first | (go_at_call 24; (with_reducible refine (spec_QcOk.calls k a0_0 a0_1 a1_0 a1_1 _ _ y245 true _ ?side1 ?side2 A26.out).mono ?_); (case side1 => refine (Kd.R_reads' (e := 3) (base := w.heap.size) (ok := fun k_ => True) (n := y245.length) (c := co38) ?_).2.2; exact (rI (Kd.R_mono (Kd.R_far (p := ⟨gb248, 2, none⟩) (Kd.R_far (p := ⟨gb248, 1, none⟩) (Kd.R_far (p := ⟨gb248, 0, none⟩) (Kd.R_types HO247.out BK248.out (by decide)) (fun _ hk => hk.2) (.int .i64 a1_0)) (fun _ hk => hk.2) (.string a1_1)) (fun _ hk => hk.2) (.slice Ao38 y245.length co38)) (fun _ h_ => h_.1)))); (case side2 => exact (Kd.R_reads' HO247.out).2.1); rintro e w51 ⟨rfl, hb⟩; replace HO247 := Aside0.mk (Kd.R_below (rI (Kd.R_mono (Kd.R_far (p := ⟨gb248, 2, none⟩) (Kd.R_far (p := ⟨gb248, 1, none⟩) (Kd.R_far (p := ⟨gb248, 0, none⟩) (Kd.R_types HO247.out BK248.out (by decide)) (fun _ hk => hk.2) (.int .i64 a1_0)) (fun _ hk => hk.2) (.string a1_1)) (fun _ hk => hk.2) (.slice Ao38 y245.length co38)) (fun _ h_ => h_.1))) hb); replace BK239 := Aside0.mk (blk_below (g := gb239) (o := .cells #[.int .i64 a0_0, .int .i64 a0_1] 32 (0, 0)) (gI BK239.out) hb); replace BK240 := Aside0.mk (blk_below (g := gb240) (o := .cells #[.int .i64 a1_0, .string a1_1, .slice A1_2 l1_2.length c1_2] 34 (0, 0)) (gI BK240.out) hb); replace BK241 := Aside0.mk (blk_below (g := gb241) (o := .cells #[.int .i64 0, .string (⟨#[]⟩ : ByteArray), .slice none 0 0] 41 (0, 0)) (gI BK241.out) hb); replace BK248 := bp BK248 hb #[.int .i64 a1_0, .string a1_1, .slice Ao38 y245.length co38]; replace HB := bs HB hb; (try clear hb); (try clear hb2); (try clear hk); (try clear hi); obtain ⟨hcz52_0, hcz52_1, hcz52_2, hfz52_0, hfz52_1, hfz52_2⟩ := cs3 BK248; obtain ⟨hcz53_0, hcz53_1, hcz53_2, hfz53_0, hfz53_1, hfz53_2⟩ := cs3 BK241))
        refine bodyPost_ret (results_ct rfl _ _ gb241 41 #[.int .i64 a1_0, .string a1_1, .slice Ao38 y245.length co38] (0, 0) _ rfl (pI BK241) Tryd.underlying41 rfl (by kernel_rfl)) rfl ?_
        exact ⟨_, y0_6, by (with_reducible repeat (first | apply Kd.R_alloc | apply Kd.R_drewN | apply Kd.R_drew)); exact Kd.R_mono (Kd.R_far (p := ⟨gb241, 2, none⟩) (Kd.R_far (p := ⟨gb241, 1, none⟩) (Kd.R_far (p := ⟨gb241, 0, none⟩) (Kd.R_types HO247.out BK241.out (by decide)) (fun _ hk => hk.2) (.int .i64 a1_0)) (fun _ hk => hk.2) (.string a1_1)) (fun _ hk => hk.2) (.slice Ao38 y245.length co38)) (fun _ hk => trivial), bI HB.out⟩
      · replace c27 := Bool.eq_false_iff.mpr c27
        subst c27
        rw [if_neg (show ¬ (false = true) by decide)] at H
        simp only [Option.some.injEq, Prod.mk.injEq] at H
        obtain ⟨rfl, rfl, rfl, rfl⟩ := H
        go_enter Tryd.func38, Tryd.ntmps38
        try go_wp2_with (first | ((with_reducible refine gd 2 ?_); refine bA 2 #[.int .i64 a0_0, .int .i64 a0_1] 32 ?_; intro gb239 hg w54 hbox hb; have BK239 := Aside0.mk (hbox); have GW239 := bg hg HB; have GJ239 := gi GW239; have GE239 := GW239; replace HB := bs HB hb; clear hb hbox hg) | ((with_reducible refine gd 3 ?_); refine bA 3 #[.int .i64 a1_0, .string a1_1, .slice A1_2 l1_2.length c1_2] 34 ?_; intro gb240 hg w55 hbox hb; have BK240 := Aside0.mk (hbox); have GW240 := bg hg HB; have GJ240 := gi GW240; have GE240 := GW240; replace HB := bs HB hb; have NB239_240 := b1 BK239 hg; have NI239_240 := ni NB239_240; have NB240_239 := b2 BK239 hg; have NI240_239 := ni NB240_239; replace BK239 := bk BK239 hb; clear hb hbox hg) | ((with_reducible refine gd 4 ?_); refine bA 4 #[.int .i64 0, .string (⟨#[]⟩ : ByteArray), .slice none 0 0] 41 ?_; intro gb241 hg w56 hbox hb; have BK241 := Aside0.mk (hbox); have GW241 := bg hg HB; have GJ241 := gi GW241; have GE241 := GW241; replace HB := bs HB hb; have NB239_241 := b1 BK239 hg; have NI239_241 := ni NB239_241; have NB241_239 := b2 BK239 hg; have NI241_239 := ni NB241_239; replace BK239 := bk BK239 hb; have NB240_241 := b1 BK240 hg; have NI240_241 := ni NB240_241; have NB241_240 := b2 BK240 hg; have NI241_240 := ni NB241_240; replace BK240 := bk BK240 hb; clear hb hbox hg))
        replace BK239 := Aside0.mk (blk_drew BK239.out)
        replace BK240 := Aside0.mk (blk_drew BK240.out)
        replace BK241 := Aside0.mk (blk_drew BK241.out)
        replace HB := Aside0.mk (below_drew1 HB.out)
        refine start_ (n := 11) (S := fun w' => w'.cell? ⟨gb240, 0, none⟩ = some (.int .i64 a1_0) ∧ w'.cell? ⟨gb240, 1, none⟩ = some (.string a1_1) ∧ w'.cell? ⟨gb240, 2, none⟩ = some (.slice A1_2 l1_2.length c1_2)) (ds := []) #[false, false, false, false, false, false, false, false, false, false, false] (by kernel_rfl) rfl rfl ⟨bc0 BK240.out, bc1 BK240.out, bc2 BK240.out⟩ (fun hHeld => ?_); refine with_tabW spec_PartQc.tab1 spec_PartQc.bits1 (fun HT_ HW_ => ?_)
        generalize w56.drew = w57 at BK239 BK240 BK241 HB hHeld ⊢
        refine pA 0 (some 7) (bz 11 1) HT_ ?_
        refine pA 2 (some 9) (bz 11 5) HT_ ?_
        refine pA 5 (some 12) (bz 11 37) HT_ ?_
        refine tA 1 (some 8) (bz 11 39) HT_ HW_ hHeld ?_
        refine tA 3 (some 10) (bz 11 47) HT_ HW_ hHeld ?_
        refine tA 6 (some 13) (bz 11 111) HT_ HW_ hHeld ?_
        refine join_ (σ := Value × Value × Nat) 1 #[true, true, true, true, true, true, true, true, true, true, false] (fun s_ => [(11, s_.1), (14, s_.2.1), (6, .pointer (some ⟨s_.2.2, 0, none⟩)), (15, .agg #[.int .i64 a1_0, .string a1_1, s_.2.1])]) (fun s_ w' => (w'.cell? ⟨gb240, 0, none⟩ = some (.int .i64 a1_0) ∧ w'.cell? ⟨gb240, 1, none⟩ = some (.string a1_1) ∧ w'.cell? ⟨gb240, 2, none⟩ = some (.slice A1_2 l1_2.length c1_2)) ∧ (Kd.R (Kd.int .i64) 3 w' w.heap.size (fun _ => True) s_.2.1 y245) ∧ (w'.heap[gb239]? = some (.cells #[.int .i64 a0_0, .int .i64 a0_1] 32 (0, 0))) ∧ (w'.heap[gb240]? = some (.cells #[.int .i64 a1_0, .string a1_1, .slice A1_2 l1_2.length c1_2] 34 (0, 0))) ∧ (w'.heap[gb241]? = some (.cells #[.int .i64 0, .string (⟨#[]⟩ : ByteArray), .slice none 0 0] 41 (0, 0))) ∧ (w'.heap[s_.2.2]? = some (.cells #[.int .i64 0, .string (⟨#[]⟩ : ByteArray), .slice none 0 0] 41 (0, 0))) ∧ (w.heap.size ≤ s_.2.2) ∧ (w.heap.size ≤ s_.2.2) ∧ (gb239 ≠ s_.2.2) ∧ (s_.2.2 ≠ gb239) ∧ (gb240 ≠ s_.2.2) ∧ (s_.2.2 ≠ gb240) ∧ (gb241 ≠ s_.2.2) ∧ (s_.2.2 ≠ gb241) ∧ (Below w.heap.size w w')) ?_ ?_
        rotate_left
        · intro hCont
          refine two_ (i := 4) (j := 9) (Ni := some 11) (Nj := some 6) #[true, true, true, true, true, true, true, false, false, false, false] #[true, true, true, true, false, true, true, false, false, true, false] rfl rfl rfl rfl (two_of HT_.out (by kernel_rfl)) (by decide) (by decide) (fun K hK => ?_) (fun K hK => ?_)
          · skip
            refine Kd.R_lit_step (Kd.int .i64) _ 3 ?hg (N := 11) ?hd (xs := ([] : List Int)) (inner := []) (ok := fun _ => True) (okp := fun _ => True) ?hr ?hp (fun _ hk => hk) trivial (Below.refl _ _) (Nat.le_refl _) (by simp) ?_; (case hd => rfl); (case hg => rfl); (case hr => first | (go_simp; done) | (go_simp; rfl)); (case hp => exact (Reps.none _ _))
            intro v243 w58 ho59 hb hg_ hnew_
            clear hg_ hnew_
            (first | rw [← Ny242.out] at ho59 | (simp only [Int.reduceToNat] at ho59; rw [← Ny242.out] at ho59))
            have HO244 := Aside0.mk (Kd.R_lower ho59 (below_size (bI HB.out)))
            replace BK239 := bk BK239 hb
            replace BK240 := bk BK240 hb
            replace BK241 := bk BK241 hb
            replace HB := bs HB hb
            clear hb ho59
            refine hK.out _ _ ⟨bc0 BK240.out, bc1 BK240.out, bc2 BK240.out⟩ (fun hHeld => ?_)
            clear hK K
            refine nA (some 11) ?_
            refine two_ (i := 7) (j := 9) (Ni := some 14) (Nj := some 6) #[true, true, true, true, true, true, true, true, false, false, false] #[true, true, true, true, true, true, true, false, false, true, false] rfl rfl rfl rfl (two_of HT_.out (by kernel_rfl)) (by decide) (by decide) (fun K hK => ?_) (fun K hK => ?_)
            · skip
              refine Kd.R_append_rows_step (Kd.int .i64) (w0 := w) w.heap.size (by rfl) (.tmp 11) (.tmp 13) 27 3 (.int .i64 0) 8 rfl Tryd.underlying27 info3 rfl (by decide) (by omega) v243 y242 l1_2 _ _ _ (fun _ => True) (fun _ => False) rfl rfl ?aO ?aR (fun _ _ h => h) (fun _ h => h.elim) ?aF ?aB ?aS ?aL ?_
              (case aR => exact ch HR1_2 HB)
              (case aB => exact (bI HB.out))
              (case aF => exact (fun _ _ => trivial))
              (case aO => exact (rI HO244.out))
              (case aS => exact (below_size (bI HB.out)))
              (case aL => have := LMc3.out; omega)
              intro v246 w60 ho hb hg hat
              rw [← Ny245.out] at ho
              have n0_ := bn BK239 hg (Kd.R_ne HO244.out BK239.out (by decide))
              have n1_ := bn BK240 hg (Kd.R_ne HO244.out BK240.out (by decide))
              have n2_ := bn BK241 hg (Kd.R_ne HO244.out BK241.out (by decide))
              have n3_ := Aside0.mk (hb)
              have n4_ := Aside0.mk (ho)
              clear BK239
              clear BK240
              clear BK241
              clear HB
              clear HO244
              have BK239 := n0_
              have BK240 := n1_
              have BK241 := n2_
              have HB := n3_
              have HO247 := n4_
              clear n0_ n1_ n2_ n3_ n4_
              clear ho hb hg hat
              obtain ⟨Ao61, co61, eo61⟩ := Kd.R_slice HO247.out
              (first | subst eo61 | (injection eo61 with f1_ f2_ f3_; have f4_ := f1_.symm; have f5_ := f3_.symm; clear f1_ f2_ f3_; subst f4_; subst f5_))
              refine hK.out _ _ ⟨bc0 BK240.out, bc1 BK240.out, bc2 BK240.out⟩ (fun hHeld => ?_)
              clear hK K
              refine nA (some 14) ?_
              refine pA 8 (some 15) (bz 11 511) HT_ ?_
              refine oA 9 (some 6) (bz 11 1023) HT_ (fun K hK => ?_)
              refine box_step ?hg (N := 6) ?hd (cs := #[.int .i64 0, .string (⟨#[]⟩ : ByteArray), .slice none 0 0]) (t := 41) ?hr ?_; (case hd => rfl); (case hg => rfl); (case hr => first | (go_simp; done) | (go_simp; rfl))
              intro gb248 hg w62 hbox hb
              replace HO247 := rb HO247 hb
              have BK248 := Aside0.mk (hbox)
              have GW248 := bg hg HB
              have GJ248 := gi GW248
              have GE248 := bg hg HB
              have GI248 := gi GE248
              replace HB := bs HB hb
              have NB239_248 := b1 BK239 hg
              have NI239_248 := ni NB239_248
              have NB248_239 := b2 BK239 hg
              have NI248_239 := ni NB248_239
              replace BK239 := bk BK239 hb
              have NB240_248 := b1 BK240 hg
              have NI240_248 := ni NB240_248
              have NB248_240 := b2 BK240 hg
              have NI248_240 := ni NB248_240
              replace BK240 := bk BK240 hb
              have NB241_248 := b1 BK241 hg
              have NI241_248 := ni NB241_248
              have NB248_241 := b2 BK241 hg
              have NI248_241 := ni NB248_241
              replace BK241 := bk BK241 hb
              clear hb hbox hg
              refine hK.out _ _ ⟨bc0 BK240.out, bc1 BK240.out, bc2 BK240.out⟩ (fun hHeld => ?_)
              clear hK K
              refine nA (some 6) ?_
              exact norm_ y0_5 (hCont (v243, .slice Ao61 y245.length co61, gb248) _ ⟨hHeld, (rI HO247.out), (kI BK239.out), (kI BK240.out), (kI BK241.out), (kI BK248.out), GW248.out, GE248.out, NB239_248.out, NB248_239.out, NB240_248.out, NB248_240.out, NB241_248.out, NB248_241.out, (bI HB.out)⟩)
            · skip
              refine box_step ?hg (N := 6) ?hd (cs := #[.int .i64 0, .string (⟨#[]⟩ : ByteArray), .slice none 0 0]) (t := 41) ?hr ?_; (case hd => rfl); (case hg => rfl); (case hr => first | (go_simp; done) | (go_simp; rfl))
              intro gb248 hg w60 hbox hb
              replace HO244 := rb HO244 hb
              have BK248 := Aside0.mk (hbox)
              have GW248 := bg hg HB
              have GJ248 := gi GW248
              have GE248 := bg hg HB
              have GI248 := gi GE248
              replace HB := bs HB hb
              have NB239_248 := b1 BK239 hg
              have NI239_248 := ni NB239_248
              have NB248_239 := b2 BK239 hg
              have NI248_239 := ni NB248_239
              replace BK239 := bk BK239 hb
              have NB240_248 := b1 BK240 hg
              have NI240_248 := ni NB240_248
              have NB248_240 := b2 BK240 hg
              have NI248_240 := ni NB248_240
              replace BK240 := bk BK240 hb
              have NB241_248 := b1 BK241 hg
              have NI241_248 := ni NB241_248
              have NB248_241 := b2 BK241 hg
              have NI248_241 := ni NB248_241
              replace BK241 := bk BK241 hb
              clear hb hbox hg
              refine hK.out _ _ ⟨bc0 BK240.out, bc1 BK240.out, bc2 BK240.out⟩ (fun hHeld => ?_)
              clear hK K
              refine nA (some 6) ?_
              refine oA 7 (some 14) (bz 11 767) HT_ (fun K hK => ?_)
              refine Kd.R_append_rows_step (Kd.int .i64) (w0 := w) w.heap.size (by rfl) (.tmp 11) (.tmp 13) 27 3 (.int .i64 0) 8 rfl Tryd.underlying27 info3 rfl (by decide) (by omega) v243 y242 l1_2 _ _ _ (fun _ => True) (fun _ => False) rfl rfl ?aO ?aR (fun _ _ h => h) (fun _ h => h.elim) ?aF ?aB ?aS ?aL ?_
              (case aR => exact ch HR1_2 HB)
              (case aB => exact (bI HB.out))
              (case aF => exact (fun _ _ => trivial))
              (case aO => exact (rI HO244.out))
              (case aS => exact (below_size (bI HB.out)))
              (case aL => have := LMc3.out; omega)
              intro v246 w61 ho hb hg hat
              rw [← Ny245.out] at ho
              have n0_ := bn BK239 hg (Kd.R_ne HO244.out BK239.out (by decide))
              have n1_ := bn BK240 hg (Kd.R_ne HO244.out BK240.out (by decide))
              have n2_ := bn BK241 hg (Kd.R_ne HO244.out BK241.out (by decide))
              have n3_ := bn BK248 hg (Kd.R_ne HO244.out BK248.out (by decide))
              have n4_ := Aside0.mk (hb)
              have n5_ := Aside0.mk (ho)
              clear BK239
              clear BK240
              clear BK241
              clear BK248
              clear HB
              clear HO244
              have BK239 := n0_
              have BK240 := n1_
              have BK241 := n2_
              have BK248 := n3_
              have HB := n4_
              have HO247 := n5_
              clear n0_ n1_ n2_ n3_ n4_ n5_
              clear ho hb hg hat
              obtain ⟨Ao62, co62, eo62⟩ := Kd.R_slice HO247.out
              (first | subst eo62 | (injection eo62 with f1_ f2_ f3_; have f4_ := f1_.symm; have f5_ := f3_.symm; clear f1_ f2_ f3_; subst f4_; subst f5_))
              refine hK.out _ _ ⟨bc0 BK240.out, bc1 BK240.out, bc2 BK240.out⟩ (fun hHeld => ?_)
              clear hK K
              refine nA (some 14) ?_
              refine pA 8 (some 15) (bz 11 1023) HT_ ?_
              exact norm_ y0_5 (hCont (v243, .slice Ao62 y245.length co62, gb248) _ ⟨hHeld, (rI HO247.out), (kI BK239.out), (kI BK240.out), (kI BK241.out), (kI BK248.out), GW248.out, GE248.out, NB239_248.out, NB248_239.out, NB240_248.out, NB248_240.out, NB241_248.out, NB248_241.out, (bI HB.out)⟩)
          · skip
            refine box_step ?hg (N := 6) ?hd (cs := #[.int .i64 0, .string (⟨#[]⟩ : ByteArray), .slice none 0 0]) (t := 41) ?hr ?_; (case hd => rfl); (case hg => rfl); (case hr => first | (go_simp; done) | (go_simp; rfl))
            intro gb248 hg w58 hbox hb
            have BK248 := Aside0.mk (hbox)
            have GW248 := bg hg HB
            have GJ248 := gi GW248
            have GE248 := bg hg HB
            have GI248 := gi GE248
            replace HB := bs HB hb
            have NB239_248 := b1 BK239 hg
            have NI239_248 := ni NB239_248
            have NB248_239 := b2 BK239 hg
            have NI248_239 := ni NB248_239
            replace BK239 := bk BK239 hb
            have NB240_248 := b1 BK240 hg
            have NI240_248 := ni NB240_248
            have NB248_240 := b2 BK240 hg
            have NI248_240 := ni NB248_240
            replace BK240 := bk BK240 hb
            have NB241_248 := b1 BK241 hg
            have NI241_248 := ni NB241_248
            have NB248_241 := b2 BK241 hg
            have NI248_241 := ni NB248_241
            replace BK241 := bk BK241 hb
            clear hb hbox hg
            refine hK.out _ _ ⟨bc0 BK240.out, bc1 BK240.out, bc2 BK240.out⟩ (fun hHeld => ?_)
            clear hK K
            refine nA (some 6) ?_
            refine oA 4 (some 11) (bz 11 639) HT_ (fun K hK => ?_)
            refine Kd.R_lit_step (Kd.int .i64) _ 3 ?hg (N := 11) ?hd (xs := ([] : List Int)) (inner := []) (ok := fun _ => True) (okp := fun _ => True) ?hr ?hp (fun _ hk => hk) trivial (Below.refl _ _) (Nat.le_refl _) (by simp) ?_; (case hd => rfl); (case hg => rfl); (case hr => first | (go_simp; done) | (go_simp; rfl)); (case hp => exact (Reps.none _ _))
            intro v243 w59 ho60 hb hg_ hnew_
            clear hg_ hnew_
            (first | rw [← Ny242.out] at ho60 | (simp only [Int.reduceToNat] at ho60; rw [← Ny242.out] at ho60))
            have HO244 := Aside0.mk (Kd.R_lower ho60 (below_size (bI HB.out)))
            replace BK239 := bk BK239 hb
            replace BK240 := bk BK240 hb
            replace BK241 := bk BK241 hb
            replace BK248 := bk BK248 hb
            replace HB := bs HB hb
            clear hb ho60
            refine hK.out _ _ ⟨bc0 BK240.out, bc1 BK240.out, bc2 BK240.out⟩ (fun hHeld => ?_)
            clear hK K
            refine nA (some 11) ?_
            refine oA 7 (some 14) (bz 11 767) HT_ (fun K hK => ?_)
            refine Kd.R_append_rows_step (Kd.int .i64) (w0 := w) w.heap.size (by rfl) (.tmp 11) (.tmp 13) 27 3 (.int .i64 0) 8 rfl Tryd.underlying27 info3 rfl (by decide) (by omega) v243 y242 l1_2 _ _ _ (fun _ => True) (fun _ => False) rfl rfl ?aO ?aR (fun _ _ h => h) (fun _ h => h.elim) ?aF ?aB ?aS ?aL ?_
            (case aR => exact ch HR1_2 HB)
            (case aB => exact (bI HB.out))
            (case aF => exact (fun _ _ => trivial))
            (case aO => exact (rI HO244.out))
            (case aS => exact (below_size (bI HB.out)))
            (case aL => have := LMc3.out; omega)
            intro v246 w61 ho hb hg hat
            rw [← Ny245.out] at ho
            have n0_ := bn BK239 hg (Kd.R_ne HO244.out BK239.out (by decide))
            have n1_ := bn BK240 hg (Kd.R_ne HO244.out BK240.out (by decide))
            have n2_ := bn BK241 hg (Kd.R_ne HO244.out BK241.out (by decide))
            have n3_ := bn BK248 hg (Kd.R_ne HO244.out BK248.out (by decide))
            have n4_ := Aside0.mk (hb)
            have n5_ := Aside0.mk (ho)
            clear BK239
            clear BK240
            clear BK241
            clear BK248
            clear HB
            clear HO244
            have BK239 := n0_
            have BK240 := n1_
            have BK241 := n2_
            have BK248 := n3_
            have HB := n4_
            have HO247 := n5_
            clear n0_ n1_ n2_ n3_ n4_ n5_
            clear ho hb hg hat
            obtain ⟨Ao62, co62, eo62⟩ := Kd.R_slice HO247.out
            (first | subst eo62 | (injection eo62 with f1_ f2_ f3_; have f4_ := f1_.symm; have f5_ := f3_.symm; clear f1_ f2_ f3_; subst f4_; subst f5_))
            refine hK.out _ _ ⟨bc0 BK240.out, bc1 BK240.out, bc2 BK240.out⟩ (fun hHeld => ?_)
            clear hK K
            refine nA (some 14) ?_
            refine pA 8 (some 15) (bz 11 1023) HT_ ?_
            exact norm_ y0_5 (hCont (v243, .slice Ao62 y245.length co62, gb248) _ ⟨hHeld, (rI HO247.out), (kI BK239.out), (kI BK240.out), (kI BK241.out), (kI BK248.out), GW248.out, GE248.out, NB239_248.out, NB248_239.out, NB240_248.out, NB248_240.out, NB241_248.out, NB248_241.out, (bI HB.out)⟩)
        rintro ⟨v243, v246, gb248⟩ w63 ⟨hS_, h0_, h1_, h2_, h3_, h4_, h5_, h6_, h7_, h8_, h9_, h10_, h11_, h12_, h13_⟩
        have n0_ : Aside0 (Kd.R (Kd.int .i64) 3 w63 w.heap.size (fun _ => True) v246 y245) := ⟨h0_⟩
        have n1_ : Aside0 (w63.heap[gb239]? = some (.cells #[.int .i64 a0_0, .int .i64 a0_1] 32 (0, 0))) := ⟨h1_⟩
        have n2_ : Aside0 (w63.heap[gb240]? = some (.cells #[.int .i64 a1_0, .string a1_1, .slice A1_2 l1_2.length c1_2] 34 (0, 0))) := ⟨h2_⟩
        have n3_ : Aside0 (w63.heap[gb241]? = some (.cells #[.int .i64 0, .string (⟨#[]⟩ : ByteArray), .slice none 0 0] 41 (0, 0))) := ⟨h3_⟩
        have n4_ : Aside0 (w63.heap[gb248]? = some (.cells #[.int .i64 0, .string (⟨#[]⟩ : ByteArray), .slice none 0 0] 41 (0, 0))) := ⟨h4_⟩
        have n5_ : Aside0 (w.heap.size ≤ gb248) := ⟨h5_⟩
        have n6_ : Aside0 (w.heap.size ≤ gb248) := ⟨h6_⟩
        have n7_ : Aside0 (gb239 ≠ gb248) := ⟨h7_⟩
        have n8_ : Aside0 (gb248 ≠ gb239) := ⟨h8_⟩
        have n9_ : Aside0 (gb240 ≠ gb248) := ⟨h9_⟩
        have n10_ : Aside0 (gb248 ≠ gb240) := ⟨h10_⟩
        have n11_ : Aside0 (gb241 ≠ gb248) := ⟨h11_⟩
        have n12_ : Aside0 (gb248 ≠ gb241) := ⟨h12_⟩
        have n13_ : Aside0 (Below w.heap.size w w63) := ⟨h13_⟩
        clear BK239
        clear BK240
        clear BK241
        clear HB
        clear h0_ h1_ h2_ h3_ h4_ h5_ h6_ h7_ h8_ h9_ h10_ h11_ h12_ h13_
        have HO247 := n0_
        have BK239 := n1_
        have BK240 := n2_
        have BK241 := n3_
        have BK248 := n4_
        have GW248 := n5_
        have GJ248 := gi GW248
        have GE248 := n6_
        have GI248 := gi GE248
        have NB239_248 := n7_
        have NI239_248 := ni NB239_248
        have NB248_239 := n8_
        have NI248_239 := ni NB248_239
        have NB240_248 := n9_
        have NI240_248 := ni NB240_248
        have NB248_240 := n10_
        have NI248_240 := ni NB248_240
        have NB241_248 := n11_
        have NI241_248 := ni NB241_248
        have NB248_241 := n12_
        have NI248_241 := ni NB248_241
        have HB := n13_
        clear n0_ n1_ n2_ n3_ n4_ n5_ n6_ n7_ n8_ n9_ n10_ n11_ n12_ n13_
        have hHeld : w63.cell? ⟨gb240, 0, none⟩ = some (.int .i64 a1_0) ∧ w63.cell? ⟨gb240, 1, none⟩ = some (.string a1_1) ∧ w63.cell? ⟨gb240, 2, none⟩ = some (.slice A1_2 l1_2.length c1_2) := hS_
        obtain ⟨Ao64, co64, eo64⟩ := Kd.R_slice HO247.out
        (first | subst eo64 | (injection eo64 with f1_ f2_ f3_; have f4_ := f1_.symm; have f5_ := f3_.symm; clear f1_ f2_ f3_; subst f4_; subst f5_))
        refine norm_ (a' := ?_) ?_ ?_
        rotate_left
        · simp only [putAll, Act.put, List.setIfInBounds_toArray, List.set_cons_zero, List.set_cons_succ]
          rfl
        refine oA 10 none (bz 11 2047) HT_ (fun K hK => ?_)
        have hs65 : w63.cell? ⟨gb248, 0, none⟩ = some (.int .i64 0) := bc0 BK248.out
        have hfs65 := blk_frozen BK248.out 0
        have hns65_0 := NB239_248.out
        have hns65_1 := NB240_248.out
        have hns65_2 := NB241_248.out
        have hms65_0 := NB248_239.out
        have hms65_1 := NB248_240.out
        have hms65_2 := NB248_241.out
        have hs66 : w63.cell? ⟨gb248, 1, none⟩ = some (.string (⟨#[]⟩ : ByteArray)) := bc1 BK248.out
        have hfs66 := blk_frozen BK248.out 1
        have hns66_0 := NB239_248.out
        have hns66_1 := NB240_248.out
        have hns66_2 := NB241_248.out
        have hms66_0 := NB248_239.out
        have hms66_1 := NB248_240.out
        have hms66_2 := NB248_241.out
        have hs67 : w63.cell? ⟨gb248, 2, none⟩ = some (.slice none 0 0) := bc2 BK248.out
        have hfs67 := blk_frozen BK248.out 2
        have hns67_0 := NB239_248.out
        have hns67_1 := NB240_248.out
        have hns67_2 := NB241_248.out
        have hms67_0 := NB248_239.out
        have hms67_1 := NB248_240.out
        have hms67_2 := NB248_241.out
        refine skip_ (w1 := ?_) (by rfl) rfl ?_ ?_
        rotate_left
        · go_simp
          rfl
        refine hK.out _ _ ⟨((cell_far (p := ⟨gb248, _, none⟩) NB240_248.out _).trans (((cell_far (p := ⟨gb248, _, none⟩) NB240_248.out _).trans (((cell_far (p := ⟨gb248, _, none⟩) NB240_248.out _).trans (hHeld.1)))))), ((cell_far (p := ⟨gb248, _, none⟩) NB240_248.out _).trans (((cell_far (p := ⟨gb248, _, none⟩) NB240_248.out _).trans (((cell_far (p := ⟨gb248, _, none⟩) NB240_248.out _).trans (hHeld.2.1)))))), ((cell_far (p := ⟨gb248, _, none⟩) NB240_248.out _).trans (((cell_far (p := ⟨gb248, _, none⟩) NB240_248.out _).trans (((cell_far (p := ⟨gb248, _, none⟩) NB240_248.out _).trans (hHeld.2.2))))))⟩ (fun hHeld => ?_)
        clear hK K
        refine done_ (done_of HT_.out (by kernel_rfl)) ?_
        have hnb68 := NB240_239.out
        have hnc68 := NB239_240.out
        have hnb69 := NB240_241.out
        have hnc69 := NB241_240.out
        have hnb70 := NB240_248.out
        have hnc70 := NB248_240.out
        have hcz71_0 := bc0 BK240.out
        have hcz71_1 := bc1 BK240.out
        have hcz71_2 := bc2 BK240.out
        have hfz71_0 := blk_frozen BK240.out 0
        have hfz71_1 := blk_frozen BK240.out 1
        have hfz71_2 := blk_frozen BK240.out 2
        have hnb72 := NB239_241.out
        have hnc72 := NB241_239.out
        have hnb73 := NB239_248.out
        have hnc73 := NB248_239.out
        have hcz74_0 := bc0 BK239.out
        have hcz74_1 := bc1 BK239.out
        have hfz74_0 := blk_frozen BK239.out 0
        have hfz74_1 := blk_frozen BK239.out 1
        have hnb75 := NB248_241.out
        have hnc75 := NB241_248.out
        have hcz76_0 := bc0 BK248.out
        have hcz76_1 := bc1 BK248.out
        have hcz76_2 := bc2 BK248.out
        have hfz76_0 := blk_frozen BK248.out 0
        have hfz76_1 := blk_frozen BK248.out 1
        have hfz76_2 := blk_frozen BK248.out 2
        try go_wp2_with (first | (go_at_call 24; (with_reducible refine (spec_QcOk.calls k a0_0 a0_1 a1_0 a1_1 _ _ y245 false _ ?side1 ?side2 A26.out).mono ?_); (case side1 => refine (Kd.R_reads' (e := 3) (base := w.heap.size) (ok := fun k_ => True) (n := y245.length) (c := co64) ?_).2.2; exact (rI (Kd.R_mono (Kd.R_far (p := ⟨gb248, 2, none⟩) (Kd.R_far (p := ⟨gb248, 1, none⟩) (Kd.R_far (p := ⟨gb248, 0, none⟩) (Kd.R_types HO247.out BK248.out (by decide)) (fun _ hk => hk.2) (.int .i64 a1_0)) (fun _ hk => hk.2) (.string a1_1)) (fun _ hk => hk.2) (.slice Ao64 y245.length co64)) (fun _ h_ => h_.1)))); (case side2 => exact (Kd.R_reads' HO247.out).2.1); rintro e w77 ⟨rfl, hb⟩; replace HO247 := Aside0.mk (Kd.R_below (rI (Kd.R_mono (Kd.R_far (p := ⟨gb248, 2, none⟩) (Kd.R_far (p := ⟨gb248, 1, none⟩) (Kd.R_far (p := ⟨gb248, 0, none⟩) (Kd.R_types HO247.out BK248.out (by decide)) (fun _ hk => hk.2) (.int .i64 a1_0)) (fun _ hk => hk.2) (.string a1_1)) (fun _ hk => hk.2) (.slice Ao64 y245.length co64)) (fun _ h_ => h_.1))) hb); replace BK239 := Aside0.mk (blk_below (g := gb239) (o := .cells #[.int .i64 a0_0, .int .i64 a0_1] 32 (0, 0)) (gI BK239.out) hb); replace BK240 := Aside0.mk (blk_below (g := gb240) (o := .cells #[.int .i64 a1_0, .string a1_1, .slice A1_2 l1_2.length c1_2] 34 (0, 0)) (gI BK240.out) hb); replace BK241 := Aside0.mk (blk_below (g := gb241) (o := .cells #[.int .i64 0, .string (⟨#[]⟩ : ByteArray), .slice none 0 0] 41 (0, 0)) (gI BK241.out) hb); replace BK248 := bp BK248 hb #[.int .i64 a1_0, .string a1_1, .slice Ao64 y245.length co64]; replace HB := bs HB hb; (try clear hb); (try clear hb2); (try clear hk); (try clear hi); obtain ⟨hcz78_0, hcz78_1, hcz78_2, hfz78_0, hfz78_1, hfz78_2⟩ := cs3 BK241))
        refine bodyPost_ret (results_ct rfl _ _ gb241 41 #[.int .i64 0, .string (⟨#[]⟩ : ByteArray), .slice none 0 0] (0, 0) _ rfl (pI BK241) Tryd.underlying41 rfl (by kernel_rfl)) rfl ?_
        exact ⟨_, y0_6, y0_0, bI HB.out⟩
  · rw [if_neg c3] at H
    exact absurd H (by simp)

end Go.Proofs.YtcmldmlmhpfjhaaDoor.PFnExactPartQc
