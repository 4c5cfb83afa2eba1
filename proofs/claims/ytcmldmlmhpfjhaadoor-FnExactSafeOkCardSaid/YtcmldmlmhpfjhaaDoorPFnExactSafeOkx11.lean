-- By a program of this session, out of the translation (the print of the kit, with turns of its own). Lean checks it.
import Derived.Test.YtcmldmlmhpfjhaaDoorPFnExactSafeOkx0
import Derived.Test.YtcmldmlmhpfjhaaDoorPFnExactSafeOkx1
import Derived.Test.YtcmldmlmhpfjhaaDoorPFnExactSafeOkx5
import Derived.Test.YtcmldmlmhpfjhaaDoorPFnExactSafeOkx10
namespace Go.Proofs.YtcmldmlmhpfjhaaDoor.PFnExactSafeOk
open Go.RowKit Go.Proofs.YtcmldmlmhpfjhaaDoorW.PrintWords Go.Proofs.YtcmldmlmhpfjhaaDoorW.PrintLast Go.Proofs.YtcmldmlmhpfjhaaDoorW.PrintMore
attribute [local go_sem] max2_int min2_int max_two min_two max_three min_three max_four min_four   -- for this text's walks alone
set_option linter.unusedVariables false
set_option linter.unusedSimpArgs false

/-! ### laws_FnExactSafeOk: function 7 -/
def laws_FnExactSafeOk.f (k : Nat) (a0_0 : Int) (a0_1 : Int) (a1_0 : Int) (a1_1 : Int) (a1_2 : Int) (a1_3 : ByteArray) (l1_4 : List Int) (a1_5 : ByteArray) : Option (Bool) := (laws_szSafe.f a1_0 a1_1 a1_2 a1_3 l1_4 a1_5 1048576).bind fun t355 => (if t355 < 0 then (some true) else ((laws_toConf.f a0_0 a0_1).bind fun bt356 => ((laws_toSafe.f k a1_0 a1_1 a1_2 a1_3 l1_4 a1_5).bind fun bt358 => ((spec_SafeOk.f k bt356.1 bt356.2 bt358.1 bt358.2.1 bt358.2.2.1 bt358.2.2.2.1 bt358.2.2.2.2.1 bt358.2.2.2.2.2).bind fun t366 => ((laws_toSafe.f k a1_0 a1_1 a1_2 a1_3 l1_4 a1_5).bind fun bt367 => ((laws_toConf.f a0_0 a0_1).bind fun bt376 => ((impl_SafeOk.f k bt376.1 bt376.2 bt367.1 bt367.2.1 bt367.2.2.1 bt367.2.2.2.1 bt367.2.2.2.2.1 bt367.2.2.2.2.2).bind fun t378 => (if (t378 != t366) = true then (some false) else ((laws_toSafe.f k a1_0 a1_1 a1_2 a1_3 l1_4 a1_5).bind fun bt379 => ((laws_eqSafe.f k bt367.1 bt367.2.1 bt367.2.2.1 bt367.2.2.2.1 bt367.2.2.2.2.1 bt367.2.2.2.2.2 bt379.1 bt379.2.1 bt379.2.2.1 bt379.2.2.2.1 bt379.2.2.2.2.1 bt379.2.2.2.2.2).bind fun t387 => (if t387 = true then (some true) else (some false))))))))))))
theorem laws_FnExactSafeOk.mono : ∀ a0 a1 a2 a3 a4 a5 a6 a7 k, LeO (laws_FnExactSafeOk.f k a0 a1 a2 a3 a4 a5 a6 a7) (laws_FnExactSafeOk.f (k + 1) a0 a1 a2 a3 a4 a5 a6 a7) := by
  intro a0 a1 a2 a3 a4 a5 a6 a7 k
  unfold laws_FnExactSafeOk.f
  repeat' first
      | (with_reducible exact impl_SafeOk.mono _ _ _ _ _ _ _ _ _)
      | (with_reducible exact laws_eqSafe.mono _ _ _ _ _ _ _ _ _ _ _ _ _)
      | (with_reducible exact laws_toSafe.mono _ _ _ _ _ _ _)
      | (with_reducible exact spec_SafeOk.mono _ _ _ _ _ _ _ _ _)
      | (with_reducible exact LeO.refl _)
      | (with_reducible exact LeO.none _)
      | (with_reducible refine LeO.ite ?_ ?_)
      | (with_reducible refine LeO.bind ?_ (fun _ => ?_))
      | exact impl_SafeOk.mono _ _ _ _ _ _ _ _ _
      | exact laws_eqSafe.mono _ _ _ _ _ _ _ _ _ _ _ _ _
      | exact laws_toSafe.mono _ _ _ _ _ _ _
      | exact spec_SafeOk.mono _ _ _ _ _ _ _ _ _
      | exact LeO.none _
      | refine LeO.ite ?_ ?_
      | refine LeO.bind ?_ (fun _ => ?_)
set_option maxHeartbeats 8000000 in
set_option maxRecDepth 100000 in
theorem laws_FnExactSafeOk.calls (k : Nat) (a0_0 : Int) (a0_1 : Int) (a1_0 : Int) (a1_1 : Int) (a1_2 : Int) (a1_3 : ByteArray) (A1_4 : Option Addr) (c1_4 : Nat) (l1_4 : List Int) (a1_5 : ByteArray) (r : Bool) (hrt : Aside0 (r = true)) (w : World) (hr1_4 : Kd.C (Kd.int .i64) w A1_4 l1_4.length l1_4) (hc1_4 : l1_4.length ≤ c1_4) (h : laws_FnExactSafeOk.f k a0_0 a0_1 a1_0 a1_1 a1_2 a1_3 l1_4 a1_5 = some r) (hG : Glob w := by exact gG HG HB) :
    Calls Tryd.prog 7 #[.agg #[.int .i64 a0_0, .int .i64 a0_1], .agg #[.int .i64 a1_0, .int .i64 a1_1, .int .i64 a1_2, .string a1_3, .slice A1_4 l1_4.length c1_4, .string a1_5]] w fun e w' => e = .returned (.bool r) ∧ Below w.heap.size w w' := by
  have HG := Aside0.mk hG
  clear hG
  have hu26 := Tryd.underlying26
  have hu53 := Tryd.underlying53
  have hu57 := Tryd.underlying57
  have HR1_4 := Aside0.mk hr1_4
  have HC1_4 := Aside0.mk hc1_4
  clear hr1_4 hc1_4
  have HB := Aside0.mk (Below.refl w.heap.size w)
  have H : ((laws_szSafe.f a1_0 a1_1 a1_2 a1_3 l1_4 a1_5 1048576).bind fun t355 => (if t355 < 0 then (some true) else ((laws_toConf.f a0_0 a0_1).bind fun bt356 => ((laws_toSafe.f k a1_0 a1_1 a1_2 a1_3 l1_4 a1_5).bind fun bt358 => ((spec_SafeOk.f k bt356.1 bt356.2 bt358.1 bt358.2.1 bt358.2.2.1 bt358.2.2.2.1 bt358.2.2.2.2.1 bt358.2.2.2.2.2).bind fun t366 => ((laws_toSafe.f k a1_0 a1_1 a1_2 a1_3 l1_4 a1_5).bind fun bt367 => ((laws_toConf.f a0_0 a0_1).bind fun bt376 => ((impl_SafeOk.f k bt376.1 bt376.2 bt367.1 bt367.2.1 bt367.2.2.1 bt367.2.2.2.1 bt367.2.2.2.2.1 bt367.2.2.2.2.2).bind fun t378 => (if (t378 != t366) = true then (some false) else ((laws_toSafe.f k a1_0 a1_1 a1_2 a1_3 l1_4 a1_5).bind fun bt379 => ((laws_eqSafe.f k bt367.1 bt367.2.1 bt367.2.2.1 bt367.2.2.2.1 bt367.2.2.2.2.1 bt367.2.2.2.2.2 bt379.1 bt379.2.1 bt379.2.2.1 bt379.2.2.2.1 bt379.2.2.2.2.1 bt379.2.2.2.2.2).bind fun t387 => (if t387 = true then (some true) else (some false))))))))))))) = some r := h
  clear h
  obtain ⟨t355, A30, H⟩ := Option.bind_eq_some_iff.mp H
  try dsimp only at H
  have A3 := Aside0.mk A30
  clear A30
  by_cases c4 : t355 < 0
  · rw [if_pos c4] at H
    have c4b0 : decide (t355 < 0) = true := decide_eq_true c4
    clear c4
    obtain rfl := Option.some.inj H
    go_enter Tryd.func7, Tryd.ntmps7
    go_wp2_with (first | ((with_reducible refine gd 2 ?_); refine bA 2 #[.int .i64 a0_0, .int .i64 a0_1] 26 ?_; intro gb353 hg w5 hbox hb; have BK353 := Aside0.mk (hbox); have GW353 := bg hg HB; have GJ353 := gi GW353; have GE353 := GW353; replace HB := bs HB hb; clear hb hbox hg) | ((with_reducible refine gd 3 ?_); refine bA 3 #[.int .i64 a1_0, .int .i64 a1_1, .int .i64 a1_2, .string a1_3, .slice A1_4 l1_4.length c1_4, .string a1_5] 53 ?_; intro gb354 hg w6 hbox hb; have BK354 := Aside0.mk (hbox); have GW354 := bg hg HB; have GJ354 := gi GW354; have GE354 := GW354; replace HB := bs HB hb; have NB353_354 := b1 BK353 hg; have NI353_354 := ni NB353_354; have NB354_353 := b2 BK353 hg; have NI354_353 := ni NB354_353; replace BK353 := bk BK353 hb; clear hb hbox hg; have hnb7 := NB354_353.out; have hnc7 := NB353_354.out; have hcz8_0 := bc0 BK354.out; have hcz8_1 := bc1 BK354.out; have hcz8_2 := bc2 BK354.out; have hcz8_3 := bc3 BK354.out; have hcz8_4 := bc4 BK354.out; have hcz8_5 := bc5 BK354.out; have hfz8_0 := blk_frozen BK354.out 0; have hfz8_1 := blk_frozen BK354.out 1; have hfz8_2 := blk_frozen BK354.out 2; have hfz8_3 := blk_frozen BK354.out 3; have hfz8_4 := blk_frozen BK354.out 4; have hfz8_5 := blk_frozen BK354.out 5) | ((with_reducible refine gate_callee (f := 33) rfl ?_); refine gB (some 11) Tryd.func33 #[.agg #[.int .i64 a1_0, .int .i64 a1_1, .int .i64 a1_2, .string a1_3, .slice A1_4 l1_4.length c1_4, .string a1_5], .int .i64 1048576] ?_; (with_reducible refine (laws_szSafe.calls a1_0 a1_1 a1_2 a1_3 _ _ l1_4 a1_5 1048576 t355 _ ?side1 ?side2 A3.out).mono ?_); (case side1 => exact ch HR1_4 HB); (case side2 => exact HC1_4.out); rintro e w9 ⟨rfl, hb⟩; refine ⟨_, rfl, ?_⟩; replace BK353 := bk BK353 hb; replace BK354 := bk BK354 hb; replace HB := bs HB hb; (try clear hb); (try clear hb2); (try clear hk); (try clear hi)))
    go_ret
    exact ⟨y0_4, bI HB.out⟩
  · rw [if_neg c4] at H
    have c4b0 : decide (t355 < 0) = false := decide_eq_false c4
    clear c4
    obtain ⟨⟨t356, t357⟩, A100, H⟩ := Option.bind_eq_some_iff.mp H
    try dsimp only at H
    have A10 := Aside0.mk A100
    clear A100
    obtain ⟨⟨t358, t359, t360, t361, t362, t365⟩, A110, H⟩ := Option.bind_eq_some_iff.mp H
    try dsimp only at H
    have A11 := Aside0.mk A110
    clear A110
    obtain ⟨t366, A120, H⟩ := Option.bind_eq_some_iff.mp H
    try dsimp only at H
    have A12 := Aside0.mk A120
    clear A120
    obtain ⟨⟨t367, t368, t369, t370, t371, t374⟩, A130, H⟩ := Option.bind_eq_some_iff.mp H
    try dsimp only at H
    have A13 := Aside0.mk A130
    clear A130
    obtain ⟨⟨t376, t377⟩, A140, H⟩ := Option.bind_eq_some_iff.mp H
    try dsimp only at H
    have A14 := Aside0.mk A140
    clear A140
    obtain ⟨t378, A150, H⟩ := Option.bind_eq_some_iff.mp H
    try dsimp only at H
    have A15 := Aside0.mk A150
    clear A150
    by_cases c16 : (t378 != t366) = true
    · rw [if_pos c16] at H
      have c16b0 : (t378 != t366) = true := c16
      (try (have c16b1 : decide (t378 = t366) = false := by simpa using c16))
      (try (have c16b2 : (t378 == t366) = false := by simpa using c16))
      (try (have c16b3 : ¬ (t378 = t366) := by simpa using c16))
      clear c16
      exact absurd (hrt.out.symm.trans (Option.some.inj H).symm) (by decide)
    rw [if_neg c16] at H
    have c16b0 : (t378 != t366) = false := by simpa using c16
    (try (have c16b1 : decide (t378 = t366) = true := by simpa using c16))
    (try (have c16b2 : (t378 == t366) = true := by simpa using c16))
    clear c16
    obtain ⟨⟨t379, t380, t381, t382, t383, t386⟩, A170, H⟩ := Option.bind_eq_some_iff.mp H
    try dsimp only at H
    have A17 := Aside0.mk A170
    clear A170
    obtain ⟨t387, A180, H⟩ := Option.bind_eq_some_iff.mp H
    try dsimp only at H
    have A18 := Aside0.mk A180
    clear A180
    by_cases c19 : t387 = true
    · subst c19
      rw [if_pos rfl] at H
      obtain rfl := Option.some.inj H
      go_enter Tryd.func7, Tryd.ntmps7
      try go_wp2_with (first | ((with_reducible refine gd 2 ?_); refine bA 2 #[.int .i64 a0_0, .int .i64 a0_1] 26 ?_; intro gb353 hg w20 hbox hb; have BK353 := Aside0.mk (hbox); have GW353 := bg hg HB; have GJ353 := gi GW353; have GE353 := GW353; replace HB := bs HB hb; clear hb hbox hg) | ((with_reducible refine gd 3 ?_); refine bA 3 #[.int .i64 a1_0, .int .i64 a1_1, .int .i64 a1_2, .string a1_3, .slice A1_4 l1_4.length c1_4, .string a1_5] 53 ?_; intro gb354 hg w21 hbox hb; have BK354 := Aside0.mk (hbox); have GW354 := bg hg HB; have GJ354 := gi GW354; have GE354 := GW354; replace HB := bs HB hb; have NB353_354 := b1 BK353 hg; have NI353_354 := ni NB353_354; have NB354_353 := b2 BK353 hg; have NI354_353 := ni NB354_353; replace BK353 := bk BK353 hb; clear hb hbox hg; have hnb22 := NB354_353.out; have hnc22 := NB353_354.out; have hcz23_0 := bc0 BK354.out; have hcz23_1 := bc1 BK354.out; have hcz23_2 := bc2 BK354.out; have hcz23_3 := bc3 BK354.out; have hcz23_4 := bc4 BK354.out; have hcz23_5 := bc5 BK354.out; have hfz23_0 := blk_frozen BK354.out 0; have hfz23_1 := blk_frozen BK354.out 1; have hfz23_2 := blk_frozen BK354.out 2; have hfz23_3 := blk_frozen BK354.out 3; have hfz23_4 := blk_frozen BK354.out 4; have hfz23_5 := blk_frozen BK354.out 5) | ((with_reducible refine gate_callee (f := 33) rfl ?_); refine gB (some 11) Tryd.func33 #[.agg #[.int .i64 a1_0, .int .i64 a1_1, .int .i64 a1_2, .string a1_3, .slice A1_4 l1_4.length c1_4, .string a1_5], .int .i64 1048576] ?_; (with_reducible refine (laws_szSafe.calls a1_0 a1_1 a1_2 a1_3 _ _ l1_4 a1_5 1048576 t355 _ ?side1 ?side2 A3.out).mono ?_); (case side1 => exact ch HR1_4 HB); (case side2 => exact HC1_4.out); rintro e w24 ⟨rfl, hb⟩; refine ⟨_, rfl, ?_⟩; replace BK353 := bk BK353 hb; replace BK354 := bk BK354 hb; replace HB := bs HB hb; (try clear hb); (try clear hb2); (try clear hk); (try clear hi)))
      replace BK353 := Aside0.mk (blk_drew BK353.out)
      replace BK354 := Aside0.mk (blk_drew BK354.out)
      replace HB := Aside0.mk (below_drew1 HB.out)
      refine start_ (n := 6) (S := fun w' => w'.cell? ⟨gb353, 0, none⟩ = some (.int .i64 a0_0) ∧ w'.cell? ⟨gb353, 1, none⟩ = some (.int .i64 a0_1) ∧ w'.cell? ⟨gb354, 0, none⟩ = some (.int .i64 a1_0) ∧ w'.cell? ⟨gb354, 1, none⟩ = some (.int .i64 a1_1) ∧ w'.cell? ⟨gb354, 2, none⟩ = some (.int .i64 a1_2) ∧ w'.cell? ⟨gb354, 3, none⟩ = some (.string a1_3) ∧ w'.cell? ⟨gb354, 4, none⟩ = some (.slice A1_4 l1_4.length c1_4) ∧ w'.cell? ⟨gb354, 5, none⟩ = some (.string a1_5)) (ds := []) #[false, false, false, false, false, false] (by kernel_rfl) rfl rfl ⟨bc0 BK353.out, bc1 BK353.out, bc0 BK354.out, bc1 BK354.out, bc2 BK354.out, bc3 BK354.out, bc4 BK354.out, bc5 BK354.out⟩ (fun hHeld => ?_)
      generalize w24.drew = w25 at BK353 BK354 HB hHeld ⊢
      refine take_ (i := 0) (N := some 14) (v := ?_) (a' := ?_) #[true, false, false, false, false, false] rfl rfl (by kernel_rfl) (fun _ _ _ h => h) (Or.inl ⟨by rfl, ?_⟩) hHeld ?_ ?_
      rotate_left
      · rintro w' ⟨s0, s1, s2, s3, s4, s5, s6, s7⟩
        go_simp
        with_reducible rfl
      rotate_left
      · simp only [Act.put, List.setIfInBounds_toArray, List.set_cons_zero, List.set_cons_succ, i64_w, i32_w]
        rfl
      refine take_ (i := 2) (N := some 16) (v := ?_) (a' := ?_) #[true, false, true, false, false, false] rfl rfl (by kernel_rfl) (fun _ _ _ h => h) (Or.inl ⟨by rfl, ?_⟩) hHeld ?_ ?_
      rotate_left
      · rintro w' ⟨s0, s1, s2, s3, s4, s5, s6, s7⟩
        go_simp
        with_reducible rfl
      rotate_left
      · simp only [Act.put, List.setIfInBounds_toArray, List.set_cons_zero, List.set_cons_succ, i64_w, i32_w]
        rfl
      refine one_ (i := 1) (N := some 15) #[true, true, true, false, false, false] rfl rfl (by kernel_rfl) (by decide) (fun K hK => ?_)
      refine gA Tryd.func19 #[.agg #[.int .i64 a0_0, .int .i64 a0_1]] ?_
      with_reducible refine (laws_toConf.calls a0_0 a0_1 t356 t357 _ A10.out).mono ?_
      rintro e w26 ⟨rfl, hb⟩
      refine ⟨_, rfl, ?_⟩
      replace BK353 := bk BK353 hb
      replace BK354 := bk BK354 hb
      replace HB := bs HB hb
      (try clear hb)
      (try clear hb2)
      (try clear hk)
      (try clear hi)
      refine hK.out _ _ ⟨bc0 BK353.out, bc1 BK353.out, bc0 BK354.out, bc1 BK354.out, bc2 BK354.out, bc3 BK354.out, bc4 BK354.out, bc5 BK354.out⟩ (fun hHeld => ?_)
      clear hK K
      refine nA (some 15) ?_
      refine one_ (i := 3) (N := some 17) #[true, true, true, true, false, false] rfl rfl (by kernel_rfl) (by decide) (fun K hK => ?_)
      refine gA Tryd.func35 #[.agg #[.int .i64 a1_0, .int .i64 a1_1, .int .i64 a1_2, .string a1_3, .slice A1_4 l1_4.length c1_4, .string a1_5]] ?_
      with_reducible refine (laws_toSafe.calls k a1_0 a1_1 a1_2 a1_3 _ _ l1_4 a1_5 t358 t359 t360 t361 t362 t365 _ ?side1 ?side2 A11.out).mono ?_
      (case side1 => exact ch HR1_4 HB)
      (case side2 => exact HC1_4.out)
      rintro e w27 ⟨v363, rfl, ho0, hb⟩
      refine ⟨_, rfl, ?_⟩
      have HO364 := Aside0.mk (Kd.R_lower ho0 (below_size (bI HB.out)))
      replace BK353 := bk BK353 hb
      replace BK354 := bk BK354 hb
      replace HB := bs HB hb
      (try clear hb)
      (try clear hb2)
      (try clear hk)
      (try clear hi)
      (try clear ho0)
      obtain ⟨Ao28, co28, eo28⟩ := Kd.R_slice HO364.out
      (first | subst eo28 | (injection eo28 with f1_ f2_ f3_; have f4_ := f1_.symm; have f5_ := f3_.symm; clear f1_ f2_ f3_; subst f4_; subst f5_))
      refine hK.out _ _ ⟨bc0 BK353.out, bc1 BK353.out, bc0 BK354.out, bc1 BK354.out, bc2 BK354.out, bc3 BK354.out, bc4 BK354.out, bc5 BK354.out⟩ (fun hHeld => ?_)
      clear hK K
      refine nA (some 17) ?_
      refine one_ (i := 4) (N := some 18) #[true, true, true, true, true, false] rfl rfl (by kernel_rfl) (by decide) (fun K hK => ?_)
      refine gA Tryd.func34 #[.agg #[.int .i64 t356, .int .i64 t357], .agg #[.int .i64 t358, .int .i64 t359, .int .i64 t360, .string t361, .slice Ao28 t362.length co28, .string t365]] ?_
      with_reducible refine (spec_SafeOk.calls k t356 t357 t358 t359 t360 t361 _ _ t362 t365 t366 _ ?side1 ?side2 A12.out).mono ?_
      (case side1 => repeat (first | exact (Kd.R_reads' HO364.out).2.2 | (with_reducible refine Kd.C_alloc ?_ _) | (with_reducible refine Kd.C_drewN ?_ _) | (with_reducible refine Kd.C_drew ?_)))
      (case side2 => exact (Kd.R_reads' HO364.out).2.1)
      rintro e w29 ⟨rfl, hb⟩
      refine ⟨_, rfl, ?_⟩
      replace HO364 := rb HO364 hb
      replace BK353 := bk BK353 hb
      replace BK354 := bk BK354 hb
      replace HB := bs HB hb
      (try clear hb)
      (try clear hb2)
      (try clear hk)
      (try clear hi)
      refine hK.out _ _ ⟨bc0 BK353.out, bc1 BK353.out, bc0 BK354.out, bc1 BK354.out, bc2 BK354.out, bc3 BK354.out, bc4 BK354.out, bc5 BK354.out⟩ (fun hHeld => ?_)
      clear hK K
      refine nA (some 18) ?_
      refine pure_ (i := 5) (N := some 6) (v := ?_) (a' := ?_) #[true, true, true, true, true, true] rfl rfl (by kernel_rfl) (fun _ _ _ h => h) (Or.inl ⟨by rfl, ?_⟩) ?_ ?_
      rotate_left
      · intro w'
        go_simp
        with_reducible rfl
      rotate_left
      · simp only [Act.put, List.setIfInBounds_toArray, List.set_cons_zero, List.set_cons_succ, i64_w, i32_w]
        rfl
      refine done_ (by kernel_rfl) ?_
      have hcz30_0 := bc0 BK354.out
      have hcz30_1 := bc1 BK354.out
      have hcz30_2 := bc2 BK354.out
      have hcz30_3 := bc3 BK354.out
      have hcz30_4 := bc4 BK354.out
      have hcz30_5 := bc5 BK354.out
      have hfz30_0 := blk_frozen BK354.out 0
      have hfz30_1 := blk_frozen BK354.out 1
      have hfz30_2 := blk_frozen BK354.out 2
      have hfz30_3 := blk_frozen BK354.out 3
      have hfz30_4 := blk_frozen BK354.out 4
      have hfz30_5 := blk_frozen BK354.out 5
      clear HO364
      try go_wp2_with (first | ((with_reducible refine gate_callee (f := 35) rfl ?_); refine gB (some 20) Tryd.func35 #[.agg #[.int .i64 a1_0, .int .i64 a1_1, .int .i64 a1_2, .string a1_3, .slice A1_4 l1_4.length c1_4, .string a1_5]] ?_; (with_reducible refine (laws_toSafe.calls k a1_0 a1_1 a1_2 a1_3 _ _ l1_4 a1_5 t367 t368 t369 t370 t371 t374 _ ?side1 ?side2 A13.out).mono ?_); (case side1 => exact ch HR1_4 HB); (case side2 => exact HC1_4.out); rintro e w31 ⟨v372, rfl, ho0, hb⟩; refine ⟨_, rfl, ?_⟩; have HO373 := Aside0.mk (Kd.R_lower ho0 (below_size (bI HB.out))); replace BK353 := bk BK353 hb; replace BK354 := bk BK354 hb; replace HB := bs HB hb; (try clear hb); (try clear ho0)) | ((with_reducible refine gd 7 ?_); refine bA 7 #[.int .i64 0, .int .i64 0, .int .i64 0, .string (⟨#[]⟩ : ByteArray), .slice none 0 0, .string (⟨#[]⟩ : ByteArray)] 57 ?_; intro gb375 hg w32 hbox hb; replace HO373 := rb HO373 hb; have BK375 := Aside0.mk (hbox); have GW375 := bg hg HB; have GJ375 := gi GW375; have GE375 := GW375; replace HB := bs HB hb; have NB353_375 := b1 BK353 hg; have NI353_375 := ni NB353_375; have NB375_353 := b2 BK353 hg; have NI375_353 := ni NB375_353; replace BK353 := bk BK353 hb; have NB354_375 := b1 BK354 hg; have NI354_375 := ni NB354_375; have NB375_354 := b2 BK354 hg; have NI375_354 := ni NB375_354; replace BK354 := bk BK354 hb; clear hb hbox hg; have hnb33 := NB375_353.out; have hnc33 := NB353_375.out; have hnb34 := NB375_354.out; have hnc34 := NB354_375.out; have hcz35_0 := bc0 BK375.out; have hcz35_1 := bc1 BK375.out; have hcz35_2 := bc2 BK375.out; have hcz35_3 := bc3 BK375.out; have hcz35_4 := bc4 BK375.out; have hcz35_5 := bc5 BK375.out; have hfz35_0 := blk_frozen BK375.out 0; have hfz35_1 := blk_frozen BK375.out 1; have hfz35_2 := blk_frozen BK375.out 2; have hfz35_3 := blk_frozen BK375.out 3; have hfz35_4 := blk_frozen BK375.out 4; have hfz35_5 := blk_frozen BK375.out 5; obtain ⟨Ao36, co36, eo36⟩ := Kd.R_slice HO373.out; subst eo36))
      have n0_ : Aside0 (Kd.R (Kd.int .i64) 3 ((((((w32.setCell ⟨gb375, 0, none⟩ (.int .i64 t367)).setCell ⟨gb375, 1, none⟩ (.int .i64 t368)).setCell ⟨gb375, 2, none⟩ (.int .i64 t369)).setCell ⟨gb375, 3, none⟩ (.string t370)).setCell ⟨gb375, 4, none⟩ (.slice Ao36 t371.length co36)).setCell ⟨gb375, 5, none⟩ (.string t374)) w.heap.size (fun _ => True) (.slice Ao36 t371.length co36) t371) := ⟨by (with_reducible repeat (first | apply Kd.R_alloc | apply Kd.R_drewN | apply Kd.R_drew)); exact Kd.R_mono (Kd.R_far (p := ⟨gb375, 5, none⟩) (Kd.R_far (p := ⟨gb375, 4, none⟩) (Kd.R_far (p := ⟨gb375, 3, none⟩) (Kd.R_far (p := ⟨gb375, 2, none⟩) (Kd.R_far (p := ⟨gb375, 1, none⟩) (Kd.R_far (p := ⟨gb375, 0, none⟩) (Kd.R_types HO373.out BK375.out (by decide)) (fun _ hk => hk.2) (.int .i64 t367)) (fun _ hk => hk.2) (.int .i64 t368)) (fun _ hk => hk.2) (.int .i64 t369)) (fun _ hk => hk.2) (.string t370)) (fun _ hk => hk.2) (.slice Ao36 t371.length co36)) (fun _ hk => hk.2) (.string t374)) (fun _ hk => trivial)⟩
      have n1_ : Aside0 (((((((w32.setCell ⟨gb375, 0, none⟩ (.int .i64 t367)).setCell ⟨gb375, 1, none⟩ (.int .i64 t368)).setCell ⟨gb375, 2, none⟩ (.int .i64 t369)).setCell ⟨gb375, 3, none⟩ (.string t370)).setCell ⟨gb375, 4, none⟩ (.slice Ao36 t371.length co36)).setCell ⟨gb375, 5, none⟩ (.string t374)).heap[gb353]? = some (.cells #[.int .i64 a0_0, .int .i64 a0_1] 26 (0, 0))) := ⟨gI BK353.out⟩
      have n2_ : Aside0 (((((((w32.setCell ⟨gb375, 0, none⟩ (.int .i64 t367)).setCell ⟨gb375, 1, none⟩ (.int .i64 t368)).setCell ⟨gb375, 2, none⟩ (.int .i64 t369)).setCell ⟨gb375, 3, none⟩ (.string t370)).setCell ⟨gb375, 4, none⟩ (.slice Ao36 t371.length co36)).setCell ⟨gb375, 5, none⟩ (.string t374)).heap[gb354]? = some (.cells #[.int .i64 a1_0, .int .i64 a1_1, .int .i64 a1_2, .string a1_3, .slice A1_4 l1_4.length c1_4, .string a1_5] 53 (0, 0))) := ⟨gI BK354.out⟩
      have n3_ : Aside0 (((((((w32.setCell ⟨gb375, 0, none⟩ (.int .i64 t367)).setCell ⟨gb375, 1, none⟩ (.int .i64 t368)).setCell ⟨gb375, 2, none⟩ (.int .i64 t369)).setCell ⟨gb375, 3, none⟩ (.string t370)).setCell ⟨gb375, 4, none⟩ (.slice Ao36 t371.length co36)).setCell ⟨gb375, 5, none⟩ (.string t374)).heap[gb375]? = some (.cells #[.int .i64 t367, .int .i64 t368, .int .i64 t369, .string t370, .slice Ao36 t371.length co36, .string t374] 57 (0, 0))) := ⟨pI BK375⟩
      have n4_ : Aside0 (Below w.heap.size w ((((((w32.setCell ⟨gb375, 0, none⟩ (.int .i64 t367)).setCell ⟨gb375, 1, none⟩ (.int .i64 t368)).setCell ⟨gb375, 2, none⟩ (.int .i64 t369)).setCell ⟨gb375, 3, none⟩ (.string t370)).setCell ⟨gb375, 4, none⟩ (.slice Ao36 t371.length co36)).setCell ⟨gb375, 5, none⟩ (.string t374))) := ⟨bI HB.out⟩
      (try clear HO373)
      (try clear BK353)
      (try clear BK354)
      (try clear BK375)
      (try clear HB)
      generalize ((((((w32.setCell ⟨gb375, 0, none⟩ (.int .i64 t367)).setCell ⟨gb375, 1, none⟩ (.int .i64 t368)).setCell ⟨gb375, 2, none⟩ (.int .i64 t369)).setCell ⟨gb375, 3, none⟩ (.string t370)).setCell ⟨gb375, 4, none⟩ (.slice Ao36 t371.length co36)).setCell ⟨gb375, 5, none⟩ (.string t374)) = w37 at n0_ n1_ n2_ n3_ n4_ ⊢
      have HO373 := n0_
      have BK353 := n1_
      have BK354 := n2_
      have BK375 := n3_
      have HB := n4_
      clear n0_ n1_ n2_ n3_ n4_
      replace HO373 := Aside0.mk (Kd.R_drew HO373.out)
      replace BK353 := Aside0.mk (blk_drew BK353.out)
      replace BK354 := Aside0.mk (blk_drew BK354.out)
      replace BK375 := Aside0.mk (blk_drew BK375.out)
      replace HB := Aside0.mk (below_drew1 HB.out)
      refine start_ (n := 5) (S := fun w' => w'.cell? ⟨gb353, 0, none⟩ = some (.int .i64 a0_0) ∧ w'.cell? ⟨gb353, 1, none⟩ = some (.int .i64 a0_1) ∧ w'.cell? ⟨gb375, 0, none⟩ = some (.int .i64 t367) ∧ w'.cell? ⟨gb375, 1, none⟩ = some (.int .i64 t368) ∧ w'.cell? ⟨gb375, 2, none⟩ = some (.int .i64 t369) ∧ w'.cell? ⟨gb375, 3, none⟩ = some (.string t370) ∧ w'.cell? ⟨gb375, 4, none⟩ = some (.slice Ao36 t371.length co36) ∧ w'.cell? ⟨gb375, 5, none⟩ = some (.string t374)) (ds := []) #[false, false, false, false, false] (by kernel_rfl) rfl rfl ⟨bc0 BK353.out, bc1 BK353.out, bc0 BK375.out, bc1 BK375.out, bc2 BK375.out, bc3 BK375.out, bc4 BK375.out, bc5 BK375.out⟩ (fun hHeld => ?_)
      generalize w37.drew = w38 at HO373 BK353 BK354 BK375 HB hHeld ⊢
      refine take_ (i := 0) (N := some 21) (v := ?_) (a' := ?_) #[true, false, false, false, false] rfl rfl (by kernel_rfl) (fun _ _ _ h => h) (Or.inl ⟨by rfl, ?_⟩) hHeld ?_ ?_
      rotate_left
      · rintro w' ⟨s0, s1, s2, s3, s4, s5, s6, s7⟩
        go_simp
        with_reducible rfl
      rotate_left
      · simp only [Act.put, List.setIfInBounds_toArray, List.set_cons_zero, List.set_cons_succ, i64_w, i32_w]
        rfl
      refine take_ (i := 2) (N := some 23) (v := ?_) (a' := ?_) #[true, false, true, false, false] rfl rfl (by kernel_rfl) (fun _ _ _ h => h) (Or.inl ⟨by rfl, ?_⟩) hHeld ?_ ?_
      rotate_left
      · rintro w' ⟨s0, s1, s2, s3, s4, s5, s6, s7⟩
        go_simp
        with_reducible rfl
      rotate_left
      · simp only [Act.put, List.setIfInBounds_toArray, List.set_cons_zero, List.set_cons_succ, i64_w, i32_w]
        rfl
      refine one_ (i := 1) (N := some 22) #[true, true, true, false, false] rfl rfl (by kernel_rfl) (by decide) (fun K hK => ?_)
      refine gA Tryd.func19 #[.agg #[.int .i64 a0_0, .int .i64 a0_1]] ?_
      with_reducible refine (laws_toConf.calls a0_0 a0_1 t376 t377 _ A14.out).mono ?_
      rintro e w39 ⟨rfl, hb⟩
      refine ⟨_, rfl, ?_⟩
      replace HO373 := rb HO373 hb
      replace BK353 := bk BK353 hb
      replace BK354 := bk BK354 hb
      replace BK375 := bk BK375 hb
      replace HB := bs HB hb
      (try clear hb)
      (try clear hb2)
      (try clear hk)
      (try clear hi)
      refine hK.out _ _ ⟨bc0 BK353.out, bc1 BK353.out, bc0 BK375.out, bc1 BK375.out, bc2 BK375.out, bc3 BK375.out, bc4 BK375.out, bc5 BK375.out⟩ (fun hHeld => ?_)
      clear hK K
      refine nA (some 22) ?_
      refine one_ (i := 3) (N := some 24) #[true, true, true, true, false] rfl rfl (by kernel_rfl) (by decide) (fun K hK => ?_)
      refine gA Tryd.func36 #[.agg #[.int .i64 t376, .int .i64 t377], .agg #[.int .i64 t367, .int .i64 t368, .int .i64 t369, .string t370, .slice Ao36 t371.length co36, .string t374]] ?_
      with_reducible refine (impl_SafeOk.calls k t376 t377 t367 t368 t369 t370 _ _ t371 t374 t378 _ ?side1 ?side2 A15.out).mono ?_
      (case side1 => repeat (first | exact (Kd.R_reads' HO373.out).2.2 | (with_reducible refine Kd.C_alloc ?_ _) | (with_reducible refine Kd.C_drewN ?_ _) | (with_reducible refine Kd.C_drew ?_)))
      (case side2 => exact (Kd.R_reads' HO373.out).2.1)
      rintro e w40 ⟨rfl, hb⟩
      refine ⟨_, rfl, ?_⟩
      replace HO373 := rb HO373 hb
      replace BK353 := bk BK353 hb
      replace BK354 := bk BK354 hb
      replace BK375 := bk BK375 hb
      replace HB := bs HB hb
      (try clear hb)
      (try clear hb2)
      (try clear hk)
      (try clear hi)
      refine hK.out _ _ ⟨bc0 BK353.out, bc1 BK353.out, bc0 BK375.out, bc1 BK375.out, bc2 BK375.out, bc3 BK375.out, bc4 BK375.out, bc5 BK375.out⟩ (fun hHeld => ?_)
      clear hK K
      refine nA (some 24) ?_
      refine pure_ (i := 4) (N := some 8) (v := ?_) (a' := ?_) #[true, true, true, true, true] rfl rfl (by kernel_rfl) (fun _ _ _ h => h) (Or.inl ⟨by rfl, ?_⟩) ?_ ?_
      rotate_left
      · intro w'
        go_simp
        with_reducible rfl
      rotate_left
      · simp only [Act.put, List.setIfInBounds_toArray, List.set_cons_zero, List.set_cons_succ, i64_w, i32_w]
        rfl
      refine done_ (by kernel_rfl) ?_
      try go_wp2
      replace HO373 := Aside0.mk (Kd.R_drew HO373.out)
      replace BK353 := Aside0.mk (blk_drew BK353.out)
      replace BK354 := Aside0.mk (blk_drew BK354.out)
      replace BK375 := Aside0.mk (blk_drew BK375.out)
      replace HB := Aside0.mk (below_drew1 HB.out)
      refine start_ (n := 5) (S := fun w' => w'.cell? ⟨gb375, 0, none⟩ = some (.int .i64 t367) ∧ w'.cell? ⟨gb375, 1, none⟩ = some (.int .i64 t368) ∧ w'.cell? ⟨gb375, 2, none⟩ = some (.int .i64 t369) ∧ w'.cell? ⟨gb375, 3, none⟩ = some (.string t370) ∧ w'.cell? ⟨gb375, 4, none⟩ = some (.slice Ao36 t371.length co36) ∧ w'.cell? ⟨gb375, 5, none⟩ = some (.string t374) ∧ w'.cell? ⟨gb354, 0, none⟩ = some (.int .i64 a1_0) ∧ w'.cell? ⟨gb354, 1, none⟩ = some (.int .i64 a1_1) ∧ w'.cell? ⟨gb354, 2, none⟩ = some (.int .i64 a1_2) ∧ w'.cell? ⟨gb354, 3, none⟩ = some (.string a1_3) ∧ w'.cell? ⟨gb354, 4, none⟩ = some (.slice A1_4 l1_4.length c1_4) ∧ w'.cell? ⟨gb354, 5, none⟩ = some (.string a1_5)) (ds := []) #[false, false, false, false, false] (by kernel_rfl) rfl rfl ⟨bc0 BK375.out, bc1 BK375.out, bc2 BK375.out, bc3 BK375.out, bc4 BK375.out, bc5 BK375.out, bc0 BK354.out, bc1 BK354.out, bc2 BK354.out, bc3 BK354.out, bc4 BK354.out, bc5 BK354.out⟩ (fun hHeld => ?_)
      generalize w40.drew = w41 at HO373 BK353 BK354 BK375 HB hHeld ⊢
      refine take_ (i := 0) (N := some 28) (v := ?_) (a' := ?_) #[true, false, false, false, false] rfl rfl (by kernel_rfl) (fun _ _ _ h => h) (Or.inl ⟨by rfl, ?_⟩) hHeld ?_ ?_
      rotate_left
      · rintro w' ⟨s0, s1, s2, s3, s4, s5, s6, s7, s8, s9, s10, s11⟩
        go_simp
        with_reducible rfl
      rotate_left
      · simp only [Act.put, List.setIfInBounds_toArray, List.set_cons_zero, List.set_cons_succ, i64_w, i32_w]
        rfl
      refine take_ (i := 1) (N := some 29) (v := ?_) (a' := ?_) #[true, true, false, false, false] rfl rfl (by kernel_rfl) (fun _ _ _ h => h) (Or.inl ⟨by rfl, ?_⟩) hHeld ?_ ?_
      rotate_left
      · rintro w' ⟨s0, s1, s2, s3, s4, s5, s6, s7, s8, s9, s10, s11⟩
        go_simp
        with_reducible rfl
      rotate_left
      · simp only [Act.put, List.setIfInBounds_toArray, List.set_cons_zero, List.set_cons_succ, i64_w, i32_w]
        rfl
      refine one_ (i := 2) (N := some 30) #[true, true, true, false, false] rfl rfl (by kernel_rfl) (by decide) (fun K hK => ?_)
      refine gA Tryd.func35 #[.agg #[.int .i64 a1_0, .int .i64 a1_1, .int .i64 a1_2, .string a1_3, .slice A1_4 l1_4.length c1_4, .string a1_5]] ?_
      with_reducible refine (laws_toSafe.calls k a1_0 a1_1 a1_2 a1_3 _ _ l1_4 a1_5 t379 t380 t381 t382 t383 t386 _ ?side1 ?side2 A17.out).mono ?_
      (case side1 => exact ch HR1_4 HB)
      (case side2 => exact HC1_4.out)
      rintro e w42 ⟨v384, rfl, ho0, hb⟩
      refine ⟨_, rfl, ?_⟩
      have HO385 := Aside0.mk (Kd.R_lower (Kd.R_new' ho0 (Kd.R_lt (rI HO373.out))) (below_size (bI HB.out)))
      replace HO373 := Aside0.mk (Kd.R_elder' (rI HO373.out) (Kd.R_base ho0) hb)
      replace BK353 := bk BK353 hb
      replace BK354 := bk BK354 hb
      replace BK375 := bk BK375 hb
      replace HB := bs HB hb
      (try clear hb)
      (try clear hb2)
      (try clear hk)
      (try clear hi)
      (try clear ho0)
      obtain ⟨Ao43, co43, eo43⟩ := Kd.R_slice HO385.out
      (first | subst eo43 | (injection eo43 with f1_ f2_ f3_; have f4_ := f1_.symm; have f5_ := f3_.symm; clear f1_ f2_ f3_; subst f4_; subst f5_))
      refine hK.out _ _ ⟨bc0 BK375.out, bc1 BK375.out, bc2 BK375.out, bc3 BK375.out, bc4 BK375.out, bc5 BK375.out, bc0 BK354.out, bc1 BK354.out, bc2 BK354.out, bc3 BK354.out, bc4 BK354.out, bc5 BK354.out⟩ (fun hHeld => ?_)
      clear hK K
      refine nA (some 30) ?_
      refine one_ (i := 3) (N := some 31) #[true, true, true, true, false] rfl rfl (by kernel_rfl) (by decide) (fun K hK => ?_)
      refine gA Tryd.func37 #[.agg #[.int .i64 t367, .int .i64 t368, .int .i64 t369, .string t370, .slice Ao36 t371.length co36, .string t374], .agg #[.int .i64 t379, .int .i64 t380, .int .i64 t381, .string t382, .slice Ao43 t383.length co43, .string t386]] ?_
      with_reducible refine (laws_eqSafe.calls k t367 t368 t369 t370 _ _ t371 t374 t379 t380 t381 t382 _ _ t383 t386 true _ ?side1 ?side2 ?side3 ?side4 A18.out).mono ?_
      (case side1 => repeat (first | exact (Kd.R_reads' HO373.out).2.2 | (with_reducible refine Kd.C_alloc ?_ _) | (with_reducible refine Kd.C_drewN ?_ _) | (with_reducible refine Kd.C_drew ?_)))
      (case side2 => exact (Kd.R_reads' HO373.out).2.1)
      (case side3 => repeat (first | exact (Kd.R_reads' HO385.out).2.2 | (with_reducible refine Kd.C_alloc ?_ _) | (with_reducible refine Kd.C_drewN ?_ _) | (with_reducible refine Kd.C_drew ?_)))
      (case side4 => exact (Kd.R_reads' HO385.out).2.1)
      rintro e w44 ⟨rfl, hb⟩
      refine ⟨_, rfl, ?_⟩
      replace HO373 := rb HO373 hb
      replace HO385 := rb HO385 hb
      replace BK353 := bk BK353 hb
      replace BK354 := bk BK354 hb
      replace BK375 := bk BK375 hb
      replace HB := bs HB hb
      (try clear hb)
      (try clear hb2)
      (try clear hk)
      (try clear hi)
      refine hK.out _ _ ⟨bc0 BK375.out, bc1 BK375.out, bc2 BK375.out, bc3 BK375.out, bc4 BK375.out, bc5 BK375.out, bc0 BK354.out, bc1 BK354.out, bc2 BK354.out, bc3 BK354.out, bc4 BK354.out, bc5 BK354.out⟩ (fun hHeld => ?_)
      clear hK K
      refine nA (some 31) ?_
      refine pure_ (i := 4) (N := some 32) (v := ?_) (a' := ?_) #[true, true, true, true, true] rfl rfl (by kernel_rfl) (fun _ _ _ h => h) (Or.inl ⟨by rfl, ?_⟩) ?_ ?_
      rotate_left
      · intro w'
        go_simp
        with_reducible rfl
      rotate_left
      · simp only [Act.put, List.setIfInBounds_toArray, List.set_cons_zero, List.set_cons_succ, i64_w, i32_w]
        rfl
      refine done_ (by kernel_rfl) ?_
      try go_wp2
      go_ret
      exact ⟨y0_4, bI HB.out⟩
    · replace c19 := Bool.eq_false_iff.mpr c19
      subst c19
      rw [if_neg (show ¬ (false = true) by decide)] at H
      exact absurd (hrt.out.symm.trans (Option.some.inj H).symm) (by decide)

end Go.Proofs.YtcmldmlmhpfjhaaDoor.PFnExactSafeOk
