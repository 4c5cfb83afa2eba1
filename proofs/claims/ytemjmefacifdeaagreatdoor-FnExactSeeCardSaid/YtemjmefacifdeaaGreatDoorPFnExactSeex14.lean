-- By a program of this session, out of the translation (the print of the kit, with turns of its own). Lean checks it.
import Derived.Test.YtemjmefacifdeaaGreatDoorPFnExactSeex0
import Derived.Test.YtemjmefacifdeaaGreatDoorPFnExactSeex10
import Derived.Test.YtemjmefacifdeaaGreatDoorPFnExactSeex11
import Derived.Test.YtemjmefacifdeaaGreatDoorPFnExactSeex12
import Derived.Test.YtemjmefacifdeaaGreatDoorPFnExactSeex13
namespace Go.Proofs.YtemjmefacifdeaaGreatDoor.PFnExactSee
open Go.RowKit Go.Proofs.YtemjmefacifdeaaGreatDoorW.PrintWords Go.Proofs.YtemjmefacifdeaaGreatDoorW.PrintLast Go.Proofs.YtemjmefacifdeaaGreatDoorW.PrintMore
attribute [local go_sem] max2_int min2_int max_two min_two max_three min_three max_four min_four   -- for this text's walks alone
set_option linter.unusedVariables false
set_option linter.unusedSimpArgs false

/-! ### impl_copyInts: function 113 -/
def impl_copyInts.f (l0 : List Int) : Option (List Int) := if ([] : List Int).length + l0.length < 17592186044416 then (some (([] : List Int) ++ l0)) else (none)
set_option maxHeartbeats 8000000 in
set_option maxRecDepth 100000 in
theorem impl_copyInts.calls (A0 : Option Addr) (c0 : Nat) (l0 : List Int) (r : List Int) (w : World) (hr0 : Kd.C (Kd.int .i64) w A0 l0.length l0) (hc0 : l0.length ≤ c0) (h : impl_copyInts.f l0 = some r) :
  Calls Tryz.prog 113 #[.slice A0 l0.length c0] w fun e w' => ∃ v0_ : Value, e = .returned (v0_) ∧ Kd.R (Kd.int .i64) 3 w' w.heap.size (fun _ => True) v0_ r ∧ Below w.heap.size w w' := by
 have HR0 := Aside0.mk hr0; have HC0 := Aside0.mk hc0; clear hr0 hc0; have HB := Aside0.mk (Below.refl w.heap.size w); have H : (if ([] : List Int).length + l0.length < 17592186044416 then (some (([] : List Int) ++ l0)) else (none)) = some r := h; clear h
 by_cases c2 : ([] : List Int).length + l0.length < 17592186044416
 ·
  rw [if_pos c2] at H
  have LMc2 := Aside0.mk c2; clear c2; obtain ⟨y428, hy428⟩ : ∃ y_ : List Int, y_ = (([] : List Int) ++ l0) := ⟨_, rfl⟩
  replace H : (some y428) = some r := by first | (rw [hy428]; with_reducible exact H) | (have H2_ := (Option.bind_some _ _).symm.trans H; rw [hy428]; with_reducible exact H2_) | (have H2_ := (Option.bind_some _ _).symm.trans H; with_reducible exact H2_) | with_reducible exact H | (rw [hy428]; exact H) | exact H
  have Ny428 := Aside0.mk hy428; clear hy428; obtain rfl := Option.some.inj H
  go_enter Tryz.func113, Tryz.ntmps113
  go_wp2_with (first | ((with_reducible refine gate_builtin (b := .append) (xs := #[.const (.slice none 0 0), .tmp 3]) rfl ?_); at_builtin; refine Kd.R_append_rows (Kd.int .i64) (w0 := w) w.heap.size rfl (.const (.slice none 0 0)) (.tmp 3) 24 3 (.int .i64 0) 8 rfl Tryz.underlying24 info3 rfl (by decide) (by omega) (.slice none 0 0) ([] : List Int) l0 _ _ _ (fun _ => True) (fun _ => False) rfl rfl ?aO ?aR (fun _ _ h => h) (fun _ h => h.elim) ?aF ?aB ?aS ?aL ?_; (case aR => exact cI HR0.out); (case aB => exact (bI HB.out)); (case aF => exact (fun _ _ => trivial)); (case aO => exact ((Kd.R_nil _ _ _ _ (fun _ => True)))); (case aS => exact (below_size (bI HB.out))); (case aL => have := LMc2.out; omega); intro v429 w3 ho hb hg hat; rw [← Ny428.out] at ho; replace HB := Aside0.mk (hb); have HO430 := Aside0.mk (ho); clear ho hb hg hat))
  go_ret
  exact ⟨_, y0_8, by (with_reducible repeat (first | apply Kd.R_alloc | apply Kd.R_drewN | apply Kd.R_drew)); exact HO430.out, bI HB.out⟩
 rw [if_neg c2] at H
 exact absurd H (by simp)

/-! ### impl_copyQc: function 83 -/
def impl_copyQc.f (a0_0 : Int) (a0_1 : ByteArray) (l0_2 : List Int) : Option (Int × ByteArray × List Int) := (impl_copyInts.f l0_2).bind fun t433 => (some (a0_0, a0_1, t433))
set_option maxHeartbeats 8000000 in
set_option maxRecDepth 100000 in
theorem impl_copyQc.calls (a0_0 : Int) (a0_1 : ByteArray) (A0_2 : Option Addr) (c0_2 : Nat) (l0_2 : List Int) (r1 : Int) (r2 : ByteArray) (r3 : List Int) (w : World) (hr0_2 : Kd.C (Kd.int .i64) w A0_2 l0_2.length l0_2) (hc0_2 : l0_2.length ≤ c0_2) (h : impl_copyQc.f a0_0 a0_1 l0_2 = some (r1, r2, r3)) :
  Calls Tryz.prog 83 #[.agg #[.int .i64 a0_0, .string a0_1, .slice A0_2 l0_2.length c0_2]] w fun e w' => ∃ v2_ : Value, e = .returned (.agg #[.int .i64 r1, .string r2, v2_]) ∧ Kd.R (Kd.int .i64) 3 w' w.heap.size (fun _ => True) v2_ r3 ∧ Below w.heap.size w w' := by
 have hu33 := Tryz.underlying33; have HR0_2 := Aside0.mk hr0_2; have HC0_2 := Aside0.mk hc0_2; clear hr0_2 hc0_2; have HB := Aside0.mk (Below.refl w.heap.size w)
 have H : ((impl_copyInts.f l0_2).bind fun t433 => (some (a0_0, a0_1, t433))) = some (r1, r2, r3) := h
 clear h; obtain ⟨t433, A20, H⟩ := Option.bind_eq_some_iff.mp H
 try dsimp only at H
 have A2 := Aside0.mk A20; clear A20
 simp only [Option.some.injEq, Prod.mk.injEq] at H
 obtain ⟨rfl, rfl, rfl⟩ := H
 go_enter Tryz.func83, Tryz.ntmps83
 go_wp2_with (first | ((with_reducible refine gd 1 ?_); refine bA 1 #[.int .i64 a0_0, .string a0_1, .slice A0_2 l0_2.length c0_2] 33 ?_; intro gb431 hg w3 hbox hb; have BK431 := Aside0.mk (hbox); have GW431 := bg hg HB; have GJ431 := gi GW431; have GE431 := GW431; replace HB := bs HB hb; clear hb hbox hg) | ((with_reducible refine gd 2 ?_); refine bA 2 #[.int .i64 0, .string (⟨#[]⟩ : ByteArray), .slice none 0 0] 33 ?_; intro gb432 hg w4 hbox hb; have BK432 := Aside0.mk (hbox); have GW432 := bg hg HB; have GJ432 := gi GW432; have GE432 := GW432; replace HB := bs HB hb; have NB431_432 := b1 BK431 hg; have NI431_432 := ni NB431_432; have NB432_431 := b2 BK431 hg; have NI432_431 := ni NB432_431; replace BK431 := bk BK431 hb; clear hb hbox hg; have hnb5 := NB431_432.out; have hnc5 := NB432_431.out; obtain ⟨hcz6_0, hcz6_1, hcz6_2, hfz6_0, hfz6_1, hfz6_2⟩ := cs3 BK431) | ((with_reducible refine gate_callee (f := 113) rfl ?_); refine gB (some 5) Tryz.func113 #[.slice A0_2 l0_2.length c0_2] ?_; (with_reducible refine (impl_copyInts.calls _ _ l0_2 t433 _ ?side1 ?side2 A2.out).mono ?_); (case side1 => exact ch HR0_2 HB); (case side2 => exact HC0_2.out); rintro e w7 ⟨v434, rfl, ho0, hb⟩; refine ⟨_, rfl, ?_⟩; have HO435 := Aside0.mk (Kd.R_lower ho0 (below_size (bI HB.out))); replace BK431 := bk BK431 hb; replace BK432 := bk BK432 hb; replace HB := bs HB hb; (try clear hb); (try clear ho0); obtain ⟨Ao8, co8, eo8⟩ := Kd.R_slice HO435.out; subst eo8; obtain ⟨hcz9_0, hcz9_1, hcz9_2, hfz9_0, hfz9_1, hfz9_2⟩ := cs3 BK431; obtain ⟨hcz10_0, hcz10_1, hcz10_2, hfz10_0, hfz10_1, hfz10_2⟩ := cs3 BK432))
 refine bodyPost_ret (results_cell_row rfl _ _ gb432 33 #[.int .i64 a0_0, .string a0_1, .slice Ao8 t433.length co8] (0, 0) _ rfl (pI BK432) Tryz.underlying33 rfl (by kernel_rfl)) rfl ?_
 exact ⟨_, y0_8, by (with_reducible repeat (first | apply Kd.R_alloc | apply Kd.R_drewN | apply Kd.R_drew)); exact Kd.R_mono (Kd.R_far (p := ⟨gb432, 2, none⟩) (Kd.R_far (p := ⟨gb432, 1, none⟩) (Kd.R_far (p := ⟨gb432, 0, none⟩) (Kd.R_far (p := ⟨gb431, 2, none⟩) (Kd.R_types (Kd.R_types HO435.out BK431.out (by decide)) BK432.out (by decide)) (fun _ hk => hk.1.2) (.slice Ao8 t433.length co8)) (fun _ hk => hk.2) (.int .i64 a0_0)) (fun _ hk => hk.2) (.string a0_1)) (fun _ hk => hk.2) (.slice Ao8 t433.length co8)) (fun _ hk => trivial), bI HB.out⟩

/-! ### impl_QcLater: function 56 -/
def impl_QcLater.f (a0_0 : Int) (a0_1 : ByteArray) (l0_2 : List Int) (a1_0 : Int) (a1_1 : ByteArray) (l1_2 : List Int) : Option (Int × ByteArray × List Int) := if a0_0 > a1_0 then ((impl_copyQc.f a0_0 a0_1 l0_2).bind fun bt439 => (some (bt439.1, bt439.2.1, bt439.2.2))) else ((impl_copyQc.f a1_0 a1_1 l1_2).bind fun bt444 => (some (bt444.1, bt444.2.1, bt444.2.2)))
set_option maxHeartbeats 8000000 in
set_option maxRecDepth 100000 in
theorem impl_QcLater.calls (a0_0 : Int) (a0_1 : ByteArray) (A0_2 : Option Addr) (c0_2 : Nat) (l0_2 : List Int) (a1_0 : Int) (a1_1 : ByteArray) (A1_2 : Option Addr) (c1_2 : Nat) (l1_2 : List Int) (r1 : Int) (r2 : ByteArray) (r3 : List Int) (w : World) (hr0_2 : Kd.C (Kd.int .i64) w A0_2 l0_2.length l0_2) (hc0_2 : l0_2.length ≤ c0_2) (hr1_2 : Kd.C (Kd.int .i64) w A1_2 l1_2.length l1_2) (hc1_2 : l1_2.length ≤ c1_2) (h : impl_QcLater.f a0_0 a0_1 l0_2 a1_0 a1_1 l1_2 = some (r1, r2, r3)) :
  Calls Tryz.prog 56 #[.agg #[.int .i64 a0_0, .string a0_1, .slice A0_2 l0_2.length c0_2], .agg #[.int .i64 a1_0, .string a1_1, .slice A1_2 l1_2.length c1_2]] w fun e w' => ∃ v2_ : Value, e = .returned (.agg #[.int .i64 r1, .string r2, v2_]) ∧ Kd.R (Kd.int .i64) 3 w' w.heap.size (fun _ => True) v2_ r3 ∧ Below w.heap.size w w' := by
 have hu33 := Tryz.underlying33; have HR0_2 := Aside0.mk hr0_2; have HC0_2 := Aside0.mk hc0_2; clear hr0_2 hc0_2; have HR1_2 := Aside0.mk hr1_2; have HC1_2 := Aside0.mk hc1_2; clear hr1_2 hc1_2; have HB := Aside0.mk (Below.refl w.heap.size w)
 have H : (if a0_0 > a1_0 then ((impl_copyQc.f a0_0 a0_1 l0_2).bind fun bt439 => (some (bt439.1, bt439.2.1, bt439.2.2))) else ((impl_copyQc.f a1_0 a1_1 l1_2).bind fun bt444 => (some (bt444.1, bt444.2.1, bt444.2.2)))) = some (r1, r2, r3) := h
 clear h
 by_cases c3 : a0_0 > a1_0
 ·
  rw [if_pos c3] at H
  have c3b0 : decide (a1_0 < a0_0) = true := decide_eq_true c3; clear c3; obtain ⟨⟨t439, t440, t441⟩, A40, H⟩ := Option.bind_eq_some_iff.mp H
  try dsimp only at H
  have A4 := Aside0.mk A40; clear A40
  simp only [Option.some.injEq, Prod.mk.injEq] at H
  obtain ⟨rfl, rfl, rfl⟩ := H
  go_enter Tryz.func56, Tryz.ntmps56
  go_wp2_with (first | ((with_reducible refine gd 2 ?_); refine bA 2 #[.int .i64 a0_0, .string a0_1, .slice A0_2 l0_2.length c0_2] 33 ?_; intro gb436 hg w5 hbox hb; have BK436 := Aside0.mk (hbox); have GW436 := bg hg HB; have GJ436 := gi GW436; have GE436 := GW436; replace HB := bs HB hb; clear hb hbox hg) | ((with_reducible refine gd 3 ?_); refine bA 3 #[.int .i64 a1_0, .string a1_1, .slice A1_2 l1_2.length c1_2] 33 ?_; intro gb437 hg w6 hbox hb; have BK437 := Aside0.mk (hbox); have GW437 := bg hg HB; have GJ437 := gi GW437; have GE437 := GW437; replace HB := bs HB hb; have NB436_437 := b1 BK436 hg; have NI436_437 := ni NB436_437; have NB437_436 := b2 BK436 hg; have NI437_436 := ni NB437_436; replace BK436 := bk BK436 hb; clear hb hbox hg) | ((with_reducible refine gd 4 ?_); refine bA 4 #[.int .i64 0, .string (⟨#[]⟩ : ByteArray), .slice none 0 0] 33 ?_; intro gb438 hg w7 hbox hb; have BK438 := Aside0.mk (hbox); have GW438 := bg hg HB; have GJ438 := gi GW438; have GE438 := GW438; replace HB := bs HB hb; have NB436_438 := b1 BK436 hg; have NI436_438 := ni NB436_438; have NB438_436 := b2 BK436 hg; have NI438_436 := ni NB438_436; replace BK436 := bk BK436 hb; have NB437_438 := b1 BK437 hg; have NI437_438 := ni NB437_438; have NB438_437 := b2 BK437 hg; have NI438_437 := ni NB438_437; replace BK437 := bk BK437 hb; clear hb hbox hg; have hnb8 := NB436_437.out; have hnc8 := NB437_436.out; have hnb9 := NB436_438.out; have hnc9 := NB438_436.out; obtain ⟨hcz10_0, hcz10_1, hcz10_2, hfz10_0, hfz10_1, hfz10_2⟩ := cs3 BK436; have hnb11 := NB437_438.out; have hnc11 := NB438_437.out; obtain ⟨hcz12_0, hcz12_1, hcz12_2, hfz12_0, hfz12_1, hfz12_2⟩ := cs3 BK437) | ((with_reducible refine gate_callee (f := 83) rfl ?_); refine gB (some 11) Tryz.func83 #[.agg #[.int .i64 a0_0, .string a0_1, .slice A0_2 l0_2.length c0_2]] ?_; (with_reducible refine (impl_copyQc.calls a0_0 a0_1 _ _ l0_2 t439 t440 t441 _ ?side1 ?side2 A4.out).mono ?_); (case side1 => exact ch HR0_2 HB); (case side2 => exact HC0_2.out); rintro e w13 ⟨v442, rfl, ho0, hb⟩; refine ⟨_, rfl, ?_⟩; have HO443 := Aside0.mk (Kd.R_lower ho0 (below_size (bI HB.out))); replace BK436 := bk BK436 hb; replace BK437 := bk BK437 hb; replace BK438 := bk BK438 hb; replace HB := bs HB hb; (try clear hb); (try clear ho0); obtain ⟨hcz14_0, hcz14_1, hcz14_2, hfz14_0, hfz14_1, hfz14_2⟩ := cs3 BK438; obtain ⟨Ao15, co15, eo15⟩ := Kd.R_slice HO443.out; subst eo15))
  refine bodyPost_ret (results_cell_row rfl _ _ gb438 33 #[.int .i64 t439, .string t440, .slice Ao15 t441.length co15] (0, 0) _ rfl (pI BK438) Tryz.underlying33 rfl (by kernel_rfl)) rfl ?_
  exact ⟨_, y0_8, by (with_reducible repeat (first | apply Kd.R_alloc | apply Kd.R_drewN | apply Kd.R_drew)); exact Kd.R_mono (Kd.R_far (p := ⟨gb438, 2, none⟩) (Kd.R_far (p := ⟨gb438, 1, none⟩) (Kd.R_far (p := ⟨gb438, 0, none⟩) (Kd.R_types HO443.out BK438.out (by decide)) (fun _ hk => hk.2) (.int .i64 t439)) (fun _ hk => hk.2) (.string t440)) (fun _ hk => hk.2) (.slice Ao15 t441.length co15)) (fun _ hk => trivial), bI HB.out⟩
 rw [if_neg c3] at H
 have c3b0 : decide (a1_0 < a0_0) = false := decide_eq_false c3; clear c3; obtain ⟨⟨t444, t445, t446⟩, A160, H⟩ := Option.bind_eq_some_iff.mp H
 try dsimp only at H
 have A16 := Aside0.mk A160; clear A160
 simp only [Option.some.injEq, Prod.mk.injEq] at H
 obtain ⟨rfl, rfl, rfl⟩ := H
 go_enter Tryz.func56, Tryz.ntmps56
 go_wp2_with (first | ((with_reducible refine gd 2 ?_); refine bA 2 #[.int .i64 a0_0, .string a0_1, .slice A0_2 l0_2.length c0_2] 33 ?_; intro gb436 hg w17 hbox hb; have BK436 := Aside0.mk (hbox); have GW436 := bg hg HB; have GJ436 := gi GW436; have GE436 := GW436; replace HB := bs HB hb; clear hb hbox hg) | ((with_reducible refine gd 3 ?_); refine bA 3 #[.int .i64 a1_0, .string a1_1, .slice A1_2 l1_2.length c1_2] 33 ?_; intro gb437 hg w18 hbox hb; have BK437 := Aside0.mk (hbox); have GW437 := bg hg HB; have GJ437 := gi GW437; have GE437 := GW437; replace HB := bs HB hb; have NB436_437 := b1 BK436 hg; have NI436_437 := ni NB436_437; have NB437_436 := b2 BK436 hg; have NI437_436 := ni NB437_436; replace BK436 := bk BK436 hb; clear hb hbox hg) | ((with_reducible refine gd 4 ?_); refine bA 4 #[.int .i64 0, .string (⟨#[]⟩ : ByteArray), .slice none 0 0] 33 ?_; intro gb438 hg w19 hbox hb; have BK438 := Aside0.mk (hbox); have GW438 := bg hg HB; have GJ438 := gi GW438; have GE438 := GW438; replace HB := bs HB hb; have NB436_438 := b1 BK436 hg; have NI436_438 := ni NB436_438; have NB438_436 := b2 BK436 hg; have NI438_436 := ni NB438_436; replace BK436 := bk BK436 hb; have NB437_438 := b1 BK437 hg; have NI437_438 := ni NB437_438; have NB438_437 := b2 BK437 hg; have NI438_437 := ni NB438_437; replace BK437 := bk BK437 hb; clear hb hbox hg; have hnb20 := NB436_437.out; have hnc20 := NB437_436.out; have hnb21 := NB436_438.out; have hnc21 := NB438_436.out; obtain ⟨hcz22_0, hcz22_1, hcz22_2, hfz22_0, hfz22_1, hfz22_2⟩ := cs3 BK436; have hnb23 := NB437_438.out; have hnc23 := NB438_437.out; obtain ⟨hcz24_0, hcz24_1, hcz24_2, hfz24_0, hfz24_1, hfz24_2⟩ := cs3 BK437) | ((with_reducible refine gate_callee (f := 83) rfl ?_); refine gB (some 13) Tryz.func83 #[.agg #[.int .i64 a1_0, .string a1_1, .slice A1_2 l1_2.length c1_2]] ?_; (with_reducible refine (impl_copyQc.calls a1_0 a1_1 _ _ l1_2 t444 t445 t446 _ ?side1 ?side2 A16.out).mono ?_); (case side1 => exact ch HR1_2 HB); (case side2 => exact HC1_2.out); rintro e w25 ⟨v447, rfl, ho0, hb⟩; refine ⟨_, rfl, ?_⟩; have HO448 := Aside0.mk (Kd.R_lower ho0 (below_size (bI HB.out))); replace BK436 := bk BK436 hb; replace BK437 := bk BK437 hb; replace BK438 := bk BK438 hb; replace HB := bs HB hb; (try clear hb); (try clear ho0); obtain ⟨hcz26_0, hcz26_1, hcz26_2, hfz26_0, hfz26_1, hfz26_2⟩ := cs3 BK438; obtain ⟨Ao27, co27, eo27⟩ := Kd.R_slice HO448.out; subst eo27))
 refine bodyPost_ret (results_cell_row rfl _ _ gb438 33 #[.int .i64 t444, .string t445, .slice Ao27 t446.length co27] (0, 0) _ rfl (pI BK438) Tryz.underlying33 rfl (by kernel_rfl)) rfl ?_
 exact ⟨_, y0_8, by (with_reducible repeat (first | apply Kd.R_alloc | apply Kd.R_drewN | apply Kd.R_drew)); exact Kd.R_mono (Kd.R_far (p := ⟨gb438, 2, none⟩) (Kd.R_far (p := ⟨gb438, 1, none⟩) (Kd.R_far (p := ⟨gb438, 0, none⟩) (Kd.R_types HO448.out BK438.out (by decide)) (fun _ hk => hk.2) (.int .i64 t444)) (fun _ hk => hk.2) (.string t445)) (fun _ hk => hk.2) (.slice Ao27 t446.length co27)) (fun _ hk => trivial), bI HB.out⟩

/-! ### impl_copySafe: function 63 -/
def impl_copySafe.f (a0_0 : Int) (a0_1 : Int) (a0_2 : Int) (a0_3 : ByteArray) (l0_4 : List Int) (a0_5 : ByteArray) : Option (Int × Int × Int × ByteArray × List Int × ByteArray) := (impl_copyQc.f a0_2 a0_3 l0_4).bind fun bt451 => (some (a0_0, a0_1, bt451.1, bt451.2.1, bt451.2.2, a0_5))
set_option maxHeartbeats 8000000 in
set_option maxRecDepth 100000 in
theorem impl_copySafe.calls (a0_0 : Int) (a0_1 : Int) (a0_2 : Int) (a0_3 : ByteArray) (A0_4 : Option Addr) (c0_4 : Nat) (l0_4 : List Int) (a0_5 : ByteArray) (r1 : Int) (r2 : Int) (r3 : Int) (r4 : ByteArray) (r5 : List Int) (r6 : ByteArray) (w : World) (hr0_4 : Kd.C (Kd.int .i64) w A0_4 l0_4.length l0_4) (hc0_4 : l0_4.length ≤ c0_4) (h : impl_copySafe.f a0_0 a0_1 a0_2 a0_3 l0_4 a0_5 = some (r1, r2, r3, r4, r5, r6)) :
  Calls Tryz.prog 63 #[.agg #[.int .i64 a0_0, .int .i64 a0_1, .int .i64 a0_2, .string a0_3, .slice A0_4 l0_4.length c0_4, .string a0_5]] w fun e w' => ∃ v4_ : Value, e = .returned (.agg #[.int .i64 r1, .int .i64 r2, .int .i64 r3, .string r4, v4_, .string r6]) ∧ Kd.R (Kd.int .i64) 3 w' w.heap.size (fun _ => True) v4_ r5 ∧ Below w.heap.size w w' := by
 have hu35 := Tryz.underlying35; have hu33 := Tryz.underlying33; have HR0_4 := Aside0.mk hr0_4; have HC0_4 := Aside0.mk hc0_4; clear hr0_4 hc0_4; have HB := Aside0.mk (Below.refl w.heap.size w)
 have H : ((impl_copyQc.f a0_2 a0_3 l0_4).bind fun bt451 => (some (a0_0, a0_1, bt451.1, bt451.2.1, bt451.2.2, a0_5))) = some (r1, r2, r3, r4, r5, r6) := h
 clear h; obtain ⟨⟨t451, t452, t453⟩, A20, H⟩ := Option.bind_eq_some_iff.mp H
 try dsimp only at H
 have A2 := Aside0.mk A20; clear A20
 simp only [Option.some.injEq, Prod.mk.injEq] at H
 obtain ⟨rfl, rfl, rfl, rfl, rfl, rfl⟩ := H
 go_enter Tryz.func63, Tryz.ntmps63
 go_wp2_with (first | ((with_reducible refine gd 1 ?_); refine bA 1 #[.int .i64 a0_0, .int .i64 a0_1, .int .i64 a0_2, .string a0_3, .slice A0_4 l0_4.length c0_4, .string a0_5] 35 ?_; intro gb449 hg w3 hbox hb; have BK449 := Aside0.mk (hbox); have GW449 := bg hg HB; have GJ449 := gi GW449; have GE449 := GW449; replace HB := bs HB hb; clear hb hbox hg) | ((with_reducible refine gd 2 ?_); refine bA 2 #[.int .i64 0, .int .i64 0, .int .i64 0, .string (⟨#[]⟩ : ByteArray), .slice none 0 0, .string (⟨#[]⟩ : ByteArray)] 35 ?_; intro gb450 hg w4 hbox hb; have BK450 := Aside0.mk (hbox); have GW450 := bg hg HB; have GJ450 := gi GW450; have GE450 := GW450; replace HB := bs HB hb; have NB449_450 := b1 BK449 hg; have NI449_450 := ni NB449_450; have NB450_449 := b2 BK449 hg; have NI450_449 := ni NB450_449; replace BK449 := bk BK449 hb; clear hb hbox hg; have hnb5 := NB449_450.out; have hnc5 := NB450_449.out; have hcz6_0 := bc0 BK449.out; have hcz6_1 := bc1 BK449.out; have hcz6_2 := bc2 BK449.out; have hcz6_3 := bc3 BK449.out; have hcz6_4 := bc4 BK449.out; have hcz6_5 := bc5 BK449.out; have hfz6_0 := blk_frozen BK449.out 0; have hfz6_1 := blk_frozen BK449.out 1; have hfz6_2 := blk_frozen BK449.out 2; have hfz6_3 := blk_frozen BK449.out 3; have hfz6_4 := blk_frozen BK449.out 4; have hfz6_5 := blk_frozen BK449.out 5) | ((with_reducible refine gate_callee (f := 83) rfl ?_); refine gB (some 5) Tryz.func83 #[.agg #[.int .i64 a0_2, .string a0_3, .slice A0_4 l0_4.length c0_4]] ?_; (with_reducible refine (impl_copyQc.calls a0_2 a0_3 _ _ l0_4 t451 t452 t453 _ ?side1 ?side2 A2.out).mono ?_); (case side1 => exact ch HR0_4 HB); (case side2 => exact HC0_4.out); rintro e w7 ⟨v454, rfl, ho0, hb⟩; refine ⟨_, rfl, ?_⟩; have HO455 := Aside0.mk (Kd.R_lower ho0 (below_size (bI HB.out))); replace BK449 := bk BK449 hb; replace BK450 := bk BK450 hb; replace HB := bs HB hb; (try clear hb); (try clear ho0); have hcz8_0 := bc0 BK449.out; have hcz8_1 := bc1 BK449.out; have hcz8_2 := bc2 BK449.out; have hcz8_3 := bc3 BK449.out; have hcz8_4 := bc4 BK449.out; have hcz8_5 := bc5 BK449.out; have hfz8_0 := blk_frozen BK449.out 0; have hfz8_1 := blk_frozen BK449.out 1; have hfz8_2 := blk_frozen BK449.out 2; have hfz8_3 := blk_frozen BK449.out 3; have hfz8_4 := blk_frozen BK449.out 4; have hfz8_5 := blk_frozen BK449.out 5; obtain ⟨Ao9, co9, eo9⟩ := Kd.R_slice HO455.out; subst eo9; have hcz10_0 := bc0 BK450.out; have hcz10_1 := bc1 BK450.out; have hcz10_2 := bc2 BK450.out; have hcz10_3 := bc3 BK450.out; have hcz10_4 := bc4 BK450.out; have hcz10_5 := bc5 BK450.out; have hfz10_0 := blk_frozen BK450.out 0; have hfz10_1 := blk_frozen BK450.out 1; have hfz10_2 := blk_frozen BK450.out 2; have hfz10_3 := blk_frozen BK450.out 3; have hfz10_4 := blk_frozen BK450.out 4; have hfz10_5 := blk_frozen BK450.out 5))
 refine bodyPost_ret (results_cell_row rfl _ _ gb450 35 #[.int .i64 a0_0, .int .i64 a0_1, .int .i64 t451, .string t452, .slice Ao9 t453.length co9, .string a0_5] (0, 0) _ rfl (pI BK450) Tryz.underlying35 rfl (by kernel_rfl)) rfl ?_
 exact ⟨_, y0_8, by (with_reducible repeat (first | apply Kd.R_alloc | apply Kd.R_drewN | apply Kd.R_drew)); exact Kd.R_mono (Kd.R_far (p := ⟨gb450, 5, none⟩) (Kd.R_far (p := ⟨gb450, 4, none⟩) (Kd.R_far (p := ⟨gb450, 3, none⟩) (Kd.R_far (p := ⟨gb450, 2, none⟩) (Kd.R_far (p := ⟨gb450, 1, none⟩) (Kd.R_far (p := ⟨gb450, 0, none⟩) (Kd.R_far (p := ⟨gb449, 4, none⟩) (Kd.R_far (p := ⟨gb449, 3, none⟩) (Kd.R_far (p := ⟨gb449, 2, none⟩) (Kd.R_types (Kd.R_types HO455.out BK449.out (by decide)) BK450.out (by decide)) (fun _ hk => hk.1.2) (.int .i64 t451)) (fun _ hk => hk.1.2) (.string t452)) (fun _ hk => hk.1.2) (.slice Ao9 t453.length co9)) (fun _ hk => hk.2) (.int .i64 a0_0)) (fun _ hk => hk.2) (.int .i64 a0_1)) (fun _ hk => hk.2) (.int .i64 t451)) (fun _ hk => hk.2) (.string t452)) (fun _ hk => hk.2) (.slice Ao9 t453.length co9)) (fun _ hk => hk.2) (.string a0_5)) (fun _ hk => trivial), bI HB.out⟩

/-! ### impl_SafeOk: function 72 -/
def impl_SafeOk.f (k : Nat) (a0_0 : Int) (a0_1 : Int) (a1_0 : Int) (a1_1 : Int) (a1_2 : Int) (a1_3 : ByteArray) (l1_4 : List Int) (a1_5 : ByteArray) : Option (Bool) := (impl_within.f a1_0 0 60).bind fun t458 => (if t458 = true then ((impl_within.f a1_1 0 60).bind fun t459 => (if t459 = true then ((impl_QcOk.f k a0_0 a0_1 a1_2 a1_3 l1_4).bind fun t460 => (if t460 = true then ((impl_NameOk.f k a1_5).bind fun t461 => (some t461)) else (some false))) else (some false))) else (some false))
theorem impl_SafeOk.mono : ∀ a0 a1 a2 a3 a4 a5 a6 a7 k, LeO (impl_SafeOk.f k a0 a1 a2 a3 a4 a5 a6 a7) (impl_SafeOk.f (k + 1) a0 a1 a2 a3 a4 a5 a6 a7) := by
 intro a0 a1 a2 a3 a4 a5 a6 a7 k
 unfold impl_SafeOk.f
 repeat' first | (with_reducible exact impl_NameOk.mono _ _) | (with_reducible exact impl_QcOk.mono _ _ _ _ _ _) | (with_reducible exact LeO.refl _) | (with_reducible exact LeO.none _) | (with_reducible refine LeO.ite ?_ ?_) | (with_reducible refine LeO.bind ?_ (fun _ => ?_))
set_option maxHeartbeats 8000000 in
set_option maxRecDepth 100000 in
theorem impl_SafeOk.calls (k : Nat) (a0_0 : Int) (a0_1 : Int) (a1_0 : Int) (a1_1 : Int) (a1_2 : Int) (a1_3 : ByteArray) (A1_4 : Option Addr) (c1_4 : Nat) (l1_4 : List Int) (a1_5 : ByteArray) (r : Bool) (w : World) (hr1_4 : Kd.C (Kd.int .i64) w A1_4 l1_4.length l1_4) (hc1_4 : l1_4.length ≤ c1_4) (h : impl_SafeOk.f k a0_0 a0_1 a1_0 a1_1 a1_2 a1_3 l1_4 a1_5 = some r) (hG : Glob w := by exact gG HG HB) :
  Calls Tryz.prog 72 #[.agg #[.int .i64 a0_0, .int .i64 a0_1], .agg #[.int .i64 a1_0, .int .i64 a1_1, .int .i64 a1_2, .string a1_3, .slice A1_4 l1_4.length c1_4, .string a1_5]] w fun e w' => e = .returned (.bool r) ∧ Below w.heap.size w w' := by
 have HG := Aside0.mk hG; clear hG; have hu38 := Tryz.underlying38; have hu35 := Tryz.underlying35; have hu33 := Tryz.underlying33; have HR1_4 := Aside0.mk hr1_4; have HC1_4 := Aside0.mk hc1_4; clear hr1_4 hc1_4; have HB := Aside0.mk (Below.refl w.heap.size w)
 have H : ((impl_within.f a1_0 0 60).bind fun t458 => (if t458 = true then ((impl_within.f a1_1 0 60).bind fun t459 => (if t459 = true then ((impl_QcOk.f k a0_0 a0_1 a1_2 a1_3 l1_4).bind fun t460 => (if t460 = true then ((impl_NameOk.f k a1_5).bind fun t461 => (some t461)) else (some false))) else (some false))) else (some false))) = some r := h
 clear h; obtain ⟨t458, A30, H⟩ := Option.bind_eq_some_iff.mp H
 try dsimp only at H
 have A3 := Aside0.mk A30; clear A30
 by_cases c4 : t458 = true
 ·
  subst c4
  rw [if_pos rfl] at H
  obtain ⟨t459, A50, H⟩ := Option.bind_eq_some_iff.mp H
  try dsimp only at H
  have A5 := Aside0.mk A50; clear A50
  by_cases c6 : t459 = true
  ·
   subst c6
   rw [if_pos rfl] at H
   obtain ⟨t460, A70, H⟩ := Option.bind_eq_some_iff.mp H
   try dsimp only at H
   have A7 := Aside0.mk A70; clear A70
   by_cases c8 : t460 = true
   ·
    subst c8
    rw [if_pos rfl] at H
    obtain ⟨t461, A90, H⟩ := Option.bind_eq_some_iff.mp H
    try dsimp only at H
    have A9 := Aside0.mk A90; clear A90; obtain rfl := Option.some.inj H
    go_enter Tryz.func72, Tryz.ntmps72
    go_wp2_with (first | ((with_reducible refine gd 2 ?_); refine bA 2 #[.int .i64 a0_0, .int .i64 a0_1] 38 ?_; intro gb456 hg w10 hbox hb; have BK456 := Aside0.mk (hbox); have GW456 := bg hg HB; have GJ456 := gi GW456; have GE456 := GW456; replace HB := bs HB hb; clear hb hbox hg) | ((with_reducible refine gd 3 ?_); refine bA 3 #[.int .i64 a1_0, .int .i64 a1_1, .int .i64 a1_2, .string a1_3, .slice A1_4 l1_4.length c1_4, .string a1_5] 35 ?_; intro gb457 hg w11 hbox hb; have BK457 := Aside0.mk (hbox); have GW457 := bg hg HB; have GJ457 := gi GW457; have GE457 := GW457; replace HB := bs HB hb; have NB456_457 := b1 BK456 hg; have NI456_457 := ni NB456_457; have NB457_456 := b2 BK456 hg; have NI457_456 := ni NB457_456; replace BK456 := bk BK456 hb; clear hb hbox hg; have hnb12 := NB457_456.out; have hnc12 := NB456_457.out; have hcz13_0 := bc0 BK457.out; have hcz13_1 := bc1 BK457.out; have hcz13_2 := bc2 BK457.out; have hcz13_3 := bc3 BK457.out; have hcz13_4 := bc4 BK457.out; have hcz13_5 := bc5 BK457.out; have hfz13_0 := blk_frozen BK457.out 0; have hfz13_1 := blk_frozen BK457.out 1; have hfz13_2 := blk_frozen BK457.out 2; have hfz13_3 := blk_frozen BK457.out 3; have hfz13_4 := blk_frozen BK457.out 4; have hfz13_5 := blk_frozen BK457.out 5) | ((with_reducible refine gate_callee (f := 99) rfl ?_); refine gB (some 7) Tryz.func99 #[.int .i64 a1_0, .int .i64 0, .int .i64 60] ?_; (with_reducible refine (impl_within.calls a1_0 0 60 true _ A3.out).mono ?_); rintro e w' ⟨rfl, ⟨nd, rfl⟩⟩; refine ⟨_, rfl, ?_⟩) | (go_at_call 99; (with_reducible refine (impl_within.calls a1_1 0 60 true _ A5.out).mono ?_); rintro e w' ⟨rfl, ⟨nd, rfl⟩⟩; obtain ⟨hcz14_0, hcz14_1, hfz14_0, hfz14_1⟩ := cs2 BK456) | (go_at_call 48; (with_reducible refine (impl_QcOk.calls k a0_0 a0_1 a1_2 a1_3 _ _ l1_4 true _ ?side1 ?side2 A7.out).mono ?_); (case side1 => exact (Kd.C_below HR1_4.out (bI HB.out))); (case side2 => exact HC1_4.out); rintro e w15 ⟨rfl, hb⟩; replace BK456 := bk BK456 hb; replace BK457 := bk BK457 hb; replace HB := bs HB hb; (try clear hb); (try clear hb2); (try clear hk); (try clear hi); have hcz16_0 := bc0 BK457.out; have hcz16_1 := bc1 BK457.out; have hcz16_2 := bc2 BK457.out; have hcz16_3 := bc3 BK457.out; have hcz16_4 := bc4 BK457.out; have hcz16_5 := bc5 BK457.out; have hfz16_0 := blk_frozen BK457.out 0; have hfz16_1 := blk_frozen BK457.out 1; have hfz16_2 := blk_frozen BK457.out 2; have hfz16_3 := blk_frozen BK457.out 3; have hfz16_4 := blk_frozen BK457.out 4; have hfz16_5 := blk_frozen BK457.out 5) | (go_at_call 95; (with_reducible refine (impl_NameOk.calls k a1_5 t461 _ A9.out).mono ?_); rintro e w17 ⟨rfl, hb⟩; replace BK456 := bk BK456 hb; replace BK457 := bk BK457 hb; replace HB := bs HB hb; (try clear hb); (try clear hb2); (try clear hk); (try clear hi)))
    go_ret
    exact ⟨y0_8, bI HB.out⟩
   replace c8 := Bool.eq_false_iff.mpr c8; subst c8
   rw [if_neg (show ¬ (false = true) by decide)] at H
   obtain rfl := Option.some.inj H
   go_enter Tryz.func72, Tryz.ntmps72
   go_wp2_with (first | ((with_reducible refine gd 2 ?_); refine bA 2 #[.int .i64 a0_0, .int .i64 a0_1] 38 ?_; intro gb456 hg w18 hbox hb; have BK456 := Aside0.mk (hbox); have GW456 := bg hg HB; have GJ456 := gi GW456; have GE456 := GW456; replace HB := bs HB hb; clear hb hbox hg) | ((with_reducible refine gd 3 ?_); refine bA 3 #[.int .i64 a1_0, .int .i64 a1_1, .int .i64 a1_2, .string a1_3, .slice A1_4 l1_4.length c1_4, .string a1_5] 35 ?_; intro gb457 hg w19 hbox hb; have BK457 := Aside0.mk (hbox); have GW457 := bg hg HB; have GJ457 := gi GW457; have GE457 := GW457; replace HB := bs HB hb; have NB456_457 := b1 BK456 hg; have NI456_457 := ni NB456_457; have NB457_456 := b2 BK456 hg; have NI457_456 := ni NB457_456; replace BK456 := bk BK456 hb; clear hb hbox hg; have hnb20 := NB457_456.out; have hnc20 := NB456_457.out; have hcz21_0 := bc0 BK457.out; have hcz21_1 := bc1 BK457.out; have hcz21_2 := bc2 BK457.out; have hcz21_3 := bc3 BK457.out; have hcz21_4 := bc4 BK457.out; have hcz21_5 := bc5 BK457.out; have hfz21_0 := blk_frozen BK457.out 0; have hfz21_1 := blk_frozen BK457.out 1; have hfz21_2 := blk_frozen BK457.out 2; have hfz21_3 := blk_frozen BK457.out 3; have hfz21_4 := blk_frozen BK457.out 4; have hfz21_5 := blk_frozen BK457.out 5) | ((with_reducible refine gate_callee (f := 99) rfl ?_); refine gB (some 7) Tryz.func99 #[.int .i64 a1_0, .int .i64 0, .int .i64 60] ?_; (with_reducible refine (impl_within.calls a1_0 0 60 true _ A3.out).mono ?_); rintro e w' ⟨rfl, ⟨nd, rfl⟩⟩; refine ⟨_, rfl, ?_⟩) | (go_at_call 99; (with_reducible refine (impl_within.calls a1_1 0 60 true _ A5.out).mono ?_); rintro e w' ⟨rfl, ⟨nd, rfl⟩⟩; obtain ⟨hcz22_0, hcz22_1, hfz22_0, hfz22_1⟩ := cs2 BK456) | (go_at_call 48; (with_reducible refine (impl_QcOk.calls k a0_0 a0_1 a1_2 a1_3 _ _ l1_4 false _ ?side1 ?side2 A7.out).mono ?_); (case side1 => exact (Kd.C_below HR1_4.out (bI HB.out))); (case side2 => exact HC1_4.out); rintro e w23 ⟨rfl, hb⟩; replace BK456 := bk BK456 hb; replace BK457 := bk BK457 hb; replace HB := bs HB hb; (try clear hb); (try clear hb2); (try clear hk); (try clear hi)))
   go_ret
   exact ⟨y0_8, bI HB.out⟩
  replace c6 := Bool.eq_false_iff.mpr c6; subst c6
  rw [if_neg (show ¬ (false = true) by decide)] at H
  obtain rfl := Option.some.inj H
  go_enter Tryz.func72, Tryz.ntmps72
  go_wp2_with (first | ((with_reducible refine gd 2 ?_); refine bA 2 #[.int .i64 a0_0, .int .i64 a0_1] 38 ?_; intro gb456 hg w24 hbox hb; have BK456 := Aside0.mk (hbox); have GW456 := bg hg HB; have GJ456 := gi GW456; have GE456 := GW456; replace HB := bs HB hb; clear hb hbox hg) | ((with_reducible refine gd 3 ?_); refine bA 3 #[.int .i64 a1_0, .int .i64 a1_1, .int .i64 a1_2, .string a1_3, .slice A1_4 l1_4.length c1_4, .string a1_5] 35 ?_; intro gb457 hg w25 hbox hb; have BK457 := Aside0.mk (hbox); have GW457 := bg hg HB; have GJ457 := gi GW457; have GE457 := GW457; replace HB := bs HB hb; have NB456_457 := b1 BK456 hg; have NI456_457 := ni NB456_457; have NB457_456 := b2 BK456 hg; have NI457_456 := ni NB457_456; replace BK456 := bk BK456 hb; clear hb hbox hg; have hnb26 := NB457_456.out; have hnc26 := NB456_457.out; have hcz27_0 := bc0 BK457.out; have hcz27_1 := bc1 BK457.out; have hcz27_2 := bc2 BK457.out; have hcz27_3 := bc3 BK457.out; have hcz27_4 := bc4 BK457.out; have hcz27_5 := bc5 BK457.out; have hfz27_0 := blk_frozen BK457.out 0; have hfz27_1 := blk_frozen BK457.out 1; have hfz27_2 := blk_frozen BK457.out 2; have hfz27_3 := blk_frozen BK457.out 3; have hfz27_4 := blk_frozen BK457.out 4; have hfz27_5 := blk_frozen BK457.out 5) | ((with_reducible refine gate_callee (f := 99) rfl ?_); refine gB (some 7) Tryz.func99 #[.int .i64 a1_0, .int .i64 0, .int .i64 60] ?_; (with_reducible refine (impl_within.calls a1_0 0 60 true _ A3.out).mono ?_); rintro e w' ⟨rfl, ⟨nd, rfl⟩⟩; refine ⟨_, rfl, ?_⟩) | (go_at_call 99; (with_reducible refine (impl_within.calls a1_1 0 60 false _ A5.out).mono ?_); rintro e w' ⟨rfl, ⟨nd, rfl⟩⟩))
  go_ret
  exact ⟨y0_8, bI HB.out⟩
 replace c4 := Bool.eq_false_iff.mpr c4; subst c4
 rw [if_neg (show ¬ (false = true) by decide)] at H
 obtain rfl := Option.some.inj H
 go_enter Tryz.func72, Tryz.ntmps72
 go_wp2_with (first | ((with_reducible refine gd 2 ?_); refine bA 2 #[.int .i64 a0_0, .int .i64 a0_1] 38 ?_; intro gb456 hg w28 hbox hb; have BK456 := Aside0.mk (hbox); have GW456 := bg hg HB; have GJ456 := gi GW456; have GE456 := GW456; replace HB := bs HB hb; clear hb hbox hg) | ((with_reducible refine gd 3 ?_); refine bA 3 #[.int .i64 a1_0, .int .i64 a1_1, .int .i64 a1_2, .string a1_3, .slice A1_4 l1_4.length c1_4, .string a1_5] 35 ?_; intro gb457 hg w29 hbox hb; have BK457 := Aside0.mk (hbox); have GW457 := bg hg HB; have GJ457 := gi GW457; have GE457 := GW457; replace HB := bs HB hb; have NB456_457 := b1 BK456 hg; have NI456_457 := ni NB456_457; have NB457_456 := b2 BK456 hg; have NI457_456 := ni NB457_456; replace BK456 := bk BK456 hb; clear hb hbox hg; have hnb30 := NB457_456.out; have hnc30 := NB456_457.out; have hcz31_0 := bc0 BK457.out; have hcz31_1 := bc1 BK457.out; have hcz31_2 := bc2 BK457.out; have hcz31_3 := bc3 BK457.out; have hcz31_4 := bc4 BK457.out; have hcz31_5 := bc5 BK457.out; have hfz31_0 := blk_frozen BK457.out 0; have hfz31_1 := blk_frozen BK457.out 1; have hfz31_2 := blk_frozen BK457.out 2; have hfz31_3 := blk_frozen BK457.out 3; have hfz31_4 := blk_frozen BK457.out 4; have hfz31_5 := blk_frozen BK457.out 5) | ((with_reducible refine gate_callee (f := 99) rfl ?_); refine gB (some 7) Tryz.func99 #[.int .i64 a1_0, .int .i64 0, .int .i64 60] ?_; (with_reducible refine (impl_within.calls a1_0 0 60 false _ A3.out).mono ?_); rintro e w' ⟨rfl, ⟨nd, rfl⟩⟩; refine ⟨_, rfl, ?_⟩))
 go_ret
 exact ⟨y0_8, bI HB.out⟩

/-! ### bytealg_LastIndexByteString: function 131 -/
def bytealg_LastIndexByteString.l0 : Nat → ByteArray → Int → Int → Option (Int)
 | 0, _, _, _ => none
 | k + 1, x0, x1, x5 => if x5 ≥ 0 then (if 0 ≤ x5 then (if x5 < (x0.size : Int) then (if (bt x0 x5) = x1 then (some x5) else (bytealg_LastIndexByteString.l0 k x0 x1 (wrap64 (x5 - 1)))) else (none)) else (none)) else (some (-1))
def bytealg_LastIndexByteString.f (k : Nat) (a0 : ByteArray) (a1 : Int) : Option (Int) := bytealg_LastIndexByteString.l0 k a0 a1 (wrap64 ((a0.size : Int) - 1))
theorem bytealg_LastIndexByteString.mono_l : ∀ k, (∀ y0 y1 y2, LeO (bytealg_LastIndexByteString.l0 k y0 y1 y2) (bytealg_LastIndexByteString.l0 (k + 1) y0 y1 y2))
 | 0 => fun _ _ _ r h => by simp [bytealg_LastIndexByteString.l0] at h
 | k + 1 => by
  have ih0 := bytealg_LastIndexByteString.mono_l k
  intro y0 y1 y2
  unfold bytealg_LastIndexByteString.l0
  repeat' first | (with_reducible exact ih0 _ _ _) | (with_reducible exact LeO.refl _) | (with_reducible exact LeO.none _) | (with_reducible refine LeO.ite ?_ ?_) | (with_reducible refine LeO.bind ?_ (fun _ => ?_))
theorem bytealg_LastIndexByteString.mono : ∀ a0 a1 k, LeO (bytealg_LastIndexByteString.f k a0 a1) (bytealg_LastIndexByteString.f (k + 1) a0 a1) := by
 intro a0 a1 k
 have ih0 := bytealg_LastIndexByteString.mono_l k
 unfold bytealg_LastIndexByteString.f
 repeat' first | (with_reducible exact ih0 _ _ _) | (with_reducible exact LeO.refl _) | (with_reducible exact LeO.none _) | (with_reducible refine LeO.ite ?_ ?_) | (with_reducible refine LeO.bind ?_ (fun _ => ?_))
set_option maxHeartbeats 8000000 in
set_option maxRecDepth 100000 in
theorem bytealg_LastIndexByteString.calls (k : Nat) (a0 : ByteArray) (a1 : Int) (r : Int) (w : World) (h : bytealg_LastIndexByteString.f k a0 a1 = some r) :
  Calls Tryz.prog 131 #[.string a0, .int .u8 a1] w fun e w' => e = .returned (.int .i64 r) ∧ Drawn0 w w' := by
 have H : (bytealg_LastIndexByteString.l0 k a0 a1 (wrap64 ((a0.size : Int) - 1))) = some r := h; clear h; have H' := Aside0.mk H; clear H
 go_enter Tryz.func131, Tryz.ntmps131
 go_wp2
 go_loopg [5] k (fun kq v5 w' => ∃ (x5_1 : Int), v5 = .int .i64 x5_1 ∧ Aside0 (bytealg_LastIndexByteString.l0 kq a0 a1 x5_1 = some r) ∧ Aside0 (kq ≤ k) ∧ Drawn0 w w')
 case atStart => exact ⟨(wrap64 ((a0.size : Int) - 1)), y0_11, H', ⟨Nat.le_refl _⟩, y0_9⟩
 case round =>
  clear H'
  try clear c1
  try clear p2
  obtain ⟨x5_1, rfl, HA, HK1, ⟨m1, rfl⟩⟩ := hrel; cases gk with
  | zero => exact absurd HA.out (by simp [bytealg_LastIndexByteString.l0])
  | succ k1 =>
   have H := HA.out; clear HA
   simp only [bytealg_LastIndexByteString.l0] at H
   by_cases c3 : x5_1 ≥ 0
   ·
    rw [if_pos c3] at H
    have c3b0 : decide (0 ≤ x5_1) = true := decide_eq_true c3; clear c3
    by_cases c4 : 0 ≤ x5_1
    rotate_left
    ·
     rw [if_neg c4] at H
     exact absurd H (by simp)
    rw [if_pos c4] at H
    have c4b0 : decide (0 ≤ x5_1) = true := decide_eq_true c4; clear c4
    by_cases c5 : x5_1 < (a0.size : Int)
    rotate_left
    ·
     rw [if_neg c5] at H
     exact absurd H (by simp)
    rw [if_pos c5] at H
    have c5b0 : decide (x5_1 < (a0.size : Int)) = true := decide_eq_true c5; clear c5
    by_cases c7 : (bt a0 x5_1) = a1
    ·
     rw [if_pos c7] at H
     have c7b0 : ((bt a0 x5_1) == a1) = true := beq_iff_eq.mpr c7; have c7b1 : ((bt a0 x5_1) != a1) = false := bne_eq_false_iff_eq.mpr c7; clear c7; obtain rfl := Option.some.inj H; have p6 : 0 ≤ (x5_1 : Int) := of_decide_eq_true y0_10; have q6 : x5_1 < (a0.size : Int) := of_decide_eq_true y0_10; have hx6 := bt_at a0 x5_1; replace p6 := eq_true p6; replace q6 := eq_true q6
     go_wp2
     go_ret
     exact ⟨y0_11, y0_9⟩
    rw [if_neg c7] at H
    have c7b0 : ((bt a0 x5_1) == a1) = false := beq_eq_false_iff_ne.mpr c7; have c7b1 : ((bt a0 x5_1) != a1) = true := bne_iff_ne.mpr c7; have H' := Aside0.mk H; clear H; have p6 : 0 ≤ (x5_1 : Int) := of_decide_eq_true y0_10; have q6 : x5_1 < (a0.size : Int) := of_decide_eq_true y0_10; have hx6 := bt_at a0 x5_1; replace p6 := eq_true p6; replace q6 := eq_true q6
    go_wp2
    go_roundg k1
    case measure => have := HK1.out; omega
    case rel => exact ⟨(wrap64 (x5_1 - 1)), y0_11, H', ⟨y0_15⟩, y0_9⟩
   rw [if_neg c3] at H
   have c3b0 : decide (0 ≤ x5_1) = false := decide_eq_false c3; clear c3; obtain rfl := Option.some.inj H
   go_wp2
   go_ret
   exact ⟨y0_11, y0_9⟩

/-! ### strings_LastIndexByte: function 105 -/
def strings_LastIndexByte.f (k : Nat) (a0 : ByteArray) (a1 : Int) : Option (Int) := (bytealg_LastIndexByteString.f k a0 a1).bind fun t462 => (some t462)
theorem strings_LastIndexByte.mono : ∀ a0 a1 k, LeO (strings_LastIndexByte.f k a0 a1) (strings_LastIndexByte.f (k + 1) a0 a1) := by
 intro a0 a1 k
 unfold strings_LastIndexByte.f
 repeat' first | (with_reducible exact bytealg_LastIndexByteString.mono _ _ _) | (with_reducible exact LeO.refl _) | (with_reducible exact LeO.none _) | (with_reducible refine LeO.ite ?_ ?_) | (with_reducible refine LeO.bind ?_ (fun _ => ?_))
set_option maxHeartbeats 8000000 in
set_option maxRecDepth 100000 in
theorem strings_LastIndexByte.calls (k : Nat) (a0 : ByteArray) (a1 : Int) (r : Int) (w : World) (h : strings_LastIndexByte.f k a0 a1 = some r) :
  Calls Tryz.prog 105 #[.string a0, .int .u8 a1] w fun e w' => e = .returned (.int .i64 r) ∧ Drawn0 w w' := by
 have H : ((bytealg_LastIndexByteString.f k a0 a1).bind fun t462 => (some t462)) = some r := h
 clear h; obtain ⟨t462, A30, H⟩ := Option.bind_eq_some_iff.mp H
 try dsimp only at H
 have A3 := Aside0.mk A30; clear A30; obtain rfl := Option.some.inj H
 go_enter Tryz.func105, Tryz.ntmps105
 go_wp2_with (first | ((with_reducible refine gate_callee (f := 131) rfl ?_); refine gB (some 7) Tryz.func131 #[.string a0, .int .u8 a1] ?_; (with_reducible refine (bytealg_LastIndexByteString.calls k a0 a1 t462 _ A3.out).mono ?_); rintro e w' ⟨rfl, ⟨nd, rfl⟩⟩; refine ⟨_, rfl, ?_⟩))
 go_ret
 exact ⟨y0_11, y0_9⟩

/-! ### impl_UpOf: function 73 -/
def impl_UpOf.f (k : Nat) (a0 : ByteArray) : Option (ByteArray) := (impl_NameOk.f k a0).bind fun t463 => (if t463 = true then (if a0.toList = ([] : List UInt8) then (some (⟨#[]⟩ : ByteArray)) else ((strings_LastIndexByte.f k a0 47).bind fun t464 => (if 0 ≤ t464 then (if t464 ≤ (a0.size : Int) then (some (a0.extract 0 (t464 : Int).toNat)) else (none)) else (none)))) else (some (⟨#[]⟩ : ByteArray)))
theorem impl_UpOf.mono : ∀ a0 k, LeO (impl_UpOf.f k a0) (impl_UpOf.f (k + 1) a0) := by
 intro a0 k
 unfold impl_UpOf.f
 repeat' first | (with_reducible exact impl_NameOk.mono _ _) | (with_reducible exact strings_LastIndexByte.mono _ _ _) | (with_reducible exact LeO.refl _) | (with_reducible exact LeO.none _) | (with_reducible refine LeO.ite ?_ ?_) | (with_reducible refine LeO.bind ?_ (fun _ => ?_))
set_option maxHeartbeats 8000000 in
set_option maxRecDepth 100000 in
theorem impl_UpOf.calls (k : Nat) (a0 : ByteArray) (r : ByteArray) (w : World) (h : impl_UpOf.f k a0 = some r) (hG : Glob w := by exact gG HG HB) :
  Calls Tryz.prog 73 #[.string a0] w fun e w' => e = .returned (.string r) ∧ Below w.heap.size w w' := by
 have HG := Aside0.mk hG; clear hG; have HB := Aside0.mk (Below.refl w.heap.size w)
 have H : ((impl_NameOk.f k a0).bind fun t463 => (if t463 = true then (if a0.toList = ([] : List UInt8) then (some (⟨#[]⟩ : ByteArray)) else ((strings_LastIndexByte.f k a0 47).bind fun t464 => (if 0 ≤ t464 then (if t464 ≤ (a0.size : Int) then (some (a0.extract 0 (t464 : Int).toNat)) else (none)) else (none)))) else (some (⟨#[]⟩ : ByteArray)))) = some r := h
 clear h; obtain ⟨t463, A20, H⟩ := Option.bind_eq_some_iff.mp H
 try dsimp only at H
 have A2 := Aside0.mk A20; clear A20
 by_cases c3 : t463 = true
 ·
  subst c3
  rw [if_pos rfl] at H
  by_cases c4 : a0.toList = ([] : List UInt8)
  ·
   rw [if_pos c4] at H
   have c4b0 : (a0.toList == ([] : List UInt8)) = true := beq_iff_eq.mpr c4; have c4b1 : (a0.toList != ([] : List UInt8)) = false := bne_eq_false_iff_eq.mpr c4; clear c4; obtain rfl := Option.some.inj H
   go_enter Tryz.func73, Tryz.ntmps73
   go_wp2_with (first | ((with_reducible refine gate_callee (f := 95) rfl ?_); refine gB (some 4) Tryz.func95 #[.string a0] ?_; (with_reducible refine (impl_NameOk.calls k a0 true _ A2.out).mono ?_); rintro e w5 ⟨rfl, hb⟩; refine ⟨_, rfl, ?_⟩; replace HB := bs HB hb; (try clear hb); (try clear hb2); (try clear hk); (try clear hi)))
   go_ret
   exact ⟨y0_8, bI HB.out⟩
  rw [if_neg c4] at H
  have c4b0 : (a0.toList == ([] : List UInt8)) = false := beq_eq_false_iff_ne.mpr c4; have c4b1 : (a0.toList != ([] : List UInt8)) = true := bne_iff_ne.mpr c4; obtain ⟨t464, A60, H⟩ := Option.bind_eq_some_iff.mp H
  try dsimp only at H
  have A6 := Aside0.mk A60; clear A60
  by_cases c7 : 0 ≤ t464
  rotate_left
  ·
   rw [if_neg c7] at H
   exact absurd H (by simp)
  rw [if_pos c7] at H
  have c7b0 := eq_true c7; have c7b1 : decide (0 ≤ t464) = true := decide_eq_true c7; clear c7
  by_cases c8 : t464 ≤ (a0.size : Int)
  rotate_left
  ·
   rw [if_neg c8] at H
   exact absurd H (by simp)
  rw [if_pos c8] at H
  have c8b0 := eq_true c8; have c8b1 : decide (t464 ≤ (a0.size : Int)) = true := decide_eq_true c8; clear c8; obtain rfl := Option.some.inj H
  go_enter Tryz.func73, Tryz.ntmps73
  go_wp2_with (first | ((with_reducible refine gate_callee (f := 95) rfl ?_); refine gB (some 4) Tryz.func95 #[.string a0] ?_; (with_reducible refine (impl_NameOk.calls k a0 true _ A2.out).mono ?_); rintro e w9 ⟨rfl, hb⟩; refine ⟨_, rfl, ?_⟩; replace HB := bs HB hb; (try clear hb); (try clear hb2); (try clear hk); (try clear hi)) | ((with_reducible refine gate_callee (f := 105) rfl ?_); refine gB (some 12) Tryz.func105 #[.string a0, .int .u8 47] ?_; (with_reducible refine (strings_LastIndexByte.calls k a0 47 t464 _ A6.out).mono ?_); rintro e w' ⟨rfl, ⟨nd, rfl⟩⟩; refine ⟨_, rfl, ?_⟩))
  go_ret
  exact ⟨y0_8, bI HB.out⟩
 replace c3 := Bool.eq_false_iff.mpr c3; subst c3
 rw [if_neg (show ¬ (false = true) by decide)] at H
 obtain rfl := Option.some.inj H
 go_enter Tryz.func73, Tryz.ntmps73
 go_wp2_with (first | ((with_reducible refine gate_callee (f := 95) rfl ?_); refine gB (some 4) Tryz.func95 #[.string a0] ?_; (with_reducible refine (impl_NameOk.calls k a0 false _ A2.out).mono ?_); rintro e w10 ⟨rfl, hb⟩; refine ⟨_, rfl, ?_⟩; replace HB := bs HB hb; (try clear hb); (try clear hb2); (try clear hk); (try clear hi)))
 go_ret
 exact ⟨y0_8, bI HB.out⟩

/-! ### impl_Settles: function 74 -/
def impl_Settles.j0 : Nat → ByteArray → Bool → Option (ByteArray × Bool)
 | 0, _, _ => none
 | k + 1, x0, x47 => if x47 = true then (some ((⟨#[]⟩ : ByteArray), false)) else ((impl_UpOf.f k x0).bind fun t473 => ((impl_UpOf.f k t473).bind fun t474 => (some (t474, true))))
def impl_Settles.f (k : Nat) (a0 : ByteArray) : Option (ByteArray × Bool) := (impl_Steps.f k a0).bind fun bt465 => (if (bt465.1.length : Int) < 3 then (impl_Settles.j0 k a0 true) else (if 0 ≤ (wrap64 ((bt465.1.length : Int) - 1)) then (if (wrap64 ((bt465.1.length : Int) - 1)) < (bt465.1.length : Int) then (if 0 ≤ (wrap64 ((bt465.1.length : Int) - 2)) then (if (wrap64 ((bt465.1.length : Int) - 2)) < (bt465.1.length : Int) then (if ((rd_T112 bt465.1 (wrap64 ((bt465.1.length : Int) - 1))).f0) = (wrap64 (((rd_T112 bt465.1 (wrap64 ((bt465.1.length : Int) - 2))).f0) + 1)) then (if 0 ≤ (wrap64 ((bt465.1.length : Int) - 3)) then (if (wrap64 ((bt465.1.length : Int) - 3)) < (bt465.1.length : Int) then (impl_Settles.j0 k a0 (((rd_T112 bt465.1 (wrap64 ((bt465.1.length : Int) - 2))).f0) != (wrap64 (((rd_T112 bt465.1 (wrap64 ((bt465.1.length : Int) - 3))).f0) + 1)))) else (none)) else (none)) else (impl_Settles.j0 k a0 true)) else (none)) else (none)) else (none)) else (none)))
theorem impl_Settles.mono_l : ∀ k, (∀ y0 y1, LeO (impl_Settles.j0 k y0 y1) (impl_Settles.j0 (k + 1) y0 y1))
 | 0 => fun _ _ r h => by simp [impl_Settles.j0] at h
 | k + 1 => by
  have ih0 := impl_Settles.mono_l k
  intro y0 y1
  unfold impl_Settles.j0
  repeat' first | (with_reducible exact ih0 _ _) | (with_reducible exact impl_Steps.mono _ _) | (with_reducible exact impl_UpOf.mono _ _) | (with_reducible exact LeO.refl _) | (with_reducible exact LeO.none _) | (with_reducible refine LeO.ite ?_ ?_) | (with_reducible refine LeO.bind ?_ (fun _ => ?_))
theorem impl_Settles.mono : ∀ a0 k, LeO (impl_Settles.f k a0) (impl_Settles.f (k + 1) a0) := by
 intro a0 k
 have ih0 := impl_Settles.mono_l k
 unfold impl_Settles.f
 repeat' first | (with_reducible exact ih0 _ _) | (with_reducible exact impl_Steps.mono _ _) | (with_reducible exact impl_UpOf.mono _ _) | (with_reducible exact LeO.refl _) | (with_reducible exact LeO.none _) | (with_reducible refine LeO.ite ?_ ?_) | (with_reducible refine LeO.bind ?_ (fun _ => ?_))
set_option maxHeartbeats 8000000 in
set_option maxRecDepth 100000 in
theorem impl_Settles.calls (k : Nat) (a0 : ByteArray) (r1 : ByteArray) (r2 : Bool) (w : World) (h : impl_Settles.f k a0 = some (r1, r2)) (hG : Glob w := by exact gG HG HB) :
  Calls Tryz.prog 74 #[.string a0] w fun e w' => e = .returned (.tuple #[.string r1, .bool r2]) ∧ Below w.heap.size w w' := by
 have HG := Aside0.mk hG; clear hG; have HB := Aside0.mk (Below.refl w.heap.size w)
 have H : ((impl_Steps.f k a0).bind fun bt465 => (if (bt465.1.length : Int) < 3 then (impl_Settles.j0 k a0 true) else (if 0 ≤ (wrap64 ((bt465.1.length : Int) - 1)) then (if (wrap64 ((bt465.1.length : Int) - 1)) < (bt465.1.length : Int) then (if 0 ≤ (wrap64 ((bt465.1.length : Int) - 2)) then (if (wrap64 ((bt465.1.length : Int) - 2)) < (bt465.1.length : Int) then (if ((rd_T112 bt465.1 (wrap64 ((bt465.1.length : Int) - 1))).f0) = (wrap64 (((rd_T112 bt465.1 (wrap64 ((bt465.1.length : Int) - 2))).f0) + 1)) then (if 0 ≤ (wrap64 ((bt465.1.length : Int) - 3)) then (if (wrap64 ((bt465.1.length : Int) - 3)) < (bt465.1.length : Int) then (impl_Settles.j0 k a0 (((rd_T112 bt465.1 (wrap64 ((bt465.1.length : Int) - 2))).f0) != (wrap64 (((rd_T112 bt465.1 (wrap64 ((bt465.1.length : Int) - 3))).f0) + 1)))) else (none)) else (none)) else (impl_Settles.j0 k a0 true)) else (none)) else (none)) else (none)) else (none)))) = some (r1, r2) := h
 clear h; obtain ⟨⟨t465, t466⟩, A20, H⟩ := Option.bind_eq_some_iff.mp H
 try dsimp only at H
 have A2 := Aside0.mk A20; clear A20; have HC3 := Aside0.mk H; clear H
 go_enter Tryz.func74, Tryz.ntmps74
 go_upto_region 3 with (first | (go_at_call 90; (with_reducible refine (impl_Steps.calls k a0 t465 t466 _ A2.out).mono ?_); rintro e w4 ⟨v467, rfl, ho0, hb⟩; have HO468 := Aside0.mk (Kd.S_lower ho0 (below_size (bI HB.out))); replace HB := bs HB hb; (try clear hb); (try clear ho0); obtain ⟨Ao5, co5, eo5⟩ := Kd.S_slice HO468.out; subst eo5))
 repeat (go_quiet (first | (go_at_call 90; (with_reducible refine (impl_Steps.calls k a0 t465 t466 _ A2.out).mono ?_); rintro e w4 ⟨v467, rfl, ho0, hb⟩; have HO468 := Aside0.mk (Kd.S_lower ho0 (below_size (bI HB.out))); replace HB := bs HB hb; (try clear hb); (try clear ho0); obtain ⟨Ao5, co5, eo5⟩ := Kd.S_slice HO468.out; subst eo5)); go_upto_region 3 with (first | (go_at_call 90; (with_reducible refine (impl_Steps.calls k a0 t465 t466 _ A2.out).mono ?_); rintro e w4 ⟨v467, rfl, ho0, hb⟩; have HO468 := Aside0.mk (Kd.S_lower ho0 (below_size (bI HB.out))); replace HB := bs HB hb; (try clear hb); (try clear ho0); obtain ⟨Ao5, co5, eo5⟩ := Kd.S_slice HO468.out; subst eo5)))
 (try simp only [Act.put, List.setIfInBounds_toArray, List.set_cons_zero, List.set_cons_succ])
 go_cut [47] (fun v47 wc => ∃ (kq : Nat) (x47_2 : Bool), v47 = .bool x47_2 ∧ Aside0 (impl_Settles.j0 kq a0 x47_2 = some (r1, r2)) ∧ Aside0 (kq ≤ k) ∧ Aside0 (Below w.heap.size w wc))
 case first =>
  have H := HC3.out; clear HC3
  by_cases c6 : (t465.length : Int) < 3
  ·
   rw [if_pos c6] at H
   have c6b0 : decide ((t465.length : Int) < 3) = true := decide_eq_true c6
   have c6b1 : decide (t465.length < 3) = true := decide_eq_true (by omega)
   clear c6
   (first | rw [c6b0] | (simp only [i64_w, i32_w]; rw [c6b0]) | skip)
   have H' := Aside0.mk H; clear H
   go_wp2
   repeat (go_quiet (fail); try go_wp2)
   go_meet
   case rel => exact ⟨_, (true), y0_11, H', ⟨y0_12⟩, ⟨bI HB.out⟩⟩
  rw [if_neg c6] at H
  have c6b0 : decide ((t465.length : Int) < 3) = false := decide_eq_false c6
  have c6b1 : decide (t465.length < 3) = false := decide_eq_false (by omega)
  clear c6
  (first | rw [c6b0] | (simp only [i64_w, i32_w]; rw [c6b0]) | skip)
  obtain ⟨ji7, hji7⟩ : ∃ j_ : Int, (wrap64 ((t465.length : Int) - 1)) = j_ := ⟨_, rfl⟩
  replace H : (if 0 ≤ (ji7) then (if (ji7) < (t465.length : Int) then (if 0 ≤ (wrap64 ((t465.length : Int) - 2)) then (if (wrap64 ((t465.length : Int) - 2)) < (t465.length : Int) then (if ((rd_T112 t465 (ji7)).f0) = (wrap64 (((rd_T112 t465 (wrap64 ((t465.length : Int) - 2))).f0) + 1)) then (if 0 ≤ (wrap64 ((t465.length : Int) - 3)) then (if (wrap64 ((t465.length : Int) - 3)) < (t465.length : Int) then (impl_Settles.j0 k a0 (((rd_T112 t465 (wrap64 ((t465.length : Int) - 2))).f0) != (wrap64 (((rd_T112 t465 (wrap64 ((t465.length : Int) - 3))).f0) + 1)))) else (none)) else (none)) else (impl_Settles.j0 k a0 true)) else (none)) else (none)) else (none)) else (none)) = some (r1, r2) := by first | (rw [hji7] at H; exact H) | (simp only [hji7] at H ⊢; exact H)
  have hji7w : (IntKind.i64.wrap ((t465.length : Int) - 1)) = ji7 := (i64_w _).trans hji7
  by_cases c8 : 0 ≤ (ji7)
  rotate_left
  ·
   rw [if_neg c8] at H
   exact absurd H (by simp)
  rw [if_pos c8] at H
  have c8b0 : decide (0 ≤ (ji7)) = true := decide_eq_true c8; clear c8
  by_cases c9 : (ji7) < (t465.length : Int)
  rotate_left
  ·
   rw [if_neg c9] at H
   exact absurd H (by simp)
  rw [if_pos c9] at H
  have c9b0 : decide ((ji7) < (t465.length : Int)) = true := decide_eq_true c9; clear c9; obtain ⟨ji10, hji10⟩ : ∃ j_ : Int, (wrap64 ((t465.length : Int) - 2)) = j_ := ⟨_, rfl⟩
  replace H : (if 0 ≤ (ji10) then (if (ji10) < (t465.length : Int) then (if ((rd_T112 t465 (ji7)).f0) = (wrap64 (((rd_T112 t465 (ji10)).f0) + 1)) then (if 0 ≤ (wrap64 ((t465.length : Int) - 3)) then (if (wrap64 ((t465.length : Int) - 3)) < (t465.length : Int) then (impl_Settles.j0 k a0 (((rd_T112 t465 (ji10)).f0) != (wrap64 (((rd_T112 t465 (wrap64 ((t465.length : Int) - 3))).f0) + 1)))) else (none)) else (none)) else (impl_Settles.j0 k a0 true)) else (none)) else (none)) = some (r1, r2) := by first | (rw [hji10] at H; exact H) | (simp only [hji10] at H ⊢; exact H)
  have hji10w : (IntKind.i64.wrap ((t465.length : Int) - 2)) = ji10 := (i64_w _).trans hji10
  by_cases c11 : 0 ≤ (ji10)
  rotate_left
  ·
   rw [if_neg c11] at H
   exact absurd H (by simp)
  rw [if_pos c11] at H
  have c11b0 : decide (0 ≤ (ji10)) = true := decide_eq_true c11; clear c11
  by_cases c12 : (ji10) < (t465.length : Int)
  rotate_left
  ·
   rw [if_neg c12] at H
   exact absurd H (by simp)
  rw [if_pos c12] at H
  have c12b0 : decide ((ji10) < (t465.length : Int)) = true := decide_eq_true c12; clear c12
  by_cases c13 : ((rd_T112 t465 (ji7)).f0) = (wrap64 (((rd_T112 t465 (ji10)).f0) + 1))
  ·
   rw [if_pos c13] at H
   have c13b0 : (((rd_T112 t465 (ji7)).f0) == (wrap64 (((rd_T112 t465 (ji10)).f0) + 1))) = true := beq_iff_eq.mpr c13; have c13b1 : (((rd_T112 t465 (ji7)).f0) != (wrap64 (((rd_T112 t465 (ji10)).f0) + 1))) = false := bne_eq_false_iff_eq.mpr c13; clear c13; obtain ⟨ji14, hji14⟩ : ∃ j_ : Int, (wrap64 ((t465.length : Int) - 3)) = j_ := ⟨_, rfl⟩
   replace H : (if 0 ≤ (ji14) then (if (ji14) < (t465.length : Int) then (impl_Settles.j0 k a0 (((rd_T112 t465 (ji10)).f0) != (wrap64 (((rd_T112 t465 (ji14)).f0) + 1)))) else (none)) else (none)) = some (r1, r2) := by first | (rw [hji14] at H; exact H) | (simp only [hji14] at H ⊢; exact H)
   have hji14w : (IntKind.i64.wrap ((t465.length : Int) - 3)) = ji14 := (i64_w _).trans hji14
   by_cases c15 : 0 ≤ (ji14)
   rotate_left
   ·
    rw [if_neg c15] at H
    exact absurd H (by simp)
   rw [if_pos c15] at H
   have c15b0 : decide (0 ≤ (ji14)) = true := decide_eq_true c15; clear c15
   by_cases c16 : (ji14) < (t465.length : Int)
   rotate_left
   ·
    rw [if_neg c16] at H
    exact absurd H (by simp)
   rw [if_pos c16] at H
   have c16b0 : decide ((ji14) < (t465.length : Int)) = true := decide_eq_true c16; clear c16; have H' := Aside0.mk H; clear H; have p469 : 0 ≤ ((ji7) : Int) := of_decide_eq_true y0_10; have q469 : (ji7) < (t465.length : Int) := of_decide_eq_true y0_10; obtain ⟨ad469, A469_1, c469_1, e469, hx469_0, hx469_1, hl469_1, hi469_1⟩ := at_T112 (Kd.S_reads' HO468.out).2.2 (ji7) p469 q469; cases e469
   obtain ⟨ce469, hce469, hMe469, hcc469⟩ := Kd.S_get HO468.out z112 (ji7) p469 (by first | exact q469 | exact of_decide_eq_true y0_10 | (have e_ := (Kd.S_reads' HO468.out).1; omega))
   obtain ⟨ve469_1, rfl, ge469_1⟩ := k112_openM hMe469; have hv469_1 := hcc469 1 _ rfl
   rw [add_field _ _ 1 (by omega)] at hv469_1
   replace hv469_1 := Option.some.inj (hv469_1.symm.trans hx469_1)
   rw [hv469_1] at ge469_1
   have HL469_1 := Aside0.mk (show Kd.R k99 99 _ _ _ _ ((rd_T112 t465 (ji7)).f1) from ge469_1)
   clear hv469_1 ge469_1; clear hcc469 hce469; have HR469_1 := Aside0.mk hi469_1; have HC469_1 := Aside0.mk hl469_1; clear hi469_1 hl469_1; replace p469 := eq_true p469; replace q469 := eq_true q469; have p470 : 0 ≤ ((ji10) : Int) := of_decide_eq_true y0_10; have q470 : (ji10) < (t465.length : Int) := of_decide_eq_true y0_10; obtain ⟨ad470, A470_1, c470_1, e470, hx470_0, hx470_1, hl470_1, hi470_1⟩ := at_T112 (Kd.S_reads' HO468.out).2.2 (ji10) p470 q470
   obtain rfl : ad469 = ad470 := (by injection e470)
   obtain ⟨ce470, hce470, hMe470, hcc470⟩ := Kd.S_get HO468.out z112 (ji10) p470 (by first | exact q470 | exact of_decide_eq_true y0_10 | (have e_ := (Kd.S_reads' HO468.out).1; omega))
   obtain ⟨ve470_1, rfl, ge470_1⟩ := k112_openM hMe470; have hv470_1 := hcc470 1 _ rfl
   rw [add_field _ _ 1 (by omega)] at hv470_1
   replace hv470_1 := Option.some.inj (hv470_1.symm.trans hx470_1)
   rw [hv470_1] at ge470_1
   have HL470_1 := Aside0.mk (show Kd.R k99 99 _ _ _ _ ((rd_T112 t465 (ji10)).f1) from ge470_1)
   clear hv470_1 ge470_1; clear hcc470 hce470; have HR470_1 := Aside0.mk hi470_1; have HC470_1 := Aside0.mk hl470_1; clear hi470_1 hl470_1; replace p470 := eq_true p470; replace q470 := eq_true q470; have p471 : 0 ≤ ((ji10) : Int) := of_decide_eq_true y0_10; have q471 : (ji10) < (t465.length : Int) := of_decide_eq_true y0_10; obtain ⟨ad471, A471_1, c471_1, e471, hx471_0, hx471_1, hl471_1, hi471_1⟩ := at_T112 (Kd.S_reads' HO468.out).2.2 (ji10) p471 q471
   obtain rfl : ad469 = ad471 := (by injection e471)
   obtain ⟨ce471, hce471, hMe471, hcc471⟩ := Kd.S_get HO468.out z112 (ji10) p471 (by first | exact q471 | exact of_decide_eq_true y0_10 | (have e_ := (Kd.S_reads' HO468.out).1; omega))
   obtain ⟨ve471_1, rfl, ge471_1⟩ := k112_openM hMe471; have hv471_1 := hcc471 1 _ rfl
   rw [add_field _ _ 1 (by omega)] at hv471_1
   replace hv471_1 := Option.some.inj (hv471_1.symm.trans hx471_1)
   rw [hv471_1] at ge471_1
   have HL471_1 := Aside0.mk (show Kd.R k99 99 _ _ _ _ ((rd_T112 t465 (ji10)).f1) from ge471_1)
   clear hv471_1 ge471_1; clear hcc471 hce471; have HR471_1 := Aside0.mk hi471_1; have HC471_1 := Aside0.mk hl471_1; clear hi471_1 hl471_1; replace p471 := eq_true p471; replace q471 := eq_true q471; have ea_ := Option.some.inj (hx470_1.symm.trans hx471_1)
   injection ea_ with ea_ en_ ec_
   subst ea_; subst ec_; clear en_; have p472 : 0 ≤ ((ji14) : Int) := of_decide_eq_true y0_10; have q472 : (ji14) < (t465.length : Int) := of_decide_eq_true y0_10; obtain ⟨ad472, A472_1, c472_1, e472, hx472_0, hx472_1, hl472_1, hi472_1⟩ := at_T112 (Kd.S_reads' HO468.out).2.2 (ji14) p472 q472
   obtain rfl : ad469 = ad472 := (by injection e472)
   obtain ⟨ce472, hce472, hMe472, hcc472⟩ := Kd.S_get HO468.out z112 (ji14) p472 (by first | exact q472 | exact of_decide_eq_true y0_10 | (have e_ := (Kd.S_reads' HO468.out).1; omega))
   obtain ⟨ve472_1, rfl, ge472_1⟩ := k112_openM hMe472; have hv472_1 := hcc472 1 _ rfl
   rw [add_field _ _ 1 (by omega)] at hv472_1
   replace hv472_1 := Option.some.inj (hv472_1.symm.trans hx472_1)
   rw [hv472_1] at ge472_1
   have HL472_1 := Aside0.mk (show Kd.R k99 99 _ _ _ _ ((rd_T112 t465 (ji14)).f1) from ge472_1)
   clear hv472_1 ge472_1; clear hcc472 hce472; have HR472_1 := Aside0.mk hi472_1; have HC472_1 := Aside0.mk hl472_1; clear hi472_1 hl472_1; replace p472 := eq_true p472; replace q472 := eq_true q472
   go_wp2
   repeat (go_quiet (fail); try go_wp2)
   go_meet
   case rel => exact ⟨_, ((((rd_T112 t465 (ji10)).f0) != (wrap64 (((rd_T112 t465 (ji14)).f0) + 1)))), (by first | rfl | (simp; done) | (simp only [← hji10, ← hji14] <;> (first | rfl | simp)) | (simp [*]; done)), H', ⟨y0_12⟩, ⟨bI HB.out⟩⟩
  rw [if_neg c13] at H
  have c13b0 : (((rd_T112 t465 (ji7)).f0) == (wrap64 (((rd_T112 t465 (ji10)).f0) + 1))) = false := beq_eq_false_iff_ne.mpr c13; have c13b1 : (((rd_T112 t465 (ji7)).f0) != (wrap64 (((rd_T112 t465 (ji10)).f0) + 1))) = true := bne_iff_ne.mpr c13; have H' := Aside0.mk H; clear H; have p469 : 0 ≤ ((ji7) : Int) := of_decide_eq_true y0_10; have q469 : (ji7) < (t465.length : Int) := of_decide_eq_true y0_10; obtain ⟨ad469, A469_1, c469_1, e469, hx469_0, hx469_1, hl469_1, hi469_1⟩ := at_T112 (Kd.S_reads' HO468.out).2.2 (ji7) p469 q469; cases e469
  obtain ⟨ce469, hce469, hMe469, hcc469⟩ := Kd.S_get HO468.out z112 (ji7) p469 (by first | exact q469 | exact of_decide_eq_true y0_10 | (have e_ := (Kd.S_reads' HO468.out).1; omega))
  obtain ⟨ve469_1, rfl, ge469_1⟩ := k112_openM hMe469; have hv469_1 := hcc469 1 _ rfl
  rw [add_field _ _ 1 (by omega)] at hv469_1
  replace hv469_1 := Option.some.inj (hv469_1.symm.trans hx469_1)
  rw [hv469_1] at ge469_1
  have HL469_1 := Aside0.mk (show Kd.R k99 99 _ _ _ _ ((rd_T112 t465 (ji7)).f1) from ge469_1)
  clear hv469_1 ge469_1; clear hcc469 hce469; have HR469_1 := Aside0.mk hi469_1; have HC469_1 := Aside0.mk hl469_1; clear hi469_1 hl469_1; replace p469 := eq_true p469; replace q469 := eq_true q469; have p470 : 0 ≤ ((ji10) : Int) := of_decide_eq_true y0_10; have q470 : (ji10) < (t465.length : Int) := of_decide_eq_true y0_10; obtain ⟨ad470, A470_1, c470_1, e470, hx470_0, hx470_1, hl470_1, hi470_1⟩ := at_T112 (Kd.S_reads' HO468.out).2.2 (ji10) p470 q470
  obtain rfl : ad469 = ad470 := (by injection e470)
  obtain ⟨ce470, hce470, hMe470, hcc470⟩ := Kd.S_get HO468.out z112 (ji10) p470 (by first | exact q470 | exact of_decide_eq_true y0_10 | (have e_ := (Kd.S_reads' HO468.out).1; omega))
  obtain ⟨ve470_1, rfl, ge470_1⟩ := k112_openM hMe470; have hv470_1 := hcc470 1 _ rfl
  rw [add_field _ _ 1 (by omega)] at hv470_1
  replace hv470_1 := Option.some.inj (hv470_1.symm.trans hx470_1)
  rw [hv470_1] at ge470_1
  have HL470_1 := Aside0.mk (show Kd.R k99 99 _ _ _ _ ((rd_T112 t465 (ji10)).f1) from ge470_1)
  clear hv470_1 ge470_1; clear hcc470 hce470; have HR470_1 := Aside0.mk hi470_1; have HC470_1 := Aside0.mk hl470_1; clear hi470_1 hl470_1; replace p470 := eq_true p470; replace q470 := eq_true q470
  go_wp2
  repeat (go_quiet (fail); try go_wp2)
  go_meet
  case rel => exact ⟨_, (true), y0_11, H', ⟨y0_12⟩, ⟨bI HB.out⟩⟩
 case rest =>
  clear HC3
  try clear c1
  try clear p2
  try clear c4
  try clear p4
  try clear q4
  try clear hx4
  try clear c6
  try clear c6b0
  try clear c6b1
  try clear p6
  try clear c7
  try clear c8
  try clear c8b0
  try clear c9
  try clear c9b0
  try clear c11
  try clear c11b0
  try clear c12
  try clear c12b0
  try clear c13
  try clear c13b0
  try clear c13b1
  try clear c15
  try clear c15b0
  try clear c16
  try clear c16b0
  try clear hx469_0
  try clear hx469_1
  try clear hx470_0
  try clear hx470_1
  try clear hx471_0
  try clear hx471_1
  try clear hx472_0
  try clear hx472_1
  try clear p469
  try clear p470
  try clear p471
  try clear p472
  try clear q469
  try clear q470
  try clear q471
  try clear q472
  obtain ⟨kq, x47_2, rfl, HA, HJ2, HB⟩ := hcut; cases kq with
  | zero => exact absurd HA.out (by simp [impl_Settles.j0])
  | succ kj2 =>
   have H := HA.out; clear HA
   simp only [impl_Settles.j0] at H
   by_cases c17 : x47_2 = true
   ·
    subst c17
    rw [if_pos rfl] at H
    simp only [Option.some.injEq, Prod.mk.injEq] at H
    obtain ⟨rfl, rfl⟩ := H
    go_wp2
    repeat (go_quiet (fail); try go_wp2)
    go_ret2
    exact ⟨y0_8, bI HB.out⟩
   replace c17 := Bool.eq_false_iff.mpr c17; subst c17
   rw [if_neg (show ¬ (false = true) by decide)] at H
   obtain ⟨t473, A180, H⟩ := Option.bind_eq_some_iff.mp H
   try dsimp only at H
   have A18 := Aside0.mk A180; clear A180; obtain ⟨t474, A190, H⟩ := Option.bind_eq_some_iff.mp H
   try dsimp only at H
   have A19 := Aside0.mk A190; clear A190
   simp only [Option.some.injEq, Prod.mk.injEq] at H
   obtain ⟨rfl, rfl⟩ := H
   go_wp2_with (first | (go_at_call 73; (with_reducible refine (impl_UpOf.calls kj2 a0 t473 _ A18.out).mono ?_); rintro e w20 ⟨rfl, hb⟩; replace HB := bs HB hb; (try clear hb); (try clear hb2); (try clear hk); (try clear hi)) | (go_at_call 73; (with_reducible refine (impl_UpOf.calls kj2 t473 t474 _ A19.out).mono ?_); rintro e w21 ⟨rfl, hb⟩; replace HB := bs HB hb; (try clear hb); (try clear hb2); (try clear hk); (try clear hi)))
   repeat (go_quiet (first | (go_at_call 73; (with_reducible refine (impl_UpOf.calls kj2 a0 t473 _ A18.out).mono ?_); rintro e w20 ⟨rfl, hb⟩; replace HB := bs HB hb; (try clear hb); (try clear hb2); (try clear hk); (try clear hi)) | (go_at_call 73; (with_reducible refine (impl_UpOf.calls kj2 t473 t474 _ A19.out).mono ?_); rintro e w21 ⟨rfl, hb⟩; replace HB := bs HB hb; (try clear hb); (try clear hb2); (try clear hk); (try clear hi))); try go_wp2_with (first | (go_at_call 73; (with_reducible refine (impl_UpOf.calls kj2 a0 t473 _ A18.out).mono ?_); rintro e w20 ⟨rfl, hb⟩; replace HB := bs HB hb; (try clear hb); (try clear hb2); (try clear hk); (try clear hi)) | (go_at_call 73; (with_reducible refine (impl_UpOf.calls kj2 t473 t474 _ A19.out).mono ?_); rintro e w21 ⟨rfl, hb⟩; replace HB := bs HB hb; (try clear hb); (try clear hb2); (try clear hk); (try clear hi))))
   go_ret2
   exact ⟨y0_8, bI HB.out⟩

/-! ### stringslite_HasPrefix: function 132 -/
def stringslite_HasPrefix.f (a0 : ByteArray) (a1 : ByteArray) : Option (Bool) := if (a0.size : Int) ≥ (a1.size : Int) then (if 0 ≤ (a1.size : Int) then (if (a1.size : Int) ≤ (a0.size : Int) then (some ((a0.extract 0 ((a1.size : Int) : Int).toNat).toList == a1.toList)) else (none)) else (none)) else (some false)
set_option maxHeartbeats 8000000 in
set_option maxRecDepth 100000 in
theorem stringslite_HasPrefix.calls (a0 : ByteArray) (a1 : ByteArray) (r : Bool) (w : World) (h : stringslite_HasPrefix.f a0 a1 = some r) :
  Calls Tryz.prog 132 #[.string a0, .string a1] w fun e w' => e = .returned (.bool r) ∧ Drawn0 w w' := by
 have H : (if (a0.size : Int) ≥ (a1.size : Int) then (if 0 ≤ (a1.size : Int) then (if (a1.size : Int) ≤ (a0.size : Int) then (some ((a0.extract 0 ((a1.size : Int) : Int).toNat).toList == a1.toList)) else (none)) else (none)) else (some false)) = some r := h; clear h
 by_cases c3 : (a0.size : Int) ≥ (a1.size : Int)
 ·
  rw [if_pos c3] at H
  have c3b0 : decide ((a1.size : Int) ≤ (a0.size : Int)) = true := decide_eq_true c3; have c3b1 : decide (a1.size ≤ a0.size) = true := decide_eq_true (Int.ofNat_le.mp c3); clear c3
  by_cases c4 : 0 ≤ (a1.size : Int)
  rotate_left
  ·
   rw [if_neg c4] at H
   exact absurd H (by simp)
  rw [if_pos c4] at H
  have c4b0 := eq_true c4; have c4b1 : decide (0 ≤ (a1.size : Int)) = true := decide_eq_true c4; clear c4
  by_cases c5 : (a1.size : Int) ≤ (a0.size : Int)
  rotate_left
  ·
   rw [if_neg c5] at H
   exact absurd H (by simp)
  rw [if_pos c5] at H
  have c5b0 := eq_true c5; have c5b1 : decide ((a1.size : Int) ≤ (a0.size : Int)) = true := decide_eq_true c5; clear c5; obtain rfl := Option.some.inj H
  go_enter Tryz.func132, Tryz.ntmps132
  go_wp2
  go_ret
  exact ⟨y0_11, y0_9⟩
 rw [if_neg c3] at H
 have c3b0 : decide ((a1.size : Int) ≤ (a0.size : Int)) = false := decide_eq_false c3
 have c3b1 : decide (a1.size ≤ a0.size) = false := decide_eq_false (fun h => c3 (Int.ofNat_le.mpr h))
 clear c3; obtain rfl := Option.some.inj H
 go_enter Tryz.func132, Tryz.ntmps132
 go_wp2
 go_ret
 exact ⟨y0_11, y0_9⟩

/-! ### strings_HasPrefix: function 106 -/
def strings_HasPrefix.f (a0 : ByteArray) (a1 : ByteArray) : Option (Bool) := (stringslite_HasPrefix.f a0 a1).bind fun t475 => (some t475)
set_option maxHeartbeats 8000000 in
set_option maxRecDepth 100000 in
theorem strings_HasPrefix.calls (a0 : ByteArray) (a1 : ByteArray) (r : Bool) (w : World) (h : strings_HasPrefix.f a0 a1 = some r) :
  Calls Tryz.prog 106 #[.string a0, .string a1] w fun e w' => e = .returned (.bool r) ∧ Drawn0 w w' := by
 have H : ((stringslite_HasPrefix.f a0 a1).bind fun t475 => (some t475)) = some r := h
 clear h; obtain ⟨t475, A30, H⟩ := Option.bind_eq_some_iff.mp H
 try dsimp only at H
 have A3 := Aside0.mk A30; clear A30; obtain rfl := Option.some.inj H
 go_enter Tryz.func106, Tryz.ntmps106
 go_wp2_with (first | ((with_reducible refine gate_callee (f := 132) rfl ?_); refine gB (some 7) Tryz.func132 #[.string a0, .string a1] ?_; (with_reducible refine (stringslite_HasPrefix.calls a0 a1 t475 _ A3.out).mono ?_); rintro e w' ⟨rfl, ⟨nd, rfl⟩⟩; refine ⟨_, rfl, ?_⟩))
 go_ret
 exact ⟨y0_11, y0_9⟩

end Go.Proofs.YtemjmefacifdeaaGreatDoor.PFnExactSee
