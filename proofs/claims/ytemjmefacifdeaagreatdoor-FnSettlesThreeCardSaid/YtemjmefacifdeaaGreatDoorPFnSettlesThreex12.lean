-- By a program of this session, out of the translation (the print of the kit, with turns of its own). Lean checks it.
import Derived.Test.YtemjmefacifdeaaGreatDoorPFnSettlesThreex0
import Derived.Test.YtemjmefacifdeaaGreatDoorPFnSettlesThreex8
import Derived.Test.YtemjmefacifdeaaGreatDoorPFnSettlesThreex9
import Derived.Test.YtemjmefacifdeaaGreatDoorPFnSettlesThreex10
import Derived.Test.YtemjmefacifdeaaGreatDoorPFnSettlesThreex11
namespace Go.Proofs.YtemjmefacifdeaaGreatDoor.PFnSettlesThree
open Go.RowKit Go.Proofs.YtemjmefacifdeaaGreatDoorW.PrintWords Go.Proofs.YtemjmefacifdeaaGreatDoorW.PrintLast Go.Proofs.YtemjmefacifdeaaGreatDoorW.PrintMore
attribute [local go_sem] max2_int min2_int max_two min_two max_three min_three max_four min_four   -- for this text's walks alone
set_option linter.unusedVariables false
set_option linter.unusedSimpArgs false

/-! ### impl_copyInts: function 113 -/
def impl_copyInts.f (l0 : List Int) : Option (List Int) := if ([] : List Int).length + l0.length < 17592186044416 then (some (([] : List Int) ++ l0)) else (none)
set_option maxHeartbeats 8000000 in
set_option maxRecDepth 100000 in
theorem impl_copyInts.calls (A0 : Option Addr) (c0 : Nat) (l0 : List Int) (r : List Int) (w : World) (hr0 : Kd.C (Kd.int .i64) w A0 l0.length l0) (hc0 : l0.length ≤ c0) (h : impl_copyInts.f l0 = some r) :
  Calls Tryz.prog 113 #[.slice A0 l0.length c0] w fun e w' => ∃ v0_ : Value, e = .returned (v0_) ∧ Kd.R (Kd.int .i64) 3 w' w.heap.size (fun _ => True) v0_ r ∧ Below w.heap.size w w' := by
 have HR0 := Aside0.mk hr0; have HC0 := Aside0.mk hc0; clear hr0 hc0; have HB := Aside0.mk (Below.refl w.heap.size w); have H : (if ([] : List Int).length + l0.length < 17592186044416 then (some (([] : List Int) ++ l0)) else (none)) = some r := h; clear h
 by_cases c2 : ([] : List Int).length + l0.length < 17592186044416
 ·
  rw [if_pos c2] at H
  have LMc2 := Aside0.mk c2; clear c2; obtain ⟨y382, hy382⟩ : ∃ y_ : List Int, y_ = (([] : List Int) ++ l0) := ⟨_, rfl⟩
  replace H : (some y382) = some r := by first | (rw [hy382]; with_reducible exact H) | (have H2_ := (Option.bind_some _ _).symm.trans H; rw [hy382]; with_reducible exact H2_) | (have H2_ := (Option.bind_some _ _).symm.trans H; with_reducible exact H2_) | with_reducible exact H | (rw [hy382]; exact H) | exact H
  have Ny382 := Aside0.mk hy382; clear hy382; obtain rfl := Option.some.inj H
  go_enter Tryz.func113, Tryz.ntmps113
  go_wp2_with (first | ((with_reducible refine gate_builtin (b := .append) (xs := #[.const (.slice none 0 0), .tmp 3]) rfl ?_); at_builtin; refine Kd.R_append_rows (Kd.int .i64) (w0 := w) w.heap.size rfl (.const (.slice none 0 0)) (.tmp 3) 24 3 (.int .i64 0) 8 rfl Tryz.underlying24 info3 rfl (by decide) (by omega) (.slice none 0 0) ([] : List Int) l0 _ _ _ (fun _ => True) (fun _ => False) rfl rfl ?aO ?aR (fun _ _ h => h) (fun _ h => h.elim) ?aF ?aB ?aS ?aL ?_; (case aR => exact cI HR0.out); (case aB => exact (bI HB.out)); (case aF => exact (fun _ _ => trivial)); (case aO => exact ((Kd.R_nil _ _ _ _ (fun _ => True)))); (case aS => exact (below_size (bI HB.out))); (case aL => have := LMc2.out; omega); intro v383 w3 ho hb hg hat; rw [← Ny382.out] at ho; replace HB := Aside0.mk (hb); have HO384 := Aside0.mk (ho); clear ho hb hg hat))
  go_ret
  exact ⟨_, y0_6, by (with_reducible repeat (first | apply Kd.R_alloc | apply Kd.R_drewN | apply Kd.R_drew)); exact HO384.out, bI HB.out⟩
 rw [if_neg c2] at H
 exact absurd H (by simp)

/-! ### impl_copyQc: function 83 -/
def impl_copyQc.f (a0_0 : Int) (a0_1 : ByteArray) (l0_2 : List Int) : Option (Int × ByteArray × List Int) := (impl_copyInts.f l0_2).bind fun t387 => (some (a0_0, a0_1, t387))
set_option maxHeartbeats 8000000 in
set_option maxRecDepth 100000 in
theorem impl_copyQc.calls (a0_0 : Int) (a0_1 : ByteArray) (A0_2 : Option Addr) (c0_2 : Nat) (l0_2 : List Int) (r1 : Int) (r2 : ByteArray) (r3 : List Int) (w : World) (hr0_2 : Kd.C (Kd.int .i64) w A0_2 l0_2.length l0_2) (hc0_2 : l0_2.length ≤ c0_2) (h : impl_copyQc.f a0_0 a0_1 l0_2 = some (r1, r2, r3)) :
  Calls Tryz.prog 83 #[.agg #[.int .i64 a0_0, .string a0_1, .slice A0_2 l0_2.length c0_2]] w fun e w' => ∃ v2_ : Value, e = .returned (.agg #[.int .i64 r1, .string r2, v2_]) ∧ Kd.R (Kd.int .i64) 3 w' w.heap.size (fun _ => True) v2_ r3 ∧ Below w.heap.size w w' := by
 have hu33 := Tryz.underlying33; have HR0_2 := Aside0.mk hr0_2; have HC0_2 := Aside0.mk hc0_2; clear hr0_2 hc0_2; have HB := Aside0.mk (Below.refl w.heap.size w)
 have H : ((impl_copyInts.f l0_2).bind fun t387 => (some (a0_0, a0_1, t387))) = some (r1, r2, r3) := h
 clear h; obtain ⟨t387, A20, H⟩ := Option.bind_eq_some_iff.mp H
 try dsimp only at H
 have A2 := Aside0.mk A20; clear A20
 simp only [Option.some.injEq, Prod.mk.injEq] at H
 obtain ⟨rfl, rfl, rfl⟩ := H
 go_enter Tryz.func83, Tryz.ntmps83
 go_wp2_with (first | ((with_reducible refine gd 1 ?_); refine bA 1 #[.int .i64 a0_0, .string a0_1, .slice A0_2 l0_2.length c0_2] 33 ?_; intro gb385 hg w3 hbox hb; have BK385 := Aside0.mk (hbox); have GW385 := bg hg HB; have GJ385 := gi GW385; have GE385 := GW385; replace HB := bs HB hb; clear hb hbox hg) | ((with_reducible refine gd 2 ?_); refine bA 2 #[.int .i64 0, .string (⟨#[]⟩ : ByteArray), .slice none 0 0] 33 ?_; intro gb386 hg w4 hbox hb; have BK386 := Aside0.mk (hbox); have GW386 := bg hg HB; have GJ386 := gi GW386; have GE386 := GW386; replace HB := bs HB hb; have NB385_386 := b1 BK385 hg; have NI385_386 := ni NB385_386; have NB386_385 := b2 BK385 hg; have NI386_385 := ni NB386_385; replace BK385 := bk BK385 hb; clear hb hbox hg; have hnb5 := NB385_386.out; have hnc5 := NB386_385.out; obtain ⟨hcz6_0, hcz6_1, hcz6_2, hfz6_0, hfz6_1, hfz6_2⟩ := cs3 BK385) | ((with_reducible refine gate_callee (f := 113) rfl ?_); refine gB (some 5) Tryz.func113 #[.slice A0_2 l0_2.length c0_2] ?_; (with_reducible refine (impl_copyInts.calls _ _ l0_2 t387 _ ?side1 ?side2 A2.out).mono ?_); (case side1 => exact ch HR0_2 HB); (case side2 => exact HC0_2.out); rintro e w7 ⟨v388, rfl, ho0, hb⟩; refine ⟨_, rfl, ?_⟩; have HO389 := Aside0.mk (Kd.R_lower ho0 (below_size (bI HB.out))); replace BK385 := bk BK385 hb; replace BK386 := bk BK386 hb; replace HB := bs HB hb; (try clear hb); (try clear ho0); obtain ⟨Ao8, co8, eo8⟩ := Kd.R_slice HO389.out; subst eo8; obtain ⟨hcz9_0, hcz9_1, hcz9_2, hfz9_0, hfz9_1, hfz9_2⟩ := cs3 BK385; obtain ⟨hcz10_0, hcz10_1, hcz10_2, hfz10_0, hfz10_1, hfz10_2⟩ := cs3 BK386))
 refine bodyPost_ret (results_cell_row rfl _ _ gb386 33 #[.int .i64 a0_0, .string a0_1, .slice Ao8 t387.length co8] (0, 0) _ rfl (pI BK386) Tryz.underlying33 rfl (by kernel_rfl)) rfl ?_
 exact ⟨_, y0_6, by (with_reducible repeat (first | apply Kd.R_alloc | apply Kd.R_drewN | apply Kd.R_drew)); exact Kd.R_mono (Kd.R_far (p := ⟨gb386, 2, none⟩) (Kd.R_far (p := ⟨gb386, 1, none⟩) (Kd.R_far (p := ⟨gb386, 0, none⟩) (Kd.R_far (p := ⟨gb385, 2, none⟩) (Kd.R_types (Kd.R_types HO389.out BK385.out (by decide)) BK386.out (by decide)) (fun _ hk => hk.1.2) (.slice Ao8 t387.length co8)) (fun _ hk => hk.2) (.int .i64 a0_0)) (fun _ hk => hk.2) (.string a0_1)) (fun _ hk => hk.2) (.slice Ao8 t387.length co8)) (fun _ hk => trivial), bI HB.out⟩

/-! ### impl_QcLater: function 56 -/
def impl_QcLater.f (a0_0 : Int) (a0_1 : ByteArray) (l0_2 : List Int) (a1_0 : Int) (a1_1 : ByteArray) (l1_2 : List Int) : Option (Int × ByteArray × List Int) := if a0_0 > a1_0 then ((impl_copyQc.f a0_0 a0_1 l0_2).bind fun bt393 => (some (bt393.1, bt393.2.1, bt393.2.2))) else ((impl_copyQc.f a1_0 a1_1 l1_2).bind fun bt398 => (some (bt398.1, bt398.2.1, bt398.2.2)))
set_option maxHeartbeats 8000000 in
set_option maxRecDepth 100000 in
theorem impl_QcLater.calls (a0_0 : Int) (a0_1 : ByteArray) (A0_2 : Option Addr) (c0_2 : Nat) (l0_2 : List Int) (a1_0 : Int) (a1_1 : ByteArray) (A1_2 : Option Addr) (c1_2 : Nat) (l1_2 : List Int) (r1 : Int) (r2 : ByteArray) (r3 : List Int) (w : World) (hr0_2 : Kd.C (Kd.int .i64) w A0_2 l0_2.length l0_2) (hc0_2 : l0_2.length ≤ c0_2) (hr1_2 : Kd.C (Kd.int .i64) w A1_2 l1_2.length l1_2) (hc1_2 : l1_2.length ≤ c1_2) (h : impl_QcLater.f a0_0 a0_1 l0_2 a1_0 a1_1 l1_2 = some (r1, r2, r3)) :
  Calls Tryz.prog 56 #[.agg #[.int .i64 a0_0, .string a0_1, .slice A0_2 l0_2.length c0_2], .agg #[.int .i64 a1_0, .string a1_1, .slice A1_2 l1_2.length c1_2]] w fun e w' => ∃ v2_ : Value, e = .returned (.agg #[.int .i64 r1, .string r2, v2_]) ∧ Kd.R (Kd.int .i64) 3 w' w.heap.size (fun _ => True) v2_ r3 ∧ Below w.heap.size w w' := by
 have hu33 := Tryz.underlying33; have HR0_2 := Aside0.mk hr0_2; have HC0_2 := Aside0.mk hc0_2; clear hr0_2 hc0_2; have HR1_2 := Aside0.mk hr1_2; have HC1_2 := Aside0.mk hc1_2; clear hr1_2 hc1_2; have HB := Aside0.mk (Below.refl w.heap.size w)
 have H : (if a0_0 > a1_0 then ((impl_copyQc.f a0_0 a0_1 l0_2).bind fun bt393 => (some (bt393.1, bt393.2.1, bt393.2.2))) else ((impl_copyQc.f a1_0 a1_1 l1_2).bind fun bt398 => (some (bt398.1, bt398.2.1, bt398.2.2)))) = some (r1, r2, r3) := h
 clear h
 by_cases c3 : a0_0 > a1_0
 ·
  rw [if_pos c3] at H
  have c3b0 : decide (a1_0 < a0_0) = true := decide_eq_true c3; clear c3; obtain ⟨⟨t393, t394, t395⟩, A40, H⟩ := Option.bind_eq_some_iff.mp H
  try dsimp only at H
  have A4 := Aside0.mk A40; clear A40
  simp only [Option.some.injEq, Prod.mk.injEq] at H
  obtain ⟨rfl, rfl, rfl⟩ := H
  go_enter Tryz.func56, Tryz.ntmps56
  go_wp2_with (first | ((with_reducible refine gd 2 ?_); refine bA 2 #[.int .i64 a0_0, .string a0_1, .slice A0_2 l0_2.length c0_2] 33 ?_; intro gb390 hg w5 hbox hb; have BK390 := Aside0.mk (hbox); have GW390 := bg hg HB; have GJ390 := gi GW390; have GE390 := GW390; replace HB := bs HB hb; clear hb hbox hg) | ((with_reducible refine gd 3 ?_); refine bA 3 #[.int .i64 a1_0, .string a1_1, .slice A1_2 l1_2.length c1_2] 33 ?_; intro gb391 hg w6 hbox hb; have BK391 := Aside0.mk (hbox); have GW391 := bg hg HB; have GJ391 := gi GW391; have GE391 := GW391; replace HB := bs HB hb; have NB390_391 := b1 BK390 hg; have NI390_391 := ni NB390_391; have NB391_390 := b2 BK390 hg; have NI391_390 := ni NB391_390; replace BK390 := bk BK390 hb; clear hb hbox hg) | ((with_reducible refine gd 4 ?_); refine bA 4 #[.int .i64 0, .string (⟨#[]⟩ : ByteArray), .slice none 0 0] 33 ?_; intro gb392 hg w7 hbox hb; have BK392 := Aside0.mk (hbox); have GW392 := bg hg HB; have GJ392 := gi GW392; have GE392 := GW392; replace HB := bs HB hb; have NB390_392 := b1 BK390 hg; have NI390_392 := ni NB390_392; have NB392_390 := b2 BK390 hg; have NI392_390 := ni NB392_390; replace BK390 := bk BK390 hb; have NB391_392 := b1 BK391 hg; have NI391_392 := ni NB391_392; have NB392_391 := b2 BK391 hg; have NI392_391 := ni NB392_391; replace BK391 := bk BK391 hb; clear hb hbox hg; have hnb8 := NB390_391.out; have hnc8 := NB391_390.out; have hnb9 := NB390_392.out; have hnc9 := NB392_390.out; obtain ⟨hcz10_0, hcz10_1, hcz10_2, hfz10_0, hfz10_1, hfz10_2⟩ := cs3 BK390; have hnb11 := NB391_392.out; have hnc11 := NB392_391.out; obtain ⟨hcz12_0, hcz12_1, hcz12_2, hfz12_0, hfz12_1, hfz12_2⟩ := cs3 BK391) | ((with_reducible refine gate_callee (f := 83) rfl ?_); refine gB (some 11) Tryz.func83 #[.agg #[.int .i64 a0_0, .string a0_1, .slice A0_2 l0_2.length c0_2]] ?_; (with_reducible refine (impl_copyQc.calls a0_0 a0_1 _ _ l0_2 t393 t394 t395 _ ?side1 ?side2 A4.out).mono ?_); (case side1 => exact ch HR0_2 HB); (case side2 => exact HC0_2.out); rintro e w13 ⟨v396, rfl, ho0, hb⟩; refine ⟨_, rfl, ?_⟩; have HO397 := Aside0.mk (Kd.R_lower ho0 (below_size (bI HB.out))); replace BK390 := bk BK390 hb; replace BK391 := bk BK391 hb; replace BK392 := bk BK392 hb; replace HB := bs HB hb; (try clear hb); (try clear ho0); obtain ⟨hcz14_0, hcz14_1, hcz14_2, hfz14_0, hfz14_1, hfz14_2⟩ := cs3 BK392; obtain ⟨Ao15, co15, eo15⟩ := Kd.R_slice HO397.out; subst eo15))
  refine bodyPost_ret (results_cell_row rfl _ _ gb392 33 #[.int .i64 t393, .string t394, .slice Ao15 t395.length co15] (0, 0) _ rfl (pI BK392) Tryz.underlying33 rfl (by kernel_rfl)) rfl ?_
  exact ⟨_, y0_6, by (with_reducible repeat (first | apply Kd.R_alloc | apply Kd.R_drewN | apply Kd.R_drew)); exact Kd.R_mono (Kd.R_far (p := ⟨gb392, 2, none⟩) (Kd.R_far (p := ⟨gb392, 1, none⟩) (Kd.R_far (p := ⟨gb392, 0, none⟩) (Kd.R_types HO397.out BK392.out (by decide)) (fun _ hk => hk.2) (.int .i64 t393)) (fun _ hk => hk.2) (.string t394)) (fun _ hk => hk.2) (.slice Ao15 t395.length co15)) (fun _ hk => trivial), bI HB.out⟩
 rw [if_neg c3] at H
 have c3b0 : decide (a1_0 < a0_0) = false := decide_eq_false c3; clear c3; obtain ⟨⟨t398, t399, t400⟩, A160, H⟩ := Option.bind_eq_some_iff.mp H
 try dsimp only at H
 have A16 := Aside0.mk A160; clear A160
 simp only [Option.some.injEq, Prod.mk.injEq] at H
 obtain ⟨rfl, rfl, rfl⟩ := H
 go_enter Tryz.func56, Tryz.ntmps56
 go_wp2_with (first | ((with_reducible refine gd 2 ?_); refine bA 2 #[.int .i64 a0_0, .string a0_1, .slice A0_2 l0_2.length c0_2] 33 ?_; intro gb390 hg w17 hbox hb; have BK390 := Aside0.mk (hbox); have GW390 := bg hg HB; have GJ390 := gi GW390; have GE390 := GW390; replace HB := bs HB hb; clear hb hbox hg) | ((with_reducible refine gd 3 ?_); refine bA 3 #[.int .i64 a1_0, .string a1_1, .slice A1_2 l1_2.length c1_2] 33 ?_; intro gb391 hg w18 hbox hb; have BK391 := Aside0.mk (hbox); have GW391 := bg hg HB; have GJ391 := gi GW391; have GE391 := GW391; replace HB := bs HB hb; have NB390_391 := b1 BK390 hg; have NI390_391 := ni NB390_391; have NB391_390 := b2 BK390 hg; have NI391_390 := ni NB391_390; replace BK390 := bk BK390 hb; clear hb hbox hg) | ((with_reducible refine gd 4 ?_); refine bA 4 #[.int .i64 0, .string (⟨#[]⟩ : ByteArray), .slice none 0 0] 33 ?_; intro gb392 hg w19 hbox hb; have BK392 := Aside0.mk (hbox); have GW392 := bg hg HB; have GJ392 := gi GW392; have GE392 := GW392; replace HB := bs HB hb; have NB390_392 := b1 BK390 hg; have NI390_392 := ni NB390_392; have NB392_390 := b2 BK390 hg; have NI392_390 := ni NB392_390; replace BK390 := bk BK390 hb; have NB391_392 := b1 BK391 hg; have NI391_392 := ni NB391_392; have NB392_391 := b2 BK391 hg; have NI392_391 := ni NB392_391; replace BK391 := bk BK391 hb; clear hb hbox hg; have hnb20 := NB390_391.out; have hnc20 := NB391_390.out; have hnb21 := NB390_392.out; have hnc21 := NB392_390.out; obtain ⟨hcz22_0, hcz22_1, hcz22_2, hfz22_0, hfz22_1, hfz22_2⟩ := cs3 BK390; have hnb23 := NB391_392.out; have hnc23 := NB392_391.out; obtain ⟨hcz24_0, hcz24_1, hcz24_2, hfz24_0, hfz24_1, hfz24_2⟩ := cs3 BK391) | ((with_reducible refine gate_callee (f := 83) rfl ?_); refine gB (some 13) Tryz.func83 #[.agg #[.int .i64 a1_0, .string a1_1, .slice A1_2 l1_2.length c1_2]] ?_; (with_reducible refine (impl_copyQc.calls a1_0 a1_1 _ _ l1_2 t398 t399 t400 _ ?side1 ?side2 A16.out).mono ?_); (case side1 => exact ch HR1_2 HB); (case side2 => exact HC1_2.out); rintro e w25 ⟨v401, rfl, ho0, hb⟩; refine ⟨_, rfl, ?_⟩; have HO402 := Aside0.mk (Kd.R_lower ho0 (below_size (bI HB.out))); replace BK390 := bk BK390 hb; replace BK391 := bk BK391 hb; replace BK392 := bk BK392 hb; replace HB := bs HB hb; (try clear hb); (try clear ho0); obtain ⟨hcz26_0, hcz26_1, hcz26_2, hfz26_0, hfz26_1, hfz26_2⟩ := cs3 BK392; obtain ⟨Ao27, co27, eo27⟩ := Kd.R_slice HO402.out; subst eo27))
 refine bodyPost_ret (results_cell_row rfl _ _ gb392 33 #[.int .i64 t398, .string t399, .slice Ao27 t400.length co27] (0, 0) _ rfl (pI BK392) Tryz.underlying33 rfl (by kernel_rfl)) rfl ?_
 exact ⟨_, y0_6, by (with_reducible repeat (first | apply Kd.R_alloc | apply Kd.R_drewN | apply Kd.R_drew)); exact Kd.R_mono (Kd.R_far (p := ⟨gb392, 2, none⟩) (Kd.R_far (p := ⟨gb392, 1, none⟩) (Kd.R_far (p := ⟨gb392, 0, none⟩) (Kd.R_types HO402.out BK392.out (by decide)) (fun _ hk => hk.2) (.int .i64 t398)) (fun _ hk => hk.2) (.string t399)) (fun _ hk => hk.2) (.slice Ao27 t400.length co27)) (fun _ hk => trivial), bI HB.out⟩

/-! ### impl_copySafe: function 63 -/
def impl_copySafe.f (a0_0 : Int) (a0_1 : Int) (a0_2 : Int) (a0_3 : ByteArray) (l0_4 : List Int) (a0_5 : ByteArray) : Option (Int × Int × Int × ByteArray × List Int × ByteArray) := (impl_copyQc.f a0_2 a0_3 l0_4).bind fun bt405 => (some (a0_0, a0_1, bt405.1, bt405.2.1, bt405.2.2, a0_5))
set_option maxHeartbeats 8000000 in
set_option maxRecDepth 100000 in
theorem impl_copySafe.calls (a0_0 : Int) (a0_1 : Int) (a0_2 : Int) (a0_3 : ByteArray) (A0_4 : Option Addr) (c0_4 : Nat) (l0_4 : List Int) (a0_5 : ByteArray) (r1 : Int) (r2 : Int) (r3 : Int) (r4 : ByteArray) (r5 : List Int) (r6 : ByteArray) (w : World) (hr0_4 : Kd.C (Kd.int .i64) w A0_4 l0_4.length l0_4) (hc0_4 : l0_4.length ≤ c0_4) (h : impl_copySafe.f a0_0 a0_1 a0_2 a0_3 l0_4 a0_5 = some (r1, r2, r3, r4, r5, r6)) :
  Calls Tryz.prog 63 #[.agg #[.int .i64 a0_0, .int .i64 a0_1, .int .i64 a0_2, .string a0_3, .slice A0_4 l0_4.length c0_4, .string a0_5]] w fun e w' => ∃ v4_ : Value, e = .returned (.agg #[.int .i64 r1, .int .i64 r2, .int .i64 r3, .string r4, v4_, .string r6]) ∧ Kd.R (Kd.int .i64) 3 w' w.heap.size (fun _ => True) v4_ r5 ∧ Below w.heap.size w w' := by
 have hu35 := Tryz.underlying35; have hu33 := Tryz.underlying33; have HR0_4 := Aside0.mk hr0_4; have HC0_4 := Aside0.mk hc0_4; clear hr0_4 hc0_4; have HB := Aside0.mk (Below.refl w.heap.size w)
 have H : ((impl_copyQc.f a0_2 a0_3 l0_4).bind fun bt405 => (some (a0_0, a0_1, bt405.1, bt405.2.1, bt405.2.2, a0_5))) = some (r1, r2, r3, r4, r5, r6) := h
 clear h; obtain ⟨⟨t405, t406, t407⟩, A20, H⟩ := Option.bind_eq_some_iff.mp H
 try dsimp only at H
 have A2 := Aside0.mk A20; clear A20
 simp only [Option.some.injEq, Prod.mk.injEq] at H
 obtain ⟨rfl, rfl, rfl, rfl, rfl, rfl⟩ := H
 go_enter Tryz.func63, Tryz.ntmps63
 go_wp2_with (first | ((with_reducible refine gd 1 ?_); refine bA 1 #[.int .i64 a0_0, .int .i64 a0_1, .int .i64 a0_2, .string a0_3, .slice A0_4 l0_4.length c0_4, .string a0_5] 35 ?_; intro gb403 hg w3 hbox hb; have BK403 := Aside0.mk (hbox); have GW403 := bg hg HB; have GJ403 := gi GW403; have GE403 := GW403; replace HB := bs HB hb; clear hb hbox hg) | ((with_reducible refine gd 2 ?_); refine bA 2 #[.int .i64 0, .int .i64 0, .int .i64 0, .string (⟨#[]⟩ : ByteArray), .slice none 0 0, .string (⟨#[]⟩ : ByteArray)] 35 ?_; intro gb404 hg w4 hbox hb; have BK404 := Aside0.mk (hbox); have GW404 := bg hg HB; have GJ404 := gi GW404; have GE404 := GW404; replace HB := bs HB hb; have NB403_404 := b1 BK403 hg; have NI403_404 := ni NB403_404; have NB404_403 := b2 BK403 hg; have NI404_403 := ni NB404_403; replace BK403 := bk BK403 hb; clear hb hbox hg; have hnb5 := NB403_404.out; have hnc5 := NB404_403.out; have hcz6_0 := bc0 BK403.out; have hcz6_1 := bc1 BK403.out; have hcz6_2 := bc2 BK403.out; have hcz6_3 := bc3 BK403.out; have hcz6_4 := bc4 BK403.out; have hcz6_5 := bc5 BK403.out; have hfz6_0 := blk_frozen BK403.out 0; have hfz6_1 := blk_frozen BK403.out 1; have hfz6_2 := blk_frozen BK403.out 2; have hfz6_3 := blk_frozen BK403.out 3; have hfz6_4 := blk_frozen BK403.out 4; have hfz6_5 := blk_frozen BK403.out 5) | ((with_reducible refine gate_callee (f := 83) rfl ?_); refine gB (some 5) Tryz.func83 #[.agg #[.int .i64 a0_2, .string a0_3, .slice A0_4 l0_4.length c0_4]] ?_; (with_reducible refine (impl_copyQc.calls a0_2 a0_3 _ _ l0_4 t405 t406 t407 _ ?side1 ?side2 A2.out).mono ?_); (case side1 => exact ch HR0_4 HB); (case side2 => exact HC0_4.out); rintro e w7 ⟨v408, rfl, ho0, hb⟩; refine ⟨_, rfl, ?_⟩; have HO409 := Aside0.mk (Kd.R_lower ho0 (below_size (bI HB.out))); replace BK403 := bk BK403 hb; replace BK404 := bk BK404 hb; replace HB := bs HB hb; (try clear hb); (try clear ho0); have hcz8_0 := bc0 BK403.out; have hcz8_1 := bc1 BK403.out; have hcz8_2 := bc2 BK403.out; have hcz8_3 := bc3 BK403.out; have hcz8_4 := bc4 BK403.out; have hcz8_5 := bc5 BK403.out; have hfz8_0 := blk_frozen BK403.out 0; have hfz8_1 := blk_frozen BK403.out 1; have hfz8_2 := blk_frozen BK403.out 2; have hfz8_3 := blk_frozen BK403.out 3; have hfz8_4 := blk_frozen BK403.out 4; have hfz8_5 := blk_frozen BK403.out 5; obtain ⟨Ao9, co9, eo9⟩ := Kd.R_slice HO409.out; subst eo9; have hcz10_0 := bc0 BK404.out; have hcz10_1 := bc1 BK404.out; have hcz10_2 := bc2 BK404.out; have hcz10_3 := bc3 BK404.out; have hcz10_4 := bc4 BK404.out; have hcz10_5 := bc5 BK404.out; have hfz10_0 := blk_frozen BK404.out 0; have hfz10_1 := blk_frozen BK404.out 1; have hfz10_2 := blk_frozen BK404.out 2; have hfz10_3 := blk_frozen BK404.out 3; have hfz10_4 := blk_frozen BK404.out 4; have hfz10_5 := blk_frozen BK404.out 5))
 refine bodyPost_ret (results_cell_row rfl _ _ gb404 35 #[.int .i64 a0_0, .int .i64 a0_1, .int .i64 t405, .string t406, .slice Ao9 t407.length co9, .string a0_5] (0, 0) _ rfl (pI BK404) Tryz.underlying35 rfl (by kernel_rfl)) rfl ?_
 exact ⟨_, y0_6, by (with_reducible repeat (first | apply Kd.R_alloc | apply Kd.R_drewN | apply Kd.R_drew)); exact Kd.R_mono (Kd.R_far (p := ⟨gb404, 5, none⟩) (Kd.R_far (p := ⟨gb404, 4, none⟩) (Kd.R_far (p := ⟨gb404, 3, none⟩) (Kd.R_far (p := ⟨gb404, 2, none⟩) (Kd.R_far (p := ⟨gb404, 1, none⟩) (Kd.R_far (p := ⟨gb404, 0, none⟩) (Kd.R_far (p := ⟨gb403, 4, none⟩) (Kd.R_far (p := ⟨gb403, 3, none⟩) (Kd.R_far (p := ⟨gb403, 2, none⟩) (Kd.R_types (Kd.R_types HO409.out BK403.out (by decide)) BK404.out (by decide)) (fun _ hk => hk.1.2) (.int .i64 t405)) (fun _ hk => hk.1.2) (.string t406)) (fun _ hk => hk.1.2) (.slice Ao9 t407.length co9)) (fun _ hk => hk.2) (.int .i64 a0_0)) (fun _ hk => hk.2) (.int .i64 a0_1)) (fun _ hk => hk.2) (.int .i64 t405)) (fun _ hk => hk.2) (.string t406)) (fun _ hk => hk.2) (.slice Ao9 t407.length co9)) (fun _ hk => hk.2) (.string a0_5)) (fun _ hk => trivial), bI HB.out⟩

/-! ### impl_SafeOk: function 72 -/
def impl_SafeOk.f (k : Nat) (a0_0 : Int) (a0_1 : Int) (a1_0 : Int) (a1_1 : Int) (a1_2 : Int) (a1_3 : ByteArray) (l1_4 : List Int) (a1_5 : ByteArray) : Option (Bool) := (impl_within.f a1_0 0 60).bind fun t412 => (if t412 = true then ((impl_within.f a1_1 0 60).bind fun t413 => (if t413 = true then ((impl_QcOk.f k a0_0 a0_1 a1_2 a1_3 l1_4).bind fun t414 => (if t414 = true then ((impl_NameOk.f k a1_5).bind fun t415 => (some t415)) else (some false))) else (some false))) else (some false))
theorem impl_SafeOk.mono : ∀ a0 a1 a2 a3 a4 a5 a6 a7 k, LeO (impl_SafeOk.f k a0 a1 a2 a3 a4 a5 a6 a7) (impl_SafeOk.f (k + 1) a0 a1 a2 a3 a4 a5 a6 a7) := by
 intro a0 a1 a2 a3 a4 a5 a6 a7 k
 unfold impl_SafeOk.f
 repeat' first | (with_reducible exact impl_NameOk.mono _ _) | (with_reducible exact impl_QcOk.mono _ _ _ _ _ _) | (with_reducible exact LeO.refl _) | (with_reducible exact LeO.none _) | (with_reducible refine LeO.ite ?_ ?_) | (with_reducible refine LeO.bind ?_ (fun _ => ?_))
set_option maxHeartbeats 8000000 in
set_option maxRecDepth 100000 in
theorem impl_SafeOk.calls (k : Nat) (a0_0 : Int) (a0_1 : Int) (a1_0 : Int) (a1_1 : Int) (a1_2 : Int) (a1_3 : ByteArray) (A1_4 : Option Addr) (c1_4 : Nat) (l1_4 : List Int) (a1_5 : ByteArray) (r : Bool) (w : World) (hr1_4 : Kd.C (Kd.int .i64) w A1_4 l1_4.length l1_4) (hc1_4 : l1_4.length ≤ c1_4) (h : impl_SafeOk.f k a0_0 a0_1 a1_0 a1_1 a1_2 a1_3 l1_4 a1_5 = some r) (hG : Glob w := by exact gG HG HB) :
  Calls Tryz.prog 72 #[.agg #[.int .i64 a0_0, .int .i64 a0_1], .agg #[.int .i64 a1_0, .int .i64 a1_1, .int .i64 a1_2, .string a1_3, .slice A1_4 l1_4.length c1_4, .string a1_5]] w fun e w' => e = .returned (.bool r) ∧ Below w.heap.size w w' := by
 have HG := Aside0.mk hG; clear hG; have hu38 := Tryz.underlying38; have hu35 := Tryz.underlying35; have hu33 := Tryz.underlying33; have HR1_4 := Aside0.mk hr1_4; have HC1_4 := Aside0.mk hc1_4; clear hr1_4 hc1_4; have HB := Aside0.mk (Below.refl w.heap.size w)
 have H : ((impl_within.f a1_0 0 60).bind fun t412 => (if t412 = true then ((impl_within.f a1_1 0 60).bind fun t413 => (if t413 = true then ((impl_QcOk.f k a0_0 a0_1 a1_2 a1_3 l1_4).bind fun t414 => (if t414 = true then ((impl_NameOk.f k a1_5).bind fun t415 => (some t415)) else (some false))) else (some false))) else (some false))) = some r := h
 clear h; obtain ⟨t412, A30, H⟩ := Option.bind_eq_some_iff.mp H
 try dsimp only at H
 have A3 := Aside0.mk A30; clear A30
 by_cases c4 : t412 = true
 ·
  subst c4
  rw [if_pos rfl] at H
  obtain ⟨t413, A50, H⟩ := Option.bind_eq_some_iff.mp H
  try dsimp only at H
  have A5 := Aside0.mk A50; clear A50
  by_cases c6 : t413 = true
  ·
   subst c6
   rw [if_pos rfl] at H
   obtain ⟨t414, A70, H⟩ := Option.bind_eq_some_iff.mp H
   try dsimp only at H
   have A7 := Aside0.mk A70; clear A70
   by_cases c8 : t414 = true
   ·
    subst c8
    rw [if_pos rfl] at H
    obtain ⟨t415, A90, H⟩ := Option.bind_eq_some_iff.mp H
    try dsimp only at H
    have A9 := Aside0.mk A90; clear A90; obtain rfl := Option.some.inj H
    go_enter Tryz.func72, Tryz.ntmps72
    go_wp2_with (first | ((with_reducible refine gd 2 ?_); refine bA 2 #[.int .i64 a0_0, .int .i64 a0_1] 38 ?_; intro gb410 hg w10 hbox hb; have BK410 := Aside0.mk (hbox); have GW410 := bg hg HB; have GJ410 := gi GW410; have GE410 := GW410; replace HB := bs HB hb; clear hb hbox hg) | ((with_reducible refine gd 3 ?_); refine bA 3 #[.int .i64 a1_0, .int .i64 a1_1, .int .i64 a1_2, .string a1_3, .slice A1_4 l1_4.length c1_4, .string a1_5] 35 ?_; intro gb411 hg w11 hbox hb; have BK411 := Aside0.mk (hbox); have GW411 := bg hg HB; have GJ411 := gi GW411; have GE411 := GW411; replace HB := bs HB hb; have NB410_411 := b1 BK410 hg; have NI410_411 := ni NB410_411; have NB411_410 := b2 BK410 hg; have NI411_410 := ni NB411_410; replace BK410 := bk BK410 hb; clear hb hbox hg; have hnb12 := NB411_410.out; have hnc12 := NB410_411.out; have hcz13_0 := bc0 BK411.out; have hcz13_1 := bc1 BK411.out; have hcz13_2 := bc2 BK411.out; have hcz13_3 := bc3 BK411.out; have hcz13_4 := bc4 BK411.out; have hcz13_5 := bc5 BK411.out; have hfz13_0 := blk_frozen BK411.out 0; have hfz13_1 := blk_frozen BK411.out 1; have hfz13_2 := blk_frozen BK411.out 2; have hfz13_3 := blk_frozen BK411.out 3; have hfz13_4 := blk_frozen BK411.out 4; have hfz13_5 := blk_frozen BK411.out 5) | ((with_reducible refine gate_callee (f := 99) rfl ?_); refine gB (some 7) Tryz.func99 #[.int .i64 a1_0, .int .i64 0, .int .i64 60] ?_; (with_reducible refine (impl_within.calls a1_0 0 60 true _ A3.out).mono ?_); rintro e w' ⟨rfl, ⟨nd, rfl⟩⟩; refine ⟨_, rfl, ?_⟩) | (go_at_call 99; (with_reducible refine (impl_within.calls a1_1 0 60 true _ A5.out).mono ?_); rintro e w' ⟨rfl, ⟨nd, rfl⟩⟩; obtain ⟨hcz14_0, hcz14_1, hfz14_0, hfz14_1⟩ := cs2 BK410) | (go_at_call 48; (with_reducible refine (impl_QcOk.calls k a0_0 a0_1 a1_2 a1_3 _ _ l1_4 true _ ?side1 ?side2 A7.out).mono ?_); (case side1 => exact (Kd.C_below HR1_4.out (bI HB.out))); (case side2 => exact HC1_4.out); rintro e w15 ⟨rfl, hb⟩; replace BK410 := bk BK410 hb; replace BK411 := bk BK411 hb; replace HB := bs HB hb; (try clear hb); (try clear hb2); (try clear hk); (try clear hi); have hcz16_0 := bc0 BK411.out; have hcz16_1 := bc1 BK411.out; have hcz16_2 := bc2 BK411.out; have hcz16_3 := bc3 BK411.out; have hcz16_4 := bc4 BK411.out; have hcz16_5 := bc5 BK411.out; have hfz16_0 := blk_frozen BK411.out 0; have hfz16_1 := blk_frozen BK411.out 1; have hfz16_2 := blk_frozen BK411.out 2; have hfz16_3 := blk_frozen BK411.out 3; have hfz16_4 := blk_frozen BK411.out 4; have hfz16_5 := blk_frozen BK411.out 5) | (go_at_call 95; (with_reducible refine (impl_NameOk.calls k a1_5 t415 _ A9.out).mono ?_); rintro e w17 ⟨rfl, hb⟩; replace BK410 := bk BK410 hb; replace BK411 := bk BK411 hb; replace HB := bs HB hb; (try clear hb); (try clear hb2); (try clear hk); (try clear hi)))
    go_ret
    exact ⟨y0_6, bI HB.out⟩
   replace c8 := Bool.eq_false_iff.mpr c8; subst c8
   rw [if_neg (show ¬ (false = true) by decide)] at H
   obtain rfl := Option.some.inj H
   go_enter Tryz.func72, Tryz.ntmps72
   go_wp2_with (first | ((with_reducible refine gd 2 ?_); refine bA 2 #[.int .i64 a0_0, .int .i64 a0_1] 38 ?_; intro gb410 hg w18 hbox hb; have BK410 := Aside0.mk (hbox); have GW410 := bg hg HB; have GJ410 := gi GW410; have GE410 := GW410; replace HB := bs HB hb; clear hb hbox hg) | ((with_reducible refine gd 3 ?_); refine bA 3 #[.int .i64 a1_0, .int .i64 a1_1, .int .i64 a1_2, .string a1_3, .slice A1_4 l1_4.length c1_4, .string a1_5] 35 ?_; intro gb411 hg w19 hbox hb; have BK411 := Aside0.mk (hbox); have GW411 := bg hg HB; have GJ411 := gi GW411; have GE411 := GW411; replace HB := bs HB hb; have NB410_411 := b1 BK410 hg; have NI410_411 := ni NB410_411; have NB411_410 := b2 BK410 hg; have NI411_410 := ni NB411_410; replace BK410 := bk BK410 hb; clear hb hbox hg; have hnb20 := NB411_410.out; have hnc20 := NB410_411.out; have hcz21_0 := bc0 BK411.out; have hcz21_1 := bc1 BK411.out; have hcz21_2 := bc2 BK411.out; have hcz21_3 := bc3 BK411.out; have hcz21_4 := bc4 BK411.out; have hcz21_5 := bc5 BK411.out; have hfz21_0 := blk_frozen BK411.out 0; have hfz21_1 := blk_frozen BK411.out 1; have hfz21_2 := blk_frozen BK411.out 2; have hfz21_3 := blk_frozen BK411.out 3; have hfz21_4 := blk_frozen BK411.out 4; have hfz21_5 := blk_frozen BK411.out 5) | ((with_reducible refine gate_callee (f := 99) rfl ?_); refine gB (some 7) Tryz.func99 #[.int .i64 a1_0, .int .i64 0, .int .i64 60] ?_; (with_reducible refine (impl_within.calls a1_0 0 60 true _ A3.out).mono ?_); rintro e w' ⟨rfl, ⟨nd, rfl⟩⟩; refine ⟨_, rfl, ?_⟩) | (go_at_call 99; (with_reducible refine (impl_within.calls a1_1 0 60 true _ A5.out).mono ?_); rintro e w' ⟨rfl, ⟨nd, rfl⟩⟩; obtain ⟨hcz22_0, hcz22_1, hfz22_0, hfz22_1⟩ := cs2 BK410) | (go_at_call 48; (with_reducible refine (impl_QcOk.calls k a0_0 a0_1 a1_2 a1_3 _ _ l1_4 false _ ?side1 ?side2 A7.out).mono ?_); (case side1 => exact (Kd.C_below HR1_4.out (bI HB.out))); (case side2 => exact HC1_4.out); rintro e w23 ⟨rfl, hb⟩; replace BK410 := bk BK410 hb; replace BK411 := bk BK411 hb; replace HB := bs HB hb; (try clear hb); (try clear hb2); (try clear hk); (try clear hi)))
   go_ret
   exact ⟨y0_6, bI HB.out⟩
  replace c6 := Bool.eq_false_iff.mpr c6; subst c6
  rw [if_neg (show ¬ (false = true) by decide)] at H
  obtain rfl := Option.some.inj H
  go_enter Tryz.func72, Tryz.ntmps72
  go_wp2_with (first | ((with_reducible refine gd 2 ?_); refine bA 2 #[.int .i64 a0_0, .int .i64 a0_1] 38 ?_; intro gb410 hg w24 hbox hb; have BK410 := Aside0.mk (hbox); have GW410 := bg hg HB; have GJ410 := gi GW410; have GE410 := GW410; replace HB := bs HB hb; clear hb hbox hg) | ((with_reducible refine gd 3 ?_); refine bA 3 #[.int .i64 a1_0, .int .i64 a1_1, .int .i64 a1_2, .string a1_3, .slice A1_4 l1_4.length c1_4, .string a1_5] 35 ?_; intro gb411 hg w25 hbox hb; have BK411 := Aside0.mk (hbox); have GW411 := bg hg HB; have GJ411 := gi GW411; have GE411 := GW411; replace HB := bs HB hb; have NB410_411 := b1 BK410 hg; have NI410_411 := ni NB410_411; have NB411_410 := b2 BK410 hg; have NI411_410 := ni NB411_410; replace BK410 := bk BK410 hb; clear hb hbox hg; have hnb26 := NB411_410.out; have hnc26 := NB410_411.out; have hcz27_0 := bc0 BK411.out; have hcz27_1 := bc1 BK411.out; have hcz27_2 := bc2 BK411.out; have hcz27_3 := bc3 BK411.out; have hcz27_4 := bc4 BK411.out; have hcz27_5 := bc5 BK411.out; have hfz27_0 := blk_frozen BK411.out 0; have hfz27_1 := blk_frozen BK411.out 1; have hfz27_2 := blk_frozen BK411.out 2; have hfz27_3 := blk_frozen BK411.out 3; have hfz27_4 := blk_frozen BK411.out 4; have hfz27_5 := blk_frozen BK411.out 5) | ((with_reducible refine gate_callee (f := 99) rfl ?_); refine gB (some 7) Tryz.func99 #[.int .i64 a1_0, .int .i64 0, .int .i64 60] ?_; (with_reducible refine (impl_within.calls a1_0 0 60 true _ A3.out).mono ?_); rintro e w' ⟨rfl, ⟨nd, rfl⟩⟩; refine ⟨_, rfl, ?_⟩) | (go_at_call 99; (with_reducible refine (impl_within.calls a1_1 0 60 false _ A5.out).mono ?_); rintro e w' ⟨rfl, ⟨nd, rfl⟩⟩))
  go_ret
  exact ⟨y0_6, bI HB.out⟩
 replace c4 := Bool.eq_false_iff.mpr c4; subst c4
 rw [if_neg (show ¬ (false = true) by decide)] at H
 obtain rfl := Option.some.inj H
 go_enter Tryz.func72, Tryz.ntmps72
 go_wp2_with (first | ((with_reducible refine gd 2 ?_); refine bA 2 #[.int .i64 a0_0, .int .i64 a0_1] 38 ?_; intro gb410 hg w28 hbox hb; have BK410 := Aside0.mk (hbox); have GW410 := bg hg HB; have GJ410 := gi GW410; have GE410 := GW410; replace HB := bs HB hb; clear hb hbox hg) | ((with_reducible refine gd 3 ?_); refine bA 3 #[.int .i64 a1_0, .int .i64 a1_1, .int .i64 a1_2, .string a1_3, .slice A1_4 l1_4.length c1_4, .string a1_5] 35 ?_; intro gb411 hg w29 hbox hb; have BK411 := Aside0.mk (hbox); have GW411 := bg hg HB; have GJ411 := gi GW411; have GE411 := GW411; replace HB := bs HB hb; have NB410_411 := b1 BK410 hg; have NI410_411 := ni NB410_411; have NB411_410 := b2 BK410 hg; have NI411_410 := ni NB411_410; replace BK410 := bk BK410 hb; clear hb hbox hg; have hnb30 := NB411_410.out; have hnc30 := NB410_411.out; have hcz31_0 := bc0 BK411.out; have hcz31_1 := bc1 BK411.out; have hcz31_2 := bc2 BK411.out; have hcz31_3 := bc3 BK411.out; have hcz31_4 := bc4 BK411.out; have hcz31_5 := bc5 BK411.out; have hfz31_0 := blk_frozen BK411.out 0; have hfz31_1 := blk_frozen BK411.out 1; have hfz31_2 := blk_frozen BK411.out 2; have hfz31_3 := blk_frozen BK411.out 3; have hfz31_4 := blk_frozen BK411.out 4; have hfz31_5 := blk_frozen BK411.out 5) | ((with_reducible refine gate_callee (f := 99) rfl ?_); refine gB (some 7) Tryz.func99 #[.int .i64 a1_0, .int .i64 0, .int .i64 60] ?_; (with_reducible refine (impl_within.calls a1_0 0 60 false _ A3.out).mono ?_); rintro e w' ⟨rfl, ⟨nd, rfl⟩⟩; refine ⟨_, rfl, ?_⟩))
 go_ret
 exact ⟨y0_6, bI HB.out⟩

/-! ### bytealg_LastIndexByteString: function 131 -/
def bytealg_LastIndexByteString.l0 : Nat → ByteArray → Int → Int → Option (Int)
 | 0, _, _, _ => none
 | k + 1, x0, x1, x5 => if x5 ≥ 0 then (if 0 ≤ x5 then (if x5 < (x0.size : Int) then (if (bt x0 x5) = x1 then (some x5) else (bytealg_LastIndexByteString.l0 k x0 x1 (wrap64 (x5 - 1)))) else (none)) else (none)) else (some (-1))
def bytealg_LastIndexByteString.f (k : Nat) (a0 : ByteArray) (a1 : Int) : Option (Int) := bytealg_LastIndexByteString.l0 k a0 a1 (wrap64 ((a0.size : Int) - 1))
theorem bytealg_LastIndexByteString.mono_l : ∀ k, (∀ y0 y1 y2, LeO (bytealg_LastIndexByteString.l0 k y0 y1 y2) (bytealg_LastIndexByteString.l0 (k + 1) y0 y1 y2))
 | 0 => fun _ _ _ r h => by simp [bytealg_LastIndexByteString.l0] at h
 | k + 1 => by
  have ih0 := bytealg_LastIndexByteString.mono_l k
  intro y0 y1 y2
  unfold bytealg_LastIndexByteString.l0
  repeat' first | (with_reducible exact ih0 _ _ _) | (with_reducible exact LeO.refl _) | (with_reducible exact LeO.none _) | (with_reducible refine LeO.ite ?_ ?_) | (with_reducible refine LeO.bind ?_ (fun _ => ?_))
theorem bytealg_LastIndexByteString.mono : ∀ a0 a1 k, LeO (bytealg_LastIndexByteString.f k a0 a1) (bytealg_LastIndexByteString.f (k + 1) a0 a1) := by
 intro a0 a1 k
 have ih0 := bytealg_LastIndexByteString.mono_l k
 unfold bytealg_LastIndexByteString.f
 repeat' first | (with_reducible exact ih0 _ _ _) | (with_reducible exact LeO.refl _) | (with_reducible exact LeO.none _) | (with_reducible refine LeO.ite ?_ ?_) | (with_reducible refine LeO.bind ?_ (fun _ => ?_))
set_option maxHeartbeats 8000000 in
set_option maxRecDepth 100000 in
theorem bytealg_LastIndexByteString.calls (k : Nat) (a0 : ByteArray) (a1 : Int) (r : Int) (w : World) (h : bytealg_LastIndexByteString.f k a0 a1 = some r) :
  Calls Tryz.prog 131 #[.string a0, .int .u8 a1] w fun e w' => e = .returned (.int .i64 r) ∧ Drawn0 w w' := by
 have H : (bytealg_LastIndexByteString.l0 k a0 a1 (wrap64 ((a0.size : Int) - 1))) = some r := h; clear h; have H' := Aside0.mk H; clear H
 go_enter Tryz.func131, Tryz.ntmps131
 go_wp2
 go_loopg [5] k (fun kq v5 w' => ∃ (x5_1 : Int), v5 = .int .i64 x5_1 ∧ Aside0 (bytealg_LastIndexByteString.l0 kq a0 a1 x5_1 = some r) ∧ Aside0 (kq ≤ k) ∧ Drawn0 w w')
 case atStart => exact ⟨(wrap64 ((a0.size : Int) - 1)), y0_9, H', ⟨Nat.le_refl _⟩, y0_7⟩
 case round =>
  clear H'
  try clear c1
  try clear p2
  obtain ⟨x5_1, rfl, HA, HK1, ⟨m1, rfl⟩⟩ := hrel; cases gk with
  | zero => exact absurd HA.out (by simp [bytealg_LastIndexByteString.l0])
  | succ k1 =>
   have H := HA.out; clear HA
   simp only [bytealg_LastIndexByteString.l0] at H
   by_cases c3 : x5_1 ≥ 0
   ·
    rw [if_pos c3] at H
    have c3b0 : decide (0 ≤ x5_1) = true := decide_eq_true c3; clear c3
    by_cases c4 : 0 ≤ x5_1
    rotate_left
    ·
     rw [if_neg c4] at H
     exact absurd H (by simp)
    rw [if_pos c4] at H
    have c4b0 : decide (0 ≤ x5_1) = true := decide_eq_true c4; clear c4
    by_cases c5 : x5_1 < (a0.size : Int)
    rotate_left
    ·
     rw [if_neg c5] at H
     exact absurd H (by simp)
    rw [if_pos c5] at H
    have c5b0 : decide (x5_1 < (a0.size : Int)) = true := decide_eq_true c5; clear c5
    by_cases c7 : (bt a0 x5_1) = a1
    ·
     rw [if_pos c7] at H
     have c7b0 : ((bt a0 x5_1) == a1) = true := beq_iff_eq.mpr c7; have c7b1 : ((bt a0 x5_1) != a1) = false := bne_eq_false_iff_eq.mpr c7; clear c7; obtain rfl := Option.some.inj H; have p6 : 0 ≤ (x5_1 : Int) := of_decide_eq_true y0_8; have q6 : x5_1 < (a0.size : Int) := of_decide_eq_true y0_8; have hx6 := bt_at a0 x5_1; replace p6 := eq_true p6; replace q6 := eq_true q6
     go_wp2
     go_ret
     exact ⟨y0_9, y0_7⟩
    rw [if_neg c7] at H
    have c7b0 : ((bt a0 x5_1) == a1) = false := beq_eq_false_iff_ne.mpr c7; have c7b1 : ((bt a0 x5_1) != a1) = true := bne_iff_ne.mpr c7; have H' := Aside0.mk H; clear H; have p6 : 0 ≤ (x5_1 : Int) := of_decide_eq_true y0_8; have q6 : x5_1 < (a0.size : Int) := of_decide_eq_true y0_8; have hx6 := bt_at a0 x5_1; replace p6 := eq_true p6; replace q6 := eq_true q6
    go_wp2
    go_roundg k1
    case measure => have := HK1.out; omega
    case rel => exact ⟨(wrap64 (x5_1 - 1)), y0_9, H', ⟨y0_13⟩, y0_7⟩
   rw [if_neg c3] at H
   have c3b0 : decide (0 ≤ x5_1) = false := decide_eq_false c3; clear c3; obtain rfl := Option.some.inj H
   go_wp2
   go_ret
   exact ⟨y0_9, y0_7⟩

/-! ### strings_LastIndexByte: function 105 -/
def strings_LastIndexByte.f (k : Nat) (a0 : ByteArray) (a1 : Int) : Option (Int) := (bytealg_LastIndexByteString.f k a0 a1).bind fun t416 => (some t416)
theorem strings_LastIndexByte.mono : ∀ a0 a1 k, LeO (strings_LastIndexByte.f k a0 a1) (strings_LastIndexByte.f (k + 1) a0 a1) := by
 intro a0 a1 k
 unfold strings_LastIndexByte.f
 repeat' first | (with_reducible exact bytealg_LastIndexByteString.mono _ _ _) | (with_reducible exact LeO.refl _) | (with_reducible exact LeO.none _) | (with_reducible refine LeO.ite ?_ ?_) | (with_reducible refine LeO.bind ?_ (fun _ => ?_))
set_option maxHeartbeats 8000000 in
set_option maxRecDepth 100000 in
theorem strings_LastIndexByte.calls (k : Nat) (a0 : ByteArray) (a1 : Int) (r : Int) (w : World) (h : strings_LastIndexByte.f k a0 a1 = some r) :
  Calls Tryz.prog 105 #[.string a0, .int .u8 a1] w fun e w' => e = .returned (.int .i64 r) ∧ Drawn0 w w' := by
 have H : ((bytealg_LastIndexByteString.f k a0 a1).bind fun t416 => (some t416)) = some r := h
 clear h; obtain ⟨t416, A30, H⟩ := Option.bind_eq_some_iff.mp H
 try dsimp only at H
 have A3 := Aside0.mk A30; clear A30; obtain rfl := Option.some.inj H
 go_enter Tryz.func105, Tryz.ntmps105
 go_wp2_with (first | ((with_reducible refine gate_callee (f := 131) rfl ?_); refine gB (some 7) Tryz.func131 #[.string a0, .int .u8 a1] ?_; (with_reducible refine (bytealg_LastIndexByteString.calls k a0 a1 t416 _ A3.out).mono ?_); rintro e w' ⟨rfl, ⟨nd, rfl⟩⟩; refine ⟨_, rfl, ?_⟩))
 go_ret
 exact ⟨y0_9, y0_7⟩

/-! ### impl_UpOf: function 73 -/
def impl_UpOf.f (k : Nat) (a0 : ByteArray) : Option (ByteArray) := (impl_NameOk.f k a0).bind fun t417 => (if t417 = true then (if a0.toList = ([] : List UInt8) then (some (⟨#[]⟩ : ByteArray)) else ((strings_LastIndexByte.f k a0 47).bind fun t418 => (if 0 ≤ t418 then (if t418 ≤ (a0.size : Int) then (some (a0.extract 0 (t418 : Int).toNat)) else (none)) else (none)))) else (some (⟨#[]⟩ : ByteArray)))
theorem impl_UpOf.mono : ∀ a0 k, LeO (impl_UpOf.f k a0) (impl_UpOf.f (k + 1) a0) := by
 intro a0 k
 unfold impl_UpOf.f
 repeat' first | (with_reducible exact impl_NameOk.mono _ _) | (with_reducible exact strings_LastIndexByte.mono _ _ _) | (with_reducible exact LeO.refl _) | (with_reducible exact LeO.none _) | (with_reducible refine LeO.ite ?_ ?_) | (with_reducible refine LeO.bind ?_ (fun _ => ?_))
set_option maxHeartbeats 8000000 in
set_option maxRecDepth 100000 in
theorem impl_UpOf.calls (k : Nat) (a0 : ByteArray) (r : ByteArray) (w : World) (h : impl_UpOf.f k a0 = some r) (hG : Glob w := by exact gG HG HB) :
  Calls Tryz.prog 73 #[.string a0] w fun e w' => e = .returned (.string r) ∧ Below w.heap.size w w' := by
 have HG := Aside0.mk hG; clear hG; have HB := Aside0.mk (Below.refl w.heap.size w)
 have H : ((impl_NameOk.f k a0).bind fun t417 => (if t417 = true then (if a0.toList = ([] : List UInt8) then (some (⟨#[]⟩ : ByteArray)) else ((strings_LastIndexByte.f k a0 47).bind fun t418 => (if 0 ≤ t418 then (if t418 ≤ (a0.size : Int) then (some (a0.extract 0 (t418 : Int).toNat)) else (none)) else (none)))) else (some (⟨#[]⟩ : ByteArray)))) = some r := h
 clear h; obtain ⟨t417, A20, H⟩ := Option.bind_eq_some_iff.mp H
 try dsimp only at H
 have A2 := Aside0.mk A20; clear A20
 by_cases c3 : t417 = true
 ·
  subst c3
  rw [if_pos rfl] at H
  by_cases c4 : a0.toList = ([] : List UInt8)
  ·
   rw [if_pos c4] at H
   have c4b0 : (a0.toList == ([] : List UInt8)) = true := beq_iff_eq.mpr c4; have c4b1 : (a0.toList != ([] : List UInt8)) = false := bne_eq_false_iff_eq.mpr c4; clear c4; obtain rfl := Option.some.inj H
   go_enter Tryz.func73, Tryz.ntmps73
   go_wp2_with (first | ((with_reducible refine gate_callee (f := 95) rfl ?_); refine gB (some 4) Tryz.func95 #[.string a0] ?_; (with_reducible refine (impl_NameOk.calls k a0 true _ A2.out).mono ?_); rintro e w5 ⟨rfl, hb⟩; refine ⟨_, rfl, ?_⟩; replace HB := bs HB hb; (try clear hb); (try clear hb2); (try clear hk); (try clear hi)))
   go_ret
   exact ⟨y0_6, bI HB.out⟩
  rw [if_neg c4] at H
  have c4b0 : (a0.toList == ([] : List UInt8)) = false := beq_eq_false_iff_ne.mpr c4; have c4b1 : (a0.toList != ([] : List UInt8)) = true := bne_iff_ne.mpr c4; obtain ⟨t418, A60, H⟩ := Option.bind_eq_some_iff.mp H
  try dsimp only at H
  have A6 := Aside0.mk A60; clear A60
  by_cases c7 : 0 ≤ t418
  rotate_left
  ·
   rw [if_neg c7] at H
   exact absurd H (by simp)
  rw [if_pos c7] at H
  have c7b0 := eq_true c7; have c7b1 : decide (0 ≤ t418) = true := decide_eq_true c7; clear c7
  by_cases c8 : t418 ≤ (a0.size : Int)
  rotate_left
  ·
   rw [if_neg c8] at H
   exact absurd H (by simp)
  rw [if_pos c8] at H
  have c8b0 := eq_true c8; have c8b1 : decide (t418 ≤ (a0.size : Int)) = true := decide_eq_true c8; clear c8; obtain rfl := Option.some.inj H
  go_enter Tryz.func73, Tryz.ntmps73
  go_wp2_with (first | ((with_reducible refine gate_callee (f := 95) rfl ?_); refine gB (some 4) Tryz.func95 #[.string a0] ?_; (with_reducible refine (impl_NameOk.calls k a0 true _ A2.out).mono ?_); rintro e w9 ⟨rfl, hb⟩; refine ⟨_, rfl, ?_⟩; replace HB := bs HB hb; (try clear hb); (try clear hb2); (try clear hk); (try clear hi)) | ((with_reducible refine gate_callee (f := 105) rfl ?_); refine gB (some 12) Tryz.func105 #[.string a0, .int .u8 47] ?_; (with_reducible refine (strings_LastIndexByte.calls k a0 47 t418 _ A6.out).mono ?_); rintro e w' ⟨rfl, ⟨nd, rfl⟩⟩; refine ⟨_, rfl, ?_⟩))
  go_ret
  exact ⟨y0_6, bI HB.out⟩
 replace c3 := Bool.eq_false_iff.mpr c3; subst c3
 rw [if_neg (show ¬ (false = true) by decide)] at H
 obtain rfl := Option.some.inj H
 go_enter Tryz.func73, Tryz.ntmps73
 go_wp2_with (first | ((with_reducible refine gate_callee (f := 95) rfl ?_); refine gB (some 4) Tryz.func95 #[.string a0] ?_; (with_reducible refine (impl_NameOk.calls k a0 false _ A2.out).mono ?_); rintro e w10 ⟨rfl, hb⟩; refine ⟨_, rfl, ?_⟩; replace HB := bs HB hb; (try clear hb); (try clear hb2); (try clear hk); (try clear hi)))
 go_ret
 exact ⟨y0_6, bI HB.out⟩

/-! ### impl_Settles: function 74 -/
def impl_Settles.j0 : Nat → ByteArray → Bool → Option (ByteArray × Bool)
 | 0, _, _ => none
 | k + 1, x0, x47 => if x47 = true then (some ((⟨#[]⟩ : ByteArray), false)) else ((impl_UpOf.f k x0).bind fun t427 => ((impl_UpOf.f k t427).bind fun t428 => (some (t428, true))))
def impl_Settles.f (k : Nat) (a0 : ByteArray) : Option (ByteArray × Bool) := (impl_Steps.f k a0).bind fun bt419 => (if (bt419.1.length : Int) < 3 then (impl_Settles.j0 k a0 true) else (if 0 ≤ (wrap64 ((bt419.1.length : Int) - 1)) then (if (wrap64 ((bt419.1.length : Int) - 1)) < (bt419.1.length : Int) then (if 0 ≤ (wrap64 ((bt419.1.length : Int) - 2)) then (if (wrap64 ((bt419.1.length : Int) - 2)) < (bt419.1.length : Int) then (if ((rd_T112 bt419.1 (wrap64 ((bt419.1.length : Int) - 1))).f0) = (wrap64 (((rd_T112 bt419.1 (wrap64 ((bt419.1.length : Int) - 2))).f0) + 1)) then (if 0 ≤ (wrap64 ((bt419.1.length : Int) - 3)) then (if (wrap64 ((bt419.1.length : Int) - 3)) < (bt419.1.length : Int) then (impl_Settles.j0 k a0 (((rd_T112 bt419.1 (wrap64 ((bt419.1.length : Int) - 2))).f0) != (wrap64 (((rd_T112 bt419.1 (wrap64 ((bt419.1.length : Int) - 3))).f0) + 1)))) else (none)) else (none)) else (impl_Settles.j0 k a0 true)) else (none)) else (none)) else (none)) else (none)))
theorem impl_Settles.mono_l : ∀ k, (∀ y0 y1, LeO (impl_Settles.j0 k y0 y1) (impl_Settles.j0 (k + 1) y0 y1))
 | 0 => fun _ _ r h => by simp [impl_Settles.j0] at h
 | k + 1 => by
  have ih0 := impl_Settles.mono_l k
  intro y0 y1
  unfold impl_Settles.j0
  repeat' first | (with_reducible exact ih0 _ _) | (with_reducible exact impl_Steps.mono _ _) | (with_reducible exact impl_UpOf.mono _ _) | (with_reducible exact LeO.refl _) | (with_reducible exact LeO.none _) | (with_reducible refine LeO.ite ?_ ?_) | (with_reducible refine LeO.bind ?_ (fun _ => ?_))
theorem impl_Settles.mono : ∀ a0 k, LeO (impl_Settles.f k a0) (impl_Settles.f (k + 1) a0) := by
 intro a0 k
 have ih0 := impl_Settles.mono_l k
 unfold impl_Settles.f
 repeat' first | (with_reducible exact ih0 _ _) | (with_reducible exact impl_Steps.mono _ _) | (with_reducible exact impl_UpOf.mono _ _) | (with_reducible exact LeO.refl _) | (with_reducible exact LeO.none _) | (with_reducible refine LeO.ite ?_ ?_) | (with_reducible refine LeO.bind ?_ (fun _ => ?_))
set_option maxHeartbeats 8000000 in
set_option maxRecDepth 100000 in
theorem impl_Settles.calls (k : Nat) (a0 : ByteArray) (r1 : ByteArray) (r2 : Bool) (w : World) (h : impl_Settles.f k a0 = some (r1, r2)) (hG : Glob w := by exact gG HG HB) :
  Calls Tryz.prog 74 #[.string a0] w fun e w' => e = .returned (.tuple #[.string r1, .bool r2]) ∧ Below w.heap.size w w' := by
 have HG := Aside0.mk hG; clear hG; have HB := Aside0.mk (Below.refl w.heap.size w)
 have H : ((impl_Steps.f k a0).bind fun bt419 => (if (bt419.1.length : Int) < 3 then (impl_Settles.j0 k a0 true) else (if 0 ≤ (wrap64 ((bt419.1.length : Int) - 1)) then (if (wrap64 ((bt419.1.length : Int) - 1)) < (bt419.1.length : Int) then (if 0 ≤ (wrap64 ((bt419.1.length : Int) - 2)) then (if (wrap64 ((bt419.1.length : Int) - 2)) < (bt419.1.length : Int) then (if ((rd_T112 bt419.1 (wrap64 ((bt419.1.length : Int) - 1))).f0) = (wrap64 (((rd_T112 bt419.1 (wrap64 ((bt419.1.length : Int) - 2))).f0) + 1)) then (if 0 ≤ (wrap64 ((bt419.1.length : Int) - 3)) then (if (wrap64 ((bt419.1.length : Int) - 3)) < (bt419.1.length : Int) then (impl_Settles.j0 k a0 (((rd_T112 bt419.1 (wrap64 ((bt419.1.length : Int) - 2))).f0) != (wrap64 (((rd_T112 bt419.1 (wrap64 ((bt419.1.length : Int) - 3))).f0) + 1)))) else (none)) else (none)) else (impl_Settles.j0 k a0 true)) else (none)) else (none)) else (none)) else (none)))) = some (r1, r2) := h
 clear h; obtain ⟨⟨t419, t420⟩, A20, H⟩ := Option.bind_eq_some_iff.mp H
 try dsimp only at H
 have A2 := Aside0.mk A20; clear A20; have HC3 := Aside0.mk H; clear H
 go_enter Tryz.func74, Tryz.ntmps74
 go_upto_region 3 with (first | (go_at_call 90; (with_reducible refine (impl_Steps.calls k a0 t419 t420 _ A2.out).mono ?_); rintro e w4 ⟨v421, rfl, ho0, hb⟩; have HO422 := Aside0.mk (Kd.S_lower ho0 (below_size (bI HB.out))); replace HB := bs HB hb; (try clear hb); (try clear ho0); obtain ⟨Ao5, co5, eo5⟩ := Kd.S_slice HO422.out; subst eo5))
 repeat (go_quiet (first | (go_at_call 90; (with_reducible refine (impl_Steps.calls k a0 t419 t420 _ A2.out).mono ?_); rintro e w4 ⟨v421, rfl, ho0, hb⟩; have HO422 := Aside0.mk (Kd.S_lower ho0 (below_size (bI HB.out))); replace HB := bs HB hb; (try clear hb); (try clear ho0); obtain ⟨Ao5, co5, eo5⟩ := Kd.S_slice HO422.out; subst eo5)); go_upto_region 3 with (first | (go_at_call 90; (with_reducible refine (impl_Steps.calls k a0 t419 t420 _ A2.out).mono ?_); rintro e w4 ⟨v421, rfl, ho0, hb⟩; have HO422 := Aside0.mk (Kd.S_lower ho0 (below_size (bI HB.out))); replace HB := bs HB hb; (try clear hb); (try clear ho0); obtain ⟨Ao5, co5, eo5⟩ := Kd.S_slice HO422.out; subst eo5)))
 (try simp only [Act.put, List.setIfInBounds_toArray, List.set_cons_zero, List.set_cons_succ])
 go_cut [47] (fun v47 wc => ∃ (kq : Nat) (x47_2 : Bool), v47 = .bool x47_2 ∧ Aside0 (impl_Settles.j0 kq a0 x47_2 = some (r1, r2)) ∧ Aside0 (kq ≤ k) ∧ Aside0 (Below w.heap.size w wc))
 case first =>
  have H := HC3.out; clear HC3
  by_cases c6 : (t419.length : Int) < 3
  ·
   rw [if_pos c6] at H
   have c6b0 : decide ((t419.length : Int) < 3) = true := decide_eq_true c6
   have c6b1 : decide (t419.length < 3) = true := decide_eq_true (by omega)
   clear c6
   (first | rw [c6b0] | (simp only [i64_w, i32_w]; rw [c6b0]) | skip)
   have H' := Aside0.mk H; clear H
   go_wp2
   repeat (go_quiet (fail); try go_wp2)
   go_meet
   case rel => exact ⟨_, (true), y0_9, H', ⟨y0_10⟩, ⟨bI HB.out⟩⟩
  rw [if_neg c6] at H
  have c6b0 : decide ((t419.length : Int) < 3) = false := decide_eq_false c6
  have c6b1 : decide (t419.length < 3) = false := decide_eq_false (by omega)
  clear c6
  (first | rw [c6b0] | (simp only [i64_w, i32_w]; rw [c6b0]) | skip)
  obtain ⟨ji7, hji7⟩ : ∃ j_ : Int, (wrap64 ((t419.length : Int) - 1)) = j_ := ⟨_, rfl⟩
  replace H : (if 0 ≤ (ji7) then (if (ji7) < (t419.length : Int) then (if 0 ≤ (wrap64 ((t419.length : Int) - 2)) then (if (wrap64 ((t419.length : Int) - 2)) < (t419.length : Int) then (if ((rd_T112 t419 (ji7)).f0) = (wrap64 (((rd_T112 t419 (wrap64 ((t419.length : Int) - 2))).f0) + 1)) then (if 0 ≤ (wrap64 ((t419.length : Int) - 3)) then (if (wrap64 ((t419.length : Int) - 3)) < (t419.length : Int) then (impl_Settles.j0 k a0 (((rd_T112 t419 (wrap64 ((t419.length : Int) - 2))).f0) != (wrap64 (((rd_T112 t419 (wrap64 ((t419.length : Int) - 3))).f0) + 1)))) else (none)) else (none)) else (impl_Settles.j0 k a0 true)) else (none)) else (none)) else (none)) else (none)) = some (r1, r2) := by first | (rw [hji7] at H; exact H) | (simp only [hji7] at H ⊢; exact H)
  have hji7w : (IntKind.i64.wrap ((t419.length : Int) - 1)) = ji7 := (i64_w _).trans hji7
  by_cases c8 : 0 ≤ (ji7)
  rotate_left
  ·
   rw [if_neg c8] at H
   exact absurd H (by simp)
  rw [if_pos c8] at H
  have c8b0 : decide (0 ≤ (ji7)) = true := decide_eq_true c8; clear c8
  by_cases c9 : (ji7) < (t419.length : Int)
  rotate_left
  ·
   rw [if_neg c9] at H
   exact absurd H (by simp)
  rw [if_pos c9] at H
  have c9b0 : decide ((ji7) < (t419.length : Int)) = true := decide_eq_true c9; clear c9; obtain ⟨ji10, hji10⟩ : ∃ j_ : Int, (wrap64 ((t419.length : Int) - 2)) = j_ := ⟨_, rfl⟩
  replace H : (if 0 ≤ (ji10) then (if (ji10) < (t419.length : Int) then (if ((rd_T112 t419 (ji7)).f0) = (wrap64 (((rd_T112 t419 (ji10)).f0) + 1)) then (if 0 ≤ (wrap64 ((t419.length : Int) - 3)) then (if (wrap64 ((t419.length : Int) - 3)) < (t419.length : Int) then (impl_Settles.j0 k a0 (((rd_T112 t419 (ji10)).f0) != (wrap64 (((rd_T112 t419 (wrap64 ((t419.length : Int) - 3))).f0) + 1)))) else (none)) else (none)) else (impl_Settles.j0 k a0 true)) else (none)) else (none)) = some (r1, r2) := by first | (rw [hji10] at H; exact H) | (simp only [hji10] at H ⊢; exact H)
  have hji10w : (IntKind.i64.wrap ((t419.length : Int) - 2)) = ji10 := (i64_w _).trans hji10
  by_cases c11 : 0 ≤ (ji10)
  rotate_left
  ·
   rw [if_neg c11] at H
   exact absurd H (by simp)
  rw [if_pos c11] at H
  have c11b0 : decide (0 ≤ (ji10)) = true := decide_eq_true c11; clear c11
  by_cases c12 : (ji10) < (t419.length : Int)
  rotate_left
  ·
   rw [if_neg c12] at H
   exact absurd H (by simp)
  rw [if_pos c12] at H
  have c12b0 : decide ((ji10) < (t419.length : Int)) = true := decide_eq_true c12; clear c12
  by_cases c13 : ((rd_T112 t419 (ji7)).f0) = (wrap64 (((rd_T112 t419 (ji10)).f0) + 1))
  ·
   rw [if_pos c13] at H
   have c13b0 : (((rd_T112 t419 (ji7)).f0) == (wrap64 (((rd_T112 t419 (ji10)).f0) + 1))) = true := beq_iff_eq.mpr c13; have c13b1 : (((rd_T112 t419 (ji7)).f0) != (wrap64 (((rd_T112 t419 (ji10)).f0) + 1))) = false := bne_eq_false_iff_eq.mpr c13; clear c13; obtain ⟨ji14, hji14⟩ : ∃ j_ : Int, (wrap64 ((t419.length : Int) - 3)) = j_ := ⟨_, rfl⟩
   replace H : (if 0 ≤ (ji14) then (if (ji14) < (t419.length : Int) then (impl_Settles.j0 k a0 (((rd_T112 t419 (ji10)).f0) != (wrap64 (((rd_T112 t419 (ji14)).f0) + 1)))) else (none)) else (none)) = some (r1, r2) := by first | (rw [hji14] at H; exact H) | (simp only [hji14] at H ⊢; exact H)
   have hji14w : (IntKind.i64.wrap ((t419.length : Int) - 3)) = ji14 := (i64_w _).trans hji14
   by_cases c15 : 0 ≤ (ji14)
   rotate_left
   ·
    rw [if_neg c15] at H
    exact absurd H (by simp)
   rw [if_pos c15] at H
   have c15b0 : decide (0 ≤ (ji14)) = true := decide_eq_true c15; clear c15
   by_cases c16 : (ji14) < (t419.length : Int)
   rotate_left
   ·
    rw [if_neg c16] at H
    exact absurd H (by simp)
   rw [if_pos c16] at H
   have c16b0 : decide ((ji14) < (t419.length : Int)) = true := decide_eq_true c16; clear c16; have H' := Aside0.mk H; clear H; have p423 : 0 ≤ ((ji7) : Int) := of_decide_eq_true y0_8; have q423 : (ji7) < (t419.length : Int) := of_decide_eq_true y0_8; obtain ⟨ad423, A423_1, c423_1, e423, hx423_0, hx423_1, hl423_1, hi423_1⟩ := at_T112 (Kd.S_reads' HO422.out).2.2 (ji7) p423 q423; cases e423
   obtain ⟨ce423, hce423, hMe423, hcc423⟩ := Kd.S_get HO422.out z112 (ji7) p423 (by first | exact q423 | exact of_decide_eq_true y0_8 | (have e_ := (Kd.S_reads' HO422.out).1; omega))
   obtain ⟨ve423_1, rfl, ge423_1⟩ := k112_openM hMe423; have hv423_1 := hcc423 1 _ rfl
   rw [add_field _ _ 1 (by omega)] at hv423_1
   replace hv423_1 := Option.some.inj (hv423_1.symm.trans hx423_1)
   rw [hv423_1] at ge423_1
   have HL423_1 := Aside0.mk (show Kd.R k99 99 _ _ _ _ ((rd_T112 t419 (ji7)).f1) from ge423_1)
   clear hv423_1 ge423_1; clear hcc423 hce423; have HR423_1 := Aside0.mk hi423_1; have HC423_1 := Aside0.mk hl423_1; clear hi423_1 hl423_1; replace p423 := eq_true p423; replace q423 := eq_true q423; have p424 : 0 ≤ ((ji10) : Int) := of_decide_eq_true y0_8; have q424 : (ji10) < (t419.length : Int) := of_decide_eq_true y0_8; obtain ⟨ad424, A424_1, c424_1, e424, hx424_0, hx424_1, hl424_1, hi424_1⟩ := at_T112 (Kd.S_reads' HO422.out).2.2 (ji10) p424 q424
   obtain rfl : ad423 = ad424 := (by injection e424)
   obtain ⟨ce424, hce424, hMe424, hcc424⟩ := Kd.S_get HO422.out z112 (ji10) p424 (by first | exact q424 | exact of_decide_eq_true y0_8 | (have e_ := (Kd.S_reads' HO422.out).1; omega))
   obtain ⟨ve424_1, rfl, ge424_1⟩ := k112_openM hMe424; have hv424_1 := hcc424 1 _ rfl
   rw [add_field _ _ 1 (by omega)] at hv424_1
   replace hv424_1 := Option.some.inj (hv424_1.symm.trans hx424_1)
   rw [hv424_1] at ge424_1
   have HL424_1 := Aside0.mk (show Kd.R k99 99 _ _ _ _ ((rd_T112 t419 (ji10)).f1) from ge424_1)
   clear hv424_1 ge424_1; clear hcc424 hce424; have HR424_1 := Aside0.mk hi424_1; have HC424_1 := Aside0.mk hl424_1; clear hi424_1 hl424_1; replace p424 := eq_true p424; replace q424 := eq_true q424; have p425 : 0 ≤ ((ji10) : Int) := of_decide_eq_true y0_8; have q425 : (ji10) < (t419.length : Int) := of_decide_eq_true y0_8; obtain ⟨ad425, A425_1, c425_1, e425, hx425_0, hx425_1, hl425_1, hi425_1⟩ := at_T112 (Kd.S_reads' HO422.out).2.2 (ji10) p425 q425
   obtain rfl : ad423 = ad425 := (by injection e425)
   obtain ⟨ce425, hce425, hMe425, hcc425⟩ := Kd.S_get HO422.out z112 (ji10) p425 (by first | exact q425 | exact of_decide_eq_true y0_8 | (have e_ := (Kd.S_reads' HO422.out).1; omega))
   obtain ⟨ve425_1, rfl, ge425_1⟩ := k112_openM hMe425; have hv425_1 := hcc425 1 _ rfl
   rw [add_field _ _ 1 (by omega)] at hv425_1
   replace hv425_1 := Option.some.inj (hv425_1.symm.trans hx425_1)
   rw [hv425_1] at ge425_1
   have HL425_1 := Aside0.mk (show Kd.R k99 99 _ _ _ _ ((rd_T112 t419 (ji10)).f1) from ge425_1)
   clear hv425_1 ge425_1; clear hcc425 hce425; have HR425_1 := Aside0.mk hi425_1; have HC425_1 := Aside0.mk hl425_1; clear hi425_1 hl425_1; replace p425 := eq_true p425; replace q425 := eq_true q425; have ea_ := Option.some.inj (hx424_1.symm.trans hx425_1)
   injection ea_ with ea_ en_ ec_
   subst ea_; subst ec_; clear en_; have p426 : 0 ≤ ((ji14) : Int) := of_decide_eq_true y0_8; have q426 : (ji14) < (t419.length : Int) := of_decide_eq_true y0_8; obtain ⟨ad426, A426_1, c426_1, e426, hx426_0, hx426_1, hl426_1, hi426_1⟩ := at_T112 (Kd.S_reads' HO422.out).2.2 (ji14) p426 q426
   obtain rfl : ad423 = ad426 := (by injection e426)
   obtain ⟨ce426, hce426, hMe426, hcc426⟩ := Kd.S_get HO422.out z112 (ji14) p426 (by first | exact q426 | exact of_decide_eq_true y0_8 | (have e_ := (Kd.S_reads' HO422.out).1; omega))
   obtain ⟨ve426_1, rfl, ge426_1⟩ := k112_openM hMe426; have hv426_1 := hcc426 1 _ rfl
   rw [add_field _ _ 1 (by omega)] at hv426_1
   replace hv426_1 := Option.some.inj (hv426_1.symm.trans hx426_1)
   rw [hv426_1] at ge426_1
   have HL426_1 := Aside0.mk (show Kd.R k99 99 _ _ _ _ ((rd_T112 t419 (ji14)).f1) from ge426_1)
   clear hv426_1 ge426_1; clear hcc426 hce426; have HR426_1 := Aside0.mk hi426_1; have HC426_1 := Aside0.mk hl426_1; clear hi426_1 hl426_1; replace p426 := eq_true p426; replace q426 := eq_true q426
   go_wp2
   repeat (go_quiet (fail); try go_wp2)
   go_meet
   case rel => exact ⟨_, ((((rd_T112 t419 (ji10)).f0) != (wrap64 (((rd_T112 t419 (ji14)).f0) + 1)))), (by first | rfl | (simp; done) | (simp only [← hji10, ← hji14] <;> (first | rfl | simp)) | (simp [*]; done)), H', ⟨y0_10⟩, ⟨bI HB.out⟩⟩
  rw [if_neg c13] at H
  have c13b0 : (((rd_T112 t419 (ji7)).f0) == (wrap64 (((rd_T112 t419 (ji10)).f0) + 1))) = false := beq_eq_false_iff_ne.mpr c13; have c13b1 : (((rd_T112 t419 (ji7)).f0) != (wrap64 (((rd_T112 t419 (ji10)).f0) + 1))) = true := bne_iff_ne.mpr c13; have H' := Aside0.mk H; clear H; have p423 : 0 ≤ ((ji7) : Int) := of_decide_eq_true y0_8; have q423 : (ji7) < (t419.length : Int) := of_decide_eq_true y0_8; obtain ⟨ad423, A423_1, c423_1, e423, hx423_0, hx423_1, hl423_1, hi423_1⟩ := at_T112 (Kd.S_reads' HO422.out).2.2 (ji7) p423 q423; cases e423
  obtain ⟨ce423, hce423, hMe423, hcc423⟩ := Kd.S_get HO422.out z112 (ji7) p423 (by first | exact q423 | exact of_decide_eq_true y0_8 | (have e_ := (Kd.S_reads' HO422.out).1; omega))
  obtain ⟨ve423_1, rfl, ge423_1⟩ := k112_openM hMe423; have hv423_1 := hcc423 1 _ rfl
  rw [add_field _ _ 1 (by omega)] at hv423_1
  replace hv423_1 := Option.some.inj (hv423_1.symm.trans hx423_1)
  rw [hv423_1] at ge423_1
  have HL423_1 := Aside0.mk (show Kd.R k99 99 _ _ _ _ ((rd_T112 t419 (ji7)).f1) from ge423_1)
  clear hv423_1 ge423_1; clear hcc423 hce423; have HR423_1 := Aside0.mk hi423_1; have HC423_1 := Aside0.mk hl423_1; clear hi423_1 hl423_1; replace p423 := eq_true p423; replace q423 := eq_true q423; have p424 : 0 ≤ ((ji10) : Int) := of_decide_eq_true y0_8; have q424 : (ji10) < (t419.length : Int) := of_decide_eq_true y0_8; obtain ⟨ad424, A424_1, c424_1, e424, hx424_0, hx424_1, hl424_1, hi424_1⟩ := at_T112 (Kd.S_reads' HO422.out).2.2 (ji10) p424 q424
  obtain rfl : ad423 = ad424 := (by injection e424)
  obtain ⟨ce424, hce424, hMe424, hcc424⟩ := Kd.S_get HO422.out z112 (ji10) p424 (by first | exact q424 | exact of_decide_eq_true y0_8 | (have e_ := (Kd.S_reads' HO422.out).1; omega))
  obtain ⟨ve424_1, rfl, ge424_1⟩ := k112_openM hMe424; have hv424_1 := hcc424 1 _ rfl
  rw [add_field _ _ 1 (by omega)] at hv424_1
  replace hv424_1 := Option.some.inj (hv424_1.symm.trans hx424_1)
  rw [hv424_1] at ge424_1
  have HL424_1 := Aside0.mk (show Kd.R k99 99 _ _ _ _ ((rd_T112 t419 (ji10)).f1) from ge424_1)
  clear hv424_1 ge424_1; clear hcc424 hce424; have HR424_1 := Aside0.mk hi424_1; have HC424_1 := Aside0.mk hl424_1; clear hi424_1 hl424_1; replace p424 := eq_true p424; replace q424 := eq_true q424
  go_wp2
  repeat (go_quiet (fail); try go_wp2)
  go_meet
  case rel => exact ⟨_, (true), y0_9, H', ⟨y0_10⟩, ⟨bI HB.out⟩⟩
 case rest =>
  clear HC3
  try clear c1
  try clear p2
  try clear c4
  try clear p4
  try clear q4
  try clear hx4
  try clear c6
  try clear c6b0
  try clear c6b1
  try clear p6
  try clear c7
  try clear c8
  try clear c8b0
  try clear c9
  try clear c9b0
  try clear c11
  try clear c11b0
  try clear c12
  try clear c12b0
  try clear c13
  try clear c13b0
  try clear c13b1
  try clear c15
  try clear c15b0
  try clear c16
  try clear c16b0
  try clear hx423_0
  try clear hx423_1
  try clear hx424_0
  try clear hx424_1
  try clear hx425_0
  try clear hx425_1
  try clear hx426_0
  try clear hx426_1
  try clear p423
  try clear p424
  try clear p425
  try clear p426
  try clear q423
  try clear q424
  try clear q425
  try clear q426
  obtain ⟨kq, x47_2, rfl, HA, HJ2, HB⟩ := hcut; cases kq with
  | zero => exact absurd HA.out (by simp [impl_Settles.j0])
  | succ kj2 =>
   have H := HA.out; clear HA
   simp only [impl_Settles.j0] at H
   by_cases c17 : x47_2 = true
   ·
    subst c17
    rw [if_pos rfl] at H
    simp only [Option.some.injEq, Prod.mk.injEq] at H
    obtain ⟨rfl, rfl⟩ := H
    go_wp2
    repeat (go_quiet (fail); try go_wp2)
    go_ret2
    exact ⟨y0_6, bI HB.out⟩
   replace c17 := Bool.eq_false_iff.mpr c17; subst c17
   rw [if_neg (show ¬ (false = true) by decide)] at H
   obtain ⟨t427, A180, H⟩ := Option.bind_eq_some_iff.mp H
   try dsimp only at H
   have A18 := Aside0.mk A180; clear A180; obtain ⟨t428, A190, H⟩ := Option.bind_eq_some_iff.mp H
   try dsimp only at H
   have A19 := Aside0.mk A190; clear A190
   simp only [Option.some.injEq, Prod.mk.injEq] at H
   obtain ⟨rfl, rfl⟩ := H
   go_wp2_with (first | (go_at_call 73; (with_reducible refine (impl_UpOf.calls kj2 a0 t427 _ A18.out).mono ?_); rintro e w20 ⟨rfl, hb⟩; replace HB := bs HB hb; (try clear hb); (try clear hb2); (try clear hk); (try clear hi)) | (go_at_call 73; (with_reducible refine (impl_UpOf.calls kj2 t427 t428 _ A19.out).mono ?_); rintro e w21 ⟨rfl, hb⟩; replace HB := bs HB hb; (try clear hb); (try clear hb2); (try clear hk); (try clear hi)))
   repeat (go_quiet (first | (go_at_call 73; (with_reducible refine (impl_UpOf.calls kj2 a0 t427 _ A18.out).mono ?_); rintro e w20 ⟨rfl, hb⟩; replace HB := bs HB hb; (try clear hb); (try clear hb2); (try clear hk); (try clear hi)) | (go_at_call 73; (with_reducible refine (impl_UpOf.calls kj2 t427 t428 _ A19.out).mono ?_); rintro e w21 ⟨rfl, hb⟩; replace HB := bs HB hb; (try clear hb); (try clear hb2); (try clear hk); (try clear hi))); try go_wp2_with (first | (go_at_call 73; (with_reducible refine (impl_UpOf.calls kj2 a0 t427 _ A18.out).mono ?_); rintro e w20 ⟨rfl, hb⟩; replace HB := bs HB hb; (try clear hb); (try clear hb2); (try clear hk); (try clear hi)) | (go_at_call 73; (with_reducible refine (impl_UpOf.calls kj2 t427 t428 _ A19.out).mono ?_); rintro e w21 ⟨rfl, hb⟩; replace HB := bs HB hb; (try clear hb); (try clear hb2); (try clear hk); (try clear hi))))
   go_ret2
   exact ⟨y0_6, bI HB.out⟩

/-! ### stringslite_HasPrefix: function 132 -/
def stringslite_HasPrefix.f (a0 : ByteArray) (a1 : ByteArray) : Option (Bool) := if (a0.size : Int) ≥ (a1.size : Int) then (if 0 ≤ (a1.size : Int) then (if (a1.size : Int) ≤ (a0.size : Int) then (some ((a0.extract 0 ((a1.size : Int) : Int).toNat).toList == a1.toList)) else (none)) else (none)) else (some false)
set_option maxHeartbeats 8000000 in
set_option maxRecDepth 100000 in
theorem stringslite_HasPrefix.calls (a0 : ByteArray) (a1 : ByteArray) (r : Bool) (w : World) (h : stringslite_HasPrefix.f a0 a1 = some r) :
  Calls Tryz.prog 132 #[.string a0, .string a1] w fun e w' => e = .returned (.bool r) ∧ Drawn0 w w' := by
 have H : (if (a0.size : Int) ≥ (a1.size : Int) then (if 0 ≤ (a1.size : Int) then (if (a1.size : Int) ≤ (a0.size : Int) then (some ((a0.extract 0 ((a1.size : Int) : Int).toNat).toList == a1.toList)) else (none)) else (none)) else (some false)) = some r := h; clear h
 by_cases c3 : (a0.size : Int) ≥ (a1.size : Int)
 ·
  rw [if_pos c3] at H
  have c3b0 : decide ((a1.size : Int) ≤ (a0.size : Int)) = true := decide_eq_true c3; have c3b1 : decide (a1.size ≤ a0.size) = true := decide_eq_true (Int.ofNat_le.mp c3); clear c3
  by_cases c4 : 0 ≤ (a1.size : Int)
  rotate_left
  ·
   rw [if_neg c4] at H
   exact absurd H (by simp)
  rw [if_pos c4] at H
  have c4b0 := eq_true c4; have c4b1 : decide (0 ≤ (a1.size : Int)) = true := decide_eq_true c4; clear c4
  by_cases c5 : (a1.size : Int) ≤ (a0.size : Int)
  rotate_left
  ·
   rw [if_neg c5] at H
   exact absurd H (by simp)
  rw [if_pos c5] at H
  have c5b0 := eq_true c5; have c5b1 : decide ((a1.size : Int) ≤ (a0.size : Int)) = true := decide_eq_true c5; clear c5; obtain rfl := Option.some.inj H
  go_enter Tryz.func132, Tryz.ntmps132
  go_wp2
  go_ret
  exact ⟨y0_9, y0_7⟩
 rw [if_neg c3] at H
 have c3b0 : decide ((a1.size : Int) ≤ (a0.size : Int)) = false := decide_eq_false c3
 have c3b1 : decide (a1.size ≤ a0.size) = false := decide_eq_false (fun h => c3 (Int.ofNat_le.mpr h))
 clear c3; obtain rfl := Option.some.inj H
 go_enter Tryz.func132, Tryz.ntmps132
 go_wp2
 go_ret
 exact ⟨y0_9, y0_7⟩

/-! ### strings_HasPrefix: function 106 -/
def strings_HasPrefix.f (a0 : ByteArray) (a1 : ByteArray) : Option (Bool) := (stringslite_HasPrefix.f a0 a1).bind fun t429 => (some t429)
set_option maxHeartbeats 8000000 in
set_option maxRecDepth 100000 in
theorem strings_HasPrefix.calls (a0 : ByteArray) (a1 : ByteArray) (r : Bool) (w : World) (h : strings_HasPrefix.f a0 a1 = some r) :
  Calls Tryz.prog 106 #[.string a0, .string a1] w fun e w' => e = .returned (.bool r) ∧ Drawn0 w w' := by
 have H : ((stringslite_HasPrefix.f a0 a1).bind fun t429 => (some t429)) = some r := h
 clear h; obtain ⟨t429, A30, H⟩ := Option.bind_eq_some_iff.mp H
 try dsimp only at H
 have A3 := Aside0.mk A30; clear A30; obtain rfl := Option.some.inj H
 go_enter Tryz.func106, Tryz.ntmps106
 go_wp2_with (first | ((with_reducible refine gate_callee (f := 132) rfl ?_); refine gB (some 7) Tryz.func132 #[.string a0, .string a1] ?_; (with_reducible refine (stringslite_HasPrefix.calls a0 a1 t429 _ A3.out).mono ?_); rintro e w' ⟨rfl, ⟨nd, rfl⟩⟩; refine ⟨_, rfl, ?_⟩))
 go_ret
 exact ⟨y0_9, y0_7⟩

end Go.Proofs.YtemjmefacifdeaaGreatDoor.PFnSettlesThree
