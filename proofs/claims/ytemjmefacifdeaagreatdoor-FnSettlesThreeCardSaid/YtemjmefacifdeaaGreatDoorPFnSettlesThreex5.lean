-- By a program of this session, out of the translation (the print of the kit, with turns of its own). Lean checks it.
import Derived.Test.YtemjmefacifdeaaGreatDoorPFnSettlesThreex0
import Derived.Test.YtemjmefacifdeaaGreatDoorPFnSettlesThreex1
import Derived.Test.YtemjmefacifdeaaGreatDoorPFnSettlesThreex3
import Derived.Test.YtemjmefacifdeaaGreatDoorPFnSettlesThreex4
namespace Go.Proofs.YtemjmefacifdeaaGreatDoor.PFnSettlesThree
open Go.RowKit Go.Proofs.YtemjmefacifdeaaGreatDoorW.PrintWords Go.Proofs.YtemjmefacifdeaaGreatDoorW.PrintLast Go.Proofs.YtemjmefacifdeaaGreatDoorW.PrintMore
attribute [local go_sem] max2_int min2_int max_two min_two max_three min_three max_four min_four   -- for this text's walks alone
set_option linter.unusedVariables false
set_option linter.unusedSimpArgs false

/-! ### spec_l7Copy: function 79 -/
def spec_l7Copy.f (a0_0 : Int) (a0_1 : ByteArray) (l0_2 : List Int) : Option (Int × ByteArray × List Int) := (some (([] : List Int) : List Int)).bind fun y217 => (if y217.length + l0_2.length < 17592186044416 then (some (a0_0, a0_1, (y217 ++ l0_2))) else (none))
set_option maxHeartbeats 8000000 in
set_option maxRecDepth 100000 in
theorem spec_l7Copy.calls (a0_0 : Int) (a0_1 : ByteArray) (A0_2 : Option Addr) (c0_2 : Nat) (l0_2 : List Int) (r1 : Int) (r2 : ByteArray) (r3 : List Int) (w : World) (hr0_2 : Kd.C (Kd.int .i64) w A0_2 l0_2.length l0_2) (hc0_2 : l0_2.length ≤ c0_2) (h : spec_l7Copy.f a0_0 a0_1 l0_2 = some (r1, r2, r3)) :
  Calls Tryz.prog 79 #[.agg #[.int .i64 a0_0, .string a0_1, .slice A0_2 l0_2.length c0_2]] w fun e w' => ∃ v2_ : Value, e = .returned (.agg #[.int .i64 r1, .string r2, v2_]) ∧ Kd.R (Kd.int .i64) 3 w' w.heap.size (fun _ => True) v2_ r3 ∧ Below w.heap.size w w' := by
 have hu33 := Tryz.underlying33; have HR0_2 := Aside0.mk hr0_2; have HC0_2 := Aside0.mk hc0_2; clear hr0_2 hc0_2; have HB := Aside0.mk (Below.refl w.heap.size w)
 have H : ((some (([] : List Int) : List Int)).bind fun y217 => (if y217.length + l0_2.length < 17592186044416 then (some (a0_0, a0_1, (y217 ++ l0_2))) else (none))) = some (r1, r2, r3) := h
 clear h; obtain ⟨y217, hy217⟩ : ∃ y_ : List Int, y_ = (([] : List Int)) := ⟨_, rfl⟩
 replace H : (if y217.length + l0_2.length < 17592186044416 then (some (a0_0, a0_1, (y217 ++ l0_2))) else (none)) = some (r1, r2, r3) := by first | (rw [hy217]; with_reducible exact H) | (have H2_ := (Option.bind_some _ _).symm.trans H; rw [hy217]; with_reducible exact H2_) | (have H2_ := (Option.bind_some _ _).symm.trans H; with_reducible exact H2_) | with_reducible exact H | (rw [hy217]; exact H) | exact H
 have Ny217 := Aside0.mk hy217; clear hy217
 by_cases c2 : y217.length + l0_2.length < 17592186044416
 ·
  rw [if_pos c2] at H
  have LMc2 := Aside0.mk c2; clear c2; obtain ⟨y220, hy220⟩ : ∃ y_ : List Int, y_ = (y217 ++ l0_2) := ⟨_, rfl⟩
  replace H : (some (a0_0, a0_1, y220)) = some (r1, r2, r3) := by first | (rw [hy220]; with_reducible exact H) | (have H2_ := (Option.bind_some _ _).symm.trans H; rw [hy220]; with_reducible exact H2_) | (have H2_ := (Option.bind_some _ _).symm.trans H; with_reducible exact H2_) | with_reducible exact H | (rw [hy220]; exact H) | exact H
  have Ny220 := Aside0.mk hy220; clear hy220
  simp only [Option.some.injEq, Prod.mk.injEq] at H
  obtain ⟨rfl, rfl, rfl⟩ := H
  go_enter Tryz.func79, Tryz.ntmps79
  go_wp2_with (first | ((with_reducible refine gd 1 ?_); refine bA 1 #[.int .i64 a0_0, .string a0_1, .slice A0_2 l0_2.length c0_2] 33 ?_; intro gb215 hg w3 hbox hb; have BK215 := Aside0.mk (hbox); have GW215 := bg hg HB; have GJ215 := gi GW215; have GE215 := GW215; replace HB := bs HB hb; clear hb hbox hg) | ((with_reducible refine gd 2 ?_); refine bA 2 #[.int .i64 0, .string (⟨#[]⟩ : ByteArray), .slice none 0 0] 33 ?_; intro gb216 hg w4 hbox hb; have BK216 := Aside0.mk (hbox); have GW216 := bg hg HB; have GJ216 := gi GW216; have GE216 := GW216; replace HB := bs HB hb; have NB215_216 := b1 BK215 hg; have NI215_216 := ni NB215_216; have NB216_215 := b2 BK215 hg; have NI216_215 := ni NB216_215; replace BK215 := bk BK215 hb; clear hb hbox hg) | ((with_reducible refine gate_dst (N := 3) rfl ?_); refine Kd.R_lit (Kd.int .i64) _ 3 ?hg (N := 3) ?hd (xs := ([] : List Int)) (inner := []) (ok := fun _ => True) (okp := fun _ => True) ?hr ?hp (fun _ hk => hk) trivial (Below.refl _ _) (Nat.le_refl _) (by simp) ?_; (case hd => rfl); (case hg => rfl); (case hr => first | (go_simp; done) | (go_simp; rfl)); (case hp => exact (Reps.none _ _)); intro v218 w5 ho6 hb hg_ hnew_; clear hg_ hnew_; (first | rw [← Ny217.out] at ho6 | (simp only [Int.reduceToNat] at ho6; rw [← Ny217.out] at ho6)); have HO219 := Aside0.mk (Kd.R_lower ho6 (below_size (bI HB.out))); replace BK215 := bk BK215 hb; replace BK216 := bk BK216 hb; replace HB := bs HB hb; clear hb ho6; have hnb7 := NB215_216.out; have hnc7 := NB216_215.out; obtain ⟨hcz8_0, hcz8_1, hcz8_2, hfz8_0, hfz8_1, hfz8_2⟩ := cs3 BK215) | ((with_reducible refine gate_builtin (b := .append) (xs := #[.tmp 3, .tmp 5]) rfl ?_); at_builtin; refine Kd.R_append_rows (Kd.int .i64) (w0 := w) w.heap.size rfl (.tmp 3) (.tmp 5) 24 3 (.int .i64 0) 8 rfl Tryz.underlying24 info3 rfl (by decide) (by omega) v218 y217 l0_2 _ _ _ (fun _ => True) (fun _ => False) rfl rfl ?aO ?aR (fun _ _ h => h) (fun _ h => h.elim) ?aF ?aB ?aS ?aL ?_; (case aR => exact ch HR0_2 HB); (case aB => exact (bI HB.out)); (case aF => exact (fun _ _ => trivial)); (case aO => exact (rI HO219.out)); (case aS => exact (below_size (bI HB.out))); (case aL => have := LMc2.out; omega); intro v221 w9 ho hb hg hat; rw [← Ny220.out] at ho; have n0_ := bn BK215 hg (Kd.R_ne HO219.out BK215.out (by decide)); have n1_ := bn BK216 hg (Kd.R_ne HO219.out BK216.out (by decide)); have n2_ := Aside0.mk (hb); have n3_ := Aside0.mk (ho); clear BK215; clear BK216; clear HB; clear HO219; have BK215 := n0_; have BK216 := n1_; have HB := n2_; have HO222 := n3_; clear n0_ n1_ n2_ n3_; clear ho hb hg hat; obtain ⟨Ao10, co10, eo10⟩ := Kd.R_slice HO222.out; subst eo10; obtain ⟨hcz11_0, hcz11_1, hcz11_2, hfz11_0, hfz11_1, hfz11_2⟩ := cs3 BK215; obtain ⟨hcz12_0, hcz12_1, hcz12_2, hfz12_0, hfz12_1, hfz12_2⟩ := cs3 BK216))
  refine bodyPost_ret (results_cell_row rfl _ _ gb216 33 #[.int .i64 a0_0, .string a0_1, .slice Ao10 y220.length co10] (0, 0) _ rfl (pI BK216) Tryz.underlying33 rfl (by kernel_rfl)) rfl ?_
  exact ⟨_, y0_6, by (with_reducible repeat (first | apply Kd.R_alloc | apply Kd.R_drewN | apply Kd.R_drew)); exact Kd.R_mono (Kd.R_far (p := ⟨gb216, 2, none⟩) (Kd.R_far (p := ⟨gb216, 1, none⟩) (Kd.R_far (p := ⟨gb216, 0, none⟩) (Kd.R_far (p := ⟨gb215, 2, none⟩) (Kd.R_types (Kd.R_types HO222.out BK215.out (by decide)) BK216.out (by decide)) (fun _ hk => hk.1.2) (.slice Ao10 y220.length co10)) (fun _ hk => hk.2) (.int .i64 a0_0)) (fun _ hk => hk.2) (.string a0_1)) (fun _ hk => hk.2) (.slice Ao10 y220.length co10)) (fun _ hk => trivial), bI HB.out⟩
 rw [if_neg c2] at H
 exact absurd H (by simp)

/-! ### spec_QcLater: function 58 -/
def spec_QcLater.f (a0_0 : Int) (a0_1 : ByteArray) (l0_2 : List Int) (a1_0 : Int) (a1_1 : ByteArray) (l1_2 : List Int) : Option (Int × ByteArray × List Int) := if a0_0 > a1_0 then ((spec_l7Copy.f a0_0 a0_1 l0_2).bind fun bt226 => (some (bt226.1, bt226.2.1, bt226.2.2))) else ((spec_l7Copy.f a1_0 a1_1 l1_2).bind fun bt231 => (some (bt231.1, bt231.2.1, bt231.2.2)))
set_option maxHeartbeats 8000000 in
set_option maxRecDepth 100000 in
theorem spec_QcLater.calls (a0_0 : Int) (a0_1 : ByteArray) (A0_2 : Option Addr) (c0_2 : Nat) (l0_2 : List Int) (a1_0 : Int) (a1_1 : ByteArray) (A1_2 : Option Addr) (c1_2 : Nat) (l1_2 : List Int) (r1 : Int) (r2 : ByteArray) (r3 : List Int) (w : World) (hr0_2 : Kd.C (Kd.int .i64) w A0_2 l0_2.length l0_2) (hc0_2 : l0_2.length ≤ c0_2) (hr1_2 : Kd.C (Kd.int .i64) w A1_2 l1_2.length l1_2) (hc1_2 : l1_2.length ≤ c1_2) (h : spec_QcLater.f a0_0 a0_1 l0_2 a1_0 a1_1 l1_2 = some (r1, r2, r3)) :
  Calls Tryz.prog 58 #[.agg #[.int .i64 a0_0, .string a0_1, .slice A0_2 l0_2.length c0_2], .agg #[.int .i64 a1_0, .string a1_1, .slice A1_2 l1_2.length c1_2]] w fun e w' => ∃ v2_ : Value, e = .returned (.agg #[.int .i64 r1, .string r2, v2_]) ∧ Kd.R (Kd.int .i64) 3 w' w.heap.size (fun _ => True) v2_ r3 ∧ Below w.heap.size w w' := by
 have hu33 := Tryz.underlying33; have HR0_2 := Aside0.mk hr0_2; have HC0_2 := Aside0.mk hc0_2; clear hr0_2 hc0_2; have HR1_2 := Aside0.mk hr1_2; have HC1_2 := Aside0.mk hc1_2; clear hr1_2 hc1_2; have HB := Aside0.mk (Below.refl w.heap.size w)
 have H : (if a0_0 > a1_0 then ((spec_l7Copy.f a0_0 a0_1 l0_2).bind fun bt226 => (some (bt226.1, bt226.2.1, bt226.2.2))) else ((spec_l7Copy.f a1_0 a1_1 l1_2).bind fun bt231 => (some (bt231.1, bt231.2.1, bt231.2.2)))) = some (r1, r2, r3) := h
 clear h
 by_cases c3 : a0_0 > a1_0
 ·
  rw [if_pos c3] at H
  have c3b0 : decide (a1_0 < a0_0) = true := decide_eq_true c3; clear c3; obtain ⟨⟨t226, t227, t228⟩, A40, H⟩ := Option.bind_eq_some_iff.mp H
  try dsimp only at H
  have A4 := Aside0.mk A40; clear A40
  simp only [Option.some.injEq, Prod.mk.injEq] at H
  obtain ⟨rfl, rfl, rfl⟩ := H
  go_enter Tryz.func58, Tryz.ntmps58
  go_wp2_with (first | ((with_reducible refine gd 2 ?_); refine bA 2 #[.int .i64 a0_0, .string a0_1, .slice A0_2 l0_2.length c0_2] 33 ?_; intro gb223 hg w5 hbox hb; have BK223 := Aside0.mk (hbox); have GW223 := bg hg HB; have GJ223 := gi GW223; have GE223 := GW223; replace HB := bs HB hb; clear hb hbox hg) | ((with_reducible refine gd 3 ?_); refine bA 3 #[.int .i64 a1_0, .string a1_1, .slice A1_2 l1_2.length c1_2] 33 ?_; intro gb224 hg w6 hbox hb; have BK224 := Aside0.mk (hbox); have GW224 := bg hg HB; have GJ224 := gi GW224; have GE224 := GW224; replace HB := bs HB hb; have NB223_224 := b1 BK223 hg; have NI223_224 := ni NB223_224; have NB224_223 := b2 BK223 hg; have NI224_223 := ni NB224_223; replace BK223 := bk BK223 hb; clear hb hbox hg) | ((with_reducible refine gd 4 ?_); refine bA 4 #[.int .i64 0, .string (⟨#[]⟩ : ByteArray), .slice none 0 0] 33 ?_; intro gb225 hg w7 hbox hb; have BK225 := Aside0.mk (hbox); have GW225 := bg hg HB; have GJ225 := gi GW225; have GE225 := GW225; replace HB := bs HB hb; have NB223_225 := b1 BK223 hg; have NI223_225 := ni NB223_225; have NB225_223 := b2 BK223 hg; have NI225_223 := ni NB225_223; replace BK223 := bk BK223 hb; have NB224_225 := b1 BK224 hg; have NI224_225 := ni NB224_225; have NB225_224 := b2 BK224 hg; have NI225_224 := ni NB225_224; replace BK224 := bk BK224 hb; clear hb hbox hg; have hnb8 := NB223_224.out; have hnc8 := NB224_223.out; have hnb9 := NB223_225.out; have hnc9 := NB225_223.out; obtain ⟨hcz10_0, hcz10_1, hcz10_2, hfz10_0, hfz10_1, hfz10_2⟩ := cs3 BK223; have hnb11 := NB224_225.out; have hnc11 := NB225_224.out; obtain ⟨hcz12_0, hcz12_1, hcz12_2, hfz12_0, hfz12_1, hfz12_2⟩ := cs3 BK224) | ((with_reducible refine gate_callee (f := 79) rfl ?_); refine gB (some 11) Tryz.func79 #[.agg #[.int .i64 a0_0, .string a0_1, .slice A0_2 l0_2.length c0_2]] ?_; (with_reducible refine (spec_l7Copy.calls a0_0 a0_1 _ _ l0_2 t226 t227 t228 _ ?side1 ?side2 A4.out).mono ?_); (case side1 => exact ch HR0_2 HB); (case side2 => exact HC0_2.out); rintro e w13 ⟨v229, rfl, ho0, hb⟩; refine ⟨_, rfl, ?_⟩; have HO230 := Aside0.mk (Kd.R_lower ho0 (below_size (bI HB.out))); replace BK223 := bk BK223 hb; replace BK224 := bk BK224 hb; replace BK225 := bk BK225 hb; replace HB := bs HB hb; (try clear hb); (try clear ho0); obtain ⟨hcz14_0, hcz14_1, hcz14_2, hfz14_0, hfz14_1, hfz14_2⟩ := cs3 BK225; obtain ⟨Ao15, co15, eo15⟩ := Kd.R_slice HO230.out; subst eo15))
  refine bodyPost_ret (results_cell_row rfl _ _ gb225 33 #[.int .i64 t226, .string t227, .slice Ao15 t228.length co15] (0, 0) _ rfl (pI BK225) Tryz.underlying33 rfl (by kernel_rfl)) rfl ?_
  exact ⟨_, y0_6, by (with_reducible repeat (first | apply Kd.R_alloc | apply Kd.R_drewN | apply Kd.R_drew)); exact Kd.R_mono (Kd.R_far (p := ⟨gb225, 2, none⟩) (Kd.R_far (p := ⟨gb225, 1, none⟩) (Kd.R_far (p := ⟨gb225, 0, none⟩) (Kd.R_types HO230.out BK225.out (by decide)) (fun _ hk => hk.2) (.int .i64 t226)) (fun _ hk => hk.2) (.string t227)) (fun _ hk => hk.2) (.slice Ao15 t228.length co15)) (fun _ hk => trivial), bI HB.out⟩
 rw [if_neg c3] at H
 have c3b0 : decide (a1_0 < a0_0) = false := decide_eq_false c3; clear c3; obtain ⟨⟨t231, t232, t233⟩, A160, H⟩ := Option.bind_eq_some_iff.mp H
 try dsimp only at H
 have A16 := Aside0.mk A160; clear A160
 simp only [Option.some.injEq, Prod.mk.injEq] at H
 obtain ⟨rfl, rfl, rfl⟩ := H
 go_enter Tryz.func58, Tryz.ntmps58
 go_wp2_with (first | ((with_reducible refine gd 2 ?_); refine bA 2 #[.int .i64 a0_0, .string a0_1, .slice A0_2 l0_2.length c0_2] 33 ?_; intro gb223 hg w17 hbox hb; have BK223 := Aside0.mk (hbox); have GW223 := bg hg HB; have GJ223 := gi GW223; have GE223 := GW223; replace HB := bs HB hb; clear hb hbox hg) | ((with_reducible refine gd 3 ?_); refine bA 3 #[.int .i64 a1_0, .string a1_1, .slice A1_2 l1_2.length c1_2] 33 ?_; intro gb224 hg w18 hbox hb; have BK224 := Aside0.mk (hbox); have GW224 := bg hg HB; have GJ224 := gi GW224; have GE224 := GW224; replace HB := bs HB hb; have NB223_224 := b1 BK223 hg; have NI223_224 := ni NB223_224; have NB224_223 := b2 BK223 hg; have NI224_223 := ni NB224_223; replace BK223 := bk BK223 hb; clear hb hbox hg) | ((with_reducible refine gd 4 ?_); refine bA 4 #[.int .i64 0, .string (⟨#[]⟩ : ByteArray), .slice none 0 0] 33 ?_; intro gb225 hg w19 hbox hb; have BK225 := Aside0.mk (hbox); have GW225 := bg hg HB; have GJ225 := gi GW225; have GE225 := GW225; replace HB := bs HB hb; have NB223_225 := b1 BK223 hg; have NI223_225 := ni NB223_225; have NB225_223 := b2 BK223 hg; have NI225_223 := ni NB225_223; replace BK223 := bk BK223 hb; have NB224_225 := b1 BK224 hg; have NI224_225 := ni NB224_225; have NB225_224 := b2 BK224 hg; have NI225_224 := ni NB225_224; replace BK224 := bk BK224 hb; clear hb hbox hg; have hnb20 := NB223_224.out; have hnc20 := NB224_223.out; have hnb21 := NB223_225.out; have hnc21 := NB225_223.out; obtain ⟨hcz22_0, hcz22_1, hcz22_2, hfz22_0, hfz22_1, hfz22_2⟩ := cs3 BK223; have hnb23 := NB224_225.out; have hnc23 := NB225_224.out; obtain ⟨hcz24_0, hcz24_1, hcz24_2, hfz24_0, hfz24_1, hfz24_2⟩ := cs3 BK224) | ((with_reducible refine gate_callee (f := 79) rfl ?_); refine gB (some 13) Tryz.func79 #[.agg #[.int .i64 a1_0, .string a1_1, .slice A1_2 l1_2.length c1_2]] ?_; (with_reducible refine (spec_l7Copy.calls a1_0 a1_1 _ _ l1_2 t231 t232 t233 _ ?side1 ?side2 A16.out).mono ?_); (case side1 => exact ch HR1_2 HB); (case side2 => exact HC1_2.out); rintro e w25 ⟨v234, rfl, ho0, hb⟩; refine ⟨_, rfl, ?_⟩; have HO235 := Aside0.mk (Kd.R_lower ho0 (below_size (bI HB.out))); replace BK223 := bk BK223 hb; replace BK224 := bk BK224 hb; replace BK225 := bk BK225 hb; replace HB := bs HB hb; (try clear hb); (try clear ho0); obtain ⟨hcz26_0, hcz26_1, hcz26_2, hfz26_0, hfz26_1, hfz26_2⟩ := cs3 BK225; obtain ⟨Ao27, co27, eo27⟩ := Kd.R_slice HO235.out; subst eo27))
 refine bodyPost_ret (results_cell_row rfl _ _ gb225 33 #[.int .i64 t231, .string t232, .slice Ao27 t233.length co27] (0, 0) _ rfl (pI BK225) Tryz.underlying33 rfl (by kernel_rfl)) rfl ?_
 exact ⟨_, y0_6, by (with_reducible repeat (first | apply Kd.R_alloc | apply Kd.R_drewN | apply Kd.R_drew)); exact Kd.R_mono (Kd.R_far (p := ⟨gb225, 2, none⟩) (Kd.R_far (p := ⟨gb225, 1, none⟩) (Kd.R_far (p := ⟨gb225, 0, none⟩) (Kd.R_types HO235.out BK225.out (by decide)) (fun _ hk => hk.2) (.int .i64 t231)) (fun _ hk => hk.2) (.string t232)) (fun _ hk => hk.2) (.slice Ao27 t233.length co27)) (fun _ hk => trivial), bI HB.out⟩

/-! ### spec_l11Copy: function 61 -/
def spec_l11Copy.f (a0_0 : Int) (a0_1 : Int) (a0_2 : Int) (a0_3 : ByteArray) (l0_4 : List Int) (a0_5 : ByteArray) : Option (Int × Int × Int × ByteArray × List Int × ByteArray) := (spec_l7Copy.f a0_2 a0_3 l0_4).bind fun bt238 => (some (a0_0, a0_1, bt238.1, bt238.2.1, bt238.2.2, a0_5))
set_option maxHeartbeats 8000000 in
set_option maxRecDepth 100000 in
theorem spec_l11Copy.calls (a0_0 : Int) (a0_1 : Int) (a0_2 : Int) (a0_3 : ByteArray) (A0_4 : Option Addr) (c0_4 : Nat) (l0_4 : List Int) (a0_5 : ByteArray) (r1 : Int) (r2 : Int) (r3 : Int) (r4 : ByteArray) (r5 : List Int) (r6 : ByteArray) (w : World) (hr0_4 : Kd.C (Kd.int .i64) w A0_4 l0_4.length l0_4) (hc0_4 : l0_4.length ≤ c0_4) (h : spec_l11Copy.f a0_0 a0_1 a0_2 a0_3 l0_4 a0_5 = some (r1, r2, r3, r4, r5, r6)) :
  Calls Tryz.prog 61 #[.agg #[.int .i64 a0_0, .int .i64 a0_1, .int .i64 a0_2, .string a0_3, .slice A0_4 l0_4.length c0_4, .string a0_5]] w fun e w' => ∃ v4_ : Value, e = .returned (.agg #[.int .i64 r1, .int .i64 r2, .int .i64 r3, .string r4, v4_, .string r6]) ∧ Kd.R (Kd.int .i64) 3 w' w.heap.size (fun _ => True) v4_ r5 ∧ Below w.heap.size w w' := by
 have hu35 := Tryz.underlying35; have hu33 := Tryz.underlying33; have HR0_4 := Aside0.mk hr0_4; have HC0_4 := Aside0.mk hc0_4; clear hr0_4 hc0_4; have HB := Aside0.mk (Below.refl w.heap.size w)
 have H : ((spec_l7Copy.f a0_2 a0_3 l0_4).bind fun bt238 => (some (a0_0, a0_1, bt238.1, bt238.2.1, bt238.2.2, a0_5))) = some (r1, r2, r3, r4, r5, r6) := h
 clear h; obtain ⟨⟨t238, t239, t240⟩, A20, H⟩ := Option.bind_eq_some_iff.mp H
 try dsimp only at H
 have A2 := Aside0.mk A20; clear A20
 simp only [Option.some.injEq, Prod.mk.injEq] at H
 obtain ⟨rfl, rfl, rfl, rfl, rfl, rfl⟩ := H
 go_enter Tryz.func61, Tryz.ntmps61
 go_wp2_with (first | ((with_reducible refine gd 1 ?_); refine bA 1 #[.int .i64 a0_0, .int .i64 a0_1, .int .i64 a0_2, .string a0_3, .slice A0_4 l0_4.length c0_4, .string a0_5] 35 ?_; intro gb236 hg w3 hbox hb; have BK236 := Aside0.mk (hbox); have GW236 := bg hg HB; have GJ236 := gi GW236; have GE236 := GW236; replace HB := bs HB hb; clear hb hbox hg) | ((with_reducible refine gd 2 ?_); refine bA 2 #[.int .i64 0, .int .i64 0, .int .i64 0, .string (⟨#[]⟩ : ByteArray), .slice none 0 0, .string (⟨#[]⟩ : ByteArray)] 35 ?_; intro gb237 hg w4 hbox hb; have BK237 := Aside0.mk (hbox); have GW237 := bg hg HB; have GJ237 := gi GW237; have GE237 := GW237; replace HB := bs HB hb; have NB236_237 := b1 BK236 hg; have NI236_237 := ni NB236_237; have NB237_236 := b2 BK236 hg; have NI237_236 := ni NB237_236; replace BK236 := bk BK236 hb; clear hb hbox hg; have hnb5 := NB236_237.out; have hnc5 := NB237_236.out; have hcz6_0 := bc0 BK236.out; have hcz6_1 := bc1 BK236.out; have hcz6_2 := bc2 BK236.out; have hcz6_3 := bc3 BK236.out; have hcz6_4 := bc4 BK236.out; have hcz6_5 := bc5 BK236.out; have hfz6_0 := blk_frozen BK236.out 0; have hfz6_1 := blk_frozen BK236.out 1; have hfz6_2 := blk_frozen BK236.out 2; have hfz6_3 := blk_frozen BK236.out 3; have hfz6_4 := blk_frozen BK236.out 4; have hfz6_5 := blk_frozen BK236.out 5) | ((with_reducible refine gate_callee (f := 79) rfl ?_); refine gB (some 5) Tryz.func79 #[.agg #[.int .i64 a0_2, .string a0_3, .slice A0_4 l0_4.length c0_4]] ?_; (with_reducible refine (spec_l7Copy.calls a0_2 a0_3 _ _ l0_4 t238 t239 t240 _ ?side1 ?side2 A2.out).mono ?_); (case side1 => exact ch HR0_4 HB); (case side2 => exact HC0_4.out); rintro e w7 ⟨v241, rfl, ho0, hb⟩; refine ⟨_, rfl, ?_⟩; have HO242 := Aside0.mk (Kd.R_lower ho0 (below_size (bI HB.out))); replace BK236 := bk BK236 hb; replace BK237 := bk BK237 hb; replace HB := bs HB hb; (try clear hb); (try clear ho0); have hcz8_0 := bc0 BK236.out; have hcz8_1 := bc1 BK236.out; have hcz8_2 := bc2 BK236.out; have hcz8_3 := bc3 BK236.out; have hcz8_4 := bc4 BK236.out; have hcz8_5 := bc5 BK236.out; have hfz8_0 := blk_frozen BK236.out 0; have hfz8_1 := blk_frozen BK236.out 1; have hfz8_2 := blk_frozen BK236.out 2; have hfz8_3 := blk_frozen BK236.out 3; have hfz8_4 := blk_frozen BK236.out 4; have hfz8_5 := blk_frozen BK236.out 5; obtain ⟨Ao9, co9, eo9⟩ := Kd.R_slice HO242.out; subst eo9; have hcz10_0 := bc0 BK237.out; have hcz10_1 := bc1 BK237.out; have hcz10_2 := bc2 BK237.out; have hcz10_3 := bc3 BK237.out; have hcz10_4 := bc4 BK237.out; have hcz10_5 := bc5 BK237.out; have hfz10_0 := blk_frozen BK237.out 0; have hfz10_1 := blk_frozen BK237.out 1; have hfz10_2 := blk_frozen BK237.out 2; have hfz10_3 := blk_frozen BK237.out 3; have hfz10_4 := blk_frozen BK237.out 4; have hfz10_5 := blk_frozen BK237.out 5))
 refine bodyPost_ret (results_cell_row rfl _ _ gb237 35 #[.int .i64 a0_0, .int .i64 a0_1, .int .i64 t238, .string t239, .slice Ao9 t240.length co9, .string a0_5] (0, 0) _ rfl (pI BK237) Tryz.underlying35 rfl (by kernel_rfl)) rfl ?_
 exact ⟨_, y0_6, by (with_reducible repeat (first | apply Kd.R_alloc | apply Kd.R_drewN | apply Kd.R_drew)); exact Kd.R_mono (Kd.R_far (p := ⟨gb237, 5, none⟩) (Kd.R_far (p := ⟨gb237, 4, none⟩) (Kd.R_far (p := ⟨gb237, 3, none⟩) (Kd.R_far (p := ⟨gb237, 2, none⟩) (Kd.R_far (p := ⟨gb237, 1, none⟩) (Kd.R_far (p := ⟨gb237, 0, none⟩) (Kd.R_far (p := ⟨gb236, 4, none⟩) (Kd.R_far (p := ⟨gb236, 3, none⟩) (Kd.R_far (p := ⟨gb236, 2, none⟩) (Kd.R_types (Kd.R_types HO242.out BK236.out (by decide)) BK237.out (by decide)) (fun _ hk => hk.1.2) (.int .i64 t238)) (fun _ hk => hk.1.2) (.string t239)) (fun _ hk => hk.1.2) (.slice Ao9 t240.length co9)) (fun _ hk => hk.2) (.int .i64 a0_0)) (fun _ hk => hk.2) (.int .i64 a0_1)) (fun _ hk => hk.2) (.int .i64 t238)) (fun _ hk => hk.2) (.string t239)) (fun _ hk => hk.2) (.slice Ao9 t240.length co9)) (fun _ hk => hk.2) (.string a0_5)) (fun _ hk => trivial), bI HB.out⟩

/-! ### spec_SafeOk: function 66 -/
def spec_SafeOk.f (k : Nat) (a0_0 : Int) (a0_1 : Int) (a1_0 : Int) (a1_1 : Int) (a1_2 : Int) (a1_3 : ByteArray) (l1_4 : List Int) (a1_5 : ByteArray) : Option (Bool) := (spec_l1In.f a1_0 0 60).bind fun t245 => (if t245 = true then ((spec_l1In.f a1_1 0 60).bind fun t246 => (if t246 = true then ((spec_QcOk.f k a0_0 a0_1 a1_2 a1_3 l1_4).bind fun t247 => (if t247 = true then ((spec_NameOk.f k a1_5).bind fun t248 => (some t248)) else (some false))) else (some false))) else (some false))
theorem spec_SafeOk.mono : ∀ a0 a1 a2 a3 a4 a5 a6 a7 k, LeO (spec_SafeOk.f k a0 a1 a2 a3 a4 a5 a6 a7) (spec_SafeOk.f (k + 1) a0 a1 a2 a3 a4 a5 a6 a7) := by
 intro a0 a1 a2 a3 a4 a5 a6 a7 k
 unfold spec_SafeOk.f
 repeat' first | (with_reducible exact spec_NameOk.mono _ _) | (with_reducible exact spec_QcOk.mono _ _ _ _ _ _) | (with_reducible exact LeO.refl _) | (with_reducible exact LeO.none _) | (with_reducible refine LeO.ite ?_ ?_) | (with_reducible refine LeO.bind ?_ (fun _ => ?_))
set_option maxHeartbeats 8000000 in
set_option maxRecDepth 100000 in
theorem spec_SafeOk.calls (k : Nat) (a0_0 : Int) (a0_1 : Int) (a1_0 : Int) (a1_1 : Int) (a1_2 : Int) (a1_3 : ByteArray) (A1_4 : Option Addr) (c1_4 : Nat) (l1_4 : List Int) (a1_5 : ByteArray) (r : Bool) (w : World) (hr1_4 : Kd.C (Kd.int .i64) w A1_4 l1_4.length l1_4) (hc1_4 : l1_4.length ≤ c1_4) (h : spec_SafeOk.f k a0_0 a0_1 a1_0 a1_1 a1_2 a1_3 l1_4 a1_5 = some r) :
  Calls Tryz.prog 66 #[.agg #[.int .i64 a0_0, .int .i64 a0_1], .agg #[.int .i64 a1_0, .int .i64 a1_1, .int .i64 a1_2, .string a1_3, .slice A1_4 l1_4.length c1_4, .string a1_5]] w fun e w' => e = .returned (.bool r) ∧ Below w.heap.size w w' := by
 have hu38 := Tryz.underlying38; have hu35 := Tryz.underlying35; have hu33 := Tryz.underlying33; have HR1_4 := Aside0.mk hr1_4; have HC1_4 := Aside0.mk hc1_4; clear hr1_4 hc1_4; have HB := Aside0.mk (Below.refl w.heap.size w)
 have H : ((spec_l1In.f a1_0 0 60).bind fun t245 => (if t245 = true then ((spec_l1In.f a1_1 0 60).bind fun t246 => (if t246 = true then ((spec_QcOk.f k a0_0 a0_1 a1_2 a1_3 l1_4).bind fun t247 => (if t247 = true then ((spec_NameOk.f k a1_5).bind fun t248 => (some t248)) else (some false))) else (some false))) else (some false))) = some r := h
 clear h; obtain ⟨t245, A30, H⟩ := Option.bind_eq_some_iff.mp H
 try dsimp only at H
 have A3 := Aside0.mk A30; clear A30
 by_cases c4 : t245 = true
 ·
  subst c4
  rw [if_pos rfl] at H
  obtain ⟨t246, A50, H⟩ := Option.bind_eq_some_iff.mp H
  try dsimp only at H
  have A5 := Aside0.mk A50; clear A50
  by_cases c6 : t246 = true
  ·
   subst c6
   rw [if_pos rfl] at H
   obtain ⟨t247, A70, H⟩ := Option.bind_eq_some_iff.mp H
   try dsimp only at H
   have A7 := Aside0.mk A70; clear A70
   by_cases c8 : t247 = true
   ·
    subst c8
    rw [if_pos rfl] at H
    obtain ⟨t248, A90, H⟩ := Option.bind_eq_some_iff.mp H
    try dsimp only at H
    have A9 := Aside0.mk A90; clear A90; obtain rfl := Option.some.inj H
    go_enter Tryz.func66, Tryz.ntmps66
    go_wp2_with (first | ((with_reducible refine gd 2 ?_); refine bA 2 #[.int .i64 a0_0, .int .i64 a0_1] 38 ?_; intro gb243 hg w10 hbox hb; have BK243 := Aside0.mk (hbox); have GW243 := bg hg HB; have GJ243 := gi GW243; have GE243 := GW243; replace HB := bs HB hb; clear hb hbox hg) | ((with_reducible refine gd 3 ?_); refine bA 3 #[.int .i64 a1_0, .int .i64 a1_1, .int .i64 a1_2, .string a1_3, .slice A1_4 l1_4.length c1_4, .string a1_5] 35 ?_; intro gb244 hg w11 hbox hb; have BK244 := Aside0.mk (hbox); have GW244 := bg hg HB; have GJ244 := gi GW244; have GE244 := GW244; replace HB := bs HB hb; have NB243_244 := b1 BK243 hg; have NI243_244 := ni NB243_244; have NB244_243 := b2 BK243 hg; have NI244_243 := ni NB244_243; replace BK243 := bk BK243 hb; clear hb hbox hg; have hnb12 := NB244_243.out; have hnc12 := NB243_244.out; have hcz13_0 := bc0 BK244.out; have hcz13_1 := bc1 BK244.out; have hcz13_2 := bc2 BK244.out; have hcz13_3 := bc3 BK244.out; have hcz13_4 := bc4 BK244.out; have hcz13_5 := bc5 BK244.out; have hfz13_0 := blk_frozen BK244.out 0; have hfz13_1 := blk_frozen BK244.out 1; have hfz13_2 := blk_frozen BK244.out 2; have hfz13_3 := blk_frozen BK244.out 3; have hfz13_4 := blk_frozen BK244.out 4; have hfz13_5 := blk_frozen BK244.out 5) | ((with_reducible refine gate_callee (f := 100) rfl ?_); refine gB (some 7) Tryz.func100 #[.int .i64 a1_0, .int .i64 0, .int .i64 60] ?_; (with_reducible refine (spec_l1In.calls a1_0 0 60 true _ A3.out).mono ?_); rintro e w' ⟨rfl, ⟨nd, rfl⟩⟩; refine ⟨_, rfl, ?_⟩) | (go_at_call 100; (with_reducible refine (spec_l1In.calls a1_1 0 60 true _ A5.out).mono ?_); rintro e w' ⟨rfl, ⟨nd, rfl⟩⟩; obtain ⟨hcz14_0, hcz14_1, hfz14_0, hfz14_1⟩ := cs2 BK243) | (go_at_call 49; (with_reducible refine (spec_QcOk.calls k a0_0 a0_1 a1_2 a1_3 _ _ l1_4 true _ ?side1 ?side2 A7.out).mono ?_); (case side1 => exact (Kd.C_below HR1_4.out (bI HB.out))); (case side2 => exact HC1_4.out); rintro e w15 ⟨rfl, hb⟩; replace BK243 := bk BK243 hb; replace BK244 := bk BK244 hb; replace HB := bs HB hb; (try clear hb); (try clear hb2); (try clear hk); (try clear hi); have hcz16_0 := bc0 BK244.out; have hcz16_1 := bc1 BK244.out; have hcz16_2 := bc2 BK244.out; have hcz16_3 := bc3 BK244.out; have hcz16_4 := bc4 BK244.out; have hcz16_5 := bc5 BK244.out; have hfz16_0 := blk_frozen BK244.out 0; have hfz16_1 := blk_frozen BK244.out 1; have hfz16_2 := blk_frozen BK244.out 2; have hfz16_3 := blk_frozen BK244.out 3; have hfz16_4 := blk_frozen BK244.out 4; have hfz16_5 := blk_frozen BK244.out 5) | (go_at_call 97; (with_reducible refine (spec_NameOk.calls k a1_5 t248 _ A9.out).mono ?_); rintro e w17 ⟨rfl, hb⟩; replace BK243 := bk BK243 hb; replace BK244 := bk BK244 hb; replace HB := bs HB hb; (try clear hb); (try clear hb2); (try clear hk); (try clear hi)))
    go_ret
    exact ⟨y0_6, bI HB.out⟩
   replace c8 := Bool.eq_false_iff.mpr c8; subst c8
   rw [if_neg (show ¬ (false = true) by decide)] at H
   obtain rfl := Option.some.inj H
   go_enter Tryz.func66, Tryz.ntmps66
   go_wp2_with (first | ((with_reducible refine gd 2 ?_); refine bA 2 #[.int .i64 a0_0, .int .i64 a0_1] 38 ?_; intro gb243 hg w18 hbox hb; have BK243 := Aside0.mk (hbox); have GW243 := bg hg HB; have GJ243 := gi GW243; have GE243 := GW243; replace HB := bs HB hb; clear hb hbox hg) | ((with_reducible refine gd 3 ?_); refine bA 3 #[.int .i64 a1_0, .int .i64 a1_1, .int .i64 a1_2, .string a1_3, .slice A1_4 l1_4.length c1_4, .string a1_5] 35 ?_; intro gb244 hg w19 hbox hb; have BK244 := Aside0.mk (hbox); have GW244 := bg hg HB; have GJ244 := gi GW244; have GE244 := GW244; replace HB := bs HB hb; have NB243_244 := b1 BK243 hg; have NI243_244 := ni NB243_244; have NB244_243 := b2 BK243 hg; have NI244_243 := ni NB244_243; replace BK243 := bk BK243 hb; clear hb hbox hg; have hnb20 := NB244_243.out; have hnc20 := NB243_244.out; have hcz21_0 := bc0 BK244.out; have hcz21_1 := bc1 BK244.out; have hcz21_2 := bc2 BK244.out; have hcz21_3 := bc3 BK244.out; have hcz21_4 := bc4 BK244.out; have hcz21_5 := bc5 BK244.out; have hfz21_0 := blk_frozen BK244.out 0; have hfz21_1 := blk_frozen BK244.out 1; have hfz21_2 := blk_frozen BK244.out 2; have hfz21_3 := blk_frozen BK244.out 3; have hfz21_4 := blk_frozen BK244.out 4; have hfz21_5 := blk_frozen BK244.out 5) | ((with_reducible refine gate_callee (f := 100) rfl ?_); refine gB (some 7) Tryz.func100 #[.int .i64 a1_0, .int .i64 0, .int .i64 60] ?_; (with_reducible refine (spec_l1In.calls a1_0 0 60 true _ A3.out).mono ?_); rintro e w' ⟨rfl, ⟨nd, rfl⟩⟩; refine ⟨_, rfl, ?_⟩) | (go_at_call 100; (with_reducible refine (spec_l1In.calls a1_1 0 60 true _ A5.out).mono ?_); rintro e w' ⟨rfl, ⟨nd, rfl⟩⟩; obtain ⟨hcz22_0, hcz22_1, hfz22_0, hfz22_1⟩ := cs2 BK243) | (go_at_call 49; (with_reducible refine (spec_QcOk.calls k a0_0 a0_1 a1_2 a1_3 _ _ l1_4 false _ ?side1 ?side2 A7.out).mono ?_); (case side1 => exact (Kd.C_below HR1_4.out (bI HB.out))); (case side2 => exact HC1_4.out); rintro e w23 ⟨rfl, hb⟩; replace BK243 := bk BK243 hb; replace BK244 := bk BK244 hb; replace HB := bs HB hb; (try clear hb); (try clear hb2); (try clear hk); (try clear hi)))
   go_ret
   exact ⟨y0_6, bI HB.out⟩
  replace c6 := Bool.eq_false_iff.mpr c6; subst c6
  rw [if_neg (show ¬ (false = true) by decide)] at H
  obtain rfl := Option.some.inj H
  go_enter Tryz.func66, Tryz.ntmps66
  go_wp2_with (first | ((with_reducible refine gd 2 ?_); refine bA 2 #[.int .i64 a0_0, .int .i64 a0_1] 38 ?_; intro gb243 hg w24 hbox hb; have BK243 := Aside0.mk (hbox); have GW243 := bg hg HB; have GJ243 := gi GW243; have GE243 := GW243; replace HB := bs HB hb; clear hb hbox hg) | ((with_reducible refine gd 3 ?_); refine bA 3 #[.int .i64 a1_0, .int .i64 a1_1, .int .i64 a1_2, .string a1_3, .slice A1_4 l1_4.length c1_4, .string a1_5] 35 ?_; intro gb244 hg w25 hbox hb; have BK244 := Aside0.mk (hbox); have GW244 := bg hg HB; have GJ244 := gi GW244; have GE244 := GW244; replace HB := bs HB hb; have NB243_244 := b1 BK243 hg; have NI243_244 := ni NB243_244; have NB244_243 := b2 BK243 hg; have NI244_243 := ni NB244_243; replace BK243 := bk BK243 hb; clear hb hbox hg; have hnb26 := NB244_243.out; have hnc26 := NB243_244.out; have hcz27_0 := bc0 BK244.out; have hcz27_1 := bc1 BK244.out; have hcz27_2 := bc2 BK244.out; have hcz27_3 := bc3 BK244.out; have hcz27_4 := bc4 BK244.out; have hcz27_5 := bc5 BK244.out; have hfz27_0 := blk_frozen BK244.out 0; have hfz27_1 := blk_frozen BK244.out 1; have hfz27_2 := blk_frozen BK244.out 2; have hfz27_3 := blk_frozen BK244.out 3; have hfz27_4 := blk_frozen BK244.out 4; have hfz27_5 := blk_frozen BK244.out 5) | ((with_reducible refine gate_callee (f := 100) rfl ?_); refine gB (some 7) Tryz.func100 #[.int .i64 a1_0, .int .i64 0, .int .i64 60] ?_; (with_reducible refine (spec_l1In.calls a1_0 0 60 true _ A3.out).mono ?_); rintro e w' ⟨rfl, ⟨nd, rfl⟩⟩; refine ⟨_, rfl, ?_⟩) | (go_at_call 100; (with_reducible refine (spec_l1In.calls a1_1 0 60 false _ A5.out).mono ?_); rintro e w' ⟨rfl, ⟨nd, rfl⟩⟩))
  go_ret
  exact ⟨y0_6, bI HB.out⟩
 replace c4 := Bool.eq_false_iff.mpr c4; subst c4
 rw [if_neg (show ¬ (false = true) by decide)] at H
 obtain rfl := Option.some.inj H
 go_enter Tryz.func66, Tryz.ntmps66
 go_wp2_with (first | ((with_reducible refine gd 2 ?_); refine bA 2 #[.int .i64 a0_0, .int .i64 a0_1] 38 ?_; intro gb243 hg w28 hbox hb; have BK243 := Aside0.mk (hbox); have GW243 := bg hg HB; have GJ243 := gi GW243; have GE243 := GW243; replace HB := bs HB hb; clear hb hbox hg) | ((with_reducible refine gd 3 ?_); refine bA 3 #[.int .i64 a1_0, .int .i64 a1_1, .int .i64 a1_2, .string a1_3, .slice A1_4 l1_4.length c1_4, .string a1_5] 35 ?_; intro gb244 hg w29 hbox hb; have BK244 := Aside0.mk (hbox); have GW244 := bg hg HB; have GJ244 := gi GW244; have GE244 := GW244; replace HB := bs HB hb; have NB243_244 := b1 BK243 hg; have NI243_244 := ni NB243_244; have NB244_243 := b2 BK243 hg; have NI244_243 := ni NB244_243; replace BK243 := bk BK243 hb; clear hb hbox hg; have hnb30 := NB244_243.out; have hnc30 := NB243_244.out; have hcz31_0 := bc0 BK244.out; have hcz31_1 := bc1 BK244.out; have hcz31_2 := bc2 BK244.out; have hcz31_3 := bc3 BK244.out; have hcz31_4 := bc4 BK244.out; have hcz31_5 := bc5 BK244.out; have hfz31_0 := blk_frozen BK244.out 0; have hfz31_1 := blk_frozen BK244.out 1; have hfz31_2 := blk_frozen BK244.out 2; have hfz31_3 := blk_frozen BK244.out 3; have hfz31_4 := blk_frozen BK244.out 4; have hfz31_5 := blk_frozen BK244.out 5) | ((with_reducible refine gate_callee (f := 100) rfl ?_); refine gB (some 7) Tryz.func100 #[.int .i64 a1_0, .int .i64 0, .int .i64 60] ?_; (with_reducible refine (spec_l1In.calls a1_0 0 60 false _ A3.out).mono ?_); rintro e w' ⟨rfl, ⟨nd, rfl⟩⟩; refine ⟨_, rfl, ?_⟩))
 go_ret
 exact ⟨y0_6, bI HB.out⟩

/-! ### spec_l1Max: function 67 -/
def spec_l1Max.f (a0 : Int) (a1 : Int) : Option (Int) := if a0 > a1 then (some a0) else (some a1)
set_option maxHeartbeats 8000000 in
set_option maxRecDepth 100000 in
theorem spec_l1Max.calls (a0 : Int) (a1 : Int) (r : Int) (w : World) (h : spec_l1Max.f a0 a1 = some r) :
  Calls Tryz.prog 67 #[.int .i64 a0, .int .i64 a1] w fun e w' => e = .returned (.int .i64 r) ∧ Drawn0 w w' := by
 have H : (if a0 > a1 then (some a0) else (some a1)) = some r := h; clear h
 by_cases c3 : a0 > a1
 ·
  rw [if_pos c3] at H
  have c3b0 : decide (a1 < a0) = true := decide_eq_true c3; clear c3; obtain rfl := Option.some.inj H
  go_enter Tryz.func67, Tryz.ntmps67
  go_wp2
  go_ret
  exact ⟨y0_9, y0_7⟩
 rw [if_neg c3] at H
 have c3b0 : decide (a1 < a0) = false := decide_eq_false c3; clear c3; obtain rfl := Option.some.inj H
 go_enter Tryz.func67, Tryz.ntmps67
 go_wp2
 go_ret
 exact ⟨y0_9, y0_7⟩

/-! ### spec_UpOf: function 68 -/
def spec_UpOf.l0 : Nat → ByteArray → Int → Option (ByteArray)
 | 0, _, _ => none
 | k + 1, x0, x3 => if x3 > 0 then (if 0 ≤ (wrap64 (x3 - 1)) then (if (wrap64 (x3 - 1)) < (x0.size : Int) then (if (bt x0 (wrap64 (x3 - 1))) = 47 then ((spec_l1Max.f (wrap64 (x3 - 1)) 0).bind fun t250 => (if 0 ≤ t250 then (if t250 ≤ (x0.size : Int) then (some (x0.extract 0 (t250 : Int).toNat)) else (none)) else (none))) else (spec_UpOf.l0 k x0 (wrap64 (x3 - 1)))) else (none)) else (none)) else ((spec_l1Max.f (wrap64 (x3 - 1)) 0).bind fun t251 => (if 0 ≤ t251 then (if t251 ≤ (x0.size : Int) then (some (x0.extract 0 (t251 : Int).toNat)) else (none)) else (none)))
def spec_UpOf.f (k : Nat) (a0 : ByteArray) : Option (ByteArray) := (spec_NameOk.f k a0).bind fun t249 => (if t249 = true then (spec_UpOf.l0 k a0 (a0.size : Int)) else (some (⟨#[]⟩ : ByteArray)))
theorem spec_UpOf.mono_l : ∀ k, (∀ y0 y1, LeO (spec_UpOf.l0 k y0 y1) (spec_UpOf.l0 (k + 1) y0 y1))
 | 0 => fun _ _ r h => by simp [spec_UpOf.l0] at h
 | k + 1 => by
  have ih0 := spec_UpOf.mono_l k
  intro y0 y1
  unfold spec_UpOf.l0
  repeat' first | (with_reducible exact ih0 _ _) | (with_reducible exact spec_NameOk.mono _ _) | (with_reducible exact LeO.refl _) | (with_reducible exact LeO.none _) | (with_reducible refine LeO.ite ?_ ?_) | (with_reducible refine LeO.bind ?_ (fun _ => ?_))
theorem spec_UpOf.mono : ∀ a0 k, LeO (spec_UpOf.f k a0) (spec_UpOf.f (k + 1) a0) := by
 intro a0 k
 have ih0 := spec_UpOf.mono_l k
 unfold spec_UpOf.f
 repeat' first | (with_reducible exact ih0 _ _) | (with_reducible exact spec_NameOk.mono _ _) | (with_reducible exact LeO.refl _) | (with_reducible exact LeO.none _) | (with_reducible refine LeO.ite ?_ ?_) | (with_reducible refine LeO.bind ?_ (fun _ => ?_))
set_option maxHeartbeats 8000000 in
set_option maxRecDepth 100000 in
theorem spec_UpOf.calls (k : Nat) (a0 : ByteArray) (r : ByteArray) (w : World) (h : spec_UpOf.f k a0 = some r) :
  Calls Tryz.prog 68 #[.string a0] w fun e w' => e = .returned (.string r) ∧ Below w.heap.size w w' := by
 have HB := Aside0.mk (Below.refl w.heap.size w)
 have H : ((spec_NameOk.f k a0).bind fun t249 => (if t249 = true then (spec_UpOf.l0 k a0 (a0.size : Int)) else (some (⟨#[]⟩ : ByteArray)))) = some r := h
 clear h; obtain ⟨t249, A20, H⟩ := Option.bind_eq_some_iff.mp H
 try dsimp only at H
 have A2 := Aside0.mk A20; clear A20
 by_cases c3 : t249 = true
 ·
  subst c3
  rw [if_pos rfl] at H
  have H' := Aside0.mk H; clear H
  go_enter Tryz.func68, Tryz.ntmps68
  go_wp2_with (first | ((with_reducible refine gate_callee (f := 97) rfl ?_); refine gB (some 5) Tryz.func97 #[.string a0] ?_; (with_reducible refine (spec_NameOk.calls k a0 true _ A2.out).mono ?_); rintro e w4 ⟨rfl, hb⟩; refine ⟨_, rfl, ?_⟩; replace HB := bs HB hb; (try clear hb); (try clear hb2); (try clear hk); (try clear hi)))
  go_loopg [3] k (fun kq v3 w' => ∃ (x3_1 : Int), v3 = .int .i64 x3_1 ∧ Aside0 (spec_UpOf.l0 kq a0 x3_1 = some r) ∧ Aside0 (kq ≤ k) ∧ Aside0 (Below w.heap.size w w'))
  case atStart => exact ⟨((a0.size : Int)), y0_9, H', ⟨Nat.le_refl _⟩, ⟨bI HB.out⟩⟩
  case round =>
   clear H'
   try clear p2
   try clear c3
   obtain ⟨x3_1, rfl, HA, HK1, HB⟩ := hrel; cases gk with
   | zero => exact absurd HA.out (by simp [spec_UpOf.l0])
   | succ k1 =>
    have H := HA.out; clear HA
    simp only [spec_UpOf.l0] at H
    by_cases c5 : x3_1 > 0
    ·
     rw [if_pos c5] at H
     have c5b0 : decide (0 < x3_1) = true := decide_eq_true c5; clear c5; obtain ⟨ji6, hji6⟩ : ∃ j_ : Int, (wrap64 (x3_1 - 1)) = j_ := ⟨_, rfl⟩
     replace H : (if 0 ≤ (ji6) then (if (ji6) < (a0.size : Int) then (if (bt a0 (ji6)) = 47 then ((spec_l1Max.f (ji6) 0).bind fun t250 => (if 0 ≤ t250 then (if t250 ≤ (a0.size : Int) then (some (a0.extract 0 (t250 : Int).toNat)) else (none)) else (none))) else (spec_UpOf.l0 k1 a0 ji6)) else (none)) else (none)) = some r := by first | (rw [hji6] at H; exact H) | (simp only [hji6] at H ⊢; exact H)
     have hji6w : (IntKind.i64.wrap (x3_1 - 1)) = ji6 := (i64_w _).trans hji6
     by_cases c7 : 0 ≤ (ji6)
     rotate_left
     ·
      rw [if_neg c7] at H
      exact absurd H (by simp)
     rw [if_pos c7] at H
     have c7b0 : decide (0 ≤ (ji6)) = true := decide_eq_true c7; clear c7
     by_cases c8 : (ji6) < (a0.size : Int)
     rotate_left
     ·
      rw [if_neg c8] at H
      exact absurd H (by simp)
     rw [if_pos c8] at H
     have c8b0 : decide ((ji6) < (a0.size : Int)) = true := decide_eq_true c8; clear c8
     by_cases c10 : (bt a0 (ji6)) = 47
     ·
      rw [if_pos c10] at H
      have c10b0 : ((bt a0 (ji6)) == 47) = true := beq_iff_eq.mpr c10; have c10b1 : ((bt a0 (ji6)) != 47) = false := bne_eq_false_iff_eq.mpr c10; clear c10; obtain ⟨t250, A110, H⟩ := Option.bind_eq_some_iff.mp H
      try dsimp only at H
      have A11 := Aside0.mk A110; clear A110
      by_cases c12 : 0 ≤ t250
      rotate_left
      ·
       rw [if_neg c12] at H
       exact absurd H (by simp)
      rw [if_pos c12] at H
      have c12b0 := eq_true c12; have c12b1 : decide (0 ≤ t250) = true := decide_eq_true c12; clear c12
      by_cases c13 : t250 ≤ (a0.size : Int)
      rotate_left
      ·
       rw [if_neg c13] at H
       exact absurd H (by simp)
      rw [if_pos c13] at H
      have c13b0 := eq_true c13; have c13b1 : decide (t250 ≤ (a0.size : Int)) = true := decide_eq_true c13; clear c13; obtain rfl := Option.some.inj H; have p9 : 0 ≤ ((ji6) : Int) := of_decide_eq_true y0_8; have q9 : (ji6) < (a0.size : Int) := of_decide_eq_true y0_8; have hx9 := bt_at a0 (ji6); replace p9 := eq_true p9; replace q9 := eq_true q9
      go_wp2_with (first | ((with_reducible refine gate_callee (f := 67) rfl ?_); refine goesL_ (some 23) rfl rfl Tryz.func67 (by kernel_rfl) rfl #[.int .i64 ji6, .int .i64 0] rfl (by (try simp only [List.map_toArray, List.map_cons, List.map_nil]); first | done | (simp only [hji6]; rfl) | rfl | (simp only [List.length_drop, List.length_take]; rfl)) ?_; (with_reducible refine (spec_l1Max.calls ji6 0 t250 _ A11.out).mono ?_); rintro e w' ⟨rfl, ⟨nd, rfl⟩⟩; refine ⟨_, rfl, ?_⟩))
      go_ret
      exact ⟨by first | rfl | (simp [errW_none, errW_some] <;> rfl) | (simp only [← hji6]; first | rfl | (simp [errW_none, errW_some] <;> rfl)) | (simp [*, errW_none, errW_some] <;> rfl), bI HB.out⟩
     rw [if_neg c10] at H
     have c10b0 : ((bt a0 (ji6)) == 47) = false := beq_eq_false_iff_ne.mpr c10; have c10b1 : ((bt a0 (ji6)) != 47) = true := bne_iff_ne.mpr c10; have H' := Aside0.mk H; clear H; have p9 : 0 ≤ ((ji6) : Int) := of_decide_eq_true y0_8; have q9 : (ji6) < (a0.size : Int) := of_decide_eq_true y0_8; have hx9 := bt_at a0 (ji6); replace p9 := eq_true p9; replace q9 := eq_true q9
     go_wp2
     go_roundg k1
     case measure => have := HK1.out; omega
     case rel => exact ⟨(ji6), (by first | rfl | (simp; done) | (simp only [← hji6] <;> (first | rfl | simp)) | (simp [*]; done)), H', ⟨y0_13⟩, ⟨bI HB.out⟩⟩
    rw [if_neg c5] at H
    have c5b0 : decide (0 < x3_1) = false := decide_eq_false c5; clear c5; obtain ⟨t251, A140, H⟩ := Option.bind_eq_some_iff.mp H
    try dsimp only at H
    have A14 := Aside0.mk A140; clear A140
    by_cases c15 : 0 ≤ t251
    rotate_left
    ·
     rw [if_neg c15] at H
     exact absurd H (by simp)
    rw [if_pos c15] at H
    have c15b0 := eq_true c15; have c15b1 : decide (0 ≤ t251) = true := decide_eq_true c15; clear c15
    by_cases c16 : t251 ≤ (a0.size : Int)
    rotate_left
    ·
     rw [if_neg c16] at H
     exact absurd H (by simp)
    rw [if_pos c16] at H
    have c16b0 := eq_true c16; have c16b1 : decide (t251 ≤ (a0.size : Int)) = true := decide_eq_true c16; clear c16; obtain rfl := Option.some.inj H
    go_wp2_with (first | ((with_reducible refine gate_callee (f := 67) rfl ?_); refine gB (some 23) Tryz.func67 #[.int .i64 (wrap64 (x3_1 - 1)), .int .i64 0] ?_; (with_reducible refine (spec_l1Max.calls (wrap64 (x3_1 - 1)) 0 t251 _ A14.out).mono ?_); rintro e w' ⟨rfl, ⟨nd, rfl⟩⟩; refine ⟨_, rfl, ?_⟩))
    go_ret
    exact ⟨y0_6, bI HB.out⟩
 replace c3 := Bool.eq_false_iff.mpr c3; subst c3
 rw [if_neg (show ¬ (false = true) by decide)] at H
 obtain rfl := Option.some.inj H
 go_enter Tryz.func68, Tryz.ntmps68
 go_wp2_with (first | ((with_reducible refine gate_callee (f := 97) rfl ?_); refine gB (some 5) Tryz.func97 #[.string a0] ?_; (with_reducible refine (spec_NameOk.calls k a0 false _ A2.out).mono ?_); rintro e w17 ⟨rfl, hb⟩; refine ⟨_, rfl, ?_⟩; replace HB := bs HB hb; (try clear hb); (try clear hb2); (try clear hk); (try clear hi)))
 go_ret
 exact ⟨y0_6, bI HB.out⟩

/-! ### spec_Settles: function 69 -/
def spec_Settles.j0 : Nat → ByteArray → Bool → Option (ByteArray × Bool)
 | 0, _, _ => none
 | k + 1, x0, x51 => if x51 = true then (some ((⟨#[]⟩ : ByteArray), false)) else ((spec_UpOf.f k x0).bind fun t260 => ((spec_UpOf.f k t260).bind fun t261 => (some (t261, true))))
def spec_Settles.f (k : Nat) (a0 : ByteArray) : Option (ByteArray × Bool) := (spec_Steps.f k a0).bind fun bt252 => (if bt252.2 = true then (if (bt252.1.length : Int) < 3 then (spec_Settles.j0 k a0 true) else (if 0 ≤ (wrap64 ((bt252.1.length : Int) - 1)) then (if (wrap64 ((bt252.1.length : Int) - 1)) < (bt252.1.length : Int) then (if 0 ≤ (wrap64 ((bt252.1.length : Int) - 2)) then (if (wrap64 ((bt252.1.length : Int) - 2)) < (bt252.1.length : Int) then (if ((rd_T112 bt252.1 (wrap64 ((bt252.1.length : Int) - 1))).f0) = (wrap64 (((rd_T112 bt252.1 (wrap64 ((bt252.1.length : Int) - 2))).f0) + 1)) then (if 0 ≤ (wrap64 ((bt252.1.length : Int) - 3)) then (if (wrap64 ((bt252.1.length : Int) - 3)) < (bt252.1.length : Int) then (spec_Settles.j0 k a0 (((rd_T112 bt252.1 (wrap64 ((bt252.1.length : Int) - 2))).f0) != (wrap64 (((rd_T112 bt252.1 (wrap64 ((bt252.1.length : Int) - 3))).f0) + 1)))) else (none)) else (none)) else (spec_Settles.j0 k a0 true)) else (none)) else (none)) else (none)) else (none))) else (spec_Settles.j0 k a0 true))
theorem spec_Settles.mono_l : ∀ k, (∀ y0 y1, LeO (spec_Settles.j0 k y0 y1) (spec_Settles.j0 (k + 1) y0 y1))
 | 0 => fun _ _ r h => by simp [spec_Settles.j0] at h
 | k + 1 => by
  have ih0 := spec_Settles.mono_l k
  intro y0 y1
  unfold spec_Settles.j0
  repeat' first | (with_reducible exact ih0 _ _) | (with_reducible exact spec_Steps.mono _ _) | (with_reducible exact spec_UpOf.mono _ _) | (with_reducible exact LeO.refl _) | (with_reducible exact LeO.none _) | (with_reducible refine LeO.ite ?_ ?_) | (with_reducible refine LeO.bind ?_ (fun _ => ?_))
theorem spec_Settles.mono : ∀ a0 k, LeO (spec_Settles.f k a0) (spec_Settles.f (k + 1) a0) := by
 intro a0 k
 have ih0 := spec_Settles.mono_l k
 unfold spec_Settles.f
 repeat' first | (with_reducible exact ih0 _ _) | (with_reducible exact spec_Steps.mono _ _) | (with_reducible exact spec_UpOf.mono _ _) | (with_reducible exact LeO.refl _) | (with_reducible exact LeO.none _) | (with_reducible refine LeO.ite ?_ ?_) | (with_reducible refine LeO.bind ?_ (fun _ => ?_))
set_option maxHeartbeats 8000000 in
set_option maxRecDepth 100000 in
theorem spec_Settles.calls (k : Nat) (a0 : ByteArray) (r1 : ByteArray) (r2 : Bool) (w : World) (h : spec_Settles.f k a0 = some (r1, r2)) :
  Calls Tryz.prog 69 #[.string a0] w fun e w' => e = .returned (.tuple #[.string r1, .bool r2]) ∧ Below w.heap.size w w' := by
 have HB := Aside0.mk (Below.refl w.heap.size w)
 have H : ((spec_Steps.f k a0).bind fun bt252 => (if bt252.2 = true then (if (bt252.1.length : Int) < 3 then (spec_Settles.j0 k a0 true) else (if 0 ≤ (wrap64 ((bt252.1.length : Int) - 1)) then (if (wrap64 ((bt252.1.length : Int) - 1)) < (bt252.1.length : Int) then (if 0 ≤ (wrap64 ((bt252.1.length : Int) - 2)) then (if (wrap64 ((bt252.1.length : Int) - 2)) < (bt252.1.length : Int) then (if ((rd_T112 bt252.1 (wrap64 ((bt252.1.length : Int) - 1))).f0) = (wrap64 (((rd_T112 bt252.1 (wrap64 ((bt252.1.length : Int) - 2))).f0) + 1)) then (if 0 ≤ (wrap64 ((bt252.1.length : Int) - 3)) then (if (wrap64 ((bt252.1.length : Int) - 3)) < (bt252.1.length : Int) then (spec_Settles.j0 k a0 (((rd_T112 bt252.1 (wrap64 ((bt252.1.length : Int) - 2))).f0) != (wrap64 (((rd_T112 bt252.1 (wrap64 ((bt252.1.length : Int) - 3))).f0) + 1)))) else (none)) else (none)) else (spec_Settles.j0 k a0 true)) else (none)) else (none)) else (none)) else (none))) else (spec_Settles.j0 k a0 true))) = some (r1, r2) := h
 clear h; obtain ⟨⟨t252, t253⟩, A20, H⟩ := Option.bind_eq_some_iff.mp H
 try dsimp only at H
 have A2 := Aside0.mk A20; clear A20; have HC3 := Aside0.mk H; clear H
 go_enter Tryz.func69, Tryz.ntmps69
 go_upto_region 3 with (first | (go_at_call 103; (with_reducible refine (spec_Steps.calls k a0 t252 t253 _ A2.out).mono ?_); rintro e w4 ⟨v254, rfl, ho0, hb⟩; have HO255 := Aside0.mk (Kd.S_lower ho0 (below_size (bI HB.out))); replace HB := bs HB hb; (try clear hb); (try clear ho0); obtain ⟨Ao5, co5, eo5⟩ := Kd.S_slice HO255.out; subst eo5))
 repeat (go_quiet (first | (go_at_call 103; (with_reducible refine (spec_Steps.calls k a0 t252 t253 _ A2.out).mono ?_); rintro e w4 ⟨v254, rfl, ho0, hb⟩; have HO255 := Aside0.mk (Kd.S_lower ho0 (below_size (bI HB.out))); replace HB := bs HB hb; (try clear hb); (try clear ho0); obtain ⟨Ao5, co5, eo5⟩ := Kd.S_slice HO255.out; subst eo5)); go_upto_region 3 with (first | (go_at_call 103; (with_reducible refine (spec_Steps.calls k a0 t252 t253 _ A2.out).mono ?_); rintro e w4 ⟨v254, rfl, ho0, hb⟩; have HO255 := Aside0.mk (Kd.S_lower ho0 (below_size (bI HB.out))); replace HB := bs HB hb; (try clear hb); (try clear ho0); obtain ⟨Ao5, co5, eo5⟩ := Kd.S_slice HO255.out; subst eo5)))
 (try simp only [Act.put, List.setIfInBounds_toArray, List.set_cons_zero, List.set_cons_succ])
 go_cut [51] (fun v51 wc => ∃ (kq : Nat) (x51_2 : Bool), v51 = .bool x51_2 ∧ Aside0 (spec_Settles.j0 kq a0 x51_2 = some (r1, r2)) ∧ Aside0 (kq ≤ k) ∧ Aside0 (Below w.heap.size w wc))
 case first =>
  have H := HC3.out; clear HC3
  by_cases c6 : t253 = true
  ·
   subst c6
   rw [if_pos rfl] at H
   by_cases c7 : (t252.length : Int) < 3
   ·
    rw [if_pos c7] at H
    have c7b0 : decide ((t252.length : Int) < 3) = true := decide_eq_true c7
    have c7b1 : decide (t252.length < 3) = true := decide_eq_true (by omega)
    clear c7
    (first | rw [c7b0] | (simp only [i64_w, i32_w]; rw [c7b0]) | skip)
    have H' := Aside0.mk H; clear H
    go_wp2
    repeat (go_quiet (fail); try go_wp2)
    go_meet
    case rel => exact ⟨_, (true), y0_9, H', ⟨y0_10⟩, ⟨bI HB.out⟩⟩
   rw [if_neg c7] at H
   have c7b0 : decide ((t252.length : Int) < 3) = false := decide_eq_false c7
   have c7b1 : decide (t252.length < 3) = false := decide_eq_false (by omega)
   clear c7
   (first | rw [c7b0] | (simp only [i64_w, i32_w]; rw [c7b0]) | skip)
   obtain ⟨ji8, hji8⟩ : ∃ j_ : Int, (wrap64 ((t252.length : Int) - 1)) = j_ := ⟨_, rfl⟩
   replace H : (if 0 ≤ (ji8) then (if (ji8) < (t252.length : Int) then (if 0 ≤ (wrap64 ((t252.length : Int) - 2)) then (if (wrap64 ((t252.length : Int) - 2)) < (t252.length : Int) then (if ((rd_T112 t252 (ji8)).f0) = (wrap64 (((rd_T112 t252 (wrap64 ((t252.length : Int) - 2))).f0) + 1)) then (if 0 ≤ (wrap64 ((t252.length : Int) - 3)) then (if (wrap64 ((t252.length : Int) - 3)) < (t252.length : Int) then (spec_Settles.j0 k a0 (((rd_T112 t252 (wrap64 ((t252.length : Int) - 2))).f0) != (wrap64 (((rd_T112 t252 (wrap64 ((t252.length : Int) - 3))).f0) + 1)))) else (none)) else (none)) else (spec_Settles.j0 k a0 true)) else (none)) else (none)) else (none)) else (none)) = some (r1, r2) := by first | (rw [hji8] at H; exact H) | (simp only [hji8] at H ⊢; exact H)
   have hji8w : (IntKind.i64.wrap ((t252.length : Int) - 1)) = ji8 := (i64_w _).trans hji8
   by_cases c9 : 0 ≤ (ji8)
   rotate_left
   ·
    rw [if_neg c9] at H
    exact absurd H (by simp)
   rw [if_pos c9] at H
   have c9b0 : decide (0 ≤ (ji8)) = true := decide_eq_true c9; clear c9
   by_cases c10 : (ji8) < (t252.length : Int)
   rotate_left
   ·
    rw [if_neg c10] at H
    exact absurd H (by simp)
   rw [if_pos c10] at H
   have c10b0 : decide ((ji8) < (t252.length : Int)) = true := decide_eq_true c10; clear c10; obtain ⟨ji11, hji11⟩ : ∃ j_ : Int, (wrap64 ((t252.length : Int) - 2)) = j_ := ⟨_, rfl⟩
   replace H : (if 0 ≤ (ji11) then (if (ji11) < (t252.length : Int) then (if ((rd_T112 t252 (ji8)).f0) = (wrap64 (((rd_T112 t252 (ji11)).f0) + 1)) then (if 0 ≤ (wrap64 ((t252.length : Int) - 3)) then (if (wrap64 ((t252.length : Int) - 3)) < (t252.length : Int) then (spec_Settles.j0 k a0 (((rd_T112 t252 (ji11)).f0) != (wrap64 (((rd_T112 t252 (wrap64 ((t252.length : Int) - 3))).f0) + 1)))) else (none)) else (none)) else (spec_Settles.j0 k a0 true)) else (none)) else (none)) = some (r1, r2) := by first | (rw [hji11] at H; exact H) | (simp only [hji11] at H ⊢; exact H)
   have hji11w : (IntKind.i64.wrap ((t252.length : Int) - 2)) = ji11 := (i64_w _).trans hji11
   by_cases c12 : 0 ≤ (ji11)
   rotate_left
   ·
    rw [if_neg c12] at H
    exact absurd H (by simp)
   rw [if_pos c12] at H
   have c12b0 : decide (0 ≤ (ji11)) = true := decide_eq_true c12; clear c12
   by_cases c13 : (ji11) < (t252.length : Int)
   rotate_left
   ·
    rw [if_neg c13] at H
    exact absurd H (by simp)
   rw [if_pos c13] at H
   have c13b0 : decide ((ji11) < (t252.length : Int)) = true := decide_eq_true c13; clear c13
   by_cases c14 : ((rd_T112 t252 (ji8)).f0) = (wrap64 (((rd_T112 t252 (ji11)).f0) + 1))
   ·
    rw [if_pos c14] at H
    have c14b0 : (((rd_T112 t252 (ji8)).f0) == (wrap64 (((rd_T112 t252 (ji11)).f0) + 1))) = true := beq_iff_eq.mpr c14; have c14b1 : (((rd_T112 t252 (ji8)).f0) != (wrap64 (((rd_T112 t252 (ji11)).f0) + 1))) = false := bne_eq_false_iff_eq.mpr c14; clear c14; obtain ⟨ji15, hji15⟩ : ∃ j_ : Int, (wrap64 ((t252.length : Int) - 3)) = j_ := ⟨_, rfl⟩
    replace H : (if 0 ≤ (ji15) then (if (ji15) < (t252.length : Int) then (spec_Settles.j0 k a0 (((rd_T112 t252 (ji11)).f0) != (wrap64 (((rd_T112 t252 (ji15)).f0) + 1)))) else (none)) else (none)) = some (r1, r2) := by first | (rw [hji15] at H; exact H) | (simp only [hji15] at H ⊢; exact H)
    have hji15w : (IntKind.i64.wrap ((t252.length : Int) - 3)) = ji15 := (i64_w _).trans hji15
    by_cases c16 : 0 ≤ (ji15)
    rotate_left
    ·
     rw [if_neg c16] at H
     exact absurd H (by simp)
    rw [if_pos c16] at H
    have c16b0 : decide (0 ≤ (ji15)) = true := decide_eq_true c16; clear c16
    by_cases c17 : (ji15) < (t252.length : Int)
    rotate_left
    ·
     rw [if_neg c17] at H
     exact absurd H (by simp)
    rw [if_pos c17] at H
    have c17b0 : decide ((ji15) < (t252.length : Int)) = true := decide_eq_true c17; clear c17; have H' := Aside0.mk H; clear H; have p256 : 0 ≤ ((ji8) : Int) := of_decide_eq_true y0_8; have q256 : (ji8) < (t252.length : Int) := of_decide_eq_true y0_8; obtain ⟨ad256, A256_1, c256_1, e256, hx256_0, hx256_1, hl256_1, hi256_1⟩ := at_T112 (Kd.S_reads' HO255.out).2.2 (ji8) p256 q256; cases e256
    obtain ⟨ce256, hce256, hMe256, hcc256⟩ := Kd.S_get HO255.out z112 (ji8) p256 (by first | exact q256 | exact of_decide_eq_true y0_8 | (have e_ := (Kd.S_reads' HO255.out).1; omega))
    obtain ⟨ve256_1, rfl, ge256_1⟩ := k112_openM hMe256; have hv256_1 := hcc256 1 _ rfl
    rw [add_field _ _ 1 (by omega)] at hv256_1
    replace hv256_1 := Option.some.inj (hv256_1.symm.trans hx256_1)
    rw [hv256_1] at ge256_1
    have HL256_1 := Aside0.mk (show Kd.R k99 99 _ _ _ _ ((rd_T112 t252 (ji8)).f1) from ge256_1)
    clear hv256_1 ge256_1; clear hcc256 hce256; have HR256_1 := Aside0.mk hi256_1; have HC256_1 := Aside0.mk hl256_1; clear hi256_1 hl256_1; replace p256 := eq_true p256; replace q256 := eq_true q256; have p257 : 0 ≤ ((ji11) : Int) := of_decide_eq_true y0_8; have q257 : (ji11) < (t252.length : Int) := of_decide_eq_true y0_8; obtain ⟨ad257, A257_1, c257_1, e257, hx257_0, hx257_1, hl257_1, hi257_1⟩ := at_T112 (Kd.S_reads' HO255.out).2.2 (ji11) p257 q257
    obtain rfl : ad256 = ad257 := (by injection e257)
    obtain ⟨ce257, hce257, hMe257, hcc257⟩ := Kd.S_get HO255.out z112 (ji11) p257 (by first | exact q257 | exact of_decide_eq_true y0_8 | (have e_ := (Kd.S_reads' HO255.out).1; omega))
    obtain ⟨ve257_1, rfl, ge257_1⟩ := k112_openM hMe257; have hv257_1 := hcc257 1 _ rfl
    rw [add_field _ _ 1 (by omega)] at hv257_1
    replace hv257_1 := Option.some.inj (hv257_1.symm.trans hx257_1)
    rw [hv257_1] at ge257_1
    have HL257_1 := Aside0.mk (show Kd.R k99 99 _ _ _ _ ((rd_T112 t252 (ji11)).f1) from ge257_1)
    clear hv257_1 ge257_1; clear hcc257 hce257; have HR257_1 := Aside0.mk hi257_1; have HC257_1 := Aside0.mk hl257_1; clear hi257_1 hl257_1; replace p257 := eq_true p257; replace q257 := eq_true q257; have p258 : 0 ≤ ((ji11) : Int) := of_decide_eq_true y0_8; have q258 : (ji11) < (t252.length : Int) := of_decide_eq_true y0_8; obtain ⟨ad258, A258_1, c258_1, e258, hx258_0, hx258_1, hl258_1, hi258_1⟩ := at_T112 (Kd.S_reads' HO255.out).2.2 (ji11) p258 q258
    obtain rfl : ad256 = ad258 := (by injection e258)
    obtain ⟨ce258, hce258, hMe258, hcc258⟩ := Kd.S_get HO255.out z112 (ji11) p258 (by first | exact q258 | exact of_decide_eq_true y0_8 | (have e_ := (Kd.S_reads' HO255.out).1; omega))
    obtain ⟨ve258_1, rfl, ge258_1⟩ := k112_openM hMe258; have hv258_1 := hcc258 1 _ rfl
    rw [add_field _ _ 1 (by omega)] at hv258_1
    replace hv258_1 := Option.some.inj (hv258_1.symm.trans hx258_1)
    rw [hv258_1] at ge258_1
    have HL258_1 := Aside0.mk (show Kd.R k99 99 _ _ _ _ ((rd_T112 t252 (ji11)).f1) from ge258_1)
    clear hv258_1 ge258_1; clear hcc258 hce258; have HR258_1 := Aside0.mk hi258_1; have HC258_1 := Aside0.mk hl258_1; clear hi258_1 hl258_1; replace p258 := eq_true p258; replace q258 := eq_true q258; have ea_ := Option.some.inj (hx257_1.symm.trans hx258_1)
    injection ea_ with ea_ en_ ec_
    subst ea_; subst ec_; clear en_; have p259 : 0 ≤ ((ji15) : Int) := of_decide_eq_true y0_8; have q259 : (ji15) < (t252.length : Int) := of_decide_eq_true y0_8; obtain ⟨ad259, A259_1, c259_1, e259, hx259_0, hx259_1, hl259_1, hi259_1⟩ := at_T112 (Kd.S_reads' HO255.out).2.2 (ji15) p259 q259
    obtain rfl : ad256 = ad259 := (by injection e259)
    obtain ⟨ce259, hce259, hMe259, hcc259⟩ := Kd.S_get HO255.out z112 (ji15) p259 (by first | exact q259 | exact of_decide_eq_true y0_8 | (have e_ := (Kd.S_reads' HO255.out).1; omega))
    obtain ⟨ve259_1, rfl, ge259_1⟩ := k112_openM hMe259; have hv259_1 := hcc259 1 _ rfl
    rw [add_field _ _ 1 (by omega)] at hv259_1
    replace hv259_1 := Option.some.inj (hv259_1.symm.trans hx259_1)
    rw [hv259_1] at ge259_1
    have HL259_1 := Aside0.mk (show Kd.R k99 99 _ _ _ _ ((rd_T112 t252 (ji15)).f1) from ge259_1)
    clear hv259_1 ge259_1; clear hcc259 hce259; have HR259_1 := Aside0.mk hi259_1; have HC259_1 := Aside0.mk hl259_1; clear hi259_1 hl259_1; replace p259 := eq_true p259; replace q259 := eq_true q259
    go_wp2
    repeat (go_quiet (fail); try go_wp2)
    go_meet
    case rel => exact ⟨_, ((((rd_T112 t252 (ji11)).f0) != (wrap64 (((rd_T112 t252 (ji15)).f0) + 1)))), (by first | rfl | (simp; done) | (simp only [← hji11, ← hji15] <;> (first | rfl | simp)) | (simp [*]; done)), H', ⟨y0_10⟩, ⟨bI HB.out⟩⟩
   rw [if_neg c14] at H
   have c14b0 : (((rd_T112 t252 (ji8)).f0) == (wrap64 (((rd_T112 t252 (ji11)).f0) + 1))) = false := beq_eq_false_iff_ne.mpr c14; have c14b1 : (((rd_T112 t252 (ji8)).f0) != (wrap64 (((rd_T112 t252 (ji11)).f0) + 1))) = true := bne_iff_ne.mpr c14; have H' := Aside0.mk H; clear H; have p256 : 0 ≤ ((ji8) : Int) := of_decide_eq_true y0_8; have q256 : (ji8) < (t252.length : Int) := of_decide_eq_true y0_8; obtain ⟨ad256, A256_1, c256_1, e256, hx256_0, hx256_1, hl256_1, hi256_1⟩ := at_T112 (Kd.S_reads' HO255.out).2.2 (ji8) p256 q256; cases e256
   obtain ⟨ce256, hce256, hMe256, hcc256⟩ := Kd.S_get HO255.out z112 (ji8) p256 (by first | exact q256 | exact of_decide_eq_true y0_8 | (have e_ := (Kd.S_reads' HO255.out).1; omega))
   obtain ⟨ve256_1, rfl, ge256_1⟩ := k112_openM hMe256; have hv256_1 := hcc256 1 _ rfl
   rw [add_field _ _ 1 (by omega)] at hv256_1
   replace hv256_1 := Option.some.inj (hv256_1.symm.trans hx256_1)
   rw [hv256_1] at ge256_1
   have HL256_1 := Aside0.mk (show Kd.R k99 99 _ _ _ _ ((rd_T112 t252 (ji8)).f1) from ge256_1)
   clear hv256_1 ge256_1; clear hcc256 hce256; have HR256_1 := Aside0.mk hi256_1; have HC256_1 := Aside0.mk hl256_1; clear hi256_1 hl256_1; replace p256 := eq_true p256; replace q256 := eq_true q256; have p257 : 0 ≤ ((ji11) : Int) := of_decide_eq_true y0_8; have q257 : (ji11) < (t252.length : Int) := of_decide_eq_true y0_8; obtain ⟨ad257, A257_1, c257_1, e257, hx257_0, hx257_1, hl257_1, hi257_1⟩ := at_T112 (Kd.S_reads' HO255.out).2.2 (ji11) p257 q257
   obtain rfl : ad256 = ad257 := (by injection e257)
   obtain ⟨ce257, hce257, hMe257, hcc257⟩ := Kd.S_get HO255.out z112 (ji11) p257 (by first | exact q257 | exact of_decide_eq_true y0_8 | (have e_ := (Kd.S_reads' HO255.out).1; omega))
   obtain ⟨ve257_1, rfl, ge257_1⟩ := k112_openM hMe257; have hv257_1 := hcc257 1 _ rfl
   rw [add_field _ _ 1 (by omega)] at hv257_1
   replace hv257_1 := Option.some.inj (hv257_1.symm.trans hx257_1)
   rw [hv257_1] at ge257_1
   have HL257_1 := Aside0.mk (show Kd.R k99 99 _ _ _ _ ((rd_T112 t252 (ji11)).f1) from ge257_1)
   clear hv257_1 ge257_1; clear hcc257 hce257; have HR257_1 := Aside0.mk hi257_1; have HC257_1 := Aside0.mk hl257_1; clear hi257_1 hl257_1; replace p257 := eq_true p257; replace q257 := eq_true q257
   go_wp2
   repeat (go_quiet (fail); try go_wp2)
   go_meet
   case rel => exact ⟨_, (true), y0_9, H', ⟨y0_10⟩, ⟨bI HB.out⟩⟩
  replace c6 := Bool.eq_false_iff.mpr c6; subst c6
  rw [if_neg (show ¬ (false = true) by decide)] at H
  have H' := Aside0.mk H; clear H
  go_wp2
  repeat (go_quiet (fail); try go_wp2)
  go_meet
  case rel => exact ⟨_, (true), y0_9, H', ⟨y0_10⟩, ⟨bI HB.out⟩⟩
 case rest =>
  clear HC3
  try clear c1
  try clear c2
  try clear p2
  try clear q2
  try clear hx2
  try clear c6
  try clear p6
  try clear c7
  try clear c7b0
  try clear c7b1
  try clear c9
  try clear c9b0
  try clear c10
  try clear c10b0
  try clear c12
  try clear c12b0
  try clear c13
  try clear c13b0
  try clear c14
  try clear c14b0
  try clear c14b1
  try clear c16
  try clear c16b0
  try clear c17
  try clear c17b0
  try clear hx256_0
  try clear hx256_1
  try clear hx257_0
  try clear hx257_1
  try clear hx258_0
  try clear hx258_1
  try clear hx259_0
  try clear hx259_1
  try clear p256
  try clear p257
  try clear p258
  try clear p259
  try clear q256
  try clear q257
  try clear q258
  try clear q259
  obtain ⟨kq, x51_2, rfl, HA, HJ2, HB⟩ := hcut; cases kq with
  | zero => exact absurd HA.out (by simp [spec_Settles.j0])
  | succ kj2 =>
   have H := HA.out; clear HA
   simp only [spec_Settles.j0] at H
   by_cases c18 : x51_2 = true
   ·
    subst c18
    rw [if_pos rfl] at H
    simp only [Option.some.injEq, Prod.mk.injEq] at H
    obtain ⟨rfl, rfl⟩ := H
    go_wp2
    repeat (go_quiet (fail); try go_wp2)
    go_ret2
    exact ⟨y0_6, bI HB.out⟩
   replace c18 := Bool.eq_false_iff.mpr c18; subst c18
   rw [if_neg (show ¬ (false = true) by decide)] at H
   obtain ⟨t260, A190, H⟩ := Option.bind_eq_some_iff.mp H
   try dsimp only at H
   have A19 := Aside0.mk A190; clear A190; obtain ⟨t261, A200, H⟩ := Option.bind_eq_some_iff.mp H
   try dsimp only at H
   have A20 := Aside0.mk A200; clear A200
   simp only [Option.some.injEq, Prod.mk.injEq] at H
   obtain ⟨rfl, rfl⟩ := H
   go_wp2_with (first | (go_at_call 68; (with_reducible refine (spec_UpOf.calls kj2 a0 t260 _ A19.out).mono ?_); rintro e w21 ⟨rfl, hb⟩; replace HB := bs HB hb; (try clear hb); (try clear hb2); (try clear hk); (try clear hi)) | (go_at_call 68; (with_reducible refine (spec_UpOf.calls kj2 t260 t261 _ A20.out).mono ?_); rintro e w22 ⟨rfl, hb⟩; replace HB := bs HB hb; (try clear hb); (try clear hb2); (try clear hk); (try clear hi)))
   repeat (go_quiet (first | (go_at_call 68; (with_reducible refine (spec_UpOf.calls kj2 a0 t260 _ A19.out).mono ?_); rintro e w21 ⟨rfl, hb⟩; replace HB := bs HB hb; (try clear hb); (try clear hb2); (try clear hk); (try clear hi)) | (go_at_call 68; (with_reducible refine (spec_UpOf.calls kj2 t260 t261 _ A20.out).mono ?_); rintro e w22 ⟨rfl, hb⟩; replace HB := bs HB hb; (try clear hb); (try clear hb2); (try clear hk); (try clear hi))); try go_wp2_with (first | (go_at_call 68; (with_reducible refine (spec_UpOf.calls kj2 a0 t260 _ A19.out).mono ?_); rintro e w21 ⟨rfl, hb⟩; replace HB := bs HB hb; (try clear hb); (try clear hb2); (try clear hk); (try clear hi)) | (go_at_call 68; (with_reducible refine (spec_UpOf.calls kj2 t260 t261 _ A20.out).mono ?_); rintro e w22 ⟨rfl, hb⟩; replace HB := bs HB hb; (try clear hb); (try clear hb2); (try clear hk); (try clear hi))))
   go_ret2
   exact ⟨y0_6, bI HB.out⟩

end Go.Proofs.YtemjmefacifdeaaGreatDoor.PFnSettlesThree
