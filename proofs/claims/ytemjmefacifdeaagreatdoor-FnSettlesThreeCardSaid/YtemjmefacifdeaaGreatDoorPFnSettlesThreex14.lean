-- By a program of this session, out of the translation (the print of the kit, with turns of its own). Lean checks it.
import Derived.Test.YtemjmefacifdeaaGreatDoorPFnSettlesThreex0
import Derived.Test.YtemjmefacifdeaaGreatDoorPFnSettlesThreex9
import Derived.Test.YtemjmefacifdeaaGreatDoorPFnSettlesThreex11
import Derived.Test.YtemjmefacifdeaaGreatDoorPFnSettlesThreex12
import Derived.Test.YtemjmefacifdeaaGreatDoorPFnSettlesThreex13
namespace Go.Proofs.YtemjmefacifdeaaGreatDoor.PFnSettlesThree
open Go.RowKit Go.Proofs.YtemjmefacifdeaaGreatDoorW.PrintWords Go.Proofs.YtemjmefacifdeaaGreatDoorW.PrintLast Go.Proofs.YtemjmefacifdeaaGreatDoorW.PrintMore
attribute [local go_sem] max2_int min2_int max_two min_two max_three min_three max_four min_four   -- for this text's walks alone
set_option linter.unusedVariables false
set_option linter.unusedSimpArgs false

/-! ### impl_See: function 26 -/
def impl_See.j0 : Nat → Bool → Int → Int → Int → ByteArray → List Int → ByteArray → Int → ByteArray → List Int → Int → Int → Int → ByteArray → List Int → ByteArray → Option (Int × Int × Int × ByteArray × List Int × ByteArray)
 | 0, _, _, _, _, _, _, _, _, _, _, _, _, _, _, _, _ => none
 | k + 1, x21, x435000, x435001, x435002, x435003, x435004, x435005, x436000, x436001, x436002, x446000, x446001, x446002, x446003, x446004, x446005 => if x21 = true then (some (x446000, x446001, x446002, x446003, x446004, x446005)) else ((impl_QcLater.f x436000 x436001 x436002 x435002 x435003 x435004).bind fun bt448 => ((impl_UpOf.f k x436001).bind fun t453 => ((impl_ViewOf.f k t453).bind fun t454 => ((impl_Settles.f k x436001).bind fun bt455 => (if bt455.2 = true then ((impl_Extends.f k bt455.1 x435005).bind fun t457 => (if t457 = true then (some (x446000, mx x435001 t454, bt448.1, bt448.2.1, bt448.2.2, bt455.1)) else (some (x446000, mx x435001 t454, bt448.1, bt448.2.1, bt448.2.2, x446005)))) else (some (x446000, mx x435001 t454, bt448.1, bt448.2.1, bt448.2.2, x446005)))))))
def impl_See.f (k : Nat) (a0_0 : Int) (a0_1 : Int) (a1_0 : Int) (a1_1 : Int) (a1_2 : Int) (a1_3 : ByteArray) (l1_4 : List Int) (a1_5 : ByteArray) (a2_0 : Int) (a2_1 : ByteArray) (l2_2 : List Int) : Option (Int × Int × Int × ByteArray × List Int × ByteArray) := (impl_copySafe.f a1_0 a1_1 a1_2 a1_3 l1_4 a1_5).bind fun bt437 => ((impl_SafeOk.f k a0_0 a0_1 a1_0 a1_1 a1_2 a1_3 l1_4 a1_5).bind fun t446 => (if t446 = true then ((impl_QcOk.f k a0_0 a0_1 a2_0 a2_1 l2_2).bind fun t447 => (impl_See.j0 k (!t447) a1_0 a1_1 a1_2 a1_3 l1_4 a1_5 a2_0 a2_1 l2_2 bt437.1 bt437.2.1 bt437.2.2.1 bt437.2.2.2.1 bt437.2.2.2.2.1 bt437.2.2.2.2.2)) else (impl_See.j0 k true a1_0 a1_1 a1_2 a1_3 l1_4 a1_5 a2_0 a2_1 l2_2 bt437.1 bt437.2.1 bt437.2.2.1 bt437.2.2.2.1 bt437.2.2.2.2.1 bt437.2.2.2.2.2)))
theorem impl_See.mono_l : ∀ k, (∀ y0 y1 y2 y3 y4 y5 y6 y7 y8 y9 y10 y11 y12 y13 y14 y15, LeO (impl_See.j0 k y0 y1 y2 y3 y4 y5 y6 y7 y8 y9 y10 y11 y12 y13 y14 y15) (impl_See.j0 (k + 1) y0 y1 y2 y3 y4 y5 y6 y7 y8 y9 y10 y11 y12 y13 y14 y15))
 | 0 => fun _ _ _ _ _ _ _ _ _ _ _ _ _ _ _ _ r h => by simp [impl_See.j0] at h
 | k + 1 => by
  have ih0 := impl_See.mono_l k
  intro y0 y1 y2 y3 y4 y5 y6 y7 y8 y9 y10 y11 y12 y13 y14 y15
  unfold impl_See.j0
  repeat' first | (with_reducible exact ih0 _ _ _ _ _ _ _ _ _ _ _ _ _ _ _ _) | (with_reducible exact impl_Extends.mono _ _ _) | (with_reducible exact impl_QcOk.mono _ _ _ _ _ _) | (with_reducible exact impl_SafeOk.mono _ _ _ _ _ _ _ _ _) | (with_reducible exact impl_Settles.mono _ _) | (with_reducible exact impl_UpOf.mono _ _) | (with_reducible exact impl_ViewOf.mono _ _) | (with_reducible exact LeO.refl _) | (with_reducible exact LeO.none _) | (with_reducible refine LeO.ite ?_ ?_) | (with_reducible refine LeO.bind ?_ (fun _ => ?_))
theorem impl_See.mono : ∀ a0 a1 a2 a3 a4 a5 a6 a7 a8 a9 a10 k, LeO (impl_See.f k a0 a1 a2 a3 a4 a5 a6 a7 a8 a9 a10) (impl_See.f (k + 1) a0 a1 a2 a3 a4 a5 a6 a7 a8 a9 a10) := by
 intro a0 a1 a2 a3 a4 a5 a6 a7 a8 a9 a10 k
 have ih0 := impl_See.mono_l k
 unfold impl_See.f
 repeat' first | (with_reducible exact ih0 _ _ _ _ _ _ _ _ _ _ _ _ _ _ _ _) | (with_reducible exact impl_Extends.mono _ _ _) | (with_reducible exact impl_QcOk.mono _ _ _ _ _ _) | (with_reducible exact impl_SafeOk.mono _ _ _ _ _ _ _ _ _) | (with_reducible exact impl_Settles.mono _ _) | (with_reducible exact impl_UpOf.mono _ _) | (with_reducible exact impl_ViewOf.mono _ _) | (with_reducible exact LeO.refl _) | (with_reducible exact LeO.none _) | (with_reducible refine LeO.ite ?_ ?_) | (with_reducible refine LeO.bind ?_ (fun _ => ?_))
def impl_See.T5 : Bool × List (List Nat × List Nat) := (true, [([], []), ([0], [0]), ([], []), ([2], [2]), ([3], [3]), ([4, 4], [4]), ([1, 5], [1, 5]), ([0, 1, 2, 3, 4, 5, 6], []), ([7, 6, 5, 0, 1, 2, 3, 4, 5, 6], [6, 7])])
def impl_See.B5 : List Nat := [0, 1, 0, 4, 12, 28, 63, 127, 255]
theorem impl_See.tab5 : rtab .any (opsOf Tryz.f26 5) = impl_See.T5 := by kernel_rfl
theorem impl_See.bits5 : waitsOk impl_See.T5.2 impl_See.B5 = true := by kernel_rfl
set_option maxHeartbeats 8000000 in
set_option maxRecDepth 100000 in
theorem impl_See.calls (k : Nat) (a0_0 : Int) (a0_1 : Int) (a1_0 : Int) (a1_1 : Int) (a1_2 : Int) (a1_3 : ByteArray) (A1_4 : Option Addr) (c1_4 : Nat) (l1_4 : List Int) (a1_5 : ByteArray) (a2_0 : Int) (a2_1 : ByteArray) (A2_2 : Option Addr) (c2_2 : Nat) (l2_2 : List Int) (r1 : Int) (r2 : Int) (r3 : Int) (r4 : ByteArray) (r5 : List Int) (r6 : ByteArray) (w : World) (hr1_4 : Kd.C (Kd.int .i64) w A1_4 l1_4.length l1_4) (hc1_4 : l1_4.length ≤ c1_4) (hr2_2 : Kd.C (Kd.int .i64) w A2_2 l2_2.length l2_2) (hc2_2 : l2_2.length ≤ c2_2) (h : impl_See.f k a0_0 a0_1 a1_0 a1_1 a1_2 a1_3 l1_4 a1_5 a2_0 a2_1 l2_2 = some (r1, r2, r3, r4, r5, r6)) (hG : Glob w := by exact gG HG HB) :
  Calls Tryz.prog 26 #[.agg #[.int .i64 a0_0, .int .i64 a0_1], .agg #[.int .i64 a1_0, .int .i64 a1_1, .int .i64 a1_2, .string a1_3, .slice A1_4 l1_4.length c1_4, .string a1_5], .agg #[.int .i64 a2_0, .string a2_1, .slice A2_2 l2_2.length c2_2]] w fun e w' => ∃ v4_ : Value, e = .returned (.agg #[.int .i64 r1, .int .i64 r2, .int .i64 r3, .string r4, v4_, .string r6]) ∧ Kd.R (Kd.int .i64) 3 w' w.heap.size (fun _ => True) v4_ r5 ∧ Below w.heap.size w w' := by
 have HG := Aside0.mk hG; clear hG; have hu38 := Tryz.underlying38; have hu35 := Tryz.underlying35; have hu33 := Tryz.underlying33; have HR1_4 := Aside0.mk hr1_4; have HC1_4 := Aside0.mk hc1_4; clear hr1_4 hc1_4; have HR2_2 := Aside0.mk hr2_2; have HC2_2 := Aside0.mk hc2_2; clear hr2_2 hc2_2; have HB := Aside0.mk (Below.refl w.heap.size w)
 have H : ((impl_copySafe.f a1_0 a1_1 a1_2 a1_3 l1_4 a1_5).bind fun bt437 => ((impl_SafeOk.f k a0_0 a0_1 a1_0 a1_1 a1_2 a1_3 l1_4 a1_5).bind fun t446 => (if t446 = true then ((impl_QcOk.f k a0_0 a0_1 a2_0 a2_1 l2_2).bind fun t447 => (impl_See.j0 k (!t447) a1_0 a1_1 a1_2 a1_3 l1_4 a1_5 a2_0 a2_1 l2_2 bt437.1 bt437.2.1 bt437.2.2.1 bt437.2.2.2.1 bt437.2.2.2.2.1 bt437.2.2.2.2.2)) else (impl_See.j0 k true a1_0 a1_1 a1_2 a1_3 l1_4 a1_5 a2_0 a2_1 l2_2 bt437.1 bt437.2.1 bt437.2.2.1 bt437.2.2.2.1 bt437.2.2.2.2.1 bt437.2.2.2.2.2)))) = some (r1, r2, r3, r4, r5, r6) := h
 clear h; obtain ⟨⟨t437, t438, t439, t440, t441, t444⟩, A40, H⟩ := Option.bind_eq_some_iff.mp H
 try dsimp only at H
 have A4 := Aside0.mk A40; clear A40; have HC5 := Aside0.mk H; clear H
 go_enter Tryz.func26, Tryz.ntmps26
 go_upto_region 2 with (first | ((with_reducible refine gd 3 ?_); refine bA 3 #[.int .i64 a0_0, .int .i64 a0_1] 38 ?_; intro gb433 hg w6 hbox hb; have BK433 := Aside0.mk (hbox); have GW433 := bg hg HB; have GJ433 := gi GW433; have GE433 := GW433; replace HB := bs HB hb; clear hb hbox hg) | ((with_reducible refine gd 4 ?_); refine bA 4 #[.int .i64 a1_0, .int .i64 a1_1, .int .i64 a1_2, .string a1_3, .slice A1_4 l1_4.length c1_4, .string a1_5] 35 ?_; intro gb434 hg w7 hbox hb; have BK434 := Aside0.mk (hbox); have GW434 := bg hg HB; have GJ434 := gi GW434; have GE434 := GW434; replace HB := bs HB hb; have NB433_434 := b1 BK433 hg; have NI433_434 := ni NB433_434; have NB434_433 := b2 BK433 hg; have NI434_433 := ni NB434_433; replace BK433 := bk BK433 hb; clear hb hbox hg) | ((with_reducible refine gd 5 ?_); refine bA 5 #[.int .i64 a2_0, .string a2_1, .slice A2_2 l2_2.length c2_2] 33 ?_; intro gb435 hg w8 hbox hb; have BK435 := Aside0.mk (hbox); have GW435 := bg hg HB; have GJ435 := gi GW435; have GE435 := GW435; replace HB := bs HB hb; have NB433_435 := b1 BK433 hg; have NI433_435 := ni NB433_435; have NB435_433 := b2 BK433 hg; have NI435_433 := ni NB435_433; replace BK433 := bk BK433 hb; have NB434_435 := b1 BK434 hg; have NI434_435 := ni NB434_435; have NB435_434 := b2 BK434 hg; have NI435_434 := ni NB435_434; replace BK434 := bk BK434 hb; clear hb hbox hg) | ((with_reducible refine gd 6 ?_); refine bA 6 #[.int .i64 0, .int .i64 0, .int .i64 0, .string (⟨#[]⟩ : ByteArray), .slice none 0 0, .string (⟨#[]⟩ : ByteArray)] 35 ?_; intro gb436 hg w9 hbox hb; have BK436 := Aside0.mk (hbox); have GW436 := bg hg HB; have GJ436 := gi GW436; have GE436 := GW436; replace HB := bs HB hb; have NB433_436 := b1 BK433 hg; have NI433_436 := ni NB433_436; have NB436_433 := b2 BK433 hg; have NI436_433 := ni NB436_433; replace BK433 := bk BK433 hb; have NB434_436 := b1 BK434 hg; have NI434_436 := ni NB434_436; have NB436_434 := b2 BK434 hg; have NI436_434 := ni NB436_434; replace BK434 := bk BK434 hb; have NB435_436 := b1 BK435 hg; have NI435_436 := ni NB435_436; have NB436_435 := b2 BK435 hg; have NI436_435 := ni NB436_435; replace BK435 := bk BK435 hb; clear hb hbox hg; have hnb10 := NB434_433.out; have hnc10 := NB433_434.out; have hnb11 := NB434_435.out; have hnc11 := NB435_434.out; have hnb12 := NB434_436.out; have hnc12 := NB436_434.out; have hcz13_0 := bc0 BK434.out; have hcz13_1 := bc1 BK434.out; have hcz13_2 := bc2 BK434.out; have hcz13_3 := bc3 BK434.out; have hcz13_4 := bc4 BK434.out; have hcz13_5 := bc5 BK434.out; have hfz13_0 := blk_frozen BK434.out 0; have hfz13_1 := blk_frozen BK434.out 1; have hfz13_2 := blk_frozen BK434.out 2; have hfz13_3 := blk_frozen BK434.out 3; have hfz13_4 := blk_frozen BK434.out 4; have hfz13_5 := blk_frozen BK434.out 5) | ((with_reducible refine gate_callee (f := 63) rfl ?_); refine gB (some 11) Tryz.func63 #[.agg #[.int .i64 a1_0, .int .i64 a1_1, .int .i64 a1_2, .string a1_3, .slice A1_4 l1_4.length c1_4, .string a1_5]] ?_; (with_reducible refine (impl_copySafe.calls a1_0 a1_1 a1_2 a1_3 _ _ l1_4 a1_5 t437 t438 t439 t440 t441 t444 _ ?side1 ?side2 A4.out).mono ?_); (case side1 => exact ch HR1_4 HB); (case side2 => exact HC1_4.out); rintro e w14 ⟨v442, rfl, ho0, hb⟩; refine ⟨_, rfl, ?_⟩; have HO443 := Aside0.mk (Kd.R_lower ho0 (below_size (bI HB.out))); replace BK433 := bk BK433 hb; replace BK434 := bk BK434 hb; replace BK435 := bk BK435 hb; replace BK436 := bk BK436 hb; replace HB := bs HB hb; (try clear hb); (try clear ho0)) | ((with_reducible refine gd 7 ?_); refine bA 7 #[.int .i64 0, .int .i64 0, .int .i64 0, .string (⟨#[]⟩ : ByteArray), .slice none 0 0, .string (⟨#[]⟩ : ByteArray)] 35 ?_; intro gb445 hg w15 hbox hb; replace HO443 := rb HO443 hb; have BK445 := Aside0.mk (hbox); have GW445 := bg hg HB; have GJ445 := gi GW445; have GE445 := GW445; replace HB := bs HB hb; have NB433_445 := b1 BK433 hg; have NI433_445 := ni NB433_445; have NB445_433 := b2 BK433 hg; have NI445_433 := ni NB445_433; replace BK433 := bk BK433 hb; have NB434_445 := b1 BK434 hg; have NI434_445 := ni NB434_445; have NB445_434 := b2 BK434 hg; have NI445_434 := ni NB445_434; replace BK434 := bk BK434 hb; have NB435_445 := b1 BK435 hg; have NI435_445 := ni NB435_445; have NB445_435 := b2 BK435 hg; have NI445_435 := ni NB445_435; replace BK435 := bk BK435 hb; have NB436_445 := b1 BK436 hg; have NI436_445 := ni NB436_445; have NB445_436 := b2 BK436 hg; have NI445_436 := ni NB445_436; replace BK436 := bk BK436 hb; clear hb hbox hg; have hnb16 := NB445_433.out; have hnc16 := NB433_445.out; have hnb17 := NB445_434.out; have hnc17 := NB434_445.out; have hnb18 := NB445_435.out; have hnc18 := NB435_445.out; have hnb19 := NB445_436.out; have hnc19 := NB436_445.out; have hcz20_0 := bc0 BK445.out; have hcz20_1 := bc1 BK445.out; have hcz20_2 := bc2 BK445.out; have hcz20_3 := bc3 BK445.out; have hcz20_4 := bc4 BK445.out; have hcz20_5 := bc5 BK445.out; have hfz20_0 := blk_frozen BK445.out 0; have hfz20_1 := blk_frozen BK445.out 1; have hfz20_2 := blk_frozen BK445.out 2; have hfz20_3 := blk_frozen BK445.out 3; have hfz20_4 := blk_frozen BK445.out 4; have hfz20_5 := blk_frozen BK445.out 5; obtain ⟨Ao21, co21, eo21⟩ := Kd.R_slice HO443.out; subst eo21))
 (try simp only [Act.put, List.setIfInBounds_toArray, List.set_cons_zero, List.set_cons_succ])
 go_cut [21] (fun v21 wc => ∃ (kq : Nat) (x21_4 : Bool), v21 = .bool x21_4 ∧ Aside0 (impl_See.j0 kq x21_4 a1_0 a1_1 a1_2 a1_3 l1_4 a1_5 a2_0 a2_1 l2_2 t437 t438 t439 t440 t441 t444 = some (r1, r2, r3, r4, r5, r6)) ∧ Aside0 (kq ≤ k) ∧ Aside0 (Kd.R (Kd.int .i64) 3 wc w.heap.size (fun _ => True) (.slice Ao21 t441.length co21) t441) ∧ Aside0 (wc.heap[gb433]? = some (.cells #[.int .i64 a0_0, .int .i64 a0_1] 38 (0, 0))) ∧ Aside0 (wc.heap[gb434]? = some (.cells #[.int .i64 a1_0, .int .i64 a1_1, .int .i64 a1_2, .string a1_3, (.slice A1_4 l1_4.length c1_4), .string a1_5] 35 (0, 0))) ∧ Aside0 (wc.heap[gb435]? = some (.cells #[.int .i64 a2_0, .string a2_1, (.slice A2_2 l2_2.length c2_2)] 33 (0, 0))) ∧ Aside0 (wc.heap[gb436]? = some (.cells #[.int .i64 0, .int .i64 0, .int .i64 0, .string (⟨#[]⟩ : ByteArray), (.slice none 0 0), .string (⟨#[]⟩ : ByteArray)] 35 (0, 0))) ∧ Aside0 (wc.heap[gb445]? = some (.cells #[.int .i64 t437, .int .i64 t438, .int .i64 t439, .string t440, (.slice Ao21 t441.length co21), .string t444] 35 (0, 0))) ∧ Aside0 (Below w.heap.size w wc))
 case first =>
  have H := HC5.out; clear HC5; obtain ⟨t446, A220, H⟩ := Option.bind_eq_some_iff.mp H
  try dsimp only at H
  have A22 := Aside0.mk A220; clear A220
  by_cases c23 : t446 = true
  ·
   subst c23
   rw [if_pos rfl] at H
   obtain ⟨t447, A240, H⟩ := Option.bind_eq_some_iff.mp H
   try dsimp only at H
   have A24 := Aside0.mk A240; clear A240; have H' := Aside0.mk H; clear H; have hnb25 := NB433_434.out; have hnc25 := NB434_433.out; have hnb26 := NB433_435.out; have hnc26 := NB435_433.out; have hnb27 := NB433_436.out; have hnc27 := NB436_433.out; have hnb28 := NB433_445.out; have hnc28 := NB445_433.out; have hcz29_0 := bc0 BK433.out; have hcz29_1 := bc1 BK433.out; have hfz29_0 := blk_frozen BK433.out 0; have hfz29_1 := blk_frozen BK433.out 1; have hnb30 := NB434_435.out; have hnc30 := NB435_434.out; have hnb31 := NB434_436.out; have hnc31 := NB436_434.out; have hnb32 := NB434_445.out; have hnc32 := NB445_434.out; have hcz33_0 := bc0 BK434.out; have hcz33_1 := bc1 BK434.out; have hcz33_2 := bc2 BK434.out; have hcz33_3 := bc3 BK434.out; have hcz33_4 := bc4 BK434.out; have hcz33_5 := bc5 BK434.out; have hfz33_0 := blk_frozen BK434.out 0; have hfz33_1 := blk_frozen BK434.out 1; have hfz33_2 := blk_frozen BK434.out 2; have hfz33_3 := blk_frozen BK434.out 3; have hfz33_4 := blk_frozen BK434.out 4; have hfz33_5 := blk_frozen BK434.out 5
   go_wp2_with (first | ((with_reducible refine gate_callee (f := 72) rfl ?_); refine gB (some 14) Tryz.func72 #[.agg #[.int .i64 a0_0, .int .i64 a0_1], .agg #[.int .i64 a1_0, .int .i64 a1_1, .int .i64 a1_2, .string a1_3, .slice A1_4 l1_4.length c1_4, .string a1_5]] ?_; (with_reducible refine (impl_SafeOk.calls k a0_0 a0_1 a1_0 a1_1 a1_2 a1_3 _ _ l1_4 a1_5 true _ ?side1 ?side2 A22.out).mono ?_); (case side1 => exact Kd.C_below HR1_4.out (bI HB.out)); (case side2 => exact HC1_4.out); rintro e w34 ⟨rfl, hb⟩; refine ⟨_, rfl, ?_⟩; replace HO443 := Aside0.mk (Kd.R_below (rI (Kd.R_mono (Kd.R_far (p := ⟨gb445, 5, none⟩) (Kd.R_far (p := ⟨gb445, 4, none⟩) (Kd.R_far (p := ⟨gb445, 3, none⟩) (Kd.R_far (p := ⟨gb445, 2, none⟩) (Kd.R_far (p := ⟨gb445, 1, none⟩) (Kd.R_far (p := ⟨gb445, 0, none⟩) (Kd.R_types HO443.out BK445.out (by decide)) (fun _ hk => hk.2) (.int .i64 t437)) (fun _ hk => hk.2) (.int .i64 t438)) (fun _ hk => hk.2) (.int .i64 t439)) (fun _ hk => hk.2) (.string t440)) (fun _ hk => hk.2) (.slice Ao21 t441.length co21)) (fun _ hk => hk.2) (.string t444)) (fun _ h_ => h_.1))) hb); replace BK433 := Aside0.mk (blk_below (g := gb433) (o := .cells #[.int .i64 a0_0, .int .i64 a0_1] 38 (0, 0)) (gI BK433.out) hb); replace BK434 := Aside0.mk (blk_below (g := gb434) (o := .cells #[.int .i64 a1_0, .int .i64 a1_1, .int .i64 a1_2, .string a1_3, .slice A1_4 l1_4.length c1_4, .string a1_5] 35 (0, 0)) (gI BK434.out) hb); replace BK435 := Aside0.mk (blk_below (g := gb435) (o := .cells #[.int .i64 a2_0, .string a2_1, .slice A2_2 l2_2.length c2_2] 33 (0, 0)) (gI BK435.out) hb); replace BK436 := Aside0.mk (blk_below (g := gb436) (o := .cells #[.int .i64 0, .int .i64 0, .int .i64 0, .string (⟨#[]⟩ : ByteArray), .slice none 0 0, .string (⟨#[]⟩ : ByteArray)] 35 (0, 0)) (gI BK436.out) hb); replace BK445 := bp BK445 hb #[.int .i64 t437, .int .i64 t438, .int .i64 t439, .string t440, .slice Ao21 t441.length co21, .string t444]; replace HB := bs HB hb; (try clear hb); (try clear hb2); (try clear hk); (try clear hi); obtain ⟨hcz35_0, hcz35_1, hfz35_0, hfz35_1⟩ := cs2 BK433; have hnb36 := NB435_436.out; have hnc36 := NB436_435.out; have hnb37 := NB435_445.out; have hnc37 := NB445_435.out; obtain ⟨hcz38_0, hcz38_1, hcz38_2, hfz38_0, hfz38_1, hfz38_2⟩ := cs3 BK435) | (go_at_call 48; (with_reducible refine (impl_QcOk.calls k a0_0 a0_1 a2_0 a2_1 _ _ l2_2 t447 _ ?side1 ?side2 A24.out).mono ?_); (case side1 => exact ch HR2_2 HB); (case side2 => exact HC2_2.out); rintro e w39 ⟨rfl, hb⟩; replace HO443 := rb HO443 hb; replace BK433 := bk BK433 hb; replace BK434 := bk BK434 hb; replace BK435 := bk BK435 hb; replace BK436 := bk BK436 hb; replace BK445 := bk BK445 hb; replace HB := bs HB hb; (try clear hb); (try clear hb2); (try clear hk); (try clear hi)))
   go_meet
   case rel => exact ⟨_, (!t447), y0_9, H', ⟨y0_10⟩, ⟨by (with_reducible repeat (first | apply Kd.R_alloc | apply Kd.R_drewN | apply Kd.R_drew)); exact HO443.out⟩, ⟨gI BK433.out⟩, ⟨gI BK434.out⟩, ⟨gI BK435.out⟩, ⟨gI BK436.out⟩, ⟨gI BK445.out⟩, ⟨bI HB.out⟩⟩
  replace c23 := Bool.eq_false_iff.mpr c23; subst c23
  rw [if_neg (show ¬ (false = true) by decide)] at H
  have H' := Aside0.mk H; clear H; have hnb40 := NB433_434.out; have hnc40 := NB434_433.out; have hnb41 := NB433_435.out; have hnc41 := NB435_433.out; have hnb42 := NB433_436.out; have hnc42 := NB436_433.out; have hnb43 := NB433_445.out; have hnc43 := NB445_433.out; have hcz44_0 := bc0 BK433.out; have hcz44_1 := bc1 BK433.out; have hfz44_0 := blk_frozen BK433.out 0; have hfz44_1 := blk_frozen BK433.out 1; have hnb45 := NB434_435.out; have hnc45 := NB435_434.out; have hnb46 := NB434_436.out; have hnc46 := NB436_434.out; have hnb47 := NB434_445.out; have hnc47 := NB445_434.out; have hcz48_0 := bc0 BK434.out; have hcz48_1 := bc1 BK434.out; have hcz48_2 := bc2 BK434.out; have hcz48_3 := bc3 BK434.out; have hcz48_4 := bc4 BK434.out; have hcz48_5 := bc5 BK434.out; have hfz48_0 := blk_frozen BK434.out 0; have hfz48_1 := blk_frozen BK434.out 1; have hfz48_2 := blk_frozen BK434.out 2; have hfz48_3 := blk_frozen BK434.out 3; have hfz48_4 := blk_frozen BK434.out 4; have hfz48_5 := blk_frozen BK434.out 5
  go_wp2_with (first | ((with_reducible refine gate_callee (f := 72) rfl ?_); refine gB (some 14) Tryz.func72 #[.agg #[.int .i64 a0_0, .int .i64 a0_1], .agg #[.int .i64 a1_0, .int .i64 a1_1, .int .i64 a1_2, .string a1_3, .slice A1_4 l1_4.length c1_4, .string a1_5]] ?_; (with_reducible refine (impl_SafeOk.calls k a0_0 a0_1 a1_0 a1_1 a1_2 a1_3 _ _ l1_4 a1_5 false _ ?side1 ?side2 A22.out).mono ?_); (case side1 => exact Kd.C_below HR1_4.out (bI HB.out)); (case side2 => exact HC1_4.out); rintro e w49 ⟨rfl, hb⟩; refine ⟨_, rfl, ?_⟩; replace HO443 := Aside0.mk (Kd.R_below (rI (Kd.R_mono (Kd.R_far (p := ⟨gb445, 5, none⟩) (Kd.R_far (p := ⟨gb445, 4, none⟩) (Kd.R_far (p := ⟨gb445, 3, none⟩) (Kd.R_far (p := ⟨gb445, 2, none⟩) (Kd.R_far (p := ⟨gb445, 1, none⟩) (Kd.R_far (p := ⟨gb445, 0, none⟩) (Kd.R_types HO443.out BK445.out (by decide)) (fun _ hk => hk.2) (.int .i64 t437)) (fun _ hk => hk.2) (.int .i64 t438)) (fun _ hk => hk.2) (.int .i64 t439)) (fun _ hk => hk.2) (.string t440)) (fun _ hk => hk.2) (.slice Ao21 t441.length co21)) (fun _ hk => hk.2) (.string t444)) (fun _ h_ => h_.1))) hb); replace BK433 := Aside0.mk (blk_below (g := gb433) (o := .cells #[.int .i64 a0_0, .int .i64 a0_1] 38 (0, 0)) (gI BK433.out) hb); replace BK434 := Aside0.mk (blk_below (g := gb434) (o := .cells #[.int .i64 a1_0, .int .i64 a1_1, .int .i64 a1_2, .string a1_3, .slice A1_4 l1_4.length c1_4, .string a1_5] 35 (0, 0)) (gI BK434.out) hb); replace BK435 := Aside0.mk (blk_below (g := gb435) (o := .cells #[.int .i64 a2_0, .string a2_1, .slice A2_2 l2_2.length c2_2] 33 (0, 0)) (gI BK435.out) hb); replace BK436 := Aside0.mk (blk_below (g := gb436) (o := .cells #[.int .i64 0, .int .i64 0, .int .i64 0, .string (⟨#[]⟩ : ByteArray), .slice none 0 0, .string (⟨#[]⟩ : ByteArray)] 35 (0, 0)) (gI BK436.out) hb); replace BK445 := bp BK445 hb #[.int .i64 t437, .int .i64 t438, .int .i64 t439, .string t440, .slice Ao21 t441.length co21, .string t444]; replace HB := bs HB hb; (try clear hb); (try clear hb2); (try clear hk); (try clear hi)))
  go_meet
  case rel => exact ⟨_, (true), y0_9, H', ⟨y0_10⟩, ⟨by (with_reducible repeat (first | apply Kd.R_alloc | apply Kd.R_drewN | apply Kd.R_drew)); exact HO443.out⟩, ⟨gI BK433.out⟩, ⟨gI BK434.out⟩, ⟨gI BK435.out⟩, ⟨gI BK436.out⟩, ⟨gI BK445.out⟩, ⟨bI HB.out⟩⟩
 case rest =>
  clear HC5
  try clear c1
  try clear c2
  try clear p2
  try clear c3
  try clear c4
  try clear c6
  try clear c7
  try clear c10
  try clear c11
  try clear c12
  try clear c16
  try clear c17
  try clear c18
  try clear c19
  try clear c23
  try clear c25
  try clear c26
  try clear c27
  try clear c28
  try clear c30
  try clear c31
  try clear c32
  try clear c36
  try clear c37
  try clear c40
  try clear c41
  try clear c42
  try clear c43
  try clear c45
  try clear c46
  try clear c47
  try clear hcz13_0
  try clear hcz13_1
  try clear hcz13_2
  try clear hcz13_3
  try clear hcz13_4
  try clear hcz13_5
  try clear hcz20_0
  try clear hcz20_1
  try clear hcz20_2
  try clear hcz20_3
  try clear hcz20_4
  try clear hcz20_5
  try clear hcz29_0
  try clear hcz29_1
  try clear hcz33_0
  try clear hcz33_1
  try clear hcz33_2
  try clear hcz33_3
  try clear hcz33_4
  try clear hcz33_5
  try clear hcz35_0
  try clear hcz35_1
  try clear hcz38_0
  try clear hcz38_1
  try clear hcz38_2
  try clear hcz44_0
  try clear hcz44_1
  try clear hcz48_0
  try clear hcz48_1
  try clear hcz48_2
  try clear hcz48_3
  try clear hcz48_4
  try clear hcz48_5
  try clear hfz13_0
  try clear hfz13_1
  try clear hfz13_2
  try clear hfz13_3
  try clear hfz13_4
  try clear hfz13_5
  try clear hfz20_0
  try clear hfz20_1
  try clear hfz20_2
  try clear hfz20_3
  try clear hfz20_4
  try clear hfz20_5
  try clear hfz29_0
  try clear hfz29_1
  try clear hfz33_0
  try clear hfz33_1
  try clear hfz33_2
  try clear hfz33_3
  try clear hfz33_4
  try clear hfz33_5
  try clear hfz35_0
  try clear hfz35_1
  try clear hfz38_0
  try clear hfz38_1
  try clear hfz38_2
  try clear hfz44_0
  try clear hfz44_1
  try clear hfz48_0
  try clear hfz48_1
  try clear hfz48_2
  try clear hfz48_3
  try clear hfz48_4
  try clear hfz48_5
  obtain ⟨kq, x21_4, rfl, HA, HJ4, HO_446004, BK433, BK434, BK435, BK436, BK445, HB⟩ := hcut; cases kq with
  | zero => exact absurd HA.out (by simp [impl_See.j0])
  | succ kj4 =>
   have H := HA.out; clear HA
   simp only [impl_See.j0] at H
   by_cases c50 : x21_4 = true
   ·
    subst c50
    rw [if_pos rfl] at H
    simp only [Option.some.injEq, Prod.mk.injEq] at H
    obtain ⟨rfl, rfl, rfl, rfl, rfl, rfl⟩ := H; have hnb51 := NB445_433.out; have hnc51 := NB433_445.out; have hnb52 := NB445_434.out; have hnc52 := NB434_445.out; have hnb53 := NB445_435.out; have hnc53 := NB435_445.out; have hnb54 := NB445_436.out; have hnc54 := NB436_445.out; have hcz55_0 := bc0 BK445.out; have hcz55_1 := bc1 BK445.out; have hcz55_2 := bc2 BK445.out; have hcz55_3 := bc3 BK445.out; have hcz55_4 := bc4 BK445.out; have hcz55_5 := bc5 BK445.out; have hfz55_0 := blk_frozen BK445.out 0; have hfz55_1 := blk_frozen BK445.out 1; have hfz55_2 := blk_frozen BK445.out 2; have hfz55_3 := blk_frozen BK445.out 3; have hfz55_4 := blk_frozen BK445.out 4; have hfz55_5 := blk_frozen BK445.out 5; have hnb56 := NB436_433.out; have hnc56 := NB433_436.out; have hnb57 := NB436_434.out; have hnc57 := NB434_436.out; have hnb58 := NB436_435.out; have hnc58 := NB435_436.out; have hcz59_0 := bc0 BK436.out; have hcz59_1 := bc1 BK436.out; have hcz59_2 := bc2 BK436.out; have hcz59_3 := bc3 BK436.out; have hcz59_4 := bc4 BK436.out; have hcz59_5 := bc5 BK436.out; have hfz59_0 := blk_frozen BK436.out 0; have hfz59_1 := blk_frozen BK436.out 1; have hfz59_2 := blk_frozen BK436.out 2; have hfz59_3 := blk_frozen BK436.out 3; have hfz59_4 := blk_frozen BK436.out 4; have hfz59_5 := blk_frozen BK436.out 5
    go_wp2
    refine bodyPost_ret (results_cell_row rfl _ _ gb436 35 #[.int .i64 t437, .int .i64 t438, .int .i64 t439, .string t440, .slice Ao21 t441.length co21, .string t444] (0, 0) _ rfl (pI BK436) Tryz.underlying35 rfl (by kernel_rfl)) rfl ?_
    exact ⟨_, y0_6, by (with_reducible repeat (first | apply Kd.R_alloc | apply Kd.R_drewN | apply Kd.R_drew)); exact Kd.R_mono (Kd.R_far (p := ⟨gb436, 5, none⟩) (Kd.R_far (p := ⟨gb436, 4, none⟩) (Kd.R_far (p := ⟨gb436, 3, none⟩) (Kd.R_far (p := ⟨gb436, 2, none⟩) (Kd.R_far (p := ⟨gb436, 1, none⟩) (Kd.R_far (p := ⟨gb436, 0, none⟩) (Kd.R_types HO_446004.out BK436.out (by decide)) (fun _ hk => hk.2) (.int .i64 t437)) (fun _ hk => hk.2) (.int .i64 t438)) (fun _ hk => hk.2) (.int .i64 t439)) (fun _ hk => hk.2) (.string t440)) (fun _ hk => hk.2) (.slice Ao21 t441.length co21)) (fun _ hk => hk.2) (.string t444)) (fun _ hk => trivial), bI HB.out⟩
   replace c50 := Bool.eq_false_iff.mpr c50; subst c50
   rw [if_neg (show ¬ (false = true) by decide)] at H
   obtain ⟨⟨t448, t449, t450⟩, A600, H⟩ := Option.bind_eq_some_iff.mp H
   try dsimp only at H
   have A60 := Aside0.mk A600; clear A600; obtain ⟨t453, A610, H⟩ := Option.bind_eq_some_iff.mp H
   try dsimp only at H
   have A61 := Aside0.mk A610; clear A610; obtain ⟨t454, A620, H⟩ := Option.bind_eq_some_iff.mp H
   try dsimp only at H
   have A62 := Aside0.mk A620; clear A620; obtain ⟨ji63, hji63⟩ : ∃ j_ : Int, (mx a1_1 t454) = j_ := ⟨_, rfl⟩
   replace H : ((impl_Settles.f kj4 a2_1).bind fun bt455 => (if bt455.2 = true then ((impl_Extends.f kj4 bt455.1 a1_5).bind fun t457 => (if t457 = true then (some (t437, ji63, t448, t449, t450, bt455.1)) else (some (t437, ji63, t448, t449, t450, t444)))) else (some (t437, ji63, t448, t449, t450, t444)))) = some (r1, r2, r3, r4, r5, r6) := by first | (rw [hji63] at H; exact H) | (simp only [hji63] at H ⊢; exact H)
   (try rw [hji63] at A60)
   (try rw [hji63] at A61)
   (try rw [hji63] at A62)
   have hji63_ : (if a1_1 < t454 then t454 else a1_1) = ji63 := hji63; obtain ⟨⟨t455, t456⟩, A640, H⟩ := Option.bind_eq_some_iff.mp H
   try dsimp only at H
   have A64 := Aside0.mk A640; clear A640
   by_cases c65 : t456 = true
   ·
    subst c65
    rw [if_pos rfl] at H
    obtain ⟨t457, A660, H⟩ := Option.bind_eq_some_iff.mp H
    try dsimp only at H
    have A66 := Aside0.mk A660; clear A660
    by_cases c67 : t457 = true
    ·
     subst c67
     rw [if_pos rfl] at H
     simp only [Option.some.injEq, Prod.mk.injEq] at H
     obtain ⟨rfl, rfl, rfl, rfl, rfl, rfl⟩ := H; have hnb68 := NB435_433.out; have hnc68 := NB433_435.out; have hnb69 := NB435_434.out; have hnc69 := NB434_435.out; have hnb70 := NB435_436.out; have hnc70 := NB436_435.out; have hnb71 := NB435_445.out; have hnc71 := NB445_435.out; have hcz72_0 := bc0 BK435.out; have hcz72_1 := bc1 BK435.out; have hcz72_2 := bc2 BK435.out; have hfz72_0 := blk_frozen BK435.out 0; have hfz72_1 := blk_frozen BK435.out 1; have hfz72_2 := blk_frozen BK435.out 2; have hnb73 := NB434_433.out; have hnc73 := NB433_434.out; have hnb74 := NB434_436.out; have hnc74 := NB436_434.out; have hnb75 := NB434_445.out; have hnc75 := NB445_434.out; have hcz76_0 := bc0 BK434.out; have hcz76_1 := bc1 BK434.out; have hcz76_2 := bc2 BK434.out; have hcz76_3 := bc3 BK434.out; have hcz76_4 := bc4 BK434.out; have hcz76_5 := bc5 BK434.out; have hfz76_0 := blk_frozen BK434.out 0; have hfz76_1 := blk_frozen BK434.out 1; have hfz76_2 := blk_frozen BK434.out 2; have hfz76_3 := blk_frozen BK434.out 3; have hfz76_4 := blk_frozen BK434.out 4; have hfz76_5 := blk_frozen BK434.out 5
     try go_wp2_with (first | ((with_reducible refine gate_callee (f := 56) rfl ?_); refine gB (some 26) Tryz.func56 #[.agg #[.int .i64 a2_0, .string a2_1, .slice A2_2 l2_2.length c2_2], .agg #[.int .i64 a1_2, .string a1_3, .slice A1_4 l1_4.length c1_4]] ?_; (with_reducible refine (impl_QcLater.calls a2_0 a2_1 _ _ l2_2 a1_2 a1_3 _ _ l1_4 t448 t449 t450 _ ?side1 ?side2 ?side3 ?side4 A60.out).mono ?_); (case side1 => exact ch HR2_2 HB); (case side2 => exact HC2_2.out); (case side3 => exact ch HR1_4 HB); (case side4 => exact HC1_4.out); rintro e w77 ⟨v451, rfl, ho0, hb⟩; refine ⟨_, rfl, ?_⟩; have HO452 := Aside0.mk (Kd.R_lower (Kd.R_new' ho0 (Kd.R_lt (rI HO_446004.out))) (below_size (bI HB.out))); replace HO_446004 := Aside0.mk (Kd.R_elder' (rI HO_446004.out) (Kd.R_base ho0) hb); replace BK433 := bk BK433 hb; replace BK434 := bk BK434 hb; replace BK435 := bk BK435 hb; replace BK436 := bk BK436 hb; replace BK445 := bk BK445 hb; replace HB := bs HB hb; (try clear hb); (try clear ho0); have hnb78 := NB445_433.out; have hnc78 := NB433_445.out; have hnb79 := NB445_436.out; have hnc79 := NB436_445.out; have hcz80_0 := bc0 BK445.out; have hcz80_1 := bc1 BK445.out; have hcz80_2 := bc2 BK445.out; have hcz80_3 := bc3 BK445.out; have hcz80_4 := bc4 BK445.out; have hcz80_5 := bc5 BK445.out; have hfz80_0 := blk_frozen BK445.out 0; have hfz80_1 := blk_frozen BK445.out 1; have hfz80_2 := blk_frozen BK445.out 2; have hfz80_3 := blk_frozen BK445.out 3; have hfz80_4 := blk_frozen BK445.out 4; have hfz80_5 := blk_frozen BK445.out 5; obtain ⟨Ao81, co81, eo81⟩ := Kd.R_slice HO452.out; subst eo81))
     have n0_ : Aside0 (Kd.R (Kd.int .i64) 3 (((w77.setCell ⟨gb445, 2, none⟩ (.int .i64 t448)).setCell ⟨gb445, 3, none⟩ (.string t449)).setCell ⟨gb445, 4, none⟩ (.slice Ao81 t450.length co81)) w.heap.size (fun k_ => some k_ ≠ (.slice Ao81 t450.length co81 : Value).ownBlock) (.slice Ao21 t441.length co21) t441) := ⟨by (with_reducible repeat (first | apply Kd.R_alloc | apply Kd.R_drewN | apply Kd.R_drew)); exact Kd.R_mono (Kd.R_far (p := ⟨gb445, 4, none⟩) (Kd.R_far (p := ⟨gb445, 3, none⟩) (Kd.R_far (p := ⟨gb445, 2, none⟩) (Kd.R_types HO_446004.out BK445.out (by decide)) (fun _ hk => hk.2) (.int .i64 t448)) (fun _ hk => hk.2) (.string t449)) (fun _ hk => hk.2) (.slice Ao81 t450.length co81)) (fun _ hk => by first | exact hk.1.2 | exact ⟨hk.1.2, hk.2⟩ | exact ⟨hk.2, hk.1.2⟩ | exact ⟨hk.1.2, hk.1.1.2⟩ | simp_all)⟩
     have n1_ : Aside0 (Kd.R (Kd.int .i64) 3 (((w77.setCell ⟨gb445, 2, none⟩ (.int .i64 t448)).setCell ⟨gb445, 3, none⟩ (.string t449)).setCell ⟨gb445, 4, none⟩ (.slice Ao81 t450.length co81)) w.heap.size (fun k_ => some k_ ≠ (.slice Ao21 t441.length co21 : Value).ownBlock) (.slice Ao81 t450.length co81) t450) := ⟨by (with_reducible repeat (first | apply Kd.R_alloc | apply Kd.R_drewN | apply Kd.R_drew)); exact Kd.R_mono (Kd.R_far (p := ⟨gb445, 4, none⟩) (Kd.R_far (p := ⟨gb445, 3, none⟩) (Kd.R_far (p := ⟨gb445, 2, none⟩) (Kd.R_types HO452.out BK445.out (by decide)) (fun _ hk => hk.2) (.int .i64 t448)) (fun _ hk => hk.2) (.string t449)) (fun _ hk => hk.2) (.slice Ao81 t450.length co81)) (fun _ hk => by first | exact hk.1.2 | exact ⟨hk.1.2, hk.2⟩ | exact ⟨hk.2, hk.1.2⟩ | exact ⟨hk.1.2, hk.1.1.2⟩ | simp_all)⟩
     have n2_ : Aside0 ((((w77.setCell ⟨gb445, 2, none⟩ (.int .i64 t448)).setCell ⟨gb445, 3, none⟩ (.string t449)).setCell ⟨gb445, 4, none⟩ (.slice Ao81 t450.length co81)).heap[gb433]? = some (.cells #[.int .i64 a0_0, .int .i64 a0_1] 38 (0, 0))) := ⟨gI BK433.out⟩; have n3_ : Aside0 ((((w77.setCell ⟨gb445, 2, none⟩ (.int .i64 t448)).setCell ⟨gb445, 3, none⟩ (.string t449)).setCell ⟨gb445, 4, none⟩ (.slice Ao81 t450.length co81)).heap[gb434]? = some (.cells #[.int .i64 a1_0, .int .i64 a1_1, .int .i64 a1_2, .string a1_3, .slice A1_4 l1_4.length c1_4, .string a1_5] 35 (0, 0))) := ⟨gI BK434.out⟩; have n4_ : Aside0 ((((w77.setCell ⟨gb445, 2, none⟩ (.int .i64 t448)).setCell ⟨gb445, 3, none⟩ (.string t449)).setCell ⟨gb445, 4, none⟩ (.slice Ao81 t450.length co81)).heap[gb435]? = some (.cells #[.int .i64 a2_0, .string a2_1, .slice A2_2 l2_2.length c2_2] 33 (0, 0))) := ⟨gI BK435.out⟩; have n5_ : Aside0 ((((w77.setCell ⟨gb445, 2, none⟩ (.int .i64 t448)).setCell ⟨gb445, 3, none⟩ (.string t449)).setCell ⟨gb445, 4, none⟩ (.slice Ao81 t450.length co81)).heap[gb436]? = some (.cells #[.int .i64 0, .int .i64 0, .int .i64 0, .string (⟨#[]⟩ : ByteArray), .slice none 0 0, .string (⟨#[]⟩ : ByteArray)] 35 (0, 0))) := ⟨gI BK436.out⟩; have n6_ : Aside0 ((((w77.setCell ⟨gb445, 2, none⟩ (.int .i64 t448)).setCell ⟨gb445, 3, none⟩ (.string t449)).setCell ⟨gb445, 4, none⟩ (.slice Ao81 t450.length co81)).heap[gb445]? = some (.cells #[.int .i64 t437, .int .i64 t438, .int .i64 t448, .string t449, .slice Ao81 t450.length co81, .string t444] 35 (0, 0))) := ⟨pI BK445⟩
     have n7_ : Aside0 (Below w.heap.size w (((w77.setCell ⟨gb445, 2, none⟩ (.int .i64 t448)).setCell ⟨gb445, 3, none⟩ (.string t449)).setCell ⟨gb445, 4, none⟩ (.slice Ao81 t450.length co81))) := ⟨bI HB.out⟩
     (try clear HO_446004)
     (try clear HO452)
     (try clear BK433)
     (try clear BK434)
     (try clear BK435)
     (try clear BK436)
     (try clear BK445)
     (try clear HB)
     generalize (((w77.setCell ⟨gb445, 2, none⟩ (.int .i64 t448)).setCell ⟨gb445, 3, none⟩ (.string t449)).setCell ⟨gb445, 4, none⟩ (.slice Ao81 t450.length co81)) = w82 at n0_ n1_ n2_ n3_ n4_ n5_ n6_ n7_ ⊢
     have HO_446004 := n0_; have HO452 := n1_; have BK433 := n2_; have BK434 := n3_; have BK435 := n4_; have BK436 := n5_; have BK445 := n6_; have HB := n7_; clear n0_ n1_ n2_ n3_ n4_ n5_ n6_ n7_; replace HO_446004 := Aside0.mk (Kd.R_drew HO_446004.out); replace HO452 := Aside0.mk (Kd.R_drew HO452.out); replace BK433 := Aside0.mk (blk_drew BK433.out); replace BK434 := Aside0.mk (blk_drew BK434.out); replace BK435 := Aside0.mk (blk_drew BK435.out); replace BK436 := Aside0.mk (blk_drew BK436.out); replace BK445 := Aside0.mk (blk_drew BK445.out); replace HB := Aside0.mk (below_drew1 HB.out)
     refine start_ (n := 9) (S := fun w' => w'.cell? ⟨gb434, 0, none⟩ = some (.int .i64 a1_0) ∧ w'.cell? ⟨gb434, 1, none⟩ = some (.int .i64 a1_1) ∧ w'.cell? ⟨gb434, 2, none⟩ = some (.int .i64 a1_2) ∧ w'.cell? ⟨gb434, 3, none⟩ = some (.string a1_3) ∧ w'.cell? ⟨gb434, 4, none⟩ = some (.slice A1_4 l1_4.length c1_4) ∧ w'.cell? ⟨gb434, 5, none⟩ = some (.string a1_5) ∧ w'.cell? ⟨gb435, 0, none⟩ = some (.int .i64 a2_0) ∧ w'.cell? ⟨gb435, 1, none⟩ = some (.string a2_1) ∧ w'.cell? ⟨gb435, 2, none⟩ = some (.slice A2_2 l2_2.length c2_2)) (ds := []) #[false, false, false, false, false, false, false, false, false] (by kernel_rfl) rfl rfl ⟨bc0 BK434.out, bc1 BK434.out, bc2 BK434.out, bc3 BK434.out, bc4 BK434.out, bc5 BK434.out, bc0 BK435.out, bc1 BK435.out, bc2 BK435.out⟩ (fun hHeld => ?_); refine with_tabW impl_See.tab5 impl_See.bits5 (fun HT_ HW_ => ?_)
     generalize w82.drew = w83 at HO_446004 HO452 BK433 BK434 BK435 BK436 BK445 HB hHeld ⊢
     refine pA 0 (some 28) (bz 9 1) HT_ ?_
     refine pA 2 (some 30) (bz 9 5) HT_ ?_
     refine tA 1 (some 29) (bz 9 7) HT_ HW_ hHeld ?_
     refine tA 3 (some 31) (bz 9 15) HT_ HW_ hHeld ?_
     refine oA 4 (some 32) (bz 9 31) HT_ (fun K hK => ?_)
     refine gA Tryz.func73 #[.string a2_1] ?_
     with_reducible refine (impl_UpOf.calls kj4 a2_1 t453 _ A61.out).mono ?_
     rintro e w84 ⟨rfl, hb⟩
     refine ⟨_, rfl, ?_⟩
     replace HO_446004 := rb HO_446004 hb; replace HO452 := rb HO452 hb; replace BK433 := bk BK433 hb; replace BK434 := bk BK434 hb; replace BK435 := bk BK435 hb; replace BK436 := bk BK436 hb; replace BK445 := bk BK445 hb; replace HB := bs HB hb
     (try clear hb)
     (try clear hb2)
     (try clear hk)
     (try clear hi)
     refine hK.out _ _ ⟨bc0 BK434.out, bc1 BK434.out, bc2 BK434.out, bc3 BK434.out, bc4 BK434.out, bc5 BK434.out, bc0 BK435.out, bc1 BK435.out, bc2 BK435.out⟩ (fun hHeld => ?_)
     clear hK K
     refine nA (some 32) ?_
     refine oA 5 (some 33) (bz 9 63) HT_ (fun K hK => ?_)
     refine gA Tryz.func44 #[.string t453] ?_
     with_reducible refine (impl_ViewOf.calls kj4 t453 t454 _ A62.out).mono ?_
     rintro e w85 ⟨rfl, hb⟩
     refine ⟨_, rfl, ?_⟩
     replace HO_446004 := rb HO_446004 hb; replace HO452 := rb HO452 hb; replace BK433 := bk BK433 hb; replace BK434 := bk BK434 hb; replace BK435 := bk BK435 hb; replace BK436 := bk BK436 hb; replace BK445 := bk BK445 hb; replace HB := bs HB hb
     (try clear hb)
     (try clear hb2)
     (try clear hk)
     (try clear hi)
     refine hK.out _ _ ⟨bc0 BK434.out, bc1 BK434.out, bc2 BK434.out, bc3 BK434.out, bc4 BK434.out, bc5 BK434.out, bc0 BK435.out, bc1 BK435.out, bc2 BK435.out⟩ (fun hHeld => ?_)
     clear hK K
     refine nA (some 33) ?_
     refine pA 6 (some 34) (bz 9 127) HT_ ?_
     refine pA 7 (some 35) (bz 9 255) HT_ ?_
     refine oA 8 none (bz 9 511) HT_ (fun K hK => ?_)
     have hs86 : w85.cell? ⟨gb445, 1, none⟩ = some (.int .i64 t438) := bc1 BK445.out; have hfs86 := blk_frozen BK445.out 1; have hns86_0 := NB433_445.out; have hns86_1 := NB434_445.out; have hns86_2 := NB435_445.out; have hns86_3 := NB436_445.out; have hms86_0 := NB445_433.out; have hms86_1 := NB445_434.out; have hms86_2 := NB445_435.out; have hms86_3 := NB445_436.out
     refine skip_ (w1 := ?_) (by rfl) rfl ?_ ?_
     rotate_left
     ·
      go_simp
      rfl
     refine hK.out _ _ ⟨((cell_far (p := ⟨gb445, _, none⟩) NB434_445.out _).trans (hHeld.1)), ((cell_far (p := ⟨gb445, _, none⟩) NB434_445.out _).trans (hHeld.2.1)), ((cell_far (p := ⟨gb445, _, none⟩) NB434_445.out _).trans (hHeld.2.2.1)), ((cell_far (p := ⟨gb445, _, none⟩) NB434_445.out _).trans (hHeld.2.2.2.1)), ((cell_far (p := ⟨gb445, _, none⟩) NB434_445.out _).trans (hHeld.2.2.2.2.1)), ((cell_far (p := ⟨gb445, _, none⟩) NB434_445.out _).trans (hHeld.2.2.2.2.2.1)), ((cell_far (p := ⟨gb445, _, none⟩) NB435_445.out _).trans (hHeld.2.2.2.2.2.2.1)), ((cell_far (p := ⟨gb445, _, none⟩) NB435_445.out _).trans (hHeld.2.2.2.2.2.2.2.1)), ((cell_far (p := ⟨gb445, _, none⟩) NB435_445.out _).trans (hHeld.2.2.2.2.2.2.2.2))⟩ (fun hHeld => ?_)
     clear hK K
     refine done_ (done_of HT_.out (by kernel_rfl)) ?_
     have hcz87_0 := bc0 BK435.out; have hcz87_1 := bc1 BK435.out; have hcz87_2 := bc2 BK435.out; have hfz87_0 := blk_frozen BK435.out 0; have hfz87_1 := blk_frozen BK435.out 1; have hfz87_2 := blk_frozen BK435.out 2
     try go_wp2_with (first | ((with_reducible refine gate_callee (f := 74) rfl ?_); refine gB (some 39) Tryz.func74 #[.string a2_1] ?_; (with_reducible refine (impl_Settles.calls kj4 a2_1 t455 true _ A64.out).mono ?_); rintro e w88 ⟨rfl, hb⟩; refine ⟨_, rfl, ?_⟩; replace HO_446004 := Aside0.mk (Kd.R_below (rI (Kd.R_mono (Kd.R_far (p := ⟨gb445, 1, none⟩) (Kd.R_types HO_446004.out BK445.out (by decide)) (fun _ hk => hk.2) (.int .i64 ji63)) (fun _ h_ => h_.1))) hb); replace HO452 := Aside0.mk (Kd.R_below (rI (Kd.R_mono (Kd.R_far (p := ⟨gb445, 1, none⟩) (Kd.R_types HO452.out BK445.out (by decide)) (fun _ hk => hk.2) (.int .i64 ji63)) (fun _ h_ => h_.1))) hb); replace BK433 := Aside0.mk (blk_below (g := gb433) (o := .cells #[.int .i64 a0_0, .int .i64 a0_1] 38 (0, 0)) (gI BK433.out) hb); replace BK434 := Aside0.mk (blk_below (g := gb434) (o := .cells #[.int .i64 a1_0, .int .i64 a1_1, .int .i64 a1_2, .string a1_3, .slice A1_4 l1_4.length c1_4, .string a1_5] 35 (0, 0)) (gI BK434.out) hb); replace BK435 := Aside0.mk (blk_below (g := gb435) (o := .cells #[.int .i64 a2_0, .string a2_1, .slice A2_2 l2_2.length c2_2] 33 (0, 0)) (gI BK435.out) hb); replace BK436 := Aside0.mk (blk_below (g := gb436) (o := .cells #[.int .i64 0, .int .i64 0, .int .i64 0, .string (⟨#[]⟩ : ByteArray), .slice none 0 0, .string (⟨#[]⟩ : ByteArray)] 35 (0, 0)) (gI BK436.out) hb); replace BK445 := bp BK445 hb #[.int .i64 t437, .int .i64 ji63, .int .i64 t448, .string t449, .slice Ao81 t450.length co81, .string t444]; replace HB := bs HB hb; (try clear hb); (try clear hb2); (try clear hk); (try clear hi); have hcz89_0 := bc0 BK434.out; have hcz89_1 := bc1 BK434.out; have hcz89_2 := bc2 BK434.out; have hcz89_3 := bc3 BK434.out; have hcz89_4 := bc4 BK434.out; have hcz89_5 := bc5 BK434.out; have hfz89_0 := blk_frozen BK434.out 0; have hfz89_1 := blk_frozen BK434.out 1; have hfz89_2 := blk_frozen BK434.out 2; have hfz89_3 := blk_frozen BK434.out 3; have hfz89_4 := blk_frozen BK434.out 4; have hfz89_5 := blk_frozen BK434.out 5) | (go_at_call 75; (with_reducible refine (impl_Extends.calls kj4 t455 a1_5 true _ A66.out).mono ?_); rintro e w90 ⟨rfl, hb⟩; replace HO_446004 := rb HO_446004 hb; replace HO452 := rb HO452 hb; replace BK433 := bk BK433 hb; replace BK434 := bk BK434 hb; replace BK435 := bk BK435 hb; replace BK436 := bk BK436 hb; replace BK445 := bk BK445 hb; replace HB := bs HB hb; (try clear hb); (try clear hb2); (try clear hk); (try clear hi); have hcz91_0 := bc0 BK445.out; have hcz91_1 := bc1 BK445.out; have hcz91_2 := bc2 BK445.out; have hcz91_3 := bc3 BK445.out; have hcz91_4 := bc4 BK445.out; have hcz91_5 := bc5 BK445.out; have hfz91_0 := blk_frozen BK445.out 0; have hfz91_1 := blk_frozen BK445.out 1; have hfz91_2 := blk_frozen BK445.out 2; have hfz91_3 := blk_frozen BK445.out 3; have hfz91_4 := blk_frozen BK445.out 4; have hfz91_5 := blk_frozen BK445.out 5; have hnb92 := NB436_433.out; have hnc92 := NB433_436.out; have hcz93_0 := bc0 BK436.out; have hcz93_1 := bc1 BK436.out; have hcz93_2 := bc2 BK436.out; have hcz93_3 := bc3 BK436.out; have hcz93_4 := bc4 BK436.out; have hcz93_5 := bc5 BK436.out; have hfz93_0 := blk_frozen BK436.out 0; have hfz93_1 := blk_frozen BK436.out 1; have hfz93_2 := blk_frozen BK436.out 2; have hfz93_3 := blk_frozen BK436.out 3; have hfz93_4 := blk_frozen BK436.out 4; have hfz93_5 := blk_frozen BK436.out 5))
     refine bodyPost_ret (results_cell_row rfl _ _ gb436 35 #[.int .i64 t437, .int .i64 ji63, .int .i64 t448, .string t449, .slice Ao81 t450.length co81, .string t455] (0, 0) _ rfl (pI BK436) Tryz.underlying35 rfl (by kernel_rfl)) rfl ?_
     exact ⟨_, y0_0, by (with_reducible repeat (first | apply Kd.R_alloc | apply Kd.R_drewN | apply Kd.R_drew)); exact Kd.R_mono (Kd.R_far (p := ⟨gb436, 5, none⟩) (Kd.R_far (p := ⟨gb436, 4, none⟩) (Kd.R_far (p := ⟨gb436, 3, none⟩) (Kd.R_far (p := ⟨gb436, 2, none⟩) (Kd.R_far (p := ⟨gb436, 1, none⟩) (Kd.R_far (p := ⟨gb436, 0, none⟩) (Kd.R_far (p := ⟨gb445, 5, none⟩) (Kd.R_types (Kd.R_types HO452.out BK445.out (by decide)) BK436.out (by decide)) (fun _ hk => hk.1.2) (.string t455)) (fun _ hk => hk.2) (.int .i64 t437)) (fun _ hk => hk.2) (.int .i64 ji63)) (fun _ hk => hk.2) (.int .i64 t448)) (fun _ hk => hk.2) (.string t449)) (fun _ hk => hk.2) (.slice Ao81 t450.length co81)) (fun _ hk => hk.2) (.string t455)) (fun _ hk => trivial), bI HB.out⟩
    replace c67 := Bool.eq_false_iff.mpr c67; subst c67
    rw [if_neg (show ¬ (false = true) by decide)] at H
    simp only [Option.some.injEq, Prod.mk.injEq] at H
    obtain ⟨rfl, rfl, rfl, rfl, rfl, rfl⟩ := H; have hnb94 := NB435_433.out; have hnc94 := NB433_435.out; have hnb95 := NB435_434.out; have hnc95 := NB434_435.out; have hnb96 := NB435_436.out; have hnc96 := NB436_435.out; have hnb97 := NB435_445.out; have hnc97 := NB445_435.out; have hcz98_0 := bc0 BK435.out; have hcz98_1 := bc1 BK435.out; have hcz98_2 := bc2 BK435.out; have hfz98_0 := blk_frozen BK435.out 0; have hfz98_1 := blk_frozen BK435.out 1; have hfz98_2 := blk_frozen BK435.out 2; have hnb99 := NB434_433.out; have hnc99 := NB433_434.out; have hnb100 := NB434_436.out; have hnc100 := NB436_434.out; have hnb101 := NB434_445.out; have hnc101 := NB445_434.out; have hcz102_0 := bc0 BK434.out; have hcz102_1 := bc1 BK434.out; have hcz102_2 := bc2 BK434.out; have hcz102_3 := bc3 BK434.out; have hcz102_4 := bc4 BK434.out; have hcz102_5 := bc5 BK434.out; have hfz102_0 := blk_frozen BK434.out 0; have hfz102_1 := blk_frozen BK434.out 1; have hfz102_2 := blk_frozen BK434.out 2; have hfz102_3 := blk_frozen BK434.out 3; have hfz102_4 := blk_frozen BK434.out 4; have hfz102_5 := blk_frozen BK434.out 5
    try go_wp2_with (first | ((with_reducible refine gate_callee (f := 56) rfl ?_); refine gB (some 26) Tryz.func56 #[.agg #[.int .i64 a2_0, .string a2_1, .slice A2_2 l2_2.length c2_2], .agg #[.int .i64 a1_2, .string a1_3, .slice A1_4 l1_4.length c1_4]] ?_; (with_reducible refine (impl_QcLater.calls a2_0 a2_1 _ _ l2_2 a1_2 a1_3 _ _ l1_4 t448 t449 t450 _ ?side1 ?side2 ?side3 ?side4 A60.out).mono ?_); (case side1 => exact ch HR2_2 HB); (case side2 => exact HC2_2.out); (case side3 => exact ch HR1_4 HB); (case side4 => exact HC1_4.out); rintro e w103 ⟨v451, rfl, ho0, hb⟩; refine ⟨_, rfl, ?_⟩; have HO452 := Aside0.mk (Kd.R_lower (Kd.R_new' ho0 (Kd.R_lt (rI HO_446004.out))) (below_size (bI HB.out))); replace HO_446004 := Aside0.mk (Kd.R_elder' (rI HO_446004.out) (Kd.R_base ho0) hb); replace BK433 := bk BK433 hb; replace BK434 := bk BK434 hb; replace BK435 := bk BK435 hb; replace BK436 := bk BK436 hb; replace BK445 := bk BK445 hb; replace HB := bs HB hb; (try clear hb); (try clear ho0); have hnb104 := NB445_433.out; have hnc104 := NB433_445.out; have hnb105 := NB445_436.out; have hnc105 := NB436_445.out; have hcz106_0 := bc0 BK445.out; have hcz106_1 := bc1 BK445.out; have hcz106_2 := bc2 BK445.out; have hcz106_3 := bc3 BK445.out; have hcz106_4 := bc4 BK445.out; have hcz106_5 := bc5 BK445.out; have hfz106_0 := blk_frozen BK445.out 0; have hfz106_1 := blk_frozen BK445.out 1; have hfz106_2 := blk_frozen BK445.out 2; have hfz106_3 := blk_frozen BK445.out 3; have hfz106_4 := blk_frozen BK445.out 4; have hfz106_5 := blk_frozen BK445.out 5; obtain ⟨Ao107, co107, eo107⟩ := Kd.R_slice HO452.out; subst eo107))
    have n0_ : Aside0 (Kd.R (Kd.int .i64) 3 (((w103.setCell ⟨gb445, 2, none⟩ (.int .i64 t448)).setCell ⟨gb445, 3, none⟩ (.string t449)).setCell ⟨gb445, 4, none⟩ (.slice Ao107 t450.length co107)) w.heap.size (fun k_ => some k_ ≠ (.slice Ao107 t450.length co107 : Value).ownBlock) (.slice Ao21 t441.length co21) t441) := ⟨by (with_reducible repeat (first | apply Kd.R_alloc | apply Kd.R_drewN | apply Kd.R_drew)); exact Kd.R_mono (Kd.R_far (p := ⟨gb445, 4, none⟩) (Kd.R_far (p := ⟨gb445, 3, none⟩) (Kd.R_far (p := ⟨gb445, 2, none⟩) (Kd.R_types HO_446004.out BK445.out (by decide)) (fun _ hk => hk.2) (.int .i64 t448)) (fun _ hk => hk.2) (.string t449)) (fun _ hk => hk.2) (.slice Ao107 t450.length co107)) (fun _ hk => by first | exact hk.1.2 | exact ⟨hk.1.2, hk.2⟩ | exact ⟨hk.2, hk.1.2⟩ | exact ⟨hk.1.2, hk.1.1.2⟩ | simp_all)⟩
    have n1_ : Aside0 (Kd.R (Kd.int .i64) 3 (((w103.setCell ⟨gb445, 2, none⟩ (.int .i64 t448)).setCell ⟨gb445, 3, none⟩ (.string t449)).setCell ⟨gb445, 4, none⟩ (.slice Ao107 t450.length co107)) w.heap.size (fun k_ => some k_ ≠ (.slice Ao21 t441.length co21 : Value).ownBlock) (.slice Ao107 t450.length co107) t450) := ⟨by (with_reducible repeat (first | apply Kd.R_alloc | apply Kd.R_drewN | apply Kd.R_drew)); exact Kd.R_mono (Kd.R_far (p := ⟨gb445, 4, none⟩) (Kd.R_far (p := ⟨gb445, 3, none⟩) (Kd.R_far (p := ⟨gb445, 2, none⟩) (Kd.R_types HO452.out BK445.out (by decide)) (fun _ hk => hk.2) (.int .i64 t448)) (fun _ hk => hk.2) (.string t449)) (fun _ hk => hk.2) (.slice Ao107 t450.length co107)) (fun _ hk => by first | exact hk.1.2 | exact ⟨hk.1.2, hk.2⟩ | exact ⟨hk.2, hk.1.2⟩ | exact ⟨hk.1.2, hk.1.1.2⟩ | simp_all)⟩
    have n2_ : Aside0 ((((w103.setCell ⟨gb445, 2, none⟩ (.int .i64 t448)).setCell ⟨gb445, 3, none⟩ (.string t449)).setCell ⟨gb445, 4, none⟩ (.slice Ao107 t450.length co107)).heap[gb433]? = some (.cells #[.int .i64 a0_0, .int .i64 a0_1] 38 (0, 0))) := ⟨gI BK433.out⟩; have n3_ : Aside0 ((((w103.setCell ⟨gb445, 2, none⟩ (.int .i64 t448)).setCell ⟨gb445, 3, none⟩ (.string t449)).setCell ⟨gb445, 4, none⟩ (.slice Ao107 t450.length co107)).heap[gb434]? = some (.cells #[.int .i64 a1_0, .int .i64 a1_1, .int .i64 a1_2, .string a1_3, .slice A1_4 l1_4.length c1_4, .string a1_5] 35 (0, 0))) := ⟨gI BK434.out⟩; have n4_ : Aside0 ((((w103.setCell ⟨gb445, 2, none⟩ (.int .i64 t448)).setCell ⟨gb445, 3, none⟩ (.string t449)).setCell ⟨gb445, 4, none⟩ (.slice Ao107 t450.length co107)).heap[gb435]? = some (.cells #[.int .i64 a2_0, .string a2_1, .slice A2_2 l2_2.length c2_2] 33 (0, 0))) := ⟨gI BK435.out⟩; have n5_ : Aside0 ((((w103.setCell ⟨gb445, 2, none⟩ (.int .i64 t448)).setCell ⟨gb445, 3, none⟩ (.string t449)).setCell ⟨gb445, 4, none⟩ (.slice Ao107 t450.length co107)).heap[gb436]? = some (.cells #[.int .i64 0, .int .i64 0, .int .i64 0, .string (⟨#[]⟩ : ByteArray), .slice none 0 0, .string (⟨#[]⟩ : ByteArray)] 35 (0, 0))) := ⟨gI BK436.out⟩; have n6_ : Aside0 ((((w103.setCell ⟨gb445, 2, none⟩ (.int .i64 t448)).setCell ⟨gb445, 3, none⟩ (.string t449)).setCell ⟨gb445, 4, none⟩ (.slice Ao107 t450.length co107)).heap[gb445]? = some (.cells #[.int .i64 t437, .int .i64 t438, .int .i64 t448, .string t449, .slice Ao107 t450.length co107, .string t444] 35 (0, 0))) := ⟨pI BK445⟩
    have n7_ : Aside0 (Below w.heap.size w (((w103.setCell ⟨gb445, 2, none⟩ (.int .i64 t448)).setCell ⟨gb445, 3, none⟩ (.string t449)).setCell ⟨gb445, 4, none⟩ (.slice Ao107 t450.length co107))) := ⟨bI HB.out⟩
    (try clear HO_446004)
    (try clear HO452)
    (try clear BK433)
    (try clear BK434)
    (try clear BK435)
    (try clear BK436)
    (try clear BK445)
    (try clear HB)
    generalize (((w103.setCell ⟨gb445, 2, none⟩ (.int .i64 t448)).setCell ⟨gb445, 3, none⟩ (.string t449)).setCell ⟨gb445, 4, none⟩ (.slice Ao107 t450.length co107)) = w108 at n0_ n1_ n2_ n3_ n4_ n5_ n6_ n7_ ⊢
    have HO_446004 := n0_; have HO452 := n1_; have BK433 := n2_; have BK434 := n3_; have BK435 := n4_; have BK436 := n5_; have BK445 := n6_; have HB := n7_; clear n0_ n1_ n2_ n3_ n4_ n5_ n6_ n7_; replace HO_446004 := Aside0.mk (Kd.R_drew HO_446004.out); replace HO452 := Aside0.mk (Kd.R_drew HO452.out); replace BK433 := Aside0.mk (blk_drew BK433.out); replace BK434 := Aside0.mk (blk_drew BK434.out); replace BK435 := Aside0.mk (blk_drew BK435.out); replace BK436 := Aside0.mk (blk_drew BK436.out); replace BK445 := Aside0.mk (blk_drew BK445.out); replace HB := Aside0.mk (below_drew1 HB.out)
    refine start_ (n := 9) (S := fun w' => w'.cell? ⟨gb434, 0, none⟩ = some (.int .i64 a1_0) ∧ w'.cell? ⟨gb434, 1, none⟩ = some (.int .i64 a1_1) ∧ w'.cell? ⟨gb434, 2, none⟩ = some (.int .i64 a1_2) ∧ w'.cell? ⟨gb434, 3, none⟩ = some (.string a1_3) ∧ w'.cell? ⟨gb434, 4, none⟩ = some (.slice A1_4 l1_4.length c1_4) ∧ w'.cell? ⟨gb434, 5, none⟩ = some (.string a1_5) ∧ w'.cell? ⟨gb435, 0, none⟩ = some (.int .i64 a2_0) ∧ w'.cell? ⟨gb435, 1, none⟩ = some (.string a2_1) ∧ w'.cell? ⟨gb435, 2, none⟩ = some (.slice A2_2 l2_2.length c2_2)) (ds := []) #[false, false, false, false, false, false, false, false, false] (by kernel_rfl) rfl rfl ⟨bc0 BK434.out, bc1 BK434.out, bc2 BK434.out, bc3 BK434.out, bc4 BK434.out, bc5 BK434.out, bc0 BK435.out, bc1 BK435.out, bc2 BK435.out⟩ (fun hHeld => ?_); refine with_tabW impl_See.tab5 impl_See.bits5 (fun HT_ HW_ => ?_)
    generalize w108.drew = w109 at HO_446004 HO452 BK433 BK434 BK435 BK436 BK445 HB hHeld ⊢
    refine pA 0 (some 28) (bz 9 1) HT_ ?_
    refine pA 2 (some 30) (bz 9 5) HT_ ?_
    refine tA 1 (some 29) (bz 9 7) HT_ HW_ hHeld ?_
    refine tA 3 (some 31) (bz 9 15) HT_ HW_ hHeld ?_
    refine oA 4 (some 32) (bz 9 31) HT_ (fun K hK => ?_)
    refine gA Tryz.func73 #[.string a2_1] ?_
    with_reducible refine (impl_UpOf.calls kj4 a2_1 t453 _ A61.out).mono ?_
    rintro e w110 ⟨rfl, hb⟩
    refine ⟨_, rfl, ?_⟩
    replace HO_446004 := rb HO_446004 hb; replace HO452 := rb HO452 hb; replace BK433 := bk BK433 hb; replace BK434 := bk BK434 hb; replace BK435 := bk BK435 hb; replace BK436 := bk BK436 hb; replace BK445 := bk BK445 hb; replace HB := bs HB hb
    (try clear hb)
    (try clear hb2)
    (try clear hk)
    (try clear hi)
    refine hK.out _ _ ⟨bc0 BK434.out, bc1 BK434.out, bc2 BK434.out, bc3 BK434.out, bc4 BK434.out, bc5 BK434.out, bc0 BK435.out, bc1 BK435.out, bc2 BK435.out⟩ (fun hHeld => ?_)
    clear hK K
    refine nA (some 32) ?_
    refine oA 5 (some 33) (bz 9 63) HT_ (fun K hK => ?_)
    refine gA Tryz.func44 #[.string t453] ?_
    with_reducible refine (impl_ViewOf.calls kj4 t453 t454 _ A62.out).mono ?_
    rintro e w111 ⟨rfl, hb⟩
    refine ⟨_, rfl, ?_⟩
    replace HO_446004 := rb HO_446004 hb; replace HO452 := rb HO452 hb; replace BK433 := bk BK433 hb; replace BK434 := bk BK434 hb; replace BK435 := bk BK435 hb; replace BK436 := bk BK436 hb; replace BK445 := bk BK445 hb; replace HB := bs HB hb
    (try clear hb)
    (try clear hb2)
    (try clear hk)
    (try clear hi)
    refine hK.out _ _ ⟨bc0 BK434.out, bc1 BK434.out, bc2 BK434.out, bc3 BK434.out, bc4 BK434.out, bc5 BK434.out, bc0 BK435.out, bc1 BK435.out, bc2 BK435.out⟩ (fun hHeld => ?_)
    clear hK K
    refine nA (some 33) ?_
    refine pA 6 (some 34) (bz 9 127) HT_ ?_
    refine pA 7 (some 35) (bz 9 255) HT_ ?_
    refine oA 8 none (bz 9 511) HT_ (fun K hK => ?_)
    have hs112 : w111.cell? ⟨gb445, 1, none⟩ = some (.int .i64 t438) := bc1 BK445.out; have hfs112 := blk_frozen BK445.out 1; have hns112_0 := NB433_445.out; have hns112_1 := NB434_445.out; have hns112_2 := NB435_445.out; have hns112_3 := NB436_445.out; have hms112_0 := NB445_433.out; have hms112_1 := NB445_434.out; have hms112_2 := NB445_435.out; have hms112_3 := NB445_436.out
    refine skip_ (w1 := ?_) (by rfl) rfl ?_ ?_
    rotate_left
    ·
     go_simp
     rfl
    refine hK.out _ _ ⟨((cell_far (p := ⟨gb445, _, none⟩) NB434_445.out _).trans (hHeld.1)), ((cell_far (p := ⟨gb445, _, none⟩) NB434_445.out _).trans (hHeld.2.1)), ((cell_far (p := ⟨gb445, _, none⟩) NB434_445.out _).trans (hHeld.2.2.1)), ((cell_far (p := ⟨gb445, _, none⟩) NB434_445.out _).trans (hHeld.2.2.2.1)), ((cell_far (p := ⟨gb445, _, none⟩) NB434_445.out _).trans (hHeld.2.2.2.2.1)), ((cell_far (p := ⟨gb445, _, none⟩) NB434_445.out _).trans (hHeld.2.2.2.2.2.1)), ((cell_far (p := ⟨gb445, _, none⟩) NB435_445.out _).trans (hHeld.2.2.2.2.2.2.1)), ((cell_far (p := ⟨gb445, _, none⟩) NB435_445.out _).trans (hHeld.2.2.2.2.2.2.2.1)), ((cell_far (p := ⟨gb445, _, none⟩) NB435_445.out _).trans (hHeld.2.2.2.2.2.2.2.2))⟩ (fun hHeld => ?_)
    clear hK K
    refine done_ (done_of HT_.out (by kernel_rfl)) ?_
    have hcz113_0 := bc0 BK435.out; have hcz113_1 := bc1 BK435.out; have hcz113_2 := bc2 BK435.out; have hfz113_0 := blk_frozen BK435.out 0; have hfz113_1 := blk_frozen BK435.out 1; have hfz113_2 := blk_frozen BK435.out 2
    try go_wp2_with (first | ((with_reducible refine gate_callee (f := 74) rfl ?_); refine gB (some 39) Tryz.func74 #[.string a2_1] ?_; (with_reducible refine (impl_Settles.calls kj4 a2_1 t455 true _ A64.out).mono ?_); rintro e w114 ⟨rfl, hb⟩; refine ⟨_, rfl, ?_⟩; replace HO_446004 := Aside0.mk (Kd.R_below (rI (Kd.R_mono (Kd.R_far (p := ⟨gb445, 1, none⟩) (Kd.R_types HO_446004.out BK445.out (by decide)) (fun _ hk => hk.2) (.int .i64 ji63)) (fun _ h_ => h_.1))) hb); replace HO452 := Aside0.mk (Kd.R_below (rI (Kd.R_mono (Kd.R_far (p := ⟨gb445, 1, none⟩) (Kd.R_types HO452.out BK445.out (by decide)) (fun _ hk => hk.2) (.int .i64 ji63)) (fun _ h_ => h_.1))) hb); replace BK433 := Aside0.mk (blk_below (g := gb433) (o := .cells #[.int .i64 a0_0, .int .i64 a0_1] 38 (0, 0)) (gI BK433.out) hb); replace BK434 := Aside0.mk (blk_below (g := gb434) (o := .cells #[.int .i64 a1_0, .int .i64 a1_1, .int .i64 a1_2, .string a1_3, .slice A1_4 l1_4.length c1_4, .string a1_5] 35 (0, 0)) (gI BK434.out) hb); replace BK435 := Aside0.mk (blk_below (g := gb435) (o := .cells #[.int .i64 a2_0, .string a2_1, .slice A2_2 l2_2.length c2_2] 33 (0, 0)) (gI BK435.out) hb); replace BK436 := Aside0.mk (blk_below (g := gb436) (o := .cells #[.int .i64 0, .int .i64 0, .int .i64 0, .string (⟨#[]⟩ : ByteArray), .slice none 0 0, .string (⟨#[]⟩ : ByteArray)] 35 (0, 0)) (gI BK436.out) hb); replace BK445 := bp BK445 hb #[.int .i64 t437, .int .i64 ji63, .int .i64 t448, .string t449, .slice Ao107 t450.length co107, .string t444]; replace HB := bs HB hb; (try clear hb); (try clear hb2); (try clear hk); (try clear hi); have hcz115_0 := bc0 BK434.out; have hcz115_1 := bc1 BK434.out; have hcz115_2 := bc2 BK434.out; have hcz115_3 := bc3 BK434.out; have hcz115_4 := bc4 BK434.out; have hcz115_5 := bc5 BK434.out; have hfz115_0 := blk_frozen BK434.out 0; have hfz115_1 := blk_frozen BK434.out 1; have hfz115_2 := blk_frozen BK434.out 2; have hfz115_3 := blk_frozen BK434.out 3; have hfz115_4 := blk_frozen BK434.out 4; have hfz115_5 := blk_frozen BK434.out 5) | (go_at_call 75; (with_reducible refine (impl_Extends.calls kj4 t455 a1_5 false _ A66.out).mono ?_); rintro e w116 ⟨rfl, hb⟩; replace HO_446004 := rb HO_446004 hb; replace HO452 := rb HO452 hb; replace BK433 := bk BK433 hb; replace BK434 := bk BK434 hb; replace BK435 := bk BK435 hb; replace BK436 := bk BK436 hb; replace BK445 := bk BK445 hb; replace HB := bs HB hb; (try clear hb); (try clear hb2); (try clear hk); (try clear hi); have hcz117_0 := bc0 BK445.out; have hcz117_1 := bc1 BK445.out; have hcz117_2 := bc2 BK445.out; have hcz117_3 := bc3 BK445.out; have hcz117_4 := bc4 BK445.out; have hcz117_5 := bc5 BK445.out; have hfz117_0 := blk_frozen BK445.out 0; have hfz117_1 := blk_frozen BK445.out 1; have hfz117_2 := blk_frozen BK445.out 2; have hfz117_3 := blk_frozen BK445.out 3; have hfz117_4 := blk_frozen BK445.out 4; have hfz117_5 := blk_frozen BK445.out 5; have hnb118 := NB436_433.out; have hnc118 := NB433_436.out; have hcz119_0 := bc0 BK436.out; have hcz119_1 := bc1 BK436.out; have hcz119_2 := bc2 BK436.out; have hcz119_3 := bc3 BK436.out; have hcz119_4 := bc4 BK436.out; have hcz119_5 := bc5 BK436.out; have hfz119_0 := blk_frozen BK436.out 0; have hfz119_1 := blk_frozen BK436.out 1; have hfz119_2 := blk_frozen BK436.out 2; have hfz119_3 := blk_frozen BK436.out 3; have hfz119_4 := blk_frozen BK436.out 4; have hfz119_5 := blk_frozen BK436.out 5))
    refine bodyPost_ret (results_cell_row rfl _ _ gb436 35 #[.int .i64 t437, .int .i64 ji63, .int .i64 t448, .string t449, .slice Ao107 t450.length co107, .string t444] (0, 0) _ rfl (pI BK436) Tryz.underlying35 rfl (by kernel_rfl)) rfl ?_
    exact ⟨_, y0_0, by (with_reducible repeat (first | apply Kd.R_alloc | apply Kd.R_drewN | apply Kd.R_drew)); exact Kd.R_mono (Kd.R_far (p := ⟨gb436, 5, none⟩) (Kd.R_far (p := ⟨gb436, 4, none⟩) (Kd.R_far (p := ⟨gb436, 3, none⟩) (Kd.R_far (p := ⟨gb436, 2, none⟩) (Kd.R_far (p := ⟨gb436, 1, none⟩) (Kd.R_far (p := ⟨gb436, 0, none⟩) (Kd.R_types HO452.out BK436.out (by decide)) (fun _ hk => hk.2) (.int .i64 t437)) (fun _ hk => hk.2) (.int .i64 ji63)) (fun _ hk => hk.2) (.int .i64 t448)) (fun _ hk => hk.2) (.string t449)) (fun _ hk => hk.2) (.slice Ao107 t450.length co107)) (fun _ hk => hk.2) (.string t444)) (fun _ hk => trivial), bI HB.out⟩
   replace c65 := Bool.eq_false_iff.mpr c65; subst c65
   rw [if_neg (show ¬ (false = true) by decide)] at H
   simp only [Option.some.injEq, Prod.mk.injEq] at H
   obtain ⟨rfl, rfl, rfl, rfl, rfl, rfl⟩ := H; have hnb120 := NB435_433.out; have hnc120 := NB433_435.out; have hnb121 := NB435_434.out; have hnc121 := NB434_435.out; have hnb122 := NB435_436.out; have hnc122 := NB436_435.out; have hnb123 := NB435_445.out; have hnc123 := NB445_435.out; have hcz124_0 := bc0 BK435.out; have hcz124_1 := bc1 BK435.out; have hcz124_2 := bc2 BK435.out; have hfz124_0 := blk_frozen BK435.out 0; have hfz124_1 := blk_frozen BK435.out 1; have hfz124_2 := blk_frozen BK435.out 2; have hnb125 := NB434_433.out; have hnc125 := NB433_434.out; have hnb126 := NB434_436.out; have hnc126 := NB436_434.out; have hnb127 := NB434_445.out; have hnc127 := NB445_434.out; have hcz128_0 := bc0 BK434.out; have hcz128_1 := bc1 BK434.out; have hcz128_2 := bc2 BK434.out; have hcz128_3 := bc3 BK434.out; have hcz128_4 := bc4 BK434.out; have hcz128_5 := bc5 BK434.out; have hfz128_0 := blk_frozen BK434.out 0; have hfz128_1 := blk_frozen BK434.out 1; have hfz128_2 := blk_frozen BK434.out 2; have hfz128_3 := blk_frozen BK434.out 3; have hfz128_4 := blk_frozen BK434.out 4; have hfz128_5 := blk_frozen BK434.out 5
   try go_wp2_with (first | ((with_reducible refine gate_callee (f := 56) rfl ?_); refine gB (some 26) Tryz.func56 #[.agg #[.int .i64 a2_0, .string a2_1, .slice A2_2 l2_2.length c2_2], .agg #[.int .i64 a1_2, .string a1_3, .slice A1_4 l1_4.length c1_4]] ?_; (with_reducible refine (impl_QcLater.calls a2_0 a2_1 _ _ l2_2 a1_2 a1_3 _ _ l1_4 t448 t449 t450 _ ?side1 ?side2 ?side3 ?side4 A60.out).mono ?_); (case side1 => exact ch HR2_2 HB); (case side2 => exact HC2_2.out); (case side3 => exact ch HR1_4 HB); (case side4 => exact HC1_4.out); rintro e w129 ⟨v451, rfl, ho0, hb⟩; refine ⟨_, rfl, ?_⟩; have HO452 := Aside0.mk (Kd.R_lower (Kd.R_new' ho0 (Kd.R_lt (rI HO_446004.out))) (below_size (bI HB.out))); replace HO_446004 := Aside0.mk (Kd.R_elder' (rI HO_446004.out) (Kd.R_base ho0) hb); replace BK433 := bk BK433 hb; replace BK434 := bk BK434 hb; replace BK435 := bk BK435 hb; replace BK436 := bk BK436 hb; replace BK445 := bk BK445 hb; replace HB := bs HB hb; (try clear hb); (try clear ho0); have hnb130 := NB445_433.out; have hnc130 := NB433_445.out; have hnb131 := NB445_436.out; have hnc131 := NB436_445.out; have hcz132_0 := bc0 BK445.out; have hcz132_1 := bc1 BK445.out; have hcz132_2 := bc2 BK445.out; have hcz132_3 := bc3 BK445.out; have hcz132_4 := bc4 BK445.out; have hcz132_5 := bc5 BK445.out; have hfz132_0 := blk_frozen BK445.out 0; have hfz132_1 := blk_frozen BK445.out 1; have hfz132_2 := blk_frozen BK445.out 2; have hfz132_3 := blk_frozen BK445.out 3; have hfz132_4 := blk_frozen BK445.out 4; have hfz132_5 := blk_frozen BK445.out 5; obtain ⟨Ao133, co133, eo133⟩ := Kd.R_slice HO452.out; subst eo133))
   have n0_ : Aside0 (Kd.R (Kd.int .i64) 3 (((w129.setCell ⟨gb445, 2, none⟩ (.int .i64 t448)).setCell ⟨gb445, 3, none⟩ (.string t449)).setCell ⟨gb445, 4, none⟩ (.slice Ao133 t450.length co133)) w.heap.size (fun k_ => some k_ ≠ (.slice Ao133 t450.length co133 : Value).ownBlock) (.slice Ao21 t441.length co21) t441) := ⟨by (with_reducible repeat (first | apply Kd.R_alloc | apply Kd.R_drewN | apply Kd.R_drew)); exact Kd.R_mono (Kd.R_far (p := ⟨gb445, 4, none⟩) (Kd.R_far (p := ⟨gb445, 3, none⟩) (Kd.R_far (p := ⟨gb445, 2, none⟩) (Kd.R_types HO_446004.out BK445.out (by decide)) (fun _ hk => hk.2) (.int .i64 t448)) (fun _ hk => hk.2) (.string t449)) (fun _ hk => hk.2) (.slice Ao133 t450.length co133)) (fun _ hk => by first | exact hk.1.2 | exact ⟨hk.1.2, hk.2⟩ | exact ⟨hk.2, hk.1.2⟩ | exact ⟨hk.1.2, hk.1.1.2⟩ | simp_all)⟩
   have n1_ : Aside0 (Kd.R (Kd.int .i64) 3 (((w129.setCell ⟨gb445, 2, none⟩ (.int .i64 t448)).setCell ⟨gb445, 3, none⟩ (.string t449)).setCell ⟨gb445, 4, none⟩ (.slice Ao133 t450.length co133)) w.heap.size (fun k_ => some k_ ≠ (.slice Ao21 t441.length co21 : Value).ownBlock) (.slice Ao133 t450.length co133) t450) := ⟨by (with_reducible repeat (first | apply Kd.R_alloc | apply Kd.R_drewN | apply Kd.R_drew)); exact Kd.R_mono (Kd.R_far (p := ⟨gb445, 4, none⟩) (Kd.R_far (p := ⟨gb445, 3, none⟩) (Kd.R_far (p := ⟨gb445, 2, none⟩) (Kd.R_types HO452.out BK445.out (by decide)) (fun _ hk => hk.2) (.int .i64 t448)) (fun _ hk => hk.2) (.string t449)) (fun _ hk => hk.2) (.slice Ao133 t450.length co133)) (fun _ hk => by first | exact hk.1.2 | exact ⟨hk.1.2, hk.2⟩ | exact ⟨hk.2, hk.1.2⟩ | exact ⟨hk.1.2, hk.1.1.2⟩ | simp_all)⟩
   have n2_ : Aside0 ((((w129.setCell ⟨gb445, 2, none⟩ (.int .i64 t448)).setCell ⟨gb445, 3, none⟩ (.string t449)).setCell ⟨gb445, 4, none⟩ (.slice Ao133 t450.length co133)).heap[gb433]? = some (.cells #[.int .i64 a0_0, .int .i64 a0_1] 38 (0, 0))) := ⟨gI BK433.out⟩; have n3_ : Aside0 ((((w129.setCell ⟨gb445, 2, none⟩ (.int .i64 t448)).setCell ⟨gb445, 3, none⟩ (.string t449)).setCell ⟨gb445, 4, none⟩ (.slice Ao133 t450.length co133)).heap[gb434]? = some (.cells #[.int .i64 a1_0, .int .i64 a1_1, .int .i64 a1_2, .string a1_3, .slice A1_4 l1_4.length c1_4, .string a1_5] 35 (0, 0))) := ⟨gI BK434.out⟩; have n4_ : Aside0 ((((w129.setCell ⟨gb445, 2, none⟩ (.int .i64 t448)).setCell ⟨gb445, 3, none⟩ (.string t449)).setCell ⟨gb445, 4, none⟩ (.slice Ao133 t450.length co133)).heap[gb435]? = some (.cells #[.int .i64 a2_0, .string a2_1, .slice A2_2 l2_2.length c2_2] 33 (0, 0))) := ⟨gI BK435.out⟩; have n5_ : Aside0 ((((w129.setCell ⟨gb445, 2, none⟩ (.int .i64 t448)).setCell ⟨gb445, 3, none⟩ (.string t449)).setCell ⟨gb445, 4, none⟩ (.slice Ao133 t450.length co133)).heap[gb436]? = some (.cells #[.int .i64 0, .int .i64 0, .int .i64 0, .string (⟨#[]⟩ : ByteArray), .slice none 0 0, .string (⟨#[]⟩ : ByteArray)] 35 (0, 0))) := ⟨gI BK436.out⟩; have n6_ : Aside0 ((((w129.setCell ⟨gb445, 2, none⟩ (.int .i64 t448)).setCell ⟨gb445, 3, none⟩ (.string t449)).setCell ⟨gb445, 4, none⟩ (.slice Ao133 t450.length co133)).heap[gb445]? = some (.cells #[.int .i64 t437, .int .i64 t438, .int .i64 t448, .string t449, .slice Ao133 t450.length co133, .string t444] 35 (0, 0))) := ⟨pI BK445⟩
   have n7_ : Aside0 (Below w.heap.size w (((w129.setCell ⟨gb445, 2, none⟩ (.int .i64 t448)).setCell ⟨gb445, 3, none⟩ (.string t449)).setCell ⟨gb445, 4, none⟩ (.slice Ao133 t450.length co133))) := ⟨bI HB.out⟩
   (try clear HO_446004)
   (try clear HO452)
   (try clear BK433)
   (try clear BK434)
   (try clear BK435)
   (try clear BK436)
   (try clear BK445)
   (try clear HB)
   generalize (((w129.setCell ⟨gb445, 2, none⟩ (.int .i64 t448)).setCell ⟨gb445, 3, none⟩ (.string t449)).setCell ⟨gb445, 4, none⟩ (.slice Ao133 t450.length co133)) = w134 at n0_ n1_ n2_ n3_ n4_ n5_ n6_ n7_ ⊢
   have HO_446004 := n0_; have HO452 := n1_; have BK433 := n2_; have BK434 := n3_; have BK435 := n4_; have BK436 := n5_; have BK445 := n6_; have HB := n7_; clear n0_ n1_ n2_ n3_ n4_ n5_ n6_ n7_; replace HO_446004 := Aside0.mk (Kd.R_drew HO_446004.out); replace HO452 := Aside0.mk (Kd.R_drew HO452.out); replace BK433 := Aside0.mk (blk_drew BK433.out); replace BK434 := Aside0.mk (blk_drew BK434.out); replace BK435 := Aside0.mk (blk_drew BK435.out); replace BK436 := Aside0.mk (blk_drew BK436.out); replace BK445 := Aside0.mk (blk_drew BK445.out); replace HB := Aside0.mk (below_drew1 HB.out)
   refine start_ (n := 9) (S := fun w' => w'.cell? ⟨gb434, 0, none⟩ = some (.int .i64 a1_0) ∧ w'.cell? ⟨gb434, 1, none⟩ = some (.int .i64 a1_1) ∧ w'.cell? ⟨gb434, 2, none⟩ = some (.int .i64 a1_2) ∧ w'.cell? ⟨gb434, 3, none⟩ = some (.string a1_3) ∧ w'.cell? ⟨gb434, 4, none⟩ = some (.slice A1_4 l1_4.length c1_4) ∧ w'.cell? ⟨gb434, 5, none⟩ = some (.string a1_5) ∧ w'.cell? ⟨gb435, 0, none⟩ = some (.int .i64 a2_0) ∧ w'.cell? ⟨gb435, 1, none⟩ = some (.string a2_1) ∧ w'.cell? ⟨gb435, 2, none⟩ = some (.slice A2_2 l2_2.length c2_2)) (ds := []) #[false, false, false, false, false, false, false, false, false] (by kernel_rfl) rfl rfl ⟨bc0 BK434.out, bc1 BK434.out, bc2 BK434.out, bc3 BK434.out, bc4 BK434.out, bc5 BK434.out, bc0 BK435.out, bc1 BK435.out, bc2 BK435.out⟩ (fun hHeld => ?_); refine with_tabW impl_See.tab5 impl_See.bits5 (fun HT_ HW_ => ?_)
   generalize w134.drew = w135 at HO_446004 HO452 BK433 BK434 BK435 BK436 BK445 HB hHeld ⊢
   refine pA 0 (some 28) (bz 9 1) HT_ ?_
   refine pA 2 (some 30) (bz 9 5) HT_ ?_
   refine tA 1 (some 29) (bz 9 7) HT_ HW_ hHeld ?_
   refine tA 3 (some 31) (bz 9 15) HT_ HW_ hHeld ?_
   refine oA 4 (some 32) (bz 9 31) HT_ (fun K hK => ?_)
   refine gA Tryz.func73 #[.string a2_1] ?_
   with_reducible refine (impl_UpOf.calls kj4 a2_1 t453 _ A61.out).mono ?_
   rintro e w136 ⟨rfl, hb⟩
   refine ⟨_, rfl, ?_⟩
   replace HO_446004 := rb HO_446004 hb; replace HO452 := rb HO452 hb; replace BK433 := bk BK433 hb; replace BK434 := bk BK434 hb; replace BK435 := bk BK435 hb; replace BK436 := bk BK436 hb; replace BK445 := bk BK445 hb; replace HB := bs HB hb
   (try clear hb)
   (try clear hb2)
   (try clear hk)
   (try clear hi)
   refine hK.out _ _ ⟨bc0 BK434.out, bc1 BK434.out, bc2 BK434.out, bc3 BK434.out, bc4 BK434.out, bc5 BK434.out, bc0 BK435.out, bc1 BK435.out, bc2 BK435.out⟩ (fun hHeld => ?_)
   clear hK K
   refine nA (some 32) ?_
   refine oA 5 (some 33) (bz 9 63) HT_ (fun K hK => ?_)
   refine gA Tryz.func44 #[.string t453] ?_
   with_reducible refine (impl_ViewOf.calls kj4 t453 t454 _ A62.out).mono ?_
   rintro e w137 ⟨rfl, hb⟩
   refine ⟨_, rfl, ?_⟩
   replace HO_446004 := rb HO_446004 hb; replace HO452 := rb HO452 hb; replace BK433 := bk BK433 hb; replace BK434 := bk BK434 hb; replace BK435 := bk BK435 hb; replace BK436 := bk BK436 hb; replace BK445 := bk BK445 hb; replace HB := bs HB hb
   (try clear hb)
   (try clear hb2)
   (try clear hk)
   (try clear hi)
   refine hK.out _ _ ⟨bc0 BK434.out, bc1 BK434.out, bc2 BK434.out, bc3 BK434.out, bc4 BK434.out, bc5 BK434.out, bc0 BK435.out, bc1 BK435.out, bc2 BK435.out⟩ (fun hHeld => ?_)
   clear hK K
   refine nA (some 33) ?_
   refine pA 6 (some 34) (bz 9 127) HT_ ?_
   refine pA 7 (some 35) (bz 9 255) HT_ ?_
   refine oA 8 none (bz 9 511) HT_ (fun K hK => ?_)
   have hs138 : w137.cell? ⟨gb445, 1, none⟩ = some (.int .i64 t438) := bc1 BK445.out; have hfs138 := blk_frozen BK445.out 1; have hns138_0 := NB433_445.out; have hns138_1 := NB434_445.out; have hns138_2 := NB435_445.out; have hns138_3 := NB436_445.out; have hms138_0 := NB445_433.out; have hms138_1 := NB445_434.out; have hms138_2 := NB445_435.out; have hms138_3 := NB445_436.out
   refine skip_ (w1 := ?_) (by rfl) rfl ?_ ?_
   rotate_left
   ·
    go_simp
    rfl
   refine hK.out _ _ ⟨((cell_far (p := ⟨gb445, _, none⟩) NB434_445.out _).trans (hHeld.1)), ((cell_far (p := ⟨gb445, _, none⟩) NB434_445.out _).trans (hHeld.2.1)), ((cell_far (p := ⟨gb445, _, none⟩) NB434_445.out _).trans (hHeld.2.2.1)), ((cell_far (p := ⟨gb445, _, none⟩) NB434_445.out _).trans (hHeld.2.2.2.1)), ((cell_far (p := ⟨gb445, _, none⟩) NB434_445.out _).trans (hHeld.2.2.2.2.1)), ((cell_far (p := ⟨gb445, _, none⟩) NB434_445.out _).trans (hHeld.2.2.2.2.2.1)), ((cell_far (p := ⟨gb445, _, none⟩) NB435_445.out _).trans (hHeld.2.2.2.2.2.2.1)), ((cell_far (p := ⟨gb445, _, none⟩) NB435_445.out _).trans (hHeld.2.2.2.2.2.2.2.1)), ((cell_far (p := ⟨gb445, _, none⟩) NB435_445.out _).trans (hHeld.2.2.2.2.2.2.2.2))⟩ (fun hHeld => ?_)
   clear hK K
   refine done_ (done_of HT_.out (by kernel_rfl)) ?_
   have hcz139_0 := bc0 BK435.out; have hcz139_1 := bc1 BK435.out; have hcz139_2 := bc2 BK435.out; have hfz139_0 := blk_frozen BK435.out 0; have hfz139_1 := blk_frozen BK435.out 1; have hfz139_2 := blk_frozen BK435.out 2
   try go_wp2_with (first | ((with_reducible refine gate_callee (f := 74) rfl ?_); refine gB (some 39) Tryz.func74 #[.string a2_1] ?_; (with_reducible refine (impl_Settles.calls kj4 a2_1 t455 false _ A64.out).mono ?_); rintro e w140 ⟨rfl, hb⟩; refine ⟨_, rfl, ?_⟩; replace HO_446004 := Aside0.mk (Kd.R_below (rI (Kd.R_mono (Kd.R_far (p := ⟨gb445, 1, none⟩) (Kd.R_types HO_446004.out BK445.out (by decide)) (fun _ hk => hk.2) (.int .i64 ji63)) (fun _ h_ => h_.1))) hb); replace HO452 := Aside0.mk (Kd.R_below (rI (Kd.R_mono (Kd.R_far (p := ⟨gb445, 1, none⟩) (Kd.R_types HO452.out BK445.out (by decide)) (fun _ hk => hk.2) (.int .i64 ji63)) (fun _ h_ => h_.1))) hb); replace BK433 := Aside0.mk (blk_below (g := gb433) (o := .cells #[.int .i64 a0_0, .int .i64 a0_1] 38 (0, 0)) (gI BK433.out) hb); replace BK434 := Aside0.mk (blk_below (g := gb434) (o := .cells #[.int .i64 a1_0, .int .i64 a1_1, .int .i64 a1_2, .string a1_3, .slice A1_4 l1_4.length c1_4, .string a1_5] 35 (0, 0)) (gI BK434.out) hb); replace BK435 := Aside0.mk (blk_below (g := gb435) (o := .cells #[.int .i64 a2_0, .string a2_1, .slice A2_2 l2_2.length c2_2] 33 (0, 0)) (gI BK435.out) hb); replace BK436 := Aside0.mk (blk_below (g := gb436) (o := .cells #[.int .i64 0, .int .i64 0, .int .i64 0, .string (⟨#[]⟩ : ByteArray), .slice none 0 0, .string (⟨#[]⟩ : ByteArray)] 35 (0, 0)) (gI BK436.out) hb); replace BK445 := bp BK445 hb #[.int .i64 t437, .int .i64 ji63, .int .i64 t448, .string t449, .slice Ao133 t450.length co133, .string t444]; replace HB := bs HB hb; (try clear hb); (try clear hb2); (try clear hk); (try clear hi); have hcz141_0 := bc0 BK445.out; have hcz141_1 := bc1 BK445.out; have hcz141_2 := bc2 BK445.out; have hcz141_3 := bc3 BK445.out; have hcz141_4 := bc4 BK445.out; have hcz141_5 := bc5 BK445.out; have hfz141_0 := blk_frozen BK445.out 0; have hfz141_1 := blk_frozen BK445.out 1; have hfz141_2 := blk_frozen BK445.out 2; have hfz141_3 := blk_frozen BK445.out 3; have hfz141_4 := blk_frozen BK445.out 4; have hfz141_5 := blk_frozen BK445.out 5; have hnb142 := NB436_433.out; have hnc142 := NB433_436.out; have hcz143_0 := bc0 BK436.out; have hcz143_1 := bc1 BK436.out; have hcz143_2 := bc2 BK436.out; have hcz143_3 := bc3 BK436.out; have hcz143_4 := bc4 BK436.out; have hcz143_5 := bc5 BK436.out; have hfz143_0 := blk_frozen BK436.out 0; have hfz143_1 := blk_frozen BK436.out 1; have hfz143_2 := blk_frozen BK436.out 2; have hfz143_3 := blk_frozen BK436.out 3; have hfz143_4 := blk_frozen BK436.out 4; have hfz143_5 := blk_frozen BK436.out 5))
   refine bodyPost_ret (results_cell_row rfl _ _ gb436 35 #[.int .i64 t437, .int .i64 ji63, .int .i64 t448, .string t449, .slice Ao133 t450.length co133, .string t444] (0, 0) _ rfl (pI BK436) Tryz.underlying35 rfl (by kernel_rfl)) rfl ?_
   exact ⟨_, y0_0, by (with_reducible repeat (first | apply Kd.R_alloc | apply Kd.R_drewN | apply Kd.R_drew)); exact Kd.R_mono (Kd.R_far (p := ⟨gb436, 5, none⟩) (Kd.R_far (p := ⟨gb436, 4, none⟩) (Kd.R_far (p := ⟨gb436, 3, none⟩) (Kd.R_far (p := ⟨gb436, 2, none⟩) (Kd.R_far (p := ⟨gb436, 1, none⟩) (Kd.R_far (p := ⟨gb436, 0, none⟩) (Kd.R_types HO452.out BK436.out (by decide)) (fun _ hk => hk.2) (.int .i64 t437)) (fun _ hk => hk.2) (.int .i64 ji63)) (fun _ hk => hk.2) (.int .i64 t448)) (fun _ hk => hk.2) (.string t449)) (fun _ hk => hk.2) (.slice Ao133 t450.length co133)) (fun _ hk => hk.2) (.string t444)) (fun _ hk => trivial), bI HB.out⟩

end Go.Proofs.YtemjmefacifdeaaGreatDoor.PFnSettlesThree
