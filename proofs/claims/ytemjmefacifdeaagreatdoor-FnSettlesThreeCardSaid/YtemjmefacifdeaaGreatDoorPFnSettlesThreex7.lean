-- By a program of this session, out of the translation (the print of the kit, with turns of its own). Lean checks it.
import Derived.Test.YtemjmefacifdeaaGreatDoorPFnSettlesThreex0
import Derived.Test.YtemjmefacifdeaaGreatDoorPFnSettlesThreex3
import Derived.Test.YtemjmefacifdeaaGreatDoorPFnSettlesThreex4
import Derived.Test.YtemjmefacifdeaaGreatDoorPFnSettlesThreex5
import Derived.Test.YtemjmefacifdeaaGreatDoorPFnSettlesThreex6
namespace Go.Proofs.YtemjmefacifdeaaGreatDoor.PFnSettlesThree
open Go.RowKit Go.Proofs.YtemjmefacifdeaaGreatDoorW.PrintWords Go.Proofs.YtemjmefacifdeaaGreatDoorW.PrintLast Go.Proofs.YtemjmefacifdeaaGreatDoorW.PrintMore
attribute [local go_sem] max2_int min2_int max_two min_two max_three min_three max_four min_four   -- for this text's walks alone
set_option linter.unusedVariables false
set_option linter.unusedSimpArgs false

/-! ### spec_See: function 24 -/
def spec_See.j0 : Nat → Bool → Int → Int → Int → ByteArray → List Int → ByteArray → Int → ByteArray → List Int → Int → Int → Int → ByteArray → List Int → ByteArray → Option (Int × Int × Int × ByteArray × List Int × ByteArray)
 | 0, _, _, _, _, _, _, _, _, _, _, _, _, _, _, _, _ => none
 | k + 1, x21, x266000, x266001, x266002, x266003, x266004, x266005, x267000, x267001, x267002, x277000, x277001, x277002, x277003, x277004, x277005 => if x21 = true then (some (x277000, x277001, x277002, x277003, x277004, x277005)) else ((spec_QcLater.f x267000 x267001 x267002 x266002 x266003 x266004).bind fun bt279 => ((spec_UpOf.f k x267001).bind fun t284 => ((spec_ViewOf.f k t284).bind fun t285 => ((spec_l1Max.f x266001 t285).bind fun t286 => ((spec_Settles.f k x267001).bind fun bt287 => (if bt287.2 = true then ((spec_Extends.f k bt287.1 x266005).bind fun t289 => (if t289 = true then (some (x277000, t286, bt279.1, bt279.2.1, bt279.2.2, bt287.1)) else (some (x277000, t286, bt279.1, bt279.2.1, bt279.2.2, x277005)))) else (some (x277000, t286, bt279.1, bt279.2.1, bt279.2.2, x277005))))))))
def spec_See.f (k : Nat) (a0_0 : Int) (a0_1 : Int) (a1_0 : Int) (a1_1 : Int) (a1_2 : Int) (a1_3 : ByteArray) (l1_4 : List Int) (a1_5 : ByteArray) (a2_0 : Int) (a2_1 : ByteArray) (l2_2 : List Int) : Option (Int × Int × Int × ByteArray × List Int × ByteArray) := (spec_l11Copy.f a1_0 a1_1 a1_2 a1_3 l1_4 a1_5).bind fun bt268 => ((spec_SafeOk.f k a0_0 a0_1 a1_0 a1_1 a1_2 a1_3 l1_4 a1_5).bind fun t277 => (if t277 = true then ((spec_QcOk.f k a0_0 a0_1 a2_0 a2_1 l2_2).bind fun t278 => (spec_See.j0 k (!t278) a1_0 a1_1 a1_2 a1_3 l1_4 a1_5 a2_0 a2_1 l2_2 bt268.1 bt268.2.1 bt268.2.2.1 bt268.2.2.2.1 bt268.2.2.2.2.1 bt268.2.2.2.2.2)) else (spec_See.j0 k true a1_0 a1_1 a1_2 a1_3 l1_4 a1_5 a2_0 a2_1 l2_2 bt268.1 bt268.2.1 bt268.2.2.1 bt268.2.2.2.1 bt268.2.2.2.2.1 bt268.2.2.2.2.2)))
theorem spec_See.mono_l : ∀ k, (∀ y0 y1 y2 y3 y4 y5 y6 y7 y8 y9 y10 y11 y12 y13 y14 y15, LeO (spec_See.j0 k y0 y1 y2 y3 y4 y5 y6 y7 y8 y9 y10 y11 y12 y13 y14 y15) (spec_See.j0 (k + 1) y0 y1 y2 y3 y4 y5 y6 y7 y8 y9 y10 y11 y12 y13 y14 y15))
 | 0 => fun _ _ _ _ _ _ _ _ _ _ _ _ _ _ _ _ r h => by simp [spec_See.j0] at h
 | k + 1 => by
  have ih0 := spec_See.mono_l k
  intro y0 y1 y2 y3 y4 y5 y6 y7 y8 y9 y10 y11 y12 y13 y14 y15
  unfold spec_See.j0
  repeat' first | (with_reducible exact ih0 _ _ _ _ _ _ _ _ _ _ _ _ _ _ _ _) | (with_reducible exact spec_Extends.mono _ _ _) | (with_reducible exact spec_QcOk.mono _ _ _ _ _ _) | (with_reducible exact spec_SafeOk.mono _ _ _ _ _ _ _ _ _) | (with_reducible exact spec_Settles.mono _ _) | (with_reducible exact spec_UpOf.mono _ _) | (with_reducible exact spec_ViewOf.mono _ _) | (with_reducible exact LeO.refl _) | (with_reducible exact LeO.none _) | (with_reducible refine LeO.ite ?_ ?_) | (with_reducible refine LeO.bind ?_ (fun _ => ?_))
theorem spec_See.mono : ∀ a0 a1 a2 a3 a4 a5 a6 a7 a8 a9 a10 k, LeO (spec_See.f k a0 a1 a2 a3 a4 a5 a6 a7 a8 a9 a10) (spec_See.f (k + 1) a0 a1 a2 a3 a4 a5 a6 a7 a8 a9 a10) := by
 intro a0 a1 a2 a3 a4 a5 a6 a7 a8 a9 a10 k
 have ih0 := spec_See.mono_l k
 unfold spec_See.f
 repeat' first | (with_reducible exact ih0 _ _ _ _ _ _ _ _ _ _ _ _ _ _ _ _) | (with_reducible exact spec_Extends.mono _ _ _) | (with_reducible exact spec_QcOk.mono _ _ _ _ _ _) | (with_reducible exact spec_SafeOk.mono _ _ _ _ _ _ _ _ _) | (with_reducible exact spec_Settles.mono _ _) | (with_reducible exact spec_UpOf.mono _ _) | (with_reducible exact spec_ViewOf.mono _ _) | (with_reducible exact LeO.refl _) | (with_reducible exact LeO.none _) | (with_reducible refine LeO.ite ?_ ?_) | (with_reducible refine LeO.bind ?_ (fun _ => ?_))
def spec_See.T5 : Bool × List (List Nat × List Nat) := (true, [([], []), ([0], [0]), ([], []), ([2], [2]), ([3], [3]), ([4, 4], [4]), ([1, 5, 5], [1, 5]), ([0, 1, 2, 3, 4, 5, 6], []), ([7, 6, 6, 0, 1, 2, 3, 4, 5, 6], [6, 7])])
def spec_See.B5 : List Nat := [0, 1, 0, 4, 12, 28, 63, 127, 255]
theorem spec_See.tab5 : rtab .any (opsOf Tryz.f24 5) = spec_See.T5 := by kernel_rfl
theorem spec_See.bits5 : waitsOk spec_See.T5.2 spec_See.B5 = true := by kernel_rfl
set_option maxHeartbeats 8000000 in
set_option maxRecDepth 100000 in
theorem spec_See.calls (k : Nat) (a0_0 : Int) (a0_1 : Int) (a1_0 : Int) (a1_1 : Int) (a1_2 : Int) (a1_3 : ByteArray) (A1_4 : Option Addr) (c1_4 : Nat) (l1_4 : List Int) (a1_5 : ByteArray) (a2_0 : Int) (a2_1 : ByteArray) (A2_2 : Option Addr) (c2_2 : Nat) (l2_2 : List Int) (r1 : Int) (r2 : Int) (r3 : Int) (r4 : ByteArray) (r5 : List Int) (r6 : ByteArray) (w : World) (hr1_4 : Kd.C (Kd.int .i64) w A1_4 l1_4.length l1_4) (hc1_4 : l1_4.length ≤ c1_4) (hr2_2 : Kd.C (Kd.int .i64) w A2_2 l2_2.length l2_2) (hc2_2 : l2_2.length ≤ c2_2) (h : spec_See.f k a0_0 a0_1 a1_0 a1_1 a1_2 a1_3 l1_4 a1_5 a2_0 a2_1 l2_2 = some (r1, r2, r3, r4, r5, r6)) :
  Calls Tryz.prog 24 #[.agg #[.int .i64 a0_0, .int .i64 a0_1], .agg #[.int .i64 a1_0, .int .i64 a1_1, .int .i64 a1_2, .string a1_3, .slice A1_4 l1_4.length c1_4, .string a1_5], .agg #[.int .i64 a2_0, .string a2_1, .slice A2_2 l2_2.length c2_2]] w fun e w' => ∃ v4_ : Value, e = .returned (.agg #[.int .i64 r1, .int .i64 r2, .int .i64 r3, .string r4, v4_, .string r6]) ∧ Kd.R (Kd.int .i64) 3 w' w.heap.size (fun _ => True) v4_ r5 ∧ Below w.heap.size w w' := by
 have hu38 := Tryz.underlying38; have hu35 := Tryz.underlying35; have hu33 := Tryz.underlying33; have HR1_4 := Aside0.mk hr1_4; have HC1_4 := Aside0.mk hc1_4; clear hr1_4 hc1_4; have HR2_2 := Aside0.mk hr2_2; have HC2_2 := Aside0.mk hc2_2; clear hr2_2 hc2_2; have HB := Aside0.mk (Below.refl w.heap.size w)
 have H : ((spec_l11Copy.f a1_0 a1_1 a1_2 a1_3 l1_4 a1_5).bind fun bt268 => ((spec_SafeOk.f k a0_0 a0_1 a1_0 a1_1 a1_2 a1_3 l1_4 a1_5).bind fun t277 => (if t277 = true then ((spec_QcOk.f k a0_0 a0_1 a2_0 a2_1 l2_2).bind fun t278 => (spec_See.j0 k (!t278) a1_0 a1_1 a1_2 a1_3 l1_4 a1_5 a2_0 a2_1 l2_2 bt268.1 bt268.2.1 bt268.2.2.1 bt268.2.2.2.1 bt268.2.2.2.2.1 bt268.2.2.2.2.2)) else (spec_See.j0 k true a1_0 a1_1 a1_2 a1_3 l1_4 a1_5 a2_0 a2_1 l2_2 bt268.1 bt268.2.1 bt268.2.2.1 bt268.2.2.2.1 bt268.2.2.2.2.1 bt268.2.2.2.2.2)))) = some (r1, r2, r3, r4, r5, r6) := h
 clear h; obtain ⟨⟨t268, t269, t270, t271, t272, t275⟩, A40, H⟩ := Option.bind_eq_some_iff.mp H
 try dsimp only at H
 have A4 := Aside0.mk A40; clear A40; have HC5 := Aside0.mk H; clear H
 go_enter Tryz.func24, Tryz.ntmps24
 go_upto_region 2 with (first | ((with_reducible refine gd 3 ?_); refine bA 3 #[.int .i64 a0_0, .int .i64 a0_1] 38 ?_; intro gb264 hg w6 hbox hb; have BK264 := Aside0.mk (hbox); have GW264 := bg hg HB; have GJ264 := gi GW264; have GE264 := GW264; replace HB := bs HB hb; clear hb hbox hg) | ((with_reducible refine gd 4 ?_); refine bA 4 #[.int .i64 a1_0, .int .i64 a1_1, .int .i64 a1_2, .string a1_3, .slice A1_4 l1_4.length c1_4, .string a1_5] 35 ?_; intro gb265 hg w7 hbox hb; have BK265 := Aside0.mk (hbox); have GW265 := bg hg HB; have GJ265 := gi GW265; have GE265 := GW265; replace HB := bs HB hb; have NB264_265 := b1 BK264 hg; have NI264_265 := ni NB264_265; have NB265_264 := b2 BK264 hg; have NI265_264 := ni NB265_264; replace BK264 := bk BK264 hb; clear hb hbox hg) | ((with_reducible refine gd 5 ?_); refine bA 5 #[.int .i64 a2_0, .string a2_1, .slice A2_2 l2_2.length c2_2] 33 ?_; intro gb266 hg w8 hbox hb; have BK266 := Aside0.mk (hbox); have GW266 := bg hg HB; have GJ266 := gi GW266; have GE266 := GW266; replace HB := bs HB hb; have NB264_266 := b1 BK264 hg; have NI264_266 := ni NB264_266; have NB266_264 := b2 BK264 hg; have NI266_264 := ni NB266_264; replace BK264 := bk BK264 hb; have NB265_266 := b1 BK265 hg; have NI265_266 := ni NB265_266; have NB266_265 := b2 BK265 hg; have NI266_265 := ni NB266_265; replace BK265 := bk BK265 hb; clear hb hbox hg) | ((with_reducible refine gd 6 ?_); refine bA 6 #[.int .i64 0, .int .i64 0, .int .i64 0, .string (⟨#[]⟩ : ByteArray), .slice none 0 0, .string (⟨#[]⟩ : ByteArray)] 35 ?_; intro gb267 hg w9 hbox hb; have BK267 := Aside0.mk (hbox); have GW267 := bg hg HB; have GJ267 := gi GW267; have GE267 := GW267; replace HB := bs HB hb; have NB264_267 := b1 BK264 hg; have NI264_267 := ni NB264_267; have NB267_264 := b2 BK264 hg; have NI267_264 := ni NB267_264; replace BK264 := bk BK264 hb; have NB265_267 := b1 BK265 hg; have NI265_267 := ni NB265_267; have NB267_265 := b2 BK265 hg; have NI267_265 := ni NB267_265; replace BK265 := bk BK265 hb; have NB266_267 := b1 BK266 hg; have NI266_267 := ni NB266_267; have NB267_266 := b2 BK266 hg; have NI267_266 := ni NB267_266; replace BK266 := bk BK266 hb; clear hb hbox hg; have hnb10 := NB265_264.out; have hnc10 := NB264_265.out; have hnb11 := NB265_266.out; have hnc11 := NB266_265.out; have hnb12 := NB265_267.out; have hnc12 := NB267_265.out; have hcz13_0 := bc0 BK265.out; have hcz13_1 := bc1 BK265.out; have hcz13_2 := bc2 BK265.out; have hcz13_3 := bc3 BK265.out; have hcz13_4 := bc4 BK265.out; have hcz13_5 := bc5 BK265.out; have hfz13_0 := blk_frozen BK265.out 0; have hfz13_1 := blk_frozen BK265.out 1; have hfz13_2 := blk_frozen BK265.out 2; have hfz13_3 := blk_frozen BK265.out 3; have hfz13_4 := blk_frozen BK265.out 4; have hfz13_5 := blk_frozen BK265.out 5) | ((with_reducible refine gate_callee (f := 61) rfl ?_); refine gB (some 11) Tryz.func61 #[.agg #[.int .i64 a1_0, .int .i64 a1_1, .int .i64 a1_2, .string a1_3, .slice A1_4 l1_4.length c1_4, .string a1_5]] ?_; (with_reducible refine (spec_l11Copy.calls a1_0 a1_1 a1_2 a1_3 _ _ l1_4 a1_5 t268 t269 t270 t271 t272 t275 _ ?side1 ?side2 A4.out).mono ?_); (case side1 => exact ch HR1_4 HB); (case side2 => exact HC1_4.out); rintro e w14 ⟨v273, rfl, ho0, hb⟩; refine ⟨_, rfl, ?_⟩; have HO274 := Aside0.mk (Kd.R_lower ho0 (below_size (bI HB.out))); replace BK264 := bk BK264 hb; replace BK265 := bk BK265 hb; replace BK266 := bk BK266 hb; replace BK267 := bk BK267 hb; replace HB := bs HB hb; (try clear hb); (try clear ho0)) | ((with_reducible refine gd 7 ?_); refine bA 7 #[.int .i64 0, .int .i64 0, .int .i64 0, .string (⟨#[]⟩ : ByteArray), .slice none 0 0, .string (⟨#[]⟩ : ByteArray)] 35 ?_; intro gb276 hg w15 hbox hb; replace HO274 := rb HO274 hb; have BK276 := Aside0.mk (hbox); have GW276 := bg hg HB; have GJ276 := gi GW276; have GE276 := GW276; replace HB := bs HB hb; have NB264_276 := b1 BK264 hg; have NI264_276 := ni NB264_276; have NB276_264 := b2 BK264 hg; have NI276_264 := ni NB276_264; replace BK264 := bk BK264 hb; have NB265_276 := b1 BK265 hg; have NI265_276 := ni NB265_276; have NB276_265 := b2 BK265 hg; have NI276_265 := ni NB276_265; replace BK265 := bk BK265 hb; have NB266_276 := b1 BK266 hg; have NI266_276 := ni NB266_276; have NB276_266 := b2 BK266 hg; have NI276_266 := ni NB276_266; replace BK266 := bk BK266 hb; have NB267_276 := b1 BK267 hg; have NI267_276 := ni NB267_276; have NB276_267 := b2 BK267 hg; have NI276_267 := ni NB276_267; replace BK267 := bk BK267 hb; clear hb hbox hg; have hnb16 := NB276_264.out; have hnc16 := NB264_276.out; have hnb17 := NB276_265.out; have hnc17 := NB265_276.out; have hnb18 := NB276_266.out; have hnc18 := NB266_276.out; have hnb19 := NB276_267.out; have hnc19 := NB267_276.out; have hcz20_0 := bc0 BK276.out; have hcz20_1 := bc1 BK276.out; have hcz20_2 := bc2 BK276.out; have hcz20_3 := bc3 BK276.out; have hcz20_4 := bc4 BK276.out; have hcz20_5 := bc5 BK276.out; have hfz20_0 := blk_frozen BK276.out 0; have hfz20_1 := blk_frozen BK276.out 1; have hfz20_2 := blk_frozen BK276.out 2; have hfz20_3 := blk_frozen BK276.out 3; have hfz20_4 := blk_frozen BK276.out 4; have hfz20_5 := blk_frozen BK276.out 5; obtain ⟨Ao21, co21, eo21⟩ := Kd.R_slice HO274.out; subst eo21))
 (try simp only [Act.put, List.setIfInBounds_toArray, List.set_cons_zero, List.set_cons_succ])
 go_cut [21] (fun v21 wc => ∃ (kq : Nat) (x21_4 : Bool), v21 = .bool x21_4 ∧ Aside0 (spec_See.j0 kq x21_4 a1_0 a1_1 a1_2 a1_3 l1_4 a1_5 a2_0 a2_1 l2_2 t268 t269 t270 t271 t272 t275 = some (r1, r2, r3, r4, r5, r6)) ∧ Aside0 (kq ≤ k) ∧ Aside0 (Kd.R (Kd.int .i64) 3 wc w.heap.size (fun _ => True) (.slice Ao21 t272.length co21) t272) ∧ Aside0 (wc.heap[gb264]? = some (.cells #[.int .i64 a0_0, .int .i64 a0_1] 38 (0, 0))) ∧ Aside0 (wc.heap[gb265]? = some (.cells #[.int .i64 a1_0, .int .i64 a1_1, .int .i64 a1_2, .string a1_3, (.slice A1_4 l1_4.length c1_4), .string a1_5] 35 (0, 0))) ∧ Aside0 (wc.heap[gb266]? = some (.cells #[.int .i64 a2_0, .string a2_1, (.slice A2_2 l2_2.length c2_2)] 33 (0, 0))) ∧ Aside0 (wc.heap[gb267]? = some (.cells #[.int .i64 0, .int .i64 0, .int .i64 0, .string (⟨#[]⟩ : ByteArray), (.slice none 0 0), .string (⟨#[]⟩ : ByteArray)] 35 (0, 0))) ∧ Aside0 (wc.heap[gb276]? = some (.cells #[.int .i64 t268, .int .i64 t269, .int .i64 t270, .string t271, (.slice Ao21 t272.length co21), .string t275] 35 (0, 0))) ∧ Aside0 (Below w.heap.size w wc))
 case first =>
  have H := HC5.out; clear HC5; obtain ⟨t277, A220, H⟩ := Option.bind_eq_some_iff.mp H
  try dsimp only at H
  have A22 := Aside0.mk A220; clear A220
  by_cases c23 : t277 = true
  ·
   subst c23
   rw [if_pos rfl] at H
   obtain ⟨t278, A240, H⟩ := Option.bind_eq_some_iff.mp H
   try dsimp only at H
   have A24 := Aside0.mk A240; clear A240; have H' := Aside0.mk H; clear H; have hnb25 := NB264_265.out; have hnc25 := NB265_264.out; have hnb26 := NB264_266.out; have hnc26 := NB266_264.out; have hnb27 := NB264_267.out; have hnc27 := NB267_264.out; have hnb28 := NB264_276.out; have hnc28 := NB276_264.out; have hcz29_0 := bc0 BK264.out; have hcz29_1 := bc1 BK264.out; have hfz29_0 := blk_frozen BK264.out 0; have hfz29_1 := blk_frozen BK264.out 1; have hnb30 := NB265_266.out; have hnc30 := NB266_265.out; have hnb31 := NB265_267.out; have hnc31 := NB267_265.out; have hnb32 := NB265_276.out; have hnc32 := NB276_265.out; have hcz33_0 := bc0 BK265.out; have hcz33_1 := bc1 BK265.out; have hcz33_2 := bc2 BK265.out; have hcz33_3 := bc3 BK265.out; have hcz33_4 := bc4 BK265.out; have hcz33_5 := bc5 BK265.out; have hfz33_0 := blk_frozen BK265.out 0; have hfz33_1 := blk_frozen BK265.out 1; have hfz33_2 := blk_frozen BK265.out 2; have hfz33_3 := blk_frozen BK265.out 3; have hfz33_4 := blk_frozen BK265.out 4; have hfz33_5 := blk_frozen BK265.out 5
   go_wp2_with (first | ((with_reducible refine gate_callee (f := 66) rfl ?_); refine gB (some 14) Tryz.func66 #[.agg #[.int .i64 a0_0, .int .i64 a0_1], .agg #[.int .i64 a1_0, .int .i64 a1_1, .int .i64 a1_2, .string a1_3, .slice A1_4 l1_4.length c1_4, .string a1_5]] ?_; (with_reducible refine (spec_SafeOk.calls k a0_0 a0_1 a1_0 a1_1 a1_2 a1_3 _ _ l1_4 a1_5 true _ ?side1 ?side2 A22.out).mono ?_); (case side1 => exact Kd.C_below HR1_4.out (bI HB.out)); (case side2 => exact HC1_4.out); rintro e w34 ⟨rfl, hb⟩; refine ⟨_, rfl, ?_⟩; replace HO274 := Aside0.mk (Kd.R_below (rI (Kd.R_mono (Kd.R_far (p := ⟨gb276, 5, none⟩) (Kd.R_far (p := ⟨gb276, 4, none⟩) (Kd.R_far (p := ⟨gb276, 3, none⟩) (Kd.R_far (p := ⟨gb276, 2, none⟩) (Kd.R_far (p := ⟨gb276, 1, none⟩) (Kd.R_far (p := ⟨gb276, 0, none⟩) (Kd.R_types HO274.out BK276.out (by decide)) (fun _ hk => hk.2) (.int .i64 t268)) (fun _ hk => hk.2) (.int .i64 t269)) (fun _ hk => hk.2) (.int .i64 t270)) (fun _ hk => hk.2) (.string t271)) (fun _ hk => hk.2) (.slice Ao21 t272.length co21)) (fun _ hk => hk.2) (.string t275)) (fun _ h_ => h_.1))) hb); replace BK264 := Aside0.mk (blk_below (g := gb264) (o := .cells #[.int .i64 a0_0, .int .i64 a0_1] 38 (0, 0)) (gI BK264.out) hb); replace BK265 := Aside0.mk (blk_below (g := gb265) (o := .cells #[.int .i64 a1_0, .int .i64 a1_1, .int .i64 a1_2, .string a1_3, .slice A1_4 l1_4.length c1_4, .string a1_5] 35 (0, 0)) (gI BK265.out) hb); replace BK266 := Aside0.mk (blk_below (g := gb266) (o := .cells #[.int .i64 a2_0, .string a2_1, .slice A2_2 l2_2.length c2_2] 33 (0, 0)) (gI BK266.out) hb); replace BK267 := Aside0.mk (blk_below (g := gb267) (o := .cells #[.int .i64 0, .int .i64 0, .int .i64 0, .string (⟨#[]⟩ : ByteArray), .slice none 0 0, .string (⟨#[]⟩ : ByteArray)] 35 (0, 0)) (gI BK267.out) hb); replace BK276 := bp BK276 hb #[.int .i64 t268, .int .i64 t269, .int .i64 t270, .string t271, .slice Ao21 t272.length co21, .string t275]; replace HB := bs HB hb; (try clear hb); (try clear hb2); (try clear hk); (try clear hi); obtain ⟨hcz35_0, hcz35_1, hfz35_0, hfz35_1⟩ := cs2 BK264; have hnb36 := NB266_267.out; have hnc36 := NB267_266.out; have hnb37 := NB266_276.out; have hnc37 := NB276_266.out; obtain ⟨hcz38_0, hcz38_1, hcz38_2, hfz38_0, hfz38_1, hfz38_2⟩ := cs3 BK266) | (go_at_call 49; (with_reducible refine (spec_QcOk.calls k a0_0 a0_1 a2_0 a2_1 _ _ l2_2 t278 _ ?side1 ?side2 A24.out).mono ?_); (case side1 => exact ch HR2_2 HB); (case side2 => exact HC2_2.out); rintro e w39 ⟨rfl, hb⟩; replace HO274 := rb HO274 hb; replace BK264 := bk BK264 hb; replace BK265 := bk BK265 hb; replace BK266 := bk BK266 hb; replace BK267 := bk BK267 hb; replace BK276 := bk BK276 hb; replace HB := bs HB hb; (try clear hb); (try clear hb2); (try clear hk); (try clear hi)))
   go_meet
   case rel => exact ⟨_, (!t278), y0_9, H', ⟨y0_10⟩, ⟨by (with_reducible repeat (first | apply Kd.R_alloc | apply Kd.R_drewN | apply Kd.R_drew)); exact HO274.out⟩, ⟨gI BK264.out⟩, ⟨gI BK265.out⟩, ⟨gI BK266.out⟩, ⟨gI BK267.out⟩, ⟨gI BK276.out⟩, ⟨bI HB.out⟩⟩
  replace c23 := Bool.eq_false_iff.mpr c23; subst c23
  rw [if_neg (show ¬ (false = true) by decide)] at H
  have H' := Aside0.mk H; clear H; have hnb40 := NB264_265.out; have hnc40 := NB265_264.out; have hnb41 := NB264_266.out; have hnc41 := NB266_264.out; have hnb42 := NB264_267.out; have hnc42 := NB267_264.out; have hnb43 := NB264_276.out; have hnc43 := NB276_264.out; have hcz44_0 := bc0 BK264.out; have hcz44_1 := bc1 BK264.out; have hfz44_0 := blk_frozen BK264.out 0; have hfz44_1 := blk_frozen BK264.out 1; have hnb45 := NB265_266.out; have hnc45 := NB266_265.out; have hnb46 := NB265_267.out; have hnc46 := NB267_265.out; have hnb47 := NB265_276.out; have hnc47 := NB276_265.out; have hcz48_0 := bc0 BK265.out; have hcz48_1 := bc1 BK265.out; have hcz48_2 := bc2 BK265.out; have hcz48_3 := bc3 BK265.out; have hcz48_4 := bc4 BK265.out; have hcz48_5 := bc5 BK265.out; have hfz48_0 := blk_frozen BK265.out 0; have hfz48_1 := blk_frozen BK265.out 1; have hfz48_2 := blk_frozen BK265.out 2; have hfz48_3 := blk_frozen BK265.out 3; have hfz48_4 := blk_frozen BK265.out 4; have hfz48_5 := blk_frozen BK265.out 5
  go_wp2_with (first | ((with_reducible refine gate_callee (f := 66) rfl ?_); refine gB (some 14) Tryz.func66 #[.agg #[.int .i64 a0_0, .int .i64 a0_1], .agg #[.int .i64 a1_0, .int .i64 a1_1, .int .i64 a1_2, .string a1_3, .slice A1_4 l1_4.length c1_4, .string a1_5]] ?_; (with_reducible refine (spec_SafeOk.calls k a0_0 a0_1 a1_0 a1_1 a1_2 a1_3 _ _ l1_4 a1_5 false _ ?side1 ?side2 A22.out).mono ?_); (case side1 => exact Kd.C_below HR1_4.out (bI HB.out)); (case side2 => exact HC1_4.out); rintro e w49 ⟨rfl, hb⟩; refine ⟨_, rfl, ?_⟩; replace HO274 := Aside0.mk (Kd.R_below (rI (Kd.R_mono (Kd.R_far (p := ⟨gb276, 5, none⟩) (Kd.R_far (p := ⟨gb276, 4, none⟩) (Kd.R_far (p := ⟨gb276, 3, none⟩) (Kd.R_far (p := ⟨gb276, 2, none⟩) (Kd.R_far (p := ⟨gb276, 1, none⟩) (Kd.R_far (p := ⟨gb276, 0, none⟩) (Kd.R_types HO274.out BK276.out (by decide)) (fun _ hk => hk.2) (.int .i64 t268)) (fun _ hk => hk.2) (.int .i64 t269)) (fun _ hk => hk.2) (.int .i64 t270)) (fun _ hk => hk.2) (.string t271)) (fun _ hk => hk.2) (.slice Ao21 t272.length co21)) (fun _ hk => hk.2) (.string t275)) (fun _ h_ => h_.1))) hb); replace BK264 := Aside0.mk (blk_below (g := gb264) (o := .cells #[.int .i64 a0_0, .int .i64 a0_1] 38 (0, 0)) (gI BK264.out) hb); replace BK265 := Aside0.mk (blk_below (g := gb265) (o := .cells #[.int .i64 a1_0, .int .i64 a1_1, .int .i64 a1_2, .string a1_3, .slice A1_4 l1_4.length c1_4, .string a1_5] 35 (0, 0)) (gI BK265.out) hb); replace BK266 := Aside0.mk (blk_below (g := gb266) (o := .cells #[.int .i64 a2_0, .string a2_1, .slice A2_2 l2_2.length c2_2] 33 (0, 0)) (gI BK266.out) hb); replace BK267 := Aside0.mk (blk_below (g := gb267) (o := .cells #[.int .i64 0, .int .i64 0, .int .i64 0, .string (⟨#[]⟩ : ByteArray), .slice none 0 0, .string (⟨#[]⟩ : ByteArray)] 35 (0, 0)) (gI BK267.out) hb); replace BK276 := bp BK276 hb #[.int .i64 t268, .int .i64 t269, .int .i64 t270, .string t271, .slice Ao21 t272.length co21, .string t275]; replace HB := bs HB hb; (try clear hb); (try clear hb2); (try clear hk); (try clear hi)))
  go_meet
  case rel => exact ⟨_, (true), y0_9, H', ⟨y0_10⟩, ⟨by (with_reducible repeat (first | apply Kd.R_alloc | apply Kd.R_drewN | apply Kd.R_drew)); exact HO274.out⟩, ⟨gI BK264.out⟩, ⟨gI BK265.out⟩, ⟨gI BK266.out⟩, ⟨gI BK267.out⟩, ⟨gI BK276.out⟩, ⟨bI HB.out⟩⟩
 case rest =>
  clear HC5
  try clear c1
  try clear c2
  try clear p2
  try clear c3
  try clear c4
  try clear c6
  try clear c10
  try clear c11
  try clear c12
  try clear c16
  try clear c17
  try clear c18
  try clear c19
  try clear c23
  try clear c24
  try clear c25
  try clear c26
  try clear c27
  try clear c28
  try clear c30
  try clear c31
  try clear c32
  try clear c36
  try clear c37
  try clear c40
  try clear c41
  try clear c42
  try clear c43
  try clear c45
  try clear c46
  try clear c47
  try clear hcz13_0
  try clear hcz13_1
  try clear hcz13_2
  try clear hcz13_3
  try clear hcz13_4
  try clear hcz13_5
  try clear hcz20_0
  try clear hcz20_1
  try clear hcz20_2
  try clear hcz20_3
  try clear hcz20_4
  try clear hcz20_5
  try clear hcz29_0
  try clear hcz29_1
  try clear hcz33_0
  try clear hcz33_1
  try clear hcz33_2
  try clear hcz33_3
  try clear hcz33_4
  try clear hcz33_5
  try clear hcz35_0
  try clear hcz35_1
  try clear hcz38_0
  try clear hcz38_1
  try clear hcz38_2
  try clear hcz44_0
  try clear hcz44_1
  try clear hcz48_0
  try clear hcz48_1
  try clear hcz48_2
  try clear hcz48_3
  try clear hcz48_4
  try clear hcz48_5
  try clear hfz13_0
  try clear hfz13_1
  try clear hfz13_2
  try clear hfz13_3
  try clear hfz13_4
  try clear hfz13_5
  try clear hfz20_0
  try clear hfz20_1
  try clear hfz20_2
  try clear hfz20_3
  try clear hfz20_4
  try clear hfz20_5
  try clear hfz29_0
  try clear hfz29_1
  try clear hfz33_0
  try clear hfz33_1
  try clear hfz33_2
  try clear hfz33_3
  try clear hfz33_4
  try clear hfz33_5
  try clear hfz35_0
  try clear hfz35_1
  try clear hfz38_0
  try clear hfz38_1
  try clear hfz38_2
  try clear hfz44_0
  try clear hfz44_1
  try clear hfz48_0
  try clear hfz48_1
  try clear hfz48_2
  try clear hfz48_3
  try clear hfz48_4
  try clear hfz48_5
  obtain ⟨kq, x21_4, rfl, HA, HJ4, HO_277004, BK264, BK265, BK266, BK267, BK276, HB⟩ := hcut; cases kq with
  | zero => exact absurd HA.out (by simp [spec_See.j0])
  | succ kj4 =>
   have H := HA.out; clear HA
   simp only [spec_See.j0] at H
   by_cases c50 : x21_4 = true
   ·
    subst c50
    rw [if_pos rfl] at H
    simp only [Option.some.injEq, Prod.mk.injEq] at H
    obtain ⟨rfl, rfl, rfl, rfl, rfl, rfl⟩ := H; have hnb51 := NB276_264.out; have hnc51 := NB264_276.out; have hnb52 := NB276_265.out; have hnc52 := NB265_276.out; have hnb53 := NB276_266.out; have hnc53 := NB266_276.out; have hnb54 := NB276_267.out; have hnc54 := NB267_276.out; have hcz55_0 := bc0 BK276.out; have hcz55_1 := bc1 BK276.out; have hcz55_2 := bc2 BK276.out; have hcz55_3 := bc3 BK276.out; have hcz55_4 := bc4 BK276.out; have hcz55_5 := bc5 BK276.out; have hfz55_0 := blk_frozen BK276.out 0; have hfz55_1 := blk_frozen BK276.out 1; have hfz55_2 := blk_frozen BK276.out 2; have hfz55_3 := blk_frozen BK276.out 3; have hfz55_4 := blk_frozen BK276.out 4; have hfz55_5 := blk_frozen BK276.out 5; have hnb56 := NB267_264.out; have hnc56 := NB264_267.out; have hnb57 := NB267_265.out; have hnc57 := NB265_267.out; have hnb58 := NB267_266.out; have hnc58 := NB266_267.out; have hcz59_0 := bc0 BK267.out; have hcz59_1 := bc1 BK267.out; have hcz59_2 := bc2 BK267.out; have hcz59_3 := bc3 BK267.out; have hcz59_4 := bc4 BK267.out; have hcz59_5 := bc5 BK267.out; have hfz59_0 := blk_frozen BK267.out 0; have hfz59_1 := blk_frozen BK267.out 1; have hfz59_2 := blk_frozen BK267.out 2; have hfz59_3 := blk_frozen BK267.out 3; have hfz59_4 := blk_frozen BK267.out 4; have hfz59_5 := blk_frozen BK267.out 5
    go_wp2
    refine bodyPost_ret (results_cell_row rfl _ _ gb267 35 #[.int .i64 t268, .int .i64 t269, .int .i64 t270, .string t271, .slice Ao21 t272.length co21, .string t275] (0, 0) _ rfl (pI BK267) Tryz.underlying35 rfl (by kernel_rfl)) rfl ?_
    exact ⟨_, y0_6, by (with_reducible repeat (first | apply Kd.R_alloc | apply Kd.R_drewN | apply Kd.R_drew)); exact Kd.R_mono (Kd.R_far (p := ⟨gb267, 5, none⟩) (Kd.R_far (p := ⟨gb267, 4, none⟩) (Kd.R_far (p := ⟨gb267, 3, none⟩) (Kd.R_far (p := ⟨gb267, 2, none⟩) (Kd.R_far (p := ⟨gb267, 1, none⟩) (Kd.R_far (p := ⟨gb267, 0, none⟩) (Kd.R_types HO_277004.out BK267.out (by decide)) (fun _ hk => hk.2) (.int .i64 t268)) (fun _ hk => hk.2) (.int .i64 t269)) (fun _ hk => hk.2) (.int .i64 t270)) (fun _ hk => hk.2) (.string t271)) (fun _ hk => hk.2) (.slice Ao21 t272.length co21)) (fun _ hk => hk.2) (.string t275)) (fun _ hk => trivial), bI HB.out⟩
   replace c50 := Bool.eq_false_iff.mpr c50; subst c50
   rw [if_neg (show ¬ (false = true) by decide)] at H
   obtain ⟨⟨t279, t280, t281⟩, A600, H⟩ := Option.bind_eq_some_iff.mp H
   try dsimp only at H
   have A60 := Aside0.mk A600; clear A600; obtain ⟨t284, A610, H⟩ := Option.bind_eq_some_iff.mp H
   try dsimp only at H
   have A61 := Aside0.mk A610; clear A610; obtain ⟨t285, A620, H⟩ := Option.bind_eq_some_iff.mp H
   try dsimp only at H
   have A62 := Aside0.mk A620; clear A620; obtain ⟨t286, A630, H⟩ := Option.bind_eq_some_iff.mp H
   try dsimp only at H
   have A63 := Aside0.mk A630; clear A630; obtain ⟨⟨t287, t288⟩, A640, H⟩ := Option.bind_eq_some_iff.mp H
   try dsimp only at H
   have A64 := Aside0.mk A640; clear A640
   by_cases c65 : t288 = true
   ·
    subst c65
    rw [if_pos rfl] at H
    obtain ⟨t289, A660, H⟩ := Option.bind_eq_some_iff.mp H
    try dsimp only at H
    have A66 := Aside0.mk A660; clear A660
    by_cases c67 : t289 = true
    ·
     subst c67
     rw [if_pos rfl] at H
     simp only [Option.some.injEq, Prod.mk.injEq] at H
     obtain ⟨rfl, rfl, rfl, rfl, rfl, rfl⟩ := H; have hnb68 := NB266_264.out; have hnc68 := NB264_266.out; have hnb69 := NB266_265.out; have hnc69 := NB265_266.out; have hnb70 := NB266_267.out; have hnc70 := NB267_266.out; have hnb71 := NB266_276.out; have hnc71 := NB276_266.out; have hcz72_0 := bc0 BK266.out; have hcz72_1 := bc1 BK266.out; have hcz72_2 := bc2 BK266.out; have hfz72_0 := blk_frozen BK266.out 0; have hfz72_1 := blk_frozen BK266.out 1; have hfz72_2 := blk_frozen BK266.out 2; have hnb73 := NB265_264.out; have hnc73 := NB264_265.out; have hnb74 := NB265_267.out; have hnc74 := NB267_265.out; have hnb75 := NB265_276.out; have hnc75 := NB276_265.out; have hcz76_0 := bc0 BK265.out; have hcz76_1 := bc1 BK265.out; have hcz76_2 := bc2 BK265.out; have hcz76_3 := bc3 BK265.out; have hcz76_4 := bc4 BK265.out; have hcz76_5 := bc5 BK265.out; have hfz76_0 := blk_frozen BK265.out 0; have hfz76_1 := blk_frozen BK265.out 1; have hfz76_2 := blk_frozen BK265.out 2; have hfz76_3 := blk_frozen BK265.out 3; have hfz76_4 := blk_frozen BK265.out 4; have hfz76_5 := blk_frozen BK265.out 5
     try go_wp2_with (first | ((with_reducible refine gate_callee (f := 58) rfl ?_); refine gB (some 26) Tryz.func58 #[.agg #[.int .i64 a2_0, .string a2_1, .slice A2_2 l2_2.length c2_2], .agg #[.int .i64 a1_2, .string a1_3, .slice A1_4 l1_4.length c1_4]] ?_; (with_reducible refine (spec_QcLater.calls a2_0 a2_1 _ _ l2_2 a1_2 a1_3 _ _ l1_4 t279 t280 t281 _ ?side1 ?side2 ?side3 ?side4 A60.out).mono ?_); (case side1 => exact ch HR2_2 HB); (case side2 => exact HC2_2.out); (case side3 => exact ch HR1_4 HB); (case side4 => exact HC1_4.out); rintro e w77 ⟨v282, rfl, ho0, hb⟩; refine ⟨_, rfl, ?_⟩; have HO283 := Aside0.mk (Kd.R_lower (Kd.R_new' ho0 (Kd.R_lt (rI HO_277004.out))) (below_size (bI HB.out))); replace HO_277004 := Aside0.mk (Kd.R_elder' (rI HO_277004.out) (Kd.R_base ho0) hb); replace BK264 := bk BK264 hb; replace BK265 := bk BK265 hb; replace BK266 := bk BK266 hb; replace BK267 := bk BK267 hb; replace BK276 := bk BK276 hb; replace HB := bs HB hb; (try clear hb); (try clear ho0); have hnb78 := NB276_264.out; have hnc78 := NB264_276.out; have hnb79 := NB276_267.out; have hnc79 := NB267_276.out; have hcz80_0 := bc0 BK276.out; have hcz80_1 := bc1 BK276.out; have hcz80_2 := bc2 BK276.out; have hcz80_3 := bc3 BK276.out; have hcz80_4 := bc4 BK276.out; have hcz80_5 := bc5 BK276.out; have hfz80_0 := blk_frozen BK276.out 0; have hfz80_1 := blk_frozen BK276.out 1; have hfz80_2 := blk_frozen BK276.out 2; have hfz80_3 := blk_frozen BK276.out 3; have hfz80_4 := blk_frozen BK276.out 4; have hfz80_5 := blk_frozen BK276.out 5; obtain ⟨Ao81, co81, eo81⟩ := Kd.R_slice HO283.out; subst eo81))
     have n0_ : Aside0 (Kd.R (Kd.int .i64) 3 (((w77.setCell ⟨gb276, 2, none⟩ (.int .i64 t279)).setCell ⟨gb276, 3, none⟩ (.string t280)).setCell ⟨gb276, 4, none⟩ (.slice Ao81 t281.length co81)) w.heap.size (fun k_ => some k_ ≠ (.slice Ao81 t281.length co81 : Value).ownBlock) (.slice Ao21 t272.length co21) t272) := ⟨by (with_reducible repeat (first | apply Kd.R_alloc | apply Kd.R_drewN | apply Kd.R_drew)); exact Kd.R_mono (Kd.R_far (p := ⟨gb276, 4, none⟩) (Kd.R_far (p := ⟨gb276, 3, none⟩) (Kd.R_far (p := ⟨gb276, 2, none⟩) (Kd.R_types HO_277004.out BK276.out (by decide)) (fun _ hk => hk.2) (.int .i64 t279)) (fun _ hk => hk.2) (.string t280)) (fun _ hk => hk.2) (.slice Ao81 t281.length co81)) (fun _ hk => by first | exact hk.1.2 | exact ⟨hk.1.2, hk.2⟩ | exact ⟨hk.2, hk.1.2⟩ | exact ⟨hk.1.2, hk.1.1.2⟩ | simp_all)⟩
     have n1_ : Aside0 (Kd.R (Kd.int .i64) 3 (((w77.setCell ⟨gb276, 2, none⟩ (.int .i64 t279)).setCell ⟨gb276, 3, none⟩ (.string t280)).setCell ⟨gb276, 4, none⟩ (.slice Ao81 t281.length co81)) w.heap.size (fun k_ => some k_ ≠ (.slice Ao21 t272.length co21 : Value).ownBlock) (.slice Ao81 t281.length co81) t281) := ⟨by (with_reducible repeat (first | apply Kd.R_alloc | apply Kd.R_drewN | apply Kd.R_drew)); exact Kd.R_mono (Kd.R_far (p := ⟨gb276, 4, none⟩) (Kd.R_far (p := ⟨gb276, 3, none⟩) (Kd.R_far (p := ⟨gb276, 2, none⟩) (Kd.R_types HO283.out BK276.out (by decide)) (fun _ hk => hk.2) (.int .i64 t279)) (fun _ hk => hk.2) (.string t280)) (fun _ hk => hk.2) (.slice Ao81 t281.length co81)) (fun _ hk => by first | exact hk.1.2 | exact ⟨hk.1.2, hk.2⟩ | exact ⟨hk.2, hk.1.2⟩ | exact ⟨hk.1.2, hk.1.1.2⟩ | simp_all)⟩
     have n2_ : Aside0 ((((w77.setCell ⟨gb276, 2, none⟩ (.int .i64 t279)).setCell ⟨gb276, 3, none⟩ (.string t280)).setCell ⟨gb276, 4, none⟩ (.slice Ao81 t281.length co81)).heap[gb264]? = some (.cells #[.int .i64 a0_0, .int .i64 a0_1] 38 (0, 0))) := ⟨gI BK264.out⟩; have n3_ : Aside0 ((((w77.setCell ⟨gb276, 2, none⟩ (.int .i64 t279)).setCell ⟨gb276, 3, none⟩ (.string t280)).setCell ⟨gb276, 4, none⟩ (.slice Ao81 t281.length co81)).heap[gb265]? = some (.cells #[.int .i64 a1_0, .int .i64 a1_1, .int .i64 a1_2, .string a1_3, .slice A1_4 l1_4.length c1_4, .string a1_5] 35 (0, 0))) := ⟨gI BK265.out⟩; have n4_ : Aside0 ((((w77.setCell ⟨gb276, 2, none⟩ (.int .i64 t279)).setCell ⟨gb276, 3, none⟩ (.string t280)).setCell ⟨gb276, 4, none⟩ (.slice Ao81 t281.length co81)).heap[gb266]? = some (.cells #[.int .i64 a2_0, .string a2_1, .slice A2_2 l2_2.length c2_2] 33 (0, 0))) := ⟨gI BK266.out⟩; have n5_ : Aside0 ((((w77.setCell ⟨gb276, 2, none⟩ (.int .i64 t279)).setCell ⟨gb276, 3, none⟩ (.string t280)).setCell ⟨gb276, 4, none⟩ (.slice Ao81 t281.length co81)).heap[gb267]? = some (.cells #[.int .i64 0, .int .i64 0, .int .i64 0, .string (⟨#[]⟩ : ByteArray), .slice none 0 0, .string (⟨#[]⟩ : ByteArray)] 35 (0, 0))) := ⟨gI BK267.out⟩; have n6_ : Aside0 ((((w77.setCell ⟨gb276, 2, none⟩ (.int .i64 t279)).setCell ⟨gb276, 3, none⟩ (.string t280)).setCell ⟨gb276, 4, none⟩ (.slice Ao81 t281.length co81)).heap[gb276]? = some (.cells #[.int .i64 t268, .int .i64 t269, .int .i64 t279, .string t280, .slice Ao81 t281.length co81, .string t275] 35 (0, 0))) := ⟨pI BK276⟩
     have n7_ : Aside0 (Below w.heap.size w (((w77.setCell ⟨gb276, 2, none⟩ (.int .i64 t279)).setCell ⟨gb276, 3, none⟩ (.string t280)).setCell ⟨gb276, 4, none⟩ (.slice Ao81 t281.length co81))) := ⟨bI HB.out⟩
     (try clear HO_277004)
     (try clear HO283)
     (try clear BK264)
     (try clear BK265)
     (try clear BK266)
     (try clear BK267)
     (try clear BK276)
     (try clear HB)
     generalize (((w77.setCell ⟨gb276, 2, none⟩ (.int .i64 t279)).setCell ⟨gb276, 3, none⟩ (.string t280)).setCell ⟨gb276, 4, none⟩ (.slice Ao81 t281.length co81)) = w82 at n0_ n1_ n2_ n3_ n4_ n5_ n6_ n7_ ⊢
     have HO_277004 := n0_; have HO283 := n1_; have BK264 := n2_; have BK265 := n3_; have BK266 := n4_; have BK267 := n5_; have BK276 := n6_; have HB := n7_; clear n0_ n1_ n2_ n3_ n4_ n5_ n6_ n7_; replace HO_277004 := Aside0.mk (Kd.R_drew HO_277004.out); replace HO283 := Aside0.mk (Kd.R_drew HO283.out); replace BK264 := Aside0.mk (blk_drew BK264.out); replace BK265 := Aside0.mk (blk_drew BK265.out); replace BK266 := Aside0.mk (blk_drew BK266.out); replace BK267 := Aside0.mk (blk_drew BK267.out); replace BK276 := Aside0.mk (blk_drew BK276.out); replace HB := Aside0.mk (below_drew1 HB.out)
     refine start_ (n := 9) (S := fun w' => w'.cell? ⟨gb265, 0, none⟩ = some (.int .i64 a1_0) ∧ w'.cell? ⟨gb265, 1, none⟩ = some (.int .i64 a1_1) ∧ w'.cell? ⟨gb265, 2, none⟩ = some (.int .i64 a1_2) ∧ w'.cell? ⟨gb265, 3, none⟩ = some (.string a1_3) ∧ w'.cell? ⟨gb265, 4, none⟩ = some (.slice A1_4 l1_4.length c1_4) ∧ w'.cell? ⟨gb265, 5, none⟩ = some (.string a1_5) ∧ w'.cell? ⟨gb266, 0, none⟩ = some (.int .i64 a2_0) ∧ w'.cell? ⟨gb266, 1, none⟩ = some (.string a2_1) ∧ w'.cell? ⟨gb266, 2, none⟩ = some (.slice A2_2 l2_2.length c2_2)) (ds := []) #[false, false, false, false, false, false, false, false, false] (by kernel_rfl) rfl rfl ⟨bc0 BK265.out, bc1 BK265.out, bc2 BK265.out, bc3 BK265.out, bc4 BK265.out, bc5 BK265.out, bc0 BK266.out, bc1 BK266.out, bc2 BK266.out⟩ (fun hHeld => ?_); refine with_tabW spec_See.tab5 spec_See.bits5 (fun HT_ HW_ => ?_)
     generalize w82.drew = w83 at HO_277004 HO283 BK264 BK265 BK266 BK267 BK276 HB hHeld ⊢
     refine pA 0 (some 28) (bz 9 1) HT_ ?_
     refine pA 2 (some 30) (bz 9 5) HT_ ?_
     refine tA 1 (some 29) (bz 9 7) HT_ HW_ hHeld ?_
     refine tA 3 (some 31) (bz 9 15) HT_ HW_ hHeld ?_
     refine oA 4 (some 32) (bz 9 31) HT_ (fun K hK => ?_)
     refine gA Tryz.func68 #[.string a2_1] ?_
     with_reducible refine (spec_UpOf.calls kj4 a2_1 t284 _ A61.out).mono ?_
     rintro e w84 ⟨rfl, hb⟩
     refine ⟨_, rfl, ?_⟩
     replace HO_277004 := rb HO_277004 hb; replace HO283 := rb HO283 hb; replace BK264 := bk BK264 hb; replace BK265 := bk BK265 hb; replace BK266 := bk BK266 hb; replace BK267 := bk BK267 hb; replace BK276 := bk BK276 hb; replace HB := bs HB hb
     (try clear hb)
     (try clear hb2)
     (try clear hk)
     (try clear hi)
     refine hK.out _ _ ⟨bc0 BK265.out, bc1 BK265.out, bc2 BK265.out, bc3 BK265.out, bc4 BK265.out, bc5 BK265.out, bc0 BK266.out, bc1 BK266.out, bc2 BK266.out⟩ (fun hHeld => ?_)
     clear hK K
     refine nA (some 32) ?_
     refine oA 5 (some 33) (bz 9 63) HT_ (fun K hK => ?_)
     refine gA Tryz.func62 #[.string t284] ?_
     with_reducible refine (spec_ViewOf.calls kj4 t284 t285 _ A62.out).mono ?_
     rintro e w85 ⟨rfl, hb⟩
     refine ⟨_, rfl, ?_⟩
     replace HO_277004 := rb HO_277004 hb; replace HO283 := rb HO283 hb; replace BK264 := bk BK264 hb; replace BK265 := bk BK265 hb; replace BK266 := bk BK266 hb; replace BK267 := bk BK267 hb; replace BK276 := bk BK276 hb; replace HB := bs HB hb
     (try clear hb)
     (try clear hb2)
     (try clear hk)
     (try clear hi)
     refine hK.out _ _ ⟨bc0 BK265.out, bc1 BK265.out, bc2 BK265.out, bc3 BK265.out, bc4 BK265.out, bc5 BK265.out, bc0 BK266.out, bc1 BK266.out, bc2 BK266.out⟩ (fun hHeld => ?_)
     clear hK K
     refine nA (some 33) ?_
     refine oA 6 (some 34) (bz 9 127) HT_ (fun K hK => ?_)
     refine gA Tryz.func67 #[.int .i64 a1_1, .int .i64 t285] ?_
     with_reducible refine (spec_l1Max.calls a1_1 t285 t286 _ A63.out).mono ?_
     rintro e w' ⟨rfl, ⟨nd, rfl⟩⟩
     refine ⟨_, rfl, ?_⟩
     refine hK.out _ _ ⟨bc0 BK265.out, bc1 BK265.out, bc2 BK265.out, bc3 BK265.out, bc4 BK265.out, bc5 BK265.out, bc0 BK266.out, bc1 BK266.out, bc2 BK266.out⟩ (fun hHeld => ?_)
     clear hK K
     refine nA (some 34) ?_
     refine pA 7 (some 35) (bz 9 255) HT_ ?_
     refine oA 8 none (bz 9 511) HT_ (fun K hK => ?_)
     have hs86 : w85.cell? ⟨gb276, 1, none⟩ = some (.int .i64 t269) := bc1 BK276.out; have hfs86 := blk_frozen BK276.out 1; have hns86_0 := NB264_276.out; have hns86_1 := NB265_276.out; have hns86_2 := NB266_276.out; have hns86_3 := NB267_276.out; have hms86_0 := NB276_264.out; have hms86_1 := NB276_265.out; have hms86_2 := NB276_266.out; have hms86_3 := NB276_267.out
     refine skip_ (w1 := ?_) (by rfl) rfl ?_ ?_
     rotate_left
     ·
      go_simp
      rfl
     refine hK.out _ _ ⟨((cell_far (p := ⟨gb276, _, none⟩) NB265_276.out _).trans (hHeld.1)), ((cell_far (p := ⟨gb276, _, none⟩) NB265_276.out _).trans (hHeld.2.1)), ((cell_far (p := ⟨gb276, _, none⟩) NB265_276.out _).trans (hHeld.2.2.1)), ((cell_far (p := ⟨gb276, _, none⟩) NB265_276.out _).trans (hHeld.2.2.2.1)), ((cell_far (p := ⟨gb276, _, none⟩) NB265_276.out _).trans (hHeld.2.2.2.2.1)), ((cell_far (p := ⟨gb276, _, none⟩) NB265_276.out _).trans (hHeld.2.2.2.2.2.1)), ((cell_far (p := ⟨gb276, _, none⟩) NB266_276.out _).trans (hHeld.2.2.2.2.2.2.1)), ((cell_far (p := ⟨gb276, _, none⟩) NB266_276.out _).trans (hHeld.2.2.2.2.2.2.2.1)), ((cell_far (p := ⟨gb276, _, none⟩) NB266_276.out _).trans (hHeld.2.2.2.2.2.2.2.2))⟩ (fun hHeld => ?_)
     clear hK K
     refine done_ (done_of HT_.out (by kernel_rfl)) ?_
     have hcz87_0 := bc0 BK266.out; have hcz87_1 := bc1 BK266.out; have hcz87_2 := bc2 BK266.out; have hfz87_0 := blk_frozen BK266.out 0; have hfz87_1 := blk_frozen BK266.out 1; have hfz87_2 := blk_frozen BK266.out 2
     try go_wp2_with (first | ((with_reducible refine gate_callee (f := 69) rfl ?_); refine gB (some 39) Tryz.func69 #[.string a2_1] ?_; (with_reducible refine (spec_Settles.calls kj4 a2_1 t287 true _ A64.out).mono ?_); rintro e w88 ⟨rfl, hb⟩; refine ⟨_, rfl, ?_⟩; replace HO_277004 := Aside0.mk (Kd.R_below (rI (Kd.R_mono (Kd.R_far (p := ⟨gb276, 1, none⟩) (Kd.R_types HO_277004.out BK276.out (by decide)) (fun _ hk => hk.2) (.int .i64 t286)) (fun _ h_ => h_.1))) hb); replace HO283 := Aside0.mk (Kd.R_below (rI (Kd.R_mono (Kd.R_far (p := ⟨gb276, 1, none⟩) (Kd.R_types HO283.out BK276.out (by decide)) (fun _ hk => hk.2) (.int .i64 t286)) (fun _ h_ => h_.1))) hb); replace BK264 := Aside0.mk (blk_below (g := gb264) (o := .cells #[.int .i64 a0_0, .int .i64 a0_1] 38 (0, 0)) (gI BK264.out) hb); replace BK265 := Aside0.mk (blk_below (g := gb265) (o := .cells #[.int .i64 a1_0, .int .i64 a1_1, .int .i64 a1_2, .string a1_3, .slice A1_4 l1_4.length c1_4, .string a1_5] 35 (0, 0)) (gI BK265.out) hb); replace BK266 := Aside0.mk (blk_below (g := gb266) (o := .cells #[.int .i64 a2_0, .string a2_1, .slice A2_2 l2_2.length c2_2] 33 (0, 0)) (gI BK266.out) hb); replace BK267 := Aside0.mk (blk_below (g := gb267) (o := .cells #[.int .i64 0, .int .i64 0, .int .i64 0, .string (⟨#[]⟩ : ByteArray), .slice none 0 0, .string (⟨#[]⟩ : ByteArray)] 35 (0, 0)) (gI BK267.out) hb); replace BK276 := bp BK276 hb #[.int .i64 t268, .int .i64 t286, .int .i64 t279, .string t280, .slice Ao81 t281.length co81, .string t275]; replace HB := bs HB hb; (try clear hb); (try clear hb2); (try clear hk); (try clear hi); have hcz89_0 := bc0 BK265.out; have hcz89_1 := bc1 BK265.out; have hcz89_2 := bc2 BK265.out; have hcz89_3 := bc3 BK265.out; have hcz89_4 := bc4 BK265.out; have hcz89_5 := bc5 BK265.out; have hfz89_0 := blk_frozen BK265.out 0; have hfz89_1 := blk_frozen BK265.out 1; have hfz89_2 := blk_frozen BK265.out 2; have hfz89_3 := blk_frozen BK265.out 3; have hfz89_4 := blk_frozen BK265.out 4; have hfz89_5 := blk_frozen BK265.out 5) | (go_at_call 70; (with_reducible refine (spec_Extends.calls kj4 t287 a1_5 true _ A66.out).mono ?_); rintro e w90 ⟨rfl, hb⟩; replace HO_277004 := rb HO_277004 hb; replace HO283 := rb HO283 hb; replace BK264 := bk BK264 hb; replace BK265 := bk BK265 hb; replace BK266 := bk BK266 hb; replace BK267 := bk BK267 hb; replace BK276 := bk BK276 hb; replace HB := bs HB hb; (try clear hb); (try clear hb2); (try clear hk); (try clear hi); have hcz91_0 := bc0 BK276.out; have hcz91_1 := bc1 BK276.out; have hcz91_2 := bc2 BK276.out; have hcz91_3 := bc3 BK276.out; have hcz91_4 := bc4 BK276.out; have hcz91_5 := bc5 BK276.out; have hfz91_0 := blk_frozen BK276.out 0; have hfz91_1 := blk_frozen BK276.out 1; have hfz91_2 := blk_frozen BK276.out 2; have hfz91_3 := blk_frozen BK276.out 3; have hfz91_4 := blk_frozen BK276.out 4; have hfz91_5 := blk_frozen BK276.out 5; have hnb92 := NB267_264.out; have hnc92 := NB264_267.out; have hcz93_0 := bc0 BK267.out; have hcz93_1 := bc1 BK267.out; have hcz93_2 := bc2 BK267.out; have hcz93_3 := bc3 BK267.out; have hcz93_4 := bc4 BK267.out; have hcz93_5 := bc5 BK267.out; have hfz93_0 := blk_frozen BK267.out 0; have hfz93_1 := blk_frozen BK267.out 1; have hfz93_2 := blk_frozen BK267.out 2; have hfz93_3 := blk_frozen BK267.out 3; have hfz93_4 := blk_frozen BK267.out 4; have hfz93_5 := blk_frozen BK267.out 5))
     refine bodyPost_ret (results_cell_row rfl _ _ gb267 35 #[.int .i64 t268, .int .i64 t286, .int .i64 t279, .string t280, .slice Ao81 t281.length co81, .string t287] (0, 0) _ rfl (pI BK267) Tryz.underlying35 rfl (by kernel_rfl)) rfl ?_
     exact ⟨_, y0_6, by (with_reducible repeat (first | apply Kd.R_alloc | apply Kd.R_drewN | apply Kd.R_drew)); exact Kd.R_mono (Kd.R_far (p := ⟨gb267, 5, none⟩) (Kd.R_far (p := ⟨gb267, 4, none⟩) (Kd.R_far (p := ⟨gb267, 3, none⟩) (Kd.R_far (p := ⟨gb267, 2, none⟩) (Kd.R_far (p := ⟨gb267, 1, none⟩) (Kd.R_far (p := ⟨gb267, 0, none⟩) (Kd.R_far (p := ⟨gb276, 5, none⟩) (Kd.R_types (Kd.R_types HO283.out BK276.out (by decide)) BK267.out (by decide)) (fun _ hk => hk.1.2) (.string t287)) (fun _ hk => hk.2) (.int .i64 t268)) (fun _ hk => hk.2) (.int .i64 t286)) (fun _ hk => hk.2) (.int .i64 t279)) (fun _ hk => hk.2) (.string t280)) (fun _ hk => hk.2) (.slice Ao81 t281.length co81)) (fun _ hk => hk.2) (.string t287)) (fun _ hk => trivial), bI HB.out⟩
    replace c67 := Bool.eq_false_iff.mpr c67; subst c67
    rw [if_neg (show ¬ (false = true) by decide)] at H
    simp only [Option.some.injEq, Prod.mk.injEq] at H
    obtain ⟨rfl, rfl, rfl, rfl, rfl, rfl⟩ := H; have hnb94 := NB266_264.out; have hnc94 := NB264_266.out; have hnb95 := NB266_265.out; have hnc95 := NB265_266.out; have hnb96 := NB266_267.out; have hnc96 := NB267_266.out; have hnb97 := NB266_276.out; have hnc97 := NB276_266.out; have hcz98_0 := bc0 BK266.out; have hcz98_1 := bc1 BK266.out; have hcz98_2 := bc2 BK266.out; have hfz98_0 := blk_frozen BK266.out 0; have hfz98_1 := blk_frozen BK266.out 1; have hfz98_2 := blk_frozen BK266.out 2; have hnb99 := NB265_264.out; have hnc99 := NB264_265.out; have hnb100 := NB265_267.out; have hnc100 := NB267_265.out; have hnb101 := NB265_276.out; have hnc101 := NB276_265.out; have hcz102_0 := bc0 BK265.out; have hcz102_1 := bc1 BK265.out; have hcz102_2 := bc2 BK265.out; have hcz102_3 := bc3 BK265.out; have hcz102_4 := bc4 BK265.out; have hcz102_5 := bc5 BK265.out; have hfz102_0 := blk_frozen BK265.out 0; have hfz102_1 := blk_frozen BK265.out 1; have hfz102_2 := blk_frozen BK265.out 2; have hfz102_3 := blk_frozen BK265.out 3; have hfz102_4 := blk_frozen BK265.out 4; have hfz102_5 := blk_frozen BK265.out 5
    try go_wp2_with (first | ((with_reducible refine gate_callee (f := 58) rfl ?_); refine gB (some 26) Tryz.func58 #[.agg #[.int .i64 a2_0, .string a2_1, .slice A2_2 l2_2.length c2_2], .agg #[.int .i64 a1_2, .string a1_3, .slice A1_4 l1_4.length c1_4]] ?_; (with_reducible refine (spec_QcLater.calls a2_0 a2_1 _ _ l2_2 a1_2 a1_3 _ _ l1_4 t279 t280 t281 _ ?side1 ?side2 ?side3 ?side4 A60.out).mono ?_); (case side1 => exact ch HR2_2 HB); (case side2 => exact HC2_2.out); (case side3 => exact ch HR1_4 HB); (case side4 => exact HC1_4.out); rintro e w103 ⟨v282, rfl, ho0, hb⟩; refine ⟨_, rfl, ?_⟩; have HO283 := Aside0.mk (Kd.R_lower (Kd.R_new' ho0 (Kd.R_lt (rI HO_277004.out))) (below_size (bI HB.out))); replace HO_277004 := Aside0.mk (Kd.R_elder' (rI HO_277004.out) (Kd.R_base ho0) hb); replace BK264 := bk BK264 hb; replace BK265 := bk BK265 hb; replace BK266 := bk BK266 hb; replace BK267 := bk BK267 hb; replace BK276 := bk BK276 hb; replace HB := bs HB hb; (try clear hb); (try clear ho0); have hnb104 := NB276_264.out; have hnc104 := NB264_276.out; have hnb105 := NB276_267.out; have hnc105 := NB267_276.out; have hcz106_0 := bc0 BK276.out; have hcz106_1 := bc1 BK276.out; have hcz106_2 := bc2 BK276.out; have hcz106_3 := bc3 BK276.out; have hcz106_4 := bc4 BK276.out; have hcz106_5 := bc5 BK276.out; have hfz106_0 := blk_frozen BK276.out 0; have hfz106_1 := blk_frozen BK276.out 1; have hfz106_2 := blk_frozen BK276.out 2; have hfz106_3 := blk_frozen BK276.out 3; have hfz106_4 := blk_frozen BK276.out 4; have hfz106_5 := blk_frozen BK276.out 5; obtain ⟨Ao107, co107, eo107⟩ := Kd.R_slice HO283.out; subst eo107))
    have n0_ : Aside0 (Kd.R (Kd.int .i64) 3 (((w103.setCell ⟨gb276, 2, none⟩ (.int .i64 t279)).setCell ⟨gb276, 3, none⟩ (.string t280)).setCell ⟨gb276, 4, none⟩ (.slice Ao107 t281.length co107)) w.heap.size (fun k_ => some k_ ≠ (.slice Ao107 t281.length co107 : Value).ownBlock) (.slice Ao21 t272.length co21) t272) := ⟨by (with_reducible repeat (first | apply Kd.R_alloc | apply Kd.R_drewN | apply Kd.R_drew)); exact Kd.R_mono (Kd.R_far (p := ⟨gb276, 4, none⟩) (Kd.R_far (p := ⟨gb276, 3, none⟩) (Kd.R_far (p := ⟨gb276, 2, none⟩) (Kd.R_types HO_277004.out BK276.out (by decide)) (fun _ hk => hk.2) (.int .i64 t279)) (fun _ hk => hk.2) (.string t280)) (fun _ hk => hk.2) (.slice Ao107 t281.length co107)) (fun _ hk => by first | exact hk.1.2 | exact ⟨hk.1.2, hk.2⟩ | exact ⟨hk.2, hk.1.2⟩ | exact ⟨hk.1.2, hk.1.1.2⟩ | simp_all)⟩
    have n1_ : Aside0 (Kd.R (Kd.int .i64) 3 (((w103.setCell ⟨gb276, 2, none⟩ (.int .i64 t279)).setCell ⟨gb276, 3, none⟩ (.string t280)).setCell ⟨gb276, 4, none⟩ (.slice Ao107 t281.length co107)) w.heap.size (fun k_ => some k_ ≠ (.slice Ao21 t272.length co21 : Value).ownBlock) (.slice Ao107 t281.length co107) t281) := ⟨by (with_reducible repeat (first | apply Kd.R_alloc | apply Kd.R_drewN | apply Kd.R_drew)); exact Kd.R_mono (Kd.R_far (p := ⟨gb276, 4, none⟩) (Kd.R_far (p := ⟨gb276, 3, none⟩) (Kd.R_far (p := ⟨gb276, 2, none⟩) (Kd.R_types HO283.out BK276.out (by decide)) (fun _ hk => hk.2) (.int .i64 t279)) (fun _ hk => hk.2) (.string t280)) (fun _ hk => hk.2) (.slice Ao107 t281.length co107)) (fun _ hk => by first | exact hk.1.2 | exact ⟨hk.1.2, hk.2⟩ | exact ⟨hk.2, hk.1.2⟩ | exact ⟨hk.1.2, hk.1.1.2⟩ | simp_all)⟩
    have n2_ : Aside0 ((((w103.setCell ⟨gb276, 2, none⟩ (.int .i64 t279)).setCell ⟨gb276, 3, none⟩ (.string t280)).setCell ⟨gb276, 4, none⟩ (.slice Ao107 t281.length co107)).heap[gb264]? = some (.cells #[.int .i64 a0_0, .int .i64 a0_1] 38 (0, 0))) := ⟨gI BK264.out⟩; have n3_ : Aside0 ((((w103.setCell ⟨gb276, 2, none⟩ (.int .i64 t279)).setCell ⟨gb276, 3, none⟩ (.string t280)).setCell ⟨gb276, 4, none⟩ (.slice Ao107 t281.length co107)).heap[gb265]? = some (.cells #[.int .i64 a1_0, .int .i64 a1_1, .int .i64 a1_2, .string a1_3, .slice A1_4 l1_4.length c1_4, .string a1_5] 35 (0, 0))) := ⟨gI BK265.out⟩; have n4_ : Aside0 ((((w103.setCell ⟨gb276, 2, none⟩ (.int .i64 t279)).setCell ⟨gb276, 3, none⟩ (.string t280)).setCell ⟨gb276, 4, none⟩ (.slice Ao107 t281.length co107)).heap[gb266]? = some (.cells #[.int .i64 a2_0, .string a2_1, .slice A2_2 l2_2.length c2_2] 33 (0, 0))) := ⟨gI BK266.out⟩; have n5_ : Aside0 ((((w103.setCell ⟨gb276, 2, none⟩ (.int .i64 t279)).setCell ⟨gb276, 3, none⟩ (.string t280)).setCell ⟨gb276, 4, none⟩ (.slice Ao107 t281.length co107)).heap[gb267]? = some (.cells #[.int .i64 0, .int .i64 0, .int .i64 0, .string (⟨#[]⟩ : ByteArray), .slice none 0 0, .string (⟨#[]⟩ : ByteArray)] 35 (0, 0))) := ⟨gI BK267.out⟩; have n6_ : Aside0 ((((w103.setCell ⟨gb276, 2, none⟩ (.int .i64 t279)).setCell ⟨gb276, 3, none⟩ (.string t280)).setCell ⟨gb276, 4, none⟩ (.slice Ao107 t281.length co107)).heap[gb276]? = some (.cells #[.int .i64 t268, .int .i64 t269, .int .i64 t279, .string t280, .slice Ao107 t281.length co107, .string t275] 35 (0, 0))) := ⟨pI BK276⟩
    have n7_ : Aside0 (Below w.heap.size w (((w103.setCell ⟨gb276, 2, none⟩ (.int .i64 t279)).setCell ⟨gb276, 3, none⟩ (.string t280)).setCell ⟨gb276, 4, none⟩ (.slice Ao107 t281.length co107))) := ⟨bI HB.out⟩
    (try clear HO_277004)
    (try clear HO283)
    (try clear BK264)
    (try clear BK265)
    (try clear BK266)
    (try clear BK267)
    (try clear BK276)
    (try clear HB)
    generalize (((w103.setCell ⟨gb276, 2, none⟩ (.int .i64 t279)).setCell ⟨gb276, 3, none⟩ (.string t280)).setCell ⟨gb276, 4, none⟩ (.slice Ao107 t281.length co107)) = w108 at n0_ n1_ n2_ n3_ n4_ n5_ n6_ n7_ ⊢
    have HO_277004 := n0_; have HO283 := n1_; have BK264 := n2_; have BK265 := n3_; have BK266 := n4_; have BK267 := n5_; have BK276 := n6_; have HB := n7_; clear n0_ n1_ n2_ n3_ n4_ n5_ n6_ n7_; replace HO_277004 := Aside0.mk (Kd.R_drew HO_277004.out); replace HO283 := Aside0.mk (Kd.R_drew HO283.out); replace BK264 := Aside0.mk (blk_drew BK264.out); replace BK265 := Aside0.mk (blk_drew BK265.out); replace BK266 := Aside0.mk (blk_drew BK266.out); replace BK267 := Aside0.mk (blk_drew BK267.out); replace BK276 := Aside0.mk (blk_drew BK276.out); replace HB := Aside0.mk (below_drew1 HB.out)
    refine start_ (n := 9) (S := fun w' => w'.cell? ⟨gb265, 0, none⟩ = some (.int .i64 a1_0) ∧ w'.cell? ⟨gb265, 1, none⟩ = some (.int .i64 a1_1) ∧ w'.cell? ⟨gb265, 2, none⟩ = some (.int .i64 a1_2) ∧ w'.cell? ⟨gb265, 3, none⟩ = some (.string a1_3) ∧ w'.cell? ⟨gb265, 4, none⟩ = some (.slice A1_4 l1_4.length c1_4) ∧ w'.cell? ⟨gb265, 5, none⟩ = some (.string a1_5) ∧ w'.cell? ⟨gb266, 0, none⟩ = some (.int .i64 a2_0) ∧ w'.cell? ⟨gb266, 1, none⟩ = some (.string a2_1) ∧ w'.cell? ⟨gb266, 2, none⟩ = some (.slice A2_2 l2_2.length c2_2)) (ds := []) #[false, false, false, false, false, false, false, false, false] (by kernel_rfl) rfl rfl ⟨bc0 BK265.out, bc1 BK265.out, bc2 BK265.out, bc3 BK265.out, bc4 BK265.out, bc5 BK265.out, bc0 BK266.out, bc1 BK266.out, bc2 BK266.out⟩ (fun hHeld => ?_); refine with_tabW spec_See.tab5 spec_See.bits5 (fun HT_ HW_ => ?_)
    generalize w108.drew = w109 at HO_277004 HO283 BK264 BK265 BK266 BK267 BK276 HB hHeld ⊢
    refine pA 0 (some 28) (bz 9 1) HT_ ?_
    refine pA 2 (some 30) (bz 9 5) HT_ ?_
    refine tA 1 (some 29) (bz 9 7) HT_ HW_ hHeld ?_
    refine tA 3 (some 31) (bz 9 15) HT_ HW_ hHeld ?_
    refine oA 4 (some 32) (bz 9 31) HT_ (fun K hK => ?_)
    refine gA Tryz.func68 #[.string a2_1] ?_
    with_reducible refine (spec_UpOf.calls kj4 a2_1 t284 _ A61.out).mono ?_
    rintro e w110 ⟨rfl, hb⟩
    refine ⟨_, rfl, ?_⟩
    replace HO_277004 := rb HO_277004 hb; replace HO283 := rb HO283 hb; replace BK264 := bk BK264 hb; replace BK265 := bk BK265 hb; replace BK266 := bk BK266 hb; replace BK267 := bk BK267 hb; replace BK276 := bk BK276 hb; replace HB := bs HB hb
    (try clear hb)
    (try clear hb2)
    (try clear hk)
    (try clear hi)
    refine hK.out _ _ ⟨bc0 BK265.out, bc1 BK265.out, bc2 BK265.out, bc3 BK265.out, bc4 BK265.out, bc5 BK265.out, bc0 BK266.out, bc1 BK266.out, bc2 BK266.out⟩ (fun hHeld => ?_)
    clear hK K
    refine nA (some 32) ?_
    refine oA 5 (some 33) (bz 9 63) HT_ (fun K hK => ?_)
    refine gA Tryz.func62 #[.string t284] ?_
    with_reducible refine (spec_ViewOf.calls kj4 t284 t285 _ A62.out).mono ?_
    rintro e w111 ⟨rfl, hb⟩
    refine ⟨_, rfl, ?_⟩
    replace HO_277004 := rb HO_277004 hb; replace HO283 := rb HO283 hb; replace BK264 := bk BK264 hb; replace BK265 := bk BK265 hb; replace BK266 := bk BK266 hb; replace BK267 := bk BK267 hb; replace BK276 := bk BK276 hb; replace HB := bs HB hb
    (try clear hb)
    (try clear hb2)
    (try clear hk)
    (try clear hi)
    refine hK.out _ _ ⟨bc0 BK265.out, bc1 BK265.out, bc2 BK265.out, bc3 BK265.out, bc4 BK265.out, bc5 BK265.out, bc0 BK266.out, bc1 BK266.out, bc2 BK266.out⟩ (fun hHeld => ?_)
    clear hK K
    refine nA (some 33) ?_
    refine oA 6 (some 34) (bz 9 127) HT_ (fun K hK => ?_)
    refine gA Tryz.func67 #[.int .i64 a1_1, .int .i64 t285] ?_
    with_reducible refine (spec_l1Max.calls a1_1 t285 t286 _ A63.out).mono ?_
    rintro e w' ⟨rfl, ⟨nd, rfl⟩⟩
    refine ⟨_, rfl, ?_⟩
    refine hK.out _ _ ⟨bc0 BK265.out, bc1 BK265.out, bc2 BK265.out, bc3 BK265.out, bc4 BK265.out, bc5 BK265.out, bc0 BK266.out, bc1 BK266.out, bc2 BK266.out⟩ (fun hHeld => ?_)
    clear hK K
    refine nA (some 34) ?_
    refine pA 7 (some 35) (bz 9 255) HT_ ?_
    refine oA 8 none (bz 9 511) HT_ (fun K hK => ?_)
    have hs112 : w111.cell? ⟨gb276, 1, none⟩ = some (.int .i64 t269) := bc1 BK276.out; have hfs112 := blk_frozen BK276.out 1; have hns112_0 := NB264_276.out; have hns112_1 := NB265_276.out; have hns112_2 := NB266_276.out; have hns112_3 := NB267_276.out; have hms112_0 := NB276_264.out; have hms112_1 := NB276_265.out; have hms112_2 := NB276_266.out; have hms112_3 := NB276_267.out
    refine skip_ (w1 := ?_) (by rfl) rfl ?_ ?_
    rotate_left
    ·
     go_simp
     rfl
    refine hK.out _ _ ⟨((cell_far (p := ⟨gb276, _, none⟩) NB265_276.out _).trans (hHeld.1)), ((cell_far (p := ⟨gb276, _, none⟩) NB265_276.out _).trans (hHeld.2.1)), ((cell_far (p := ⟨gb276, _, none⟩) NB265_276.out _).trans (hHeld.2.2.1)), ((cell_far (p := ⟨gb276, _, none⟩) NB265_276.out _).trans (hHeld.2.2.2.1)), ((cell_far (p := ⟨gb276, _, none⟩) NB265_276.out _).trans (hHeld.2.2.2.2.1)), ((cell_far (p := ⟨gb276, _, none⟩) NB265_276.out _).trans (hHeld.2.2.2.2.2.1)), ((cell_far (p := ⟨gb276, _, none⟩) NB266_276.out _).trans (hHeld.2.2.2.2.2.2.1)), ((cell_far (p := ⟨gb276, _, none⟩) NB266_276.out _).trans (hHeld.2.2.2.2.2.2.2.1)), ((cell_far (p := ⟨gb276, _, none⟩) NB266_276.out _).trans (hHeld.2.2.2.2.2.2.2.2))⟩ (fun hHeld => ?_)
    clear hK K
    refine done_ (done_of HT_.out (by kernel_rfl)) ?_
    have hcz113_0 := bc0 BK266.out; have hcz113_1 := bc1 BK266.out; have hcz113_2 := bc2 BK266.out; have hfz113_0 := blk_frozen BK266.out 0; have hfz113_1 := blk_frozen BK266.out 1; have hfz113_2 := blk_frozen BK266.out 2
    try go_wp2_with (first | ((with_reducible refine gate_callee (f := 69) rfl ?_); refine gB (some 39) Tryz.func69 #[.string a2_1] ?_; (with_reducible refine (spec_Settles.calls kj4 a2_1 t287 true _ A64.out).mono ?_); rintro e w114 ⟨rfl, hb⟩; refine ⟨_, rfl, ?_⟩; replace HO_277004 := Aside0.mk (Kd.R_below (rI (Kd.R_mono (Kd.R_far (p := ⟨gb276, 1, none⟩) (Kd.R_types HO_277004.out BK276.out (by decide)) (fun _ hk => hk.2) (.int .i64 t286)) (fun _ h_ => h_.1))) hb); replace HO283 := Aside0.mk (Kd.R_below (rI (Kd.R_mono (Kd.R_far (p := ⟨gb276, 1, none⟩) (Kd.R_types HO283.out BK276.out (by decide)) (fun _ hk => hk.2) (.int .i64 t286)) (fun _ h_ => h_.1))) hb); replace BK264 := Aside0.mk (blk_below (g := gb264) (o := .cells #[.int .i64 a0_0, .int .i64 a0_1] 38 (0, 0)) (gI BK264.out) hb); replace BK265 := Aside0.mk (blk_below (g := gb265) (o := .cells #[.int .i64 a1_0, .int .i64 a1_1, .int .i64 a1_2, .string a1_3, .slice A1_4 l1_4.length c1_4, .string a1_5] 35 (0, 0)) (gI BK265.out) hb); replace BK266 := Aside0.mk (blk_below (g := gb266) (o := .cells #[.int .i64 a2_0, .string a2_1, .slice A2_2 l2_2.length c2_2] 33 (0, 0)) (gI BK266.out) hb); replace BK267 := Aside0.mk (blk_below (g := gb267) (o := .cells #[.int .i64 0, .int .i64 0, .int .i64 0, .string (⟨#[]⟩ : ByteArray), .slice none 0 0, .string (⟨#[]⟩ : ByteArray)] 35 (0, 0)) (gI BK267.out) hb); replace BK276 := bp BK276 hb #[.int .i64 t268, .int .i64 t286, .int .i64 t279, .string t280, .slice Ao107 t281.length co107, .string t275]; replace HB := bs HB hb; (try clear hb); (try clear hb2); (try clear hk); (try clear hi); have hcz115_0 := bc0 BK265.out; have hcz115_1 := bc1 BK265.out; have hcz115_2 := bc2 BK265.out; have hcz115_3 := bc3 BK265.out; have hcz115_4 := bc4 BK265.out; have hcz115_5 := bc5 BK265.out; have hfz115_0 := blk_frozen BK265.out 0; have hfz115_1 := blk_frozen BK265.out 1; have hfz115_2 := blk_frozen BK265.out 2; have hfz115_3 := blk_frozen BK265.out 3; have hfz115_4 := blk_frozen BK265.out 4; have hfz115_5 := blk_frozen BK265.out 5) | (go_at_call 70; (with_reducible refine (spec_Extends.calls kj4 t287 a1_5 false _ A66.out).mono ?_); rintro e w116 ⟨rfl, hb⟩; replace HO_277004 := rb HO_277004 hb; replace HO283 := rb HO283 hb; replace BK264 := bk BK264 hb; replace BK265 := bk BK265 hb; replace BK266 := bk BK266 hb; replace BK267 := bk BK267 hb; replace BK276 := bk BK276 hb; replace HB := bs HB hb; (try clear hb); (try clear hb2); (try clear hk); (try clear hi); have hcz117_0 := bc0 BK276.out; have hcz117_1 := bc1 BK276.out; have hcz117_2 := bc2 BK276.out; have hcz117_3 := bc3 BK276.out; have hcz117_4 := bc4 BK276.out; have hcz117_5 := bc5 BK276.out; have hfz117_0 := blk_frozen BK276.out 0; have hfz117_1 := blk_frozen BK276.out 1; have hfz117_2 := blk_frozen BK276.out 2; have hfz117_3 := blk_frozen BK276.out 3; have hfz117_4 := blk_frozen BK276.out 4; have hfz117_5 := blk_frozen BK276.out 5; have hnb118 := NB267_264.out; have hnc118 := NB264_267.out; have hcz119_0 := bc0 BK267.out; have hcz119_1 := bc1 BK267.out; have hcz119_2 := bc2 BK267.out; have hcz119_3 := bc3 BK267.out; have hcz119_4 := bc4 BK267.out; have hcz119_5 := bc5 BK267.out; have hfz119_0 := blk_frozen BK267.out 0; have hfz119_1 := blk_frozen BK267.out 1; have hfz119_2 := blk_frozen BK267.out 2; have hfz119_3 := blk_frozen BK267.out 3; have hfz119_4 := blk_frozen BK267.out 4; have hfz119_5 := blk_frozen BK267.out 5))
    refine bodyPost_ret (results_cell_row rfl _ _ gb267 35 #[.int .i64 t268, .int .i64 t286, .int .i64 t279, .string t280, .slice Ao107 t281.length co107, .string t275] (0, 0) _ rfl (pI BK267) Tryz.underlying35 rfl (by kernel_rfl)) rfl ?_
    exact ⟨_, y0_6, by (with_reducible repeat (first | apply Kd.R_alloc | apply Kd.R_drewN | apply Kd.R_drew)); exact Kd.R_mono (Kd.R_far (p := ⟨gb267, 5, none⟩) (Kd.R_far (p := ⟨gb267, 4, none⟩) (Kd.R_far (p := ⟨gb267, 3, none⟩) (Kd.R_far (p := ⟨gb267, 2, none⟩) (Kd.R_far (p := ⟨gb267, 1, none⟩) (Kd.R_far (p := ⟨gb267, 0, none⟩) (Kd.R_types HO283.out BK267.out (by decide)) (fun _ hk => hk.2) (.int .i64 t268)) (fun _ hk => hk.2) (.int .i64 t286)) (fun _ hk => hk.2) (.int .i64 t279)) (fun _ hk => hk.2) (.string t280)) (fun _ hk => hk.2) (.slice Ao107 t281.length co107)) (fun _ hk => hk.2) (.string t275)) (fun _ hk => trivial), bI HB.out⟩
   replace c65 := Bool.eq_false_iff.mpr c65; subst c65
   rw [if_neg (show ¬ (false = true) by decide)] at H
   simp only [Option.some.injEq, Prod.mk.injEq] at H
   obtain ⟨rfl, rfl, rfl, rfl, rfl, rfl⟩ := H; have hnb120 := NB266_264.out; have hnc120 := NB264_266.out; have hnb121 := NB266_265.out; have hnc121 := NB265_266.out; have hnb122 := NB266_267.out; have hnc122 := NB267_266.out; have hnb123 := NB266_276.out; have hnc123 := NB276_266.out; have hcz124_0 := bc0 BK266.out; have hcz124_1 := bc1 BK266.out; have hcz124_2 := bc2 BK266.out; have hfz124_0 := blk_frozen BK266.out 0; have hfz124_1 := blk_frozen BK266.out 1; have hfz124_2 := blk_frozen BK266.out 2; have hnb125 := NB265_264.out; have hnc125 := NB264_265.out; have hnb126 := NB265_267.out; have hnc126 := NB267_265.out; have hnb127 := NB265_276.out; have hnc127 := NB276_265.out; have hcz128_0 := bc0 BK265.out; have hcz128_1 := bc1 BK265.out; have hcz128_2 := bc2 BK265.out; have hcz128_3 := bc3 BK265.out; have hcz128_4 := bc4 BK265.out; have hcz128_5 := bc5 BK265.out; have hfz128_0 := blk_frozen BK265.out 0; have hfz128_1 := blk_frozen BK265.out 1; have hfz128_2 := blk_frozen BK265.out 2; have hfz128_3 := blk_frozen BK265.out 3; have hfz128_4 := blk_frozen BK265.out 4; have hfz128_5 := blk_frozen BK265.out 5
   try go_wp2_with (first | ((with_reducible refine gate_callee (f := 58) rfl ?_); refine gB (some 26) Tryz.func58 #[.agg #[.int .i64 a2_0, .string a2_1, .slice A2_2 l2_2.length c2_2], .agg #[.int .i64 a1_2, .string a1_3, .slice A1_4 l1_4.length c1_4]] ?_; (with_reducible refine (spec_QcLater.calls a2_0 a2_1 _ _ l2_2 a1_2 a1_3 _ _ l1_4 t279 t280 t281 _ ?side1 ?side2 ?side3 ?side4 A60.out).mono ?_); (case side1 => exact ch HR2_2 HB); (case side2 => exact HC2_2.out); (case side3 => exact ch HR1_4 HB); (case side4 => exact HC1_4.out); rintro e w129 ⟨v282, rfl, ho0, hb⟩; refine ⟨_, rfl, ?_⟩; have HO283 := Aside0.mk (Kd.R_lower (Kd.R_new' ho0 (Kd.R_lt (rI HO_277004.out))) (below_size (bI HB.out))); replace HO_277004 := Aside0.mk (Kd.R_elder' (rI HO_277004.out) (Kd.R_base ho0) hb); replace BK264 := bk BK264 hb; replace BK265 := bk BK265 hb; replace BK266 := bk BK266 hb; replace BK267 := bk BK267 hb; replace BK276 := bk BK276 hb; replace HB := bs HB hb; (try clear hb); (try clear ho0); have hnb130 := NB276_264.out; have hnc130 := NB264_276.out; have hnb131 := NB276_267.out; have hnc131 := NB267_276.out; have hcz132_0 := bc0 BK276.out; have hcz132_1 := bc1 BK276.out; have hcz132_2 := bc2 BK276.out; have hcz132_3 := bc3 BK276.out; have hcz132_4 := bc4 BK276.out; have hcz132_5 := bc5 BK276.out; have hfz132_0 := blk_frozen BK276.out 0; have hfz132_1 := blk_frozen BK276.out 1; have hfz132_2 := blk_frozen BK276.out 2; have hfz132_3 := blk_frozen BK276.out 3; have hfz132_4 := blk_frozen BK276.out 4; have hfz132_5 := blk_frozen BK276.out 5; obtain ⟨Ao133, co133, eo133⟩ := Kd.R_slice HO283.out; subst eo133))
   have n0_ : Aside0 (Kd.R (Kd.int .i64) 3 (((w129.setCell ⟨gb276, 2, none⟩ (.int .i64 t279)).setCell ⟨gb276, 3, none⟩ (.string t280)).setCell ⟨gb276, 4, none⟩ (.slice Ao133 t281.length co133)) w.heap.size (fun k_ => some k_ ≠ (.slice Ao133 t281.length co133 : Value).ownBlock) (.slice Ao21 t272.length co21) t272) := ⟨by (with_reducible repeat (first | apply Kd.R_alloc | apply Kd.R_drewN | apply Kd.R_drew)); exact Kd.R_mono (Kd.R_far (p := ⟨gb276, 4, none⟩) (Kd.R_far (p := ⟨gb276, 3, none⟩) (Kd.R_far (p := ⟨gb276, 2, none⟩) (Kd.R_types HO_277004.out BK276.out (by decide)) (fun _ hk => hk.2) (.int .i64 t279)) (fun _ hk => hk.2) (.string t280)) (fun _ hk => hk.2) (.slice Ao133 t281.length co133)) (fun _ hk => by first | exact hk.1.2 | exact ⟨hk.1.2, hk.2⟩ | exact ⟨hk.2, hk.1.2⟩ | exact ⟨hk.1.2, hk.1.1.2⟩ | simp_all)⟩
   have n1_ : Aside0 (Kd.R (Kd.int .i64) 3 (((w129.setCell ⟨gb276, 2, none⟩ (.int .i64 t279)).setCell ⟨gb276, 3, none⟩ (.string t280)).setCell ⟨gb276, 4, none⟩ (.slice Ao133 t281.length co133)) w.heap.size (fun k_ => some k_ ≠ (.slice Ao21 t272.length co21 : Value).ownBlock) (.slice Ao133 t281.length co133) t281) := ⟨by (with_reducible repeat (first | apply Kd.R_alloc | apply Kd.R_drewN | apply Kd.R_drew)); exact Kd.R_mono (Kd.R_far (p := ⟨gb276, 4, none⟩) (Kd.R_far (p := ⟨gb276, 3, none⟩) (Kd.R_far (p := ⟨gb276, 2, none⟩) (Kd.R_types HO283.out BK276.out (by decide)) (fun _ hk => hk.2) (.int .i64 t279)) (fun _ hk => hk.2) (.string t280)) (fun _ hk => hk.2) (.slice Ao133 t281.length co133)) (fun _ hk => by first | exact hk.1.2 | exact ⟨hk.1.2, hk.2⟩ | exact ⟨hk.2, hk.1.2⟩ | exact ⟨hk.1.2, hk.1.1.2⟩ | simp_all)⟩
   have n2_ : Aside0 ((((w129.setCell ⟨gb276, 2, none⟩ (.int .i64 t279)).setCell ⟨gb276, 3, none⟩ (.string t280)).setCell ⟨gb276, 4, none⟩ (.slice Ao133 t281.length co133)).heap[gb264]? = some (.cells #[.int .i64 a0_0, .int .i64 a0_1] 38 (0, 0))) := ⟨gI BK264.out⟩; have n3_ : Aside0 ((((w129.setCell ⟨gb276, 2, none⟩ (.int .i64 t279)).setCell ⟨gb276, 3, none⟩ (.string t280)).setCell ⟨gb276, 4, none⟩ (.slice Ao133 t281.length co133)).heap[gb265]? = some (.cells #[.int .i64 a1_0, .int .i64 a1_1, .int .i64 a1_2, .string a1_3, .slice A1_4 l1_4.length c1_4, .string a1_5] 35 (0, 0))) := ⟨gI BK265.out⟩; have n4_ : Aside0 ((((w129.setCell ⟨gb276, 2, none⟩ (.int .i64 t279)).setCell ⟨gb276, 3, none⟩ (.string t280)).setCell ⟨gb276, 4, none⟩ (.slice Ao133 t281.length co133)).heap[gb266]? = some (.cells #[.int .i64 a2_0, .string a2_1, .slice A2_2 l2_2.length c2_2] 33 (0, 0))) := ⟨gI BK266.out⟩; have n5_ : Aside0 ((((w129.setCell ⟨gb276, 2, none⟩ (.int .i64 t279)).setCell ⟨gb276, 3, none⟩ (.string t280)).setCell ⟨gb276, 4, none⟩ (.slice Ao133 t281.length co133)).heap[gb267]? = some (.cells #[.int .i64 0, .int .i64 0, .int .i64 0, .string (⟨#[]⟩ : ByteArray), .slice none 0 0, .string (⟨#[]⟩ : ByteArray)] 35 (0, 0))) := ⟨gI BK267.out⟩; have n6_ : Aside0 ((((w129.setCell ⟨gb276, 2, none⟩ (.int .i64 t279)).setCell ⟨gb276, 3, none⟩ (.string t280)).setCell ⟨gb276, 4, none⟩ (.slice Ao133 t281.length co133)).heap[gb276]? = some (.cells #[.int .i64 t268, .int .i64 t269, .int .i64 t279, .string t280, .slice Ao133 t281.length co133, .string t275] 35 (0, 0))) := ⟨pI BK276⟩
   have n7_ : Aside0 (Below w.heap.size w (((w129.setCell ⟨gb276, 2, none⟩ (.int .i64 t279)).setCell ⟨gb276, 3, none⟩ (.string t280)).setCell ⟨gb276, 4, none⟩ (.slice Ao133 t281.length co133))) := ⟨bI HB.out⟩
   (try clear HO_277004)
   (try clear HO283)
   (try clear BK264)
   (try clear BK265)
   (try clear BK266)
   (try clear BK267)
   (try clear BK276)
   (try clear HB)
   generalize (((w129.setCell ⟨gb276, 2, none⟩ (.int .i64 t279)).setCell ⟨gb276, 3, none⟩ (.string t280)).setCell ⟨gb276, 4, none⟩ (.slice Ao133 t281.length co133)) = w134 at n0_ n1_ n2_ n3_ n4_ n5_ n6_ n7_ ⊢
   have HO_277004 := n0_; have HO283 := n1_; have BK264 := n2_; have BK265 := n3_; have BK266 := n4_; have BK267 := n5_; have BK276 := n6_; have HB := n7_; clear n0_ n1_ n2_ n3_ n4_ n5_ n6_ n7_; replace HO_277004 := Aside0.mk (Kd.R_drew HO_277004.out); replace HO283 := Aside0.mk (Kd.R_drew HO283.out); replace BK264 := Aside0.mk (blk_drew BK264.out); replace BK265 := Aside0.mk (blk_drew BK265.out); replace BK266 := Aside0.mk (blk_drew BK266.out); replace BK267 := Aside0.mk (blk_drew BK267.out); replace BK276 := Aside0.mk (blk_drew BK276.out); replace HB := Aside0.mk (below_drew1 HB.out)
   refine start_ (n := 9) (S := fun w' => w'.cell? ⟨gb265, 0, none⟩ = some (.int .i64 a1_0) ∧ w'.cell? ⟨gb265, 1, none⟩ = some (.int .i64 a1_1) ∧ w'.cell? ⟨gb265, 2, none⟩ = some (.int .i64 a1_2) ∧ w'.cell? ⟨gb265, 3, none⟩ = some (.string a1_3) ∧ w'.cell? ⟨gb265, 4, none⟩ = some (.slice A1_4 l1_4.length c1_4) ∧ w'.cell? ⟨gb265, 5, none⟩ = some (.string a1_5) ∧ w'.cell? ⟨gb266, 0, none⟩ = some (.int .i64 a2_0) ∧ w'.cell? ⟨gb266, 1, none⟩ = some (.string a2_1) ∧ w'.cell? ⟨gb266, 2, none⟩ = some (.slice A2_2 l2_2.length c2_2)) (ds := []) #[false, false, false, false, false, false, false, false, false] (by kernel_rfl) rfl rfl ⟨bc0 BK265.out, bc1 BK265.out, bc2 BK265.out, bc3 BK265.out, bc4 BK265.out, bc5 BK265.out, bc0 BK266.out, bc1 BK266.out, bc2 BK266.out⟩ (fun hHeld => ?_); refine with_tabW spec_See.tab5 spec_See.bits5 (fun HT_ HW_ => ?_)
   generalize w134.drew = w135 at HO_277004 HO283 BK264 BK265 BK266 BK267 BK276 HB hHeld ⊢
   refine pA 0 (some 28) (bz 9 1) HT_ ?_
   refine pA 2 (some 30) (bz 9 5) HT_ ?_
   refine tA 1 (some 29) (bz 9 7) HT_ HW_ hHeld ?_
   refine tA 3 (some 31) (bz 9 15) HT_ HW_ hHeld ?_
   refine oA 4 (some 32) (bz 9 31) HT_ (fun K hK => ?_)
   refine gA Tryz.func68 #[.string a2_1] ?_
   with_reducible refine (spec_UpOf.calls kj4 a2_1 t284 _ A61.out).mono ?_
   rintro e w136 ⟨rfl, hb⟩
   refine ⟨_, rfl, ?_⟩
   replace HO_277004 := rb HO_277004 hb; replace HO283 := rb HO283 hb; replace BK264 := bk BK264 hb; replace BK265 := bk BK265 hb; replace BK266 := bk BK266 hb; replace BK267 := bk BK267 hb; replace BK276 := bk BK276 hb; replace HB := bs HB hb
   (try clear hb)
   (try clear hb2)
   (try clear hk)
   (try clear hi)
   refine hK.out _ _ ⟨bc0 BK265.out, bc1 BK265.out, bc2 BK265.out, bc3 BK265.out, bc4 BK265.out, bc5 BK265.out, bc0 BK266.out, bc1 BK266.out, bc2 BK266.out⟩ (fun hHeld => ?_)
   clear hK K
   refine nA (some 32) ?_
   refine oA 5 (some 33) (bz 9 63) HT_ (fun K hK => ?_)
   refine gA Tryz.func62 #[.string t284] ?_
   with_reducible refine (spec_ViewOf.calls kj4 t284 t285 _ A62.out).mono ?_
   rintro e w137 ⟨rfl, hb⟩
   refine ⟨_, rfl, ?_⟩
   replace HO_277004 := rb HO_277004 hb; replace HO283 := rb HO283 hb; replace BK264 := bk BK264 hb; replace BK265 := bk BK265 hb; replace BK266 := bk BK266 hb; replace BK267 := bk BK267 hb; replace BK276 := bk BK276 hb; replace HB := bs HB hb
   (try clear hb)
   (try clear hb2)
   (try clear hk)
   (try clear hi)
   refine hK.out _ _ ⟨bc0 BK265.out, bc1 BK265.out, bc2 BK265.out, bc3 BK265.out, bc4 BK265.out, bc5 BK265.out, bc0 BK266.out, bc1 BK266.out, bc2 BK266.out⟩ (fun hHeld => ?_)
   clear hK K
   refine nA (some 33) ?_
   refine oA 6 (some 34) (bz 9 127) HT_ (fun K hK => ?_)
   refine gA Tryz.func67 #[.int .i64 a1_1, .int .i64 t285] ?_
   with_reducible refine (spec_l1Max.calls a1_1 t285 t286 _ A63.out).mono ?_
   rintro e w' ⟨rfl, ⟨nd, rfl⟩⟩
   refine ⟨_, rfl, ?_⟩
   refine hK.out _ _ ⟨bc0 BK265.out, bc1 BK265.out, bc2 BK265.out, bc3 BK265.out, bc4 BK265.out, bc5 BK265.out, bc0 BK266.out, bc1 BK266.out, bc2 BK266.out⟩ (fun hHeld => ?_)
   clear hK K
   refine nA (some 34) ?_
   refine pA 7 (some 35) (bz 9 255) HT_ ?_
   refine oA 8 none (bz 9 511) HT_ (fun K hK => ?_)
   have hs138 : w137.cell? ⟨gb276, 1, none⟩ = some (.int .i64 t269) := bc1 BK276.out; have hfs138 := blk_frozen BK276.out 1; have hns138_0 := NB264_276.out; have hns138_1 := NB265_276.out; have hns138_2 := NB266_276.out; have hns138_3 := NB267_276.out; have hms138_0 := NB276_264.out; have hms138_1 := NB276_265.out; have hms138_2 := NB276_266.out; have hms138_3 := NB276_267.out
   refine skip_ (w1 := ?_) (by rfl) rfl ?_ ?_
   rotate_left
   ·
    go_simp
    rfl
   refine hK.out _ _ ⟨((cell_far (p := ⟨gb276, _, none⟩) NB265_276.out _).trans (hHeld.1)), ((cell_far (p := ⟨gb276, _, none⟩) NB265_276.out _).trans (hHeld.2.1)), ((cell_far (p := ⟨gb276, _, none⟩) NB265_276.out _).trans (hHeld.2.2.1)), ((cell_far (p := ⟨gb276, _, none⟩) NB265_276.out _).trans (hHeld.2.2.2.1)), ((cell_far (p := ⟨gb276, _, none⟩) NB265_276.out _).trans (hHeld.2.2.2.2.1)), ((cell_far (p := ⟨gb276, _, none⟩) NB265_276.out _).trans (hHeld.2.2.2.2.2.1)), ((cell_far (p := ⟨gb276, _, none⟩) NB266_276.out _).trans (hHeld.2.2.2.2.2.2.1)), ((cell_far (p := ⟨gb276, _, none⟩) NB266_276.out _).trans (hHeld.2.2.2.2.2.2.2.1)), ((cell_far (p := ⟨gb276, _, none⟩) NB266_276.out _).trans (hHeld.2.2.2.2.2.2.2.2))⟩ (fun hHeld => ?_)
   clear hK K
   refine done_ (done_of HT_.out (by kernel_rfl)) ?_
   have hcz139_0 := bc0 BK266.out; have hcz139_1 := bc1 BK266.out; have hcz139_2 := bc2 BK266.out; have hfz139_0 := blk_frozen BK266.out 0; have hfz139_1 := blk_frozen BK266.out 1; have hfz139_2 := blk_frozen BK266.out 2
   try go_wp2_with (first | ((with_reducible refine gate_callee (f := 69) rfl ?_); refine gB (some 39) Tryz.func69 #[.string a2_1] ?_; (with_reducible refine (spec_Settles.calls kj4 a2_1 t287 false _ A64.out).mono ?_); rintro e w140 ⟨rfl, hb⟩; refine ⟨_, rfl, ?_⟩; replace HO_277004 := Aside0.mk (Kd.R_below (rI (Kd.R_mono (Kd.R_far (p := ⟨gb276, 1, none⟩) (Kd.R_types HO_277004.out BK276.out (by decide)) (fun _ hk => hk.2) (.int .i64 t286)) (fun _ h_ => h_.1))) hb); replace HO283 := Aside0.mk (Kd.R_below (rI (Kd.R_mono (Kd.R_far (p := ⟨gb276, 1, none⟩) (Kd.R_types HO283.out BK276.out (by decide)) (fun _ hk => hk.2) (.int .i64 t286)) (fun _ h_ => h_.1))) hb); replace BK264 := Aside0.mk (blk_below (g := gb264) (o := .cells #[.int .i64 a0_0, .int .i64 a0_1] 38 (0, 0)) (gI BK264.out) hb); replace BK265 := Aside0.mk (blk_below (g := gb265) (o := .cells #[.int .i64 a1_0, .int .i64 a1_1, .int .i64 a1_2, .string a1_3, .slice A1_4 l1_4.length c1_4, .string a1_5] 35 (0, 0)) (gI BK265.out) hb); replace BK266 := Aside0.mk (blk_below (g := gb266) (o := .cells #[.int .i64 a2_0, .string a2_1, .slice A2_2 l2_2.length c2_2] 33 (0, 0)) (gI BK266.out) hb); replace BK267 := Aside0.mk (blk_below (g := gb267) (o := .cells #[.int .i64 0, .int .i64 0, .int .i64 0, .string (⟨#[]⟩ : ByteArray), .slice none 0 0, .string (⟨#[]⟩ : ByteArray)] 35 (0, 0)) (gI BK267.out) hb); replace BK276 := bp BK276 hb #[.int .i64 t268, .int .i64 t286, .int .i64 t279, .string t280, .slice Ao133 t281.length co133, .string t275]; replace HB := bs HB hb; (try clear hb); (try clear hb2); (try clear hk); (try clear hi); have hcz141_0 := bc0 BK276.out; have hcz141_1 := bc1 BK276.out; have hcz141_2 := bc2 BK276.out; have hcz141_3 := bc3 BK276.out; have hcz141_4 := bc4 BK276.out; have hcz141_5 := bc5 BK276.out; have hfz141_0 := blk_frozen BK276.out 0; have hfz141_1 := blk_frozen BK276.out 1; have hfz141_2 := blk_frozen BK276.out 2; have hfz141_3 := blk_frozen BK276.out 3; have hfz141_4 := blk_frozen BK276.out 4; have hfz141_5 := blk_frozen BK276.out 5; have hnb142 := NB267_264.out; have hnc142 := NB264_267.out; have hcz143_0 := bc0 BK267.out; have hcz143_1 := bc1 BK267.out; have hcz143_2 := bc2 BK267.out; have hcz143_3 := bc3 BK267.out; have hcz143_4 := bc4 BK267.out; have hcz143_5 := bc5 BK267.out; have hfz143_0 := blk_frozen BK267.out 0; have hfz143_1 := blk_frozen BK267.out 1; have hfz143_2 := blk_frozen BK267.out 2; have hfz143_3 := blk_frozen BK267.out 3; have hfz143_4 := blk_frozen BK267.out 4; have hfz143_5 := blk_frozen BK267.out 5))
   refine bodyPost_ret (results_cell_row rfl _ _ gb267 35 #[.int .i64 t268, .int .i64 t286, .int .i64 t279, .string t280, .slice Ao133 t281.length co133, .string t275] (0, 0) _ rfl (pI BK267) Tryz.underlying35 rfl (by kernel_rfl)) rfl ?_
   exact ⟨_, y0_6, by (with_reducible repeat (first | apply Kd.R_alloc | apply Kd.R_drewN | apply Kd.R_drew)); exact Kd.R_mono (Kd.R_far (p := ⟨gb267, 5, none⟩) (Kd.R_far (p := ⟨gb267, 4, none⟩) (Kd.R_far (p := ⟨gb267, 3, none⟩) (Kd.R_far (p := ⟨gb267, 2, none⟩) (Kd.R_far (p := ⟨gb267, 1, none⟩) (Kd.R_far (p := ⟨gb267, 0, none⟩) (Kd.R_types HO283.out BK267.out (by decide)) (fun _ hk => hk.2) (.int .i64 t268)) (fun _ hk => hk.2) (.int .i64 t286)) (fun _ hk => hk.2) (.int .i64 t279)) (fun _ hk => hk.2) (.string t280)) (fun _ hk => hk.2) (.slice Ao133 t281.length co133)) (fun _ hk => hk.2) (.string t275)) (fun _ hk => trivial), bI HB.out⟩

end Go.Proofs.YtemjmefacifdeaaGreatDoor.PFnSettlesThree
