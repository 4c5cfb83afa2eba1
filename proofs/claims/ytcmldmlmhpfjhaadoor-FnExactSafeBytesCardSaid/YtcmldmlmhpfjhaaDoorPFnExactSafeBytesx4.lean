-- By a program of this session, out of the translation (the print of the kit, with turns of its own). Lean checks it.
import Derived.Test.YtcmldmlmhpfjhaaDoorPFnExactSafeBytesx0
import Derived.Test.YtcmldmlmhpfjhaaDoorPFnExactSafeBytesx2
import Derived.Test.YtcmldmlmhpfjhaaDoorPFnExactSafeBytesx3
namespace Go.Proofs.YtcmldmlmhpfjhaaDoor.PFnExactSafeBytes
open Go.RowKit Go.Proofs.YtcmldmlmhpfjhaaDoorW.PrintWords Go.Proofs.YtcmldmlmhpfjhaaDoorW.PrintLast Go.Proofs.YtcmldmlmhpfjhaaDoorW.PrintMore
attribute [local go_sem] max2_int min2_int max_two min_two max_three min_three max_four min_four   -- for this text's walks alone
set_option linter.unusedVariables false
set_option linter.unusedSimpArgs false

/-! ### spec_TxOf: function 130 -/
def spec_TxOf.f (k : Nat) (a0 : ByteArray) : Option (Int × Int × Int × Int × Bool) := (spec_l2Cut.f k a0 62).bind fun bt176 => ((spec_l2Cut.f k bt176.2.1 58).bind fun bt179 => ((spec_l2Cut.f k bt179.2.1 35).bind fun bt182 => ((spec_Number.f k bt176.1).bind fun bt186 => ((spec_Number.f k bt179.1).bind fun bt188 => ((spec_Number.f k bt182.1).bind fun bt190 => ((spec_Number.f k bt182.2.1).bind fun bt192 => (if a0.toList = ([] : List UInt8) then (some (0, 0, 0, 0, false)) else ((spec_TxText.f k bt186.1 bt188.1 bt190.1 bt192.1).bind fun t194 => (if t194.toList = a0.toList then (some (bt186.1, bt188.1, bt190.1, bt192.1, true)) else (some (0, 0, 0, 0, false)))))))))))
theorem spec_TxOf.mono : ∀ a0 k, LeO (spec_TxOf.f k a0) (spec_TxOf.f (k + 1) a0) := by
  intro a0 k
  unfold spec_TxOf.f
  repeat' first
      | (with_reducible exact spec_Number.mono _ _)
      | (with_reducible exact spec_TxText.mono _ _ _ _ _)
      | (with_reducible exact spec_l2Cut.mono _ _ _)
      | (with_reducible exact LeO.refl _)
      | (with_reducible exact LeO.none _)
      | (with_reducible refine LeO.ite ?_ ?_)
      | (with_reducible refine LeO.bind ?_ (fun _ => ?_))
      | exact spec_Number.mono _ _
      | exact spec_TxText.mono _ _ _ _ _
      | exact spec_l2Cut.mono _ _ _
      | exact LeO.none _
      | refine LeO.ite ?_ ?_
      | refine LeO.bind ?_ (fun _ => ?_)
set_option maxHeartbeats 8000000 in
set_option maxRecDepth 100000 in
theorem spec_TxOf.calls (k : Nat) (a0 : ByteArray) (r1 : Int) (r2 : Int) (r3 : Int) (r4 : Int) (r5 : Bool) (w : World) (h : spec_TxOf.f k a0 = some (r1, r2, r3, r4, r5)) :
    Calls Tryd.prog 130 #[.string a0] w fun e w' => e = .returned (.tuple #[.agg #[.int .i64 r1, .int .i64 r2, .int .i64 r3, .int .i64 r4], .bool r5]) ∧ Below w.heap.size w w' := by
  have hu150 := Tryd.underlying150
  have HB := Aside0.mk (Below.refl w.heap.size w)
  have H : ((spec_l2Cut.f k a0 62).bind fun bt176 => ((spec_l2Cut.f k bt176.2.1 58).bind fun bt179 => ((spec_l2Cut.f k bt179.2.1 35).bind fun bt182 => ((spec_Number.f k bt176.1).bind fun bt186 => ((spec_Number.f k bt179.1).bind fun bt188 => ((spec_Number.f k bt182.1).bind fun bt190 => ((spec_Number.f k bt182.2.1).bind fun bt192 => (if a0.toList = ([] : List UInt8) then (some (0, 0, 0, 0, false)) else ((spec_TxText.f k bt186.1 bt188.1 bt190.1 bt192.1).bind fun t194 => (if t194.toList = a0.toList then (some (bt186.1, bt188.1, bt190.1, bt192.1, true)) else (some (0, 0, 0, 0, false)))))))))))) = some (r1, r2, r3, r4, r5) := h
  clear h
  obtain ⟨⟨t176, t177, t178⟩, A20, H⟩ := Option.bind_eq_some_iff.mp H
  try dsimp only at H
  have A2 := Aside0.mk A20
  clear A20
  obtain ⟨⟨t179, t180, t181⟩, A30, H⟩ := Option.bind_eq_some_iff.mp H
  try dsimp only at H
  have A3 := Aside0.mk A30
  clear A30
  obtain ⟨⟨t182, t183, t184⟩, A40, H⟩ := Option.bind_eq_some_iff.mp H
  try dsimp only at H
  have A4 := Aside0.mk A40
  clear A40
  obtain ⟨⟨t186, t187⟩, A50, H⟩ := Option.bind_eq_some_iff.mp H
  try dsimp only at H
  have A5 := Aside0.mk A50
  clear A50
  obtain ⟨⟨t188, t189⟩, A60, H⟩ := Option.bind_eq_some_iff.mp H
  try dsimp only at H
  have A6 := Aside0.mk A60
  clear A60
  obtain ⟨⟨t190, t191⟩, A70, H⟩ := Option.bind_eq_some_iff.mp H
  try dsimp only at H
  have A7 := Aside0.mk A70
  clear A70
  obtain ⟨⟨t192, t193⟩, A80, H⟩ := Option.bind_eq_some_iff.mp H
  try dsimp only at H
  have A8 := Aside0.mk A80
  clear A80
  by_cases c9 : a0.toList = ([] : List UInt8)
  · rw [if_pos c9] at H
    have c9b0 : (a0.toList == ([] : List UInt8)) = true := beq_iff_eq.mpr c9
    have c9b1 : (a0.toList != ([] : List UInt8)) = false := bne_eq_false_iff_eq.mpr c9
    clear c9
    simp only [Option.some.injEq, Prod.mk.injEq] at H
    obtain ⟨rfl, rfl, rfl, rfl, rfl⟩ := H
    go_enter Tryd.func130, Tryd.ntmps130
    go_wp2_with (first | ((with_reducible refine gd 2 ?_); refine bA 2 #[.int .i64 0, .int .i64 0, .int .i64 0, .int .i64 0] 150 ?_; intro gb175 hg w10 hbox hb; have BK175 := Aside0.mk (hbox); have GW175 := bg hg HB; have GJ175 := gi GW175; have GE175 := GW175; replace HB := bs HB hb; clear hb hbox hg) | ((with_reducible refine gate_callee (f := 103) rfl ?_); refine gB (some 16) Tryd.func103 #[.string a0, .int .u8 62] ?_; (with_reducible refine (spec_l2Cut.calls k a0 62 t176 t177 t178 _ A2.out).mono ?_); rintro e w' ⟨rfl, ⟨nd, rfl⟩⟩; refine ⟨_, rfl, ?_⟩; (try (rw [drewN_self w10]; generalize hq_ : World.drewN w10 _ = w10; have n0_ : Aside0 (w10.heap[gb175]? = some (.cells #[.int .i64 0, .int .i64 0, .int .i64 0, .int .i64 0] 150 (0, 0))) := ⟨y0_12⟩; have n1_ : Aside0 (Below w.heap.size w w10) := ⟨y0_13⟩; clear BK175 HB hq_; have BK175 := n0_; have HB := n1_; clear n0_ n1_))) | ((with_reducible refine gate_callee (f := 103) rfl ?_); refine gB (some 22) Tryd.func103 #[.string t177, .int .u8 58] ?_; (with_reducible refine (spec_l2Cut.calls k t177 58 t179 t180 t181 _ A3.out).mono ?_); rintro e w' ⟨rfl, ⟨nd, rfl⟩⟩; refine ⟨_, rfl, ?_⟩; (try (rw [drewN_self w10]; generalize hq_ : World.drewN w10 _ = w10; have n0_ : Aside0 (w10.heap[gb175]? = some (.cells #[.int .i64 0, .int .i64 0, .int .i64 0, .int .i64 0] 150 (0, 0))) := ⟨y0_12⟩; have n1_ : Aside0 (Below w.heap.size w w10) := ⟨y0_13⟩; clear BK175 HB hq_; have BK175 := n0_; have HB := n1_; clear n0_ n1_))) | ((with_reducible refine gate_callee (f := 103) rfl ?_); refine gB (some 28) Tryd.func103 #[.string t180, .int .u8 35] ?_; (with_reducible refine (spec_l2Cut.calls k t180 35 t182 t183 t184 _ A4.out).mono ?_); rintro e w' ⟨rfl, ⟨nd, rfl⟩⟩; refine ⟨_, rfl, ?_⟩; (try (rw [drewN_self w10]; generalize hq_ : World.drewN w10 _ = w10; have n0_ : Aside0 (w10.heap[gb175]? = some (.cells #[.int .i64 0, .int .i64 0, .int .i64 0, .int .i64 0] 150 (0, 0))) := ⟨y0_12⟩; have n1_ : Aside0 (Below w.heap.size w w10) := ⟨y0_13⟩; clear BK175 HB hq_; have BK175 := n0_; have HB := n1_; clear n0_ n1_))) | ((with_reducible refine gd 13 ?_); refine bA 13 #[.int .i64 0, .int .i64 0, .int .i64 0, .int .i64 0] 150 ?_; intro gb185 hg w11 hbox hb; have BK185 := Aside0.mk (hbox); have GW185 := bg hg HB; have GJ185 := gi GW185; have GE185 := GW185; replace HB := bs HB hb; have NB175_185 := b1 BK175 hg; have NI175_185 := ni NB175_185; have NB185_175 := b2 BK175 hg; have NI185_175 := ni NB185_175; replace BK175 := bk BK175 hb; clear hb hbox hg; have hnb12 := NB185_175.out; have hnc12 := NB175_185.out; obtain ⟨hcz13_0, hcz13_1, hcz13_2, hcz13_3, hfz13_0, hfz13_1, hfz13_2, hfz13_3⟩ := cs4 BK185) | ((with_reducible refine gate_callee (f := 104) rfl ?_); refine gB (some 35) Tryd.func104 #[.string t176] ?_; (with_reducible refine (spec_Number.calls k t176 t186 t187 _ A5.out).mono ?_); rintro e w14 ⟨rfl, hb⟩; refine ⟨_, rfl, ?_⟩; replace BK175 := Aside0.mk (blk_below (g := gb175) (o := .cells #[.int .i64 0, .int .i64 0, .int .i64 0, .int .i64 0] 150 (0, 0)) (gI BK175.out) hb); replace BK185 := bp BK185 hb #[.int .i64 0, .int .i64 0, .int .i64 0, .int .i64 0]; replace HB := bs HB hb; (try clear hb); (try clear hb2); (try clear hk); (try clear hi); obtain ⟨hcz15_0, hcz15_1, hcz15_2, hcz15_3, hfz15_0, hfz15_1, hfz15_2, hfz15_3⟩ := cs4 BK185) | ((with_reducible refine gate_callee (f := 104) rfl ?_); refine gB (some 41) Tryd.func104 #[.string t179] ?_; (with_reducible refine (spec_Number.calls k t179 t188 t189 _ A6.out).mono ?_); rintro e w16 ⟨rfl, hb⟩; refine ⟨_, rfl, ?_⟩; replace BK175 := Aside0.mk (blk_below (g := gb175) (o := .cells #[.int .i64 0, .int .i64 0, .int .i64 0, .int .i64 0] 150 (0, 0)) (gI BK175.out) hb); replace BK185 := bp BK185 hb #[.int .i64 t186, .int .i64 0, .int .i64 0, .int .i64 0]; replace HB := bs HB hb; (try clear hb); (try clear hb2); (try clear hk); (try clear hi); obtain ⟨hcz17_0, hcz17_1, hcz17_2, hcz17_3, hfz17_0, hfz17_1, hfz17_2, hfz17_3⟩ := cs4 BK185) | ((with_reducible refine gate_callee (f := 104) rfl ?_); refine gB (some 47) Tryd.func104 #[.string t182] ?_; (with_reducible refine (spec_Number.calls k t182 t190 t191 _ A7.out).mono ?_); rintro e w18 ⟨rfl, hb⟩; refine ⟨_, rfl, ?_⟩; replace BK175 := Aside0.mk (blk_below (g := gb175) (o := .cells #[.int .i64 0, .int .i64 0, .int .i64 0, .int .i64 0] 150 (0, 0)) (gI BK175.out) hb); replace BK185 := bp BK185 hb #[.int .i64 t186, .int .i64 t188, .int .i64 0, .int .i64 0]; replace HB := bs HB hb; (try clear hb); (try clear hb2); (try clear hk); (try clear hi); obtain ⟨hcz19_0, hcz19_1, hcz19_2, hcz19_3, hfz19_0, hfz19_1, hfz19_2, hfz19_3⟩ := cs4 BK185) | ((with_reducible refine gate_callee (f := 104) rfl ?_); refine gB (some 53) Tryd.func104 #[.string t183] ?_; (with_reducible refine (spec_Number.calls k t183 t192 t193 _ A8.out).mono ?_); rintro e w20 ⟨rfl, hb⟩; refine ⟨_, rfl, ?_⟩; replace BK175 := Aside0.mk (blk_below (g := gb175) (o := .cells #[.int .i64 0, .int .i64 0, .int .i64 0, .int .i64 0] 150 (0, 0)) (gI BK175.out) hb); replace BK185 := bp BK185 hb #[.int .i64 t186, .int .i64 t188, .int .i64 t190, .int .i64 0]; replace HB := bs HB hb; (try clear hb); (try clear hb2); (try clear hk); (try clear hi); obtain ⟨hcz21_0, hcz21_1, hcz21_2, hcz21_3, hfz21_0, hfz21_1, hfz21_2, hfz21_3⟩ := cs4 BK185; obtain ⟨hcz22_0, hcz22_1, hcz22_2, hcz22_3, hfz22_0, hfz22_1, hfz22_2, hfz22_3⟩ := cs4 BK175))
    refine bodyPost_ret (results_ct rfl _ _ gb175 150 #[.int .i64 0, .int .i64 0, .int .i64 0, .int .i64 0] (0, 0) _ rfl (pI BK175) Tryd.underlying150 rfl (by kernel_rfl)) rfl ?_
    exact ⟨y0_7, bI HB.out⟩
  · rw [if_neg c9] at H
    have c9b0 : (a0.toList == ([] : List UInt8)) = false := beq_eq_false_iff_ne.mpr c9
    have c9b1 : (a0.toList != ([] : List UInt8)) = true := bne_iff_ne.mpr c9
    obtain ⟨t194, A230, H⟩ := Option.bind_eq_some_iff.mp H
    try dsimp only at H
    have A23 := Aside0.mk A230
    clear A230
    by_cases c24 : t194.toList = a0.toList
    · rw [if_pos c24] at H
      have c24b0 : (t194.toList == a0.toList) = true := beq_iff_eq.mpr c24
      have c24b1 : (t194.toList != a0.toList) = false := bne_eq_false_iff_eq.mpr c24
      clear c24
      simp only [Option.some.injEq, Prod.mk.injEq] at H
      obtain ⟨rfl, rfl, rfl, rfl, rfl⟩ := H
      go_enter Tryd.func130, Tryd.ntmps130
      go_wp2_with (first | ((with_reducible refine gd 2 ?_); refine bA 2 #[.int .i64 0, .int .i64 0, .int .i64 0, .int .i64 0] 150 ?_; intro gb175 hg w25 hbox hb; have BK175 := Aside0.mk (hbox); have GW175 := bg hg HB; have GJ175 := gi GW175; have GE175 := GW175; replace HB := bs HB hb; clear hb hbox hg) | ((with_reducible refine gate_callee (f := 103) rfl ?_); refine gB (some 16) Tryd.func103 #[.string a0, .int .u8 62] ?_; (with_reducible refine (spec_l2Cut.calls k a0 62 t176 t177 t178 _ A2.out).mono ?_); rintro e w' ⟨rfl, ⟨nd, rfl⟩⟩; refine ⟨_, rfl, ?_⟩; (try (rw [drewN_self w25]; generalize hq_ : World.drewN w25 _ = w25; have n0_ : Aside0 (w25.heap[gb175]? = some (.cells #[.int .i64 0, .int .i64 0, .int .i64 0, .int .i64 0] 150 (0, 0))) := ⟨y0_12⟩; have n1_ : Aside0 (Below w.heap.size w w25) := ⟨y0_13⟩; clear BK175 HB hq_; have BK175 := n0_; have HB := n1_; clear n0_ n1_))) | ((with_reducible refine gate_callee (f := 103) rfl ?_); refine gB (some 22) Tryd.func103 #[.string t177, .int .u8 58] ?_; (with_reducible refine (spec_l2Cut.calls k t177 58 t179 t180 t181 _ A3.out).mono ?_); rintro e w' ⟨rfl, ⟨nd, rfl⟩⟩; refine ⟨_, rfl, ?_⟩; (try (rw [drewN_self w25]; generalize hq_ : World.drewN w25 _ = w25; have n0_ : Aside0 (w25.heap[gb175]? = some (.cells #[.int .i64 0, .int .i64 0, .int .i64 0, .int .i64 0] 150 (0, 0))) := ⟨y0_12⟩; have n1_ : Aside0 (Below w.heap.size w w25) := ⟨y0_13⟩; clear BK175 HB hq_; have BK175 := n0_; have HB := n1_; clear n0_ n1_))) | ((with_reducible refine gate_callee (f := 103) rfl ?_); refine gB (some 28) Tryd.func103 #[.string t180, .int .u8 35] ?_; (with_reducible refine (spec_l2Cut.calls k t180 35 t182 t183 t184 _ A4.out).mono ?_); rintro e w' ⟨rfl, ⟨nd, rfl⟩⟩; refine ⟨_, rfl, ?_⟩; (try (rw [drewN_self w25]; generalize hq_ : World.drewN w25 _ = w25; have n0_ : Aside0 (w25.heap[gb175]? = some (.cells #[.int .i64 0, .int .i64 0, .int .i64 0, .int .i64 0] 150 (0, 0))) := ⟨y0_12⟩; have n1_ : Aside0 (Below w.heap.size w w25) := ⟨y0_13⟩; clear BK175 HB hq_; have BK175 := n0_; have HB := n1_; clear n0_ n1_))) | ((with_reducible refine gd 13 ?_); refine bA 13 #[.int .i64 0, .int .i64 0, .int .i64 0, .int .i64 0] 150 ?_; intro gb185 hg w26 hbox hb; have BK185 := Aside0.mk (hbox); have GW185 := bg hg HB; have GJ185 := gi GW185; have GE185 := GW185; replace HB := bs HB hb; have NB175_185 := b1 BK175 hg; have NI175_185 := ni NB175_185; have NB185_175 := b2 BK175 hg; have NI185_175 := ni NB185_175; replace BK175 := bk BK175 hb; clear hb hbox hg; have hnb27 := NB185_175.out; have hnc27 := NB175_185.out; obtain ⟨hcz28_0, hcz28_1, hcz28_2, hcz28_3, hfz28_0, hfz28_1, hfz28_2, hfz28_3⟩ := cs4 BK185) | ((with_reducible refine gate_callee (f := 104) rfl ?_); refine gB (some 35) Tryd.func104 #[.string t176] ?_; (with_reducible refine (spec_Number.calls k t176 t186 t187 _ A5.out).mono ?_); rintro e w29 ⟨rfl, hb⟩; refine ⟨_, rfl, ?_⟩; replace BK175 := Aside0.mk (blk_below (g := gb175) (o := .cells #[.int .i64 0, .int .i64 0, .int .i64 0, .int .i64 0] 150 (0, 0)) (gI BK175.out) hb); replace BK185 := bp BK185 hb #[.int .i64 0, .int .i64 0, .int .i64 0, .int .i64 0]; replace HB := bs HB hb; (try clear hb); (try clear hb2); (try clear hk); (try clear hi); obtain ⟨hcz30_0, hcz30_1, hcz30_2, hcz30_3, hfz30_0, hfz30_1, hfz30_2, hfz30_3⟩ := cs4 BK185) | ((with_reducible refine gate_callee (f := 104) rfl ?_); refine gB (some 41) Tryd.func104 #[.string t179] ?_; (with_reducible refine (spec_Number.calls k t179 t188 t189 _ A6.out).mono ?_); rintro e w31 ⟨rfl, hb⟩; refine ⟨_, rfl, ?_⟩; replace BK175 := Aside0.mk (blk_below (g := gb175) (o := .cells #[.int .i64 0, .int .i64 0, .int .i64 0, .int .i64 0] 150 (0, 0)) (gI BK175.out) hb); replace BK185 := bp BK185 hb #[.int .i64 t186, .int .i64 0, .int .i64 0, .int .i64 0]; replace HB := bs HB hb; (try clear hb); (try clear hb2); (try clear hk); (try clear hi); obtain ⟨hcz32_0, hcz32_1, hcz32_2, hcz32_3, hfz32_0, hfz32_1, hfz32_2, hfz32_3⟩ := cs4 BK185) | ((with_reducible refine gate_callee (f := 104) rfl ?_); refine gB (some 47) Tryd.func104 #[.string t182] ?_; (with_reducible refine (spec_Number.calls k t182 t190 t191 _ A7.out).mono ?_); rintro e w33 ⟨rfl, hb⟩; refine ⟨_, rfl, ?_⟩; replace BK175 := Aside0.mk (blk_below (g := gb175) (o := .cells #[.int .i64 0, .int .i64 0, .int .i64 0, .int .i64 0] 150 (0, 0)) (gI BK175.out) hb); replace BK185 := bp BK185 hb #[.int .i64 t186, .int .i64 t188, .int .i64 0, .int .i64 0]; replace HB := bs HB hb; (try clear hb); (try clear hb2); (try clear hk); (try clear hi); obtain ⟨hcz34_0, hcz34_1, hcz34_2, hcz34_3, hfz34_0, hfz34_1, hfz34_2, hfz34_3⟩ := cs4 BK185) | ((with_reducible refine gate_callee (f := 104) rfl ?_); refine gB (some 53) Tryd.func104 #[.string t183] ?_; (with_reducible refine (spec_Number.calls k t183 t192 t193 _ A8.out).mono ?_); rintro e w35 ⟨rfl, hb⟩; refine ⟨_, rfl, ?_⟩; replace BK175 := Aside0.mk (blk_below (g := gb175) (o := .cells #[.int .i64 0, .int .i64 0, .int .i64 0, .int .i64 0] 150 (0, 0)) (gI BK175.out) hb); replace BK185 := bp BK185 hb #[.int .i64 t186, .int .i64 t188, .int .i64 t190, .int .i64 0]; replace HB := bs HB hb; (try clear hb); (try clear hb2); (try clear hk); (try clear hi); obtain ⟨hcz36_0, hcz36_1, hcz36_2, hcz36_3, hfz36_0, hfz36_1, hfz36_2, hfz36_3⟩ := cs4 BK185) | (go_at_call 147; (with_reducible refine (spec_TxText.calls k t186 t188 t190 t192 t194 _ A23.out).mono ?_); rintro e w37 ⟨rfl, hb⟩; replace BK175 := Aside0.mk (blk_below (g := gb175) (o := .cells #[.int .i64 0, .int .i64 0, .int .i64 0, .int .i64 0] 150 (0, 0)) (gI BK175.out) hb); replace BK185 := bp BK185 hb #[.int .i64 t186, .int .i64 t188, .int .i64 t190, .int .i64 t192]; replace HB := bs HB hb; (try clear hb); (try clear hb2); (try clear hk); (try clear hi); obtain ⟨hcz38_0, hcz38_1, hcz38_2, hcz38_3, hfz38_0, hfz38_1, hfz38_2, hfz38_3⟩ := cs4 BK185; obtain ⟨hcz39_0, hcz39_1, hcz39_2, hcz39_3, hfz39_0, hfz39_1, hfz39_2, hfz39_3⟩ := cs4 BK175))
      refine bodyPost_ret (results_ct rfl _ _ gb175 150 #[.int .i64 t186, .int .i64 t188, .int .i64 t190, .int .i64 t192] (0, 0) _ rfl (pI BK175) Tryd.underlying150 rfl (by kernel_rfl)) rfl ?_
      exact ⟨y0_7, bI HB.out⟩
    · rw [if_neg c24] at H
      have c24b0 : (t194.toList == a0.toList) = false := beq_eq_false_iff_ne.mpr c24
      have c24b1 : (t194.toList != a0.toList) = true := bne_iff_ne.mpr c24
      simp only [Option.some.injEq, Prod.mk.injEq] at H
      obtain ⟨rfl, rfl, rfl, rfl, rfl⟩ := H
      go_enter Tryd.func130, Tryd.ntmps130
      go_wp2_with (first | ((with_reducible refine gd 2 ?_); refine bA 2 #[.int .i64 0, .int .i64 0, .int .i64 0, .int .i64 0] 150 ?_; intro gb175 hg w40 hbox hb; have BK175 := Aside0.mk (hbox); have GW175 := bg hg HB; have GJ175 := gi GW175; have GE175 := GW175; replace HB := bs HB hb; clear hb hbox hg) | ((with_reducible refine gate_callee (f := 103) rfl ?_); refine gB (some 16) Tryd.func103 #[.string a0, .int .u8 62] ?_; (with_reducible refine (spec_l2Cut.calls k a0 62 t176 t177 t178 _ A2.out).mono ?_); rintro e w' ⟨rfl, ⟨nd, rfl⟩⟩; refine ⟨_, rfl, ?_⟩; (try (rw [drewN_self w40]; generalize hq_ : World.drewN w40 _ = w40; have n0_ : Aside0 (w40.heap[gb175]? = some (.cells #[.int .i64 0, .int .i64 0, .int .i64 0, .int .i64 0] 150 (0, 0))) := ⟨y0_12⟩; have n1_ : Aside0 (Below w.heap.size w w40) := ⟨y0_13⟩; clear BK175 HB hq_; have BK175 := n0_; have HB := n1_; clear n0_ n1_))) | ((with_reducible refine gate_callee (f := 103) rfl ?_); refine gB (some 22) Tryd.func103 #[.string t177, .int .u8 58] ?_; (with_reducible refine (spec_l2Cut.calls k t177 58 t179 t180 t181 _ A3.out).mono ?_); rintro e w' ⟨rfl, ⟨nd, rfl⟩⟩; refine ⟨_, rfl, ?_⟩; (try (rw [drewN_self w40]; generalize hq_ : World.drewN w40 _ = w40; have n0_ : Aside0 (w40.heap[gb175]? = some (.cells #[.int .i64 0, .int .i64 0, .int .i64 0, .int .i64 0] 150 (0, 0))) := ⟨y0_12⟩; have n1_ : Aside0 (Below w.heap.size w w40) := ⟨y0_13⟩; clear BK175 HB hq_; have BK175 := n0_; have HB := n1_; clear n0_ n1_))) | ((with_reducible refine gate_callee (f := 103) rfl ?_); refine gB (some 28) Tryd.func103 #[.string t180, .int .u8 35] ?_; (with_reducible refine (spec_l2Cut.calls k t180 35 t182 t183 t184 _ A4.out).mono ?_); rintro e w' ⟨rfl, ⟨nd, rfl⟩⟩; refine ⟨_, rfl, ?_⟩; (try (rw [drewN_self w40]; generalize hq_ : World.drewN w40 _ = w40; have n0_ : Aside0 (w40.heap[gb175]? = some (.cells #[.int .i64 0, .int .i64 0, .int .i64 0, .int .i64 0] 150 (0, 0))) := ⟨y0_12⟩; have n1_ : Aside0 (Below w.heap.size w w40) := ⟨y0_13⟩; clear BK175 HB hq_; have BK175 := n0_; have HB := n1_; clear n0_ n1_))) | ((with_reducible refine gd 13 ?_); refine bA 13 #[.int .i64 0, .int .i64 0, .int .i64 0, .int .i64 0] 150 ?_; intro gb185 hg w41 hbox hb; have BK185 := Aside0.mk (hbox); have GW185 := bg hg HB; have GJ185 := gi GW185; have GE185 := GW185; replace HB := bs HB hb; have NB175_185 := b1 BK175 hg; have NI175_185 := ni NB175_185; have NB185_175 := b2 BK175 hg; have NI185_175 := ni NB185_175; replace BK175 := bk BK175 hb; clear hb hbox hg; have hnb42 := NB185_175.out; have hnc42 := NB175_185.out; obtain ⟨hcz43_0, hcz43_1, hcz43_2, hcz43_3, hfz43_0, hfz43_1, hfz43_2, hfz43_3⟩ := cs4 BK185) | ((with_reducible refine gate_callee (f := 104) rfl ?_); refine gB (some 35) Tryd.func104 #[.string t176] ?_; (with_reducible refine (spec_Number.calls k t176 t186 t187 _ A5.out).mono ?_); rintro e w44 ⟨rfl, hb⟩; refine ⟨_, rfl, ?_⟩; replace BK175 := Aside0.mk (blk_below (g := gb175) (o := .cells #[.int .i64 0, .int .i64 0, .int .i64 0, .int .i64 0] 150 (0, 0)) (gI BK175.out) hb); replace BK185 := bp BK185 hb #[.int .i64 0, .int .i64 0, .int .i64 0, .int .i64 0]; replace HB := bs HB hb; (try clear hb); (try clear hb2); (try clear hk); (try clear hi); obtain ⟨hcz45_0, hcz45_1, hcz45_2, hcz45_3, hfz45_0, hfz45_1, hfz45_2, hfz45_3⟩ := cs4 BK185) | ((with_reducible refine gate_callee (f := 104) rfl ?_); refine gB (some 41) Tryd.func104 #[.string t179] ?_; (with_reducible refine (spec_Number.calls k t179 t188 t189 _ A6.out).mono ?_); rintro e w46 ⟨rfl, hb⟩; refine ⟨_, rfl, ?_⟩; replace BK175 := Aside0.mk (blk_below (g := gb175) (o := .cells #[.int .i64 0, .int .i64 0, .int .i64 0, .int .i64 0] 150 (0, 0)) (gI BK175.out) hb); replace BK185 := bp BK185 hb #[.int .i64 t186, .int .i64 0, .int .i64 0, .int .i64 0]; replace HB := bs HB hb; (try clear hb); (try clear hb2); (try clear hk); (try clear hi); obtain ⟨hcz47_0, hcz47_1, hcz47_2, hcz47_3, hfz47_0, hfz47_1, hfz47_2, hfz47_3⟩ := cs4 BK185) | ((with_reducible refine gate_callee (f := 104) rfl ?_); refine gB (some 47) Tryd.func104 #[.string t182] ?_; (with_reducible refine (spec_Number.calls k t182 t190 t191 _ A7.out).mono ?_); rintro e w48 ⟨rfl, hb⟩; refine ⟨_, rfl, ?_⟩; replace BK175 := Aside0.mk (blk_below (g := gb175) (o := .cells #[.int .i64 0, .int .i64 0, .int .i64 0, .int .i64 0] 150 (0, 0)) (gI BK175.out) hb); replace BK185 := bp BK185 hb #[.int .i64 t186, .int .i64 t188, .int .i64 0, .int .i64 0]; replace HB := bs HB hb; (try clear hb); (try clear hb2); (try clear hk); (try clear hi); obtain ⟨hcz49_0, hcz49_1, hcz49_2, hcz49_3, hfz49_0, hfz49_1, hfz49_2, hfz49_3⟩ := cs4 BK185) | ((with_reducible refine gate_callee (f := 104) rfl ?_); refine gB (some 53) Tryd.func104 #[.string t183] ?_; (with_reducible refine (spec_Number.calls k t183 t192 t193 _ A8.out).mono ?_); rintro e w50 ⟨rfl, hb⟩; refine ⟨_, rfl, ?_⟩; replace BK175 := Aside0.mk (blk_below (g := gb175) (o := .cells #[.int .i64 0, .int .i64 0, .int .i64 0, .int .i64 0] 150 (0, 0)) (gI BK175.out) hb); replace BK185 := bp BK185 hb #[.int .i64 t186, .int .i64 t188, .int .i64 t190, .int .i64 0]; replace HB := bs HB hb; (try clear hb); (try clear hb2); (try clear hk); (try clear hi); obtain ⟨hcz51_0, hcz51_1, hcz51_2, hcz51_3, hfz51_0, hfz51_1, hfz51_2, hfz51_3⟩ := cs4 BK185) | (go_at_call 147; (with_reducible refine (spec_TxText.calls k t186 t188 t190 t192 t194 _ A23.out).mono ?_); rintro e w52 ⟨rfl, hb⟩; replace BK175 := Aside0.mk (blk_below (g := gb175) (o := .cells #[.int .i64 0, .int .i64 0, .int .i64 0, .int .i64 0] 150 (0, 0)) (gI BK175.out) hb); replace BK185 := bp BK185 hb #[.int .i64 t186, .int .i64 t188, .int .i64 t190, .int .i64 t192]; replace HB := bs HB hb; (try clear hb); (try clear hb2); (try clear hk); (try clear hi); obtain ⟨hcz53_0, hcz53_1, hcz53_2, hcz53_3, hfz53_0, hfz53_1, hfz53_2, hfz53_3⟩ := cs4 BK175))
      refine bodyPost_ret (results_ct rfl _ _ gb175 150 #[.int .i64 0, .int .i64 0, .int .i64 0, .int .i64 0] (0, 0) _ rfl (pI BK175) Tryd.underlying150 rfl (by kernel_rfl)) rfl ?_
      exact ⟨y0_7, bI HB.out⟩

/-! ### spec_TxsOf: function 105 -/
def spec_TxsOf.l0 : Nat → List (S150) → List ByteArray → Int → Option ((List (S150)) × Bool)
  | 0, _, _, _ => none
  | k + 1, x4, x5, x6 => if x6 < (x5.length : Int) then (if 0 ≤ x6 then ((spec_TxOf.f k (rdOf ByteArray.empty x5 x6)).bind fun bt202 => (if bt202.2.2.2.2 = true then (if x4.length < 4398046511104 then (spec_TxsOf.l0 k (x4 ++ [(⟨bt202.1, bt202.2.1, bt202.2.2.1, bt202.2.2.2.1⟩ : S150)]) x5 (wrap64 (x6 + 1))) else (none)) else (some ((([] : List (S150))), false)))) else (none)) else (some (x4, true))
def spec_TxsOf.f (k : Nat) (a0 : ByteArray) : Option ((List (S150)) × Bool) := (some (([] : List (S150)) : List (S150))).bind fun y195 => (if a0.toList = ([] : List UInt8) then (some (y195, true)) else ((spec_Split.f k a0 44).bind fun t198 => (spec_TxsOf.l0 k y195 t198 0)))
theorem spec_TxsOf.mono_l : ∀ k, (∀ y0 y1 y2, LeO (spec_TxsOf.l0 k y0 y1 y2) (spec_TxsOf.l0 (k + 1) y0 y1 y2))
  | 0 => fun _ _ _ r h => by simp [spec_TxsOf.l0] at h
  | k + 1 => by
    have ih0 := spec_TxsOf.mono_l k
    · intro y0 y1 y2
      unfold spec_TxsOf.l0
      repeat' first
      | (with_reducible exact ih0 _ _ _)
      | (with_reducible exact spec_Split.mono _ _ _)
      | (with_reducible exact spec_TxOf.mono _ _)
      | (with_reducible exact LeO.refl _)
      | (with_reducible exact LeO.none _)
      | (with_reducible refine LeO.ite ?_ ?_)
      | (with_reducible refine LeO.bind ?_ (fun _ => ?_))
      | exact ih0 _ _ _
      | exact spec_Split.mono _ _ _
      | exact spec_TxOf.mono _ _
      | exact LeO.none _
      | refine LeO.ite ?_ ?_
      | refine LeO.bind ?_ (fun _ => ?_)
theorem spec_TxsOf.mono : ∀ a0 k, LeO (spec_TxsOf.f k a0) (spec_TxsOf.f (k + 1) a0) := by
  intro a0 k
  have ih0 := spec_TxsOf.mono_l k
  unfold spec_TxsOf.f
  repeat' first
      | (with_reducible exact ih0 _ _ _)
      | (with_reducible exact spec_Split.mono _ _ _)
      | (with_reducible exact spec_TxOf.mono _ _)
      | (with_reducible exact LeO.refl _)
      | (with_reducible exact LeO.none _)
      | (with_reducible refine LeO.ite ?_ ?_)
      | (with_reducible refine LeO.bind ?_ (fun _ => ?_))
      | exact ih0 _ _ _
      | exact spec_Split.mono _ _ _
      | exact spec_TxOf.mono _ _
      | exact LeO.none _
      | refine LeO.ite ?_ ?_
      | refine LeO.bind ?_ (fun _ => ?_)
set_option maxHeartbeats 8000000 in
set_option maxRecDepth 100000 in
theorem spec_TxsOf.calls (k : Nat) (a0 : ByteArray) (r1 : List (S150)) (r2 : Bool) (w : World) (h : spec_TxsOf.f k a0 = some (r1, r2)) :
    Calls Tryd.prog 105 #[.string a0] w fun e w' => ∃ v0_ : Value, e = .returned (.tuple #[v0_, .bool r2]) ∧ Kd.R k150 150 w' w.heap.size (fun _ => True) v0_ r1 ∧ Below w.heap.size w w' := by
  have hu150 := Tryd.underlying150
  have HB := Aside0.mk (Below.refl w.heap.size w)
  have H : ((some (([] : List (S150)) : List (S150))).bind fun y195 => (if a0.toList = ([] : List UInt8) then (some (y195, true)) else ((spec_Split.f k a0 44).bind fun t198 => (spec_TxsOf.l0 k y195 t198 0)))) = some (r1, r2) := h
  clear h
  obtain ⟨y195, hy195⟩ : ∃ y_ : List (S150), y_ = (([] : List (S150))) := ⟨_, rfl⟩
  replace H : (if a0.toList = ([] : List UInt8) then (some (y195, true)) else ((spec_Split.f k a0 44).bind fun t198 => (spec_TxsOf.l0 k y195 t198 0))) = some (r1, r2) := by first | (rw [hy195]; with_reducible exact H) | (have H2_ := (Option.bind_some _ _).symm.trans H; rw [hy195]; with_reducible exact H2_) | (have H2_ := (Option.bind_some _ _).symm.trans H; with_reducible exact H2_) | with_reducible exact H | (rw [hy195]; exact H) | exact H
  have Ny195 := Aside0.mk hy195
  clear hy195
  by_cases c2 : a0.toList = ([] : List UInt8)
  · rw [if_pos c2] at H
    have c2b0 : (a0.toList == ([] : List UInt8)) = true := beq_iff_eq.mpr c2
    have c2b1 : (a0.toList != ([] : List UInt8)) = false := bne_eq_false_iff_eq.mpr c2
    clear c2
    simp only [Option.some.injEq, Prod.mk.injEq] at H
    obtain ⟨rfl, rfl⟩ := H
    go_enter Tryd.func105, Tryd.ntmps105
    go_wp2_with (first | ((with_reducible refine gate_dst (N := 9) rfl ?_); refine Kd.R_lit k150 _ 150 ?hg (N := 9) ?hd (xs := ([] : List (S150))) (inner := []) (ok := fun _ => True) (okp := fun _ => True) ?hr ?hp (fun _ hk => hk) trivial (Below.refl _ _) (Nat.le_refl _) (by simp) ?_; (case hd => rfl); (case hg => rfl); (case hr => first | (go_simp; done) | (go_simp; rfl)); (case hp => exact (Reps.none _ _)); intro v196 w3 ho4 hb hg_ hnew_; clear hg_ hnew_; (first | rw [← Ny195.out] at ho4 | (simp only [Int.reduceToNat] at ho4; rw [← Ny195.out] at ho4)); have HO197 := Aside0.mk (Kd.R_lower ho4 (below_size (bI HB.out))); replace HB := bs HB hb; clear hb ho4))
    go_ret2
    exact ⟨_, y0_7, by (with_reducible repeat (first | apply Kd.R_alloc | apply Kd.R_drewN | apply Kd.R_drew)); exact HO197.out, bI HB.out⟩
  · rw [if_neg c2] at H
    have c2b0 : (a0.toList == ([] : List UInt8)) = false := beq_eq_false_iff_ne.mpr c2
    have c2b1 : (a0.toList != ([] : List UInt8)) = true := bne_iff_ne.mpr c2
    obtain ⟨t198, A50, H⟩ := Option.bind_eq_some_iff.mp H
    try dsimp only at H
    have A5 := Aside0.mk A50
    clear A50
    have H' := Aside0.mk H
    clear H
    go_enter Tryd.func105, Tryd.ntmps105
    go_wp2_with (first | ((with_reducible refine gate_dst (N := 9) rfl ?_); refine Kd.R_lit k150 _ 150 ?hg (N := 9) ?hd (xs := ([] : List (S150))) (inner := []) (ok := fun _ => True) (okp := fun _ => True) ?hr ?hp (fun _ hk => hk) trivial (Below.refl _ _) (Nat.le_refl _) (by simp) ?_; (case hd => rfl); (case hg => rfl); (case hr => first | (go_simp; done) | (go_simp; rfl)); (case hp => exact (Reps.none _ _)); intro v196 w6 ho7 hb hg_ hnew_; clear hg_ hnew_; (first | rw [← Ny195.out] at ho7 | (simp only [Int.reduceToNat] at ho7; rw [← Ny195.out] at ho7)); have HO197 := Aside0.mk (Kd.R_lower ho7 (below_size (bI HB.out))); replace HB := bs HB hb; clear hb ho7) | ((with_reducible refine gate_callee (f := 102) rfl ?_); refine gB (some 14) Tryd.func102 #[.string a0, .int .u8 44] ?_; (with_reducible refine (spec_Split.calls k a0 44 t198 _ A5.out).mono ?_); rintro e w8 ⟨v199, rfl, ho0, hb⟩; refine ⟨_, rfl, ?_⟩; replace HO197 := rb HO197 hb; have HO200 := Aside0.mk (Kd.R_lower ho0 (below_size (bI HB.out))); replace HB := bs HB hb; (try clear hb); (try clear ho0)))
    go_loopg [4, 6] k (fun kq v4 v6 w' => ∃ (x4_1 : List (S150)) (x6_1 : Int), v6 = .int .i64 x6_1 ∧ Aside0 (spec_TxsOf.l0 kq x4_1 t198 x6_1 = some (r1, r2)) ∧ Aside0 (kq ≤ k) ∧ Aside0 (Kd.R k150 150 w' w.heap.size (fun _ => True) v4 x4_1) ∧ Aside0 (Kd.R Kd.string 9 w' w.heap.size (fun _ => True) v199 t198) ∧ Aside0 (Below w.heap.size w w'))
    case atStart => exact ⟨(y195), (0), y0_10, H', ⟨Nat.le_refl _⟩, ⟨by (with_reducible repeat (first | apply Kd.R_alloc | apply Kd.R_drewN | apply Kd.R_drew)); exact HO197.out⟩, ⟨by (with_reducible repeat (first | apply Kd.R_alloc | apply Kd.R_drewN | apply Kd.R_drew)); exact HO200.out⟩, ⟨bI HB.out⟩⟩
    case round =>
      clear H'
      try clear c1
      try clear c2
      try clear c2b0
      try clear c2b1
      try clear p2
      obtain ⟨x4_1, x6_1, rfl, HA, HK1, HO_4, HO_5, HB⟩ := hrel
      cases gk with
      | zero => exact absurd HA.out (by simp [spec_TxsOf.l0])
      | succ k1 =>
        have H := HA.out
        clear HA
        simp only [spec_TxsOf.l0] at H
        by_cases c9 : x6_1 < (t198.length : Int)
        · rw [if_pos c9] at H
          have c9b0 : decide (x6_1 < (t198.length : Int)) = true := decide_eq_true c9
          clear c9
          by_cases c10 : 0 ≤ x6_1
          rotate_left
          · rw [if_neg c10] at H
            exact absurd H (by simp)
          rw [if_pos c10] at H
          have c10b0 : decide (0 ≤ x6_1) = true := decide_eq_true c10
          clear c10
          obtain ⟨⟨t202, t203, t204, t205, t206⟩, A110, H⟩ := Option.bind_eq_some_iff.mp H
          try dsimp only at H
          have A11 := Aside0.mk A110
          clear A110
          by_cases c12 : t206 = true
          · subst c12
            rw [if_pos rfl] at H
            by_cases c13 : x4_1.length < 4398046511104
            rotate_left
            · rw [if_neg c13] at H
              exact absurd H (by simp)
            rw [if_pos c13] at H
            have LMc13 := Aside0.mk c13
            clear c13
            obtain ⟨y208, hy208⟩ : ∃ y_ : List (S150), y_ = (x4_1 ++ [(⟨t202, t203, t204, t205⟩ : S150)]) := ⟨_, rfl⟩
            replace H : (spec_TxsOf.l0 k1 y208 t198 (wrap64 (x6_1 + 1))) = some (r1, r2) := by first | (rw [hy208]; with_reducible exact H) | (have H2_ := (Option.bind_some _ _).symm.trans H; rw [hy208]; with_reducible exact H2_) | (have H2_ := (Option.bind_some _ _).symm.trans H; with_reducible exact H2_) | with_reducible exact H | (rw [hy208]; exact H) | exact H
            have Ny208 := Aside0.mk hy208
            clear hy208
            have H' := Aside0.mk H
            clear H
            obtain ⟨Ao14, co14, eo14⟩ := Kd.R_slice HO_5.out
            subst eo14
            have p201 : 0 ≤ (x6_1 : Int) := of_decide_eq_true y0_9
            have q201 : x6_1 < (t198.length : Int) := of_decide_eq_true y0_9
            obtain ⟨ad201, e201, hx201_0⟩ := Kd.at_string (Kd.R_reads' HO_5.out).2.2 x6_1 p201 q201
            cases e201
            replace p201 := eq_true p201
            replace q201 := eq_true q201
            go_wp2_with (first | ((with_reducible refine gate_callee (f := 130) rfl ?_); refine gB (some 26) Tryd.func130 #[.string (rdOf ByteArray.empty t198 x6_1)] ?_; (with_reducible refine (spec_TxOf.calls k1 (rdOf ByteArray.empty t198 x6_1) t202 t203 t204 t205 true _ A11.out).mono ?_); rintro e w15 ⟨rfl, hb⟩; refine ⟨_, rfl, ?_⟩; replace HO_4 := rb HO_4 hb; replace HO_5 := rb HO_5 hb; replace HB := bs HB hb; (try clear hb); (try clear hb2); (try clear hk); (try clear hi)) | ((with_reducible refine gd 7 ?_); refine bA 7 #[.int .i64 0, .int .i64 0, .int .i64 0, .int .i64 0] 150 ?_; intro gb207 hg w16 hbox hb; replace HO_4 := Aside0.mk (Kd.R_below (Kd.R_elderB (rI HO_4.out) gb207 (Nat.le_of_eq hg.symm)) hb); replace HO_5 := rb HO_5 hb; have BK207 := Aside0.mk (hbox); have GW207 := bg hg HB; have GJ207 := gi GW207; have GE207 := GW207; replace HB := bs HB hb; clear hb hbox hg; obtain ⟨hcz17_0, hcz17_1, hcz17_2, hcz17_3, hfz17_0, hfz17_1, hfz17_2, hfz17_3⟩ := cs4 BK207) | ((with_reducible refine gate_builtin (b := .append) (xs := #[.tmp 32, .tmp 34]) rfl ?_); at_builtin; refine Kd.R_append k150 (w0 := w) w.heap.size rfl (.tmp 32) (.tmp 34) 93 150 (.agg #[(.int .i64 0), (.int .i64 0), (.int .i64 0), (.int .i64 0)]) 32 rfl Tryd.underlying93 info150 rfl (by decide) (by omega) u4 x4_1 (⟨t202, t203, t204, t205⟩ : S150) [.int .i64 t202, .int .i64 t203, .int .i64 t204, .int .i64 t205] (fun k_ => k_ ≠ gb207) (fun _ => False) rfl (by first | (go_simp; done) | (go_simp; rfl)) ?aP (fun _ hk => hk.elim) ?aF ?aO ?aB ?aS ?aL ?_; (case aP => exact k150_mkM _ _ _ (⟨t202, t203, t204, t205⟩ : S150)); (case aB => exact (bI HB.out)); (case aF => exact (fun k_ hk => Kd.freshB (g := gb207) (o := .cells #[.int .i64 t202, .int .i64 t203, .int .i64 t204, .int .i64 t205] 150 (0, 0)) (pI BK207) k_ hk)); (case aO => exact (rI (Kd.R_mono (Kd.R_far (p := ⟨gb207, 3, none⟩) (Kd.R_far (p := ⟨gb207, 2, none⟩) (Kd.R_far (p := ⟨gb207, 1, none⟩) (Kd.R_far (p := ⟨gb207, 0, none⟩) (Kd.R_mono HO_4.out (fun k_ hk => (⟨hk, hk.2⟩ : _ ∧ k_ ≠ gb207))) (fun _ hk => hk.2) (.int .i64 t202)) (fun _ hk => hk.2) (.int .i64 t203)) (fun _ hk => hk.2) (.int .i64 t204)) (fun _ hk => hk.2) (.int .i64 t205)) (fun _ hk => hk.1.2)))); (case aS => exact (below_size (bI HB.out))); (case aL => have := LMc13.out; omega); intro v209 w18 ho hb hg hat; rw [← Ny208.out] at ho; have n0_ := Aside0.mk (Kd.R_over' (rI (Kd.R_mono (Kd.R_far (p := ⟨gb207, 3, none⟩) (Kd.R_far (p := ⟨gb207, 2, none⟩) (Kd.R_far (p := ⟨gb207, 1, none⟩) (Kd.R_far (p := ⟨gb207, 0, none⟩) (Kd.R_types HO_5.out BK207.out (by decide)) (fun _ hk => hk.2) (.int .i64 t202)) (fun _ hk => hk.2) (.int .i64 t203)) (fun _ hk => hk.2) (.int .i64 t204)) (fun _ hk => hk.2) (.int .i64 t205)) (fun _ h_ => h_.1))) (Kd.R_typed (rI (Kd.R_mono (Kd.R_far (p := ⟨gb207, 3, none⟩) (Kd.R_far (p := ⟨gb207, 2, none⟩) (Kd.R_far (p := ⟨gb207, 1, none⟩) (Kd.R_far (p := ⟨gb207, 0, none⟩) (Kd.R_mono HO_4.out (fun k_ hk => (⟨hk, hk.2⟩ : _ ∧ k_ ≠ gb207))) (fun _ hk => hk.2) (.int .i64 t202)) (fun _ hk => hk.2) (.int .i64 t203)) (fun _ hk => hk.2) (.int .i64 t204)) (fun _ hk => hk.2) (.int .i64 t205)) (fun _ h_ => h_.1)))) (by decide) hg); have n1_ := Aside0.mk (blk_grown (g := gb207) (o := .cells #[.int .i64 t202, .int .i64 t203, .int .i64 t204, .int .i64 t205] 150 (0, 0)) (pI BK207) hg (Kd.R_away HO_4.out (fun _ hk => hk.2))); have n2_ := Aside0.mk (hb); have n3_ := Aside0.mk (ho); clear HO_5; clear BK207; clear HB; clear HO_4; have HO_5 := n0_; have BK207 := n1_; have HB := n2_; have HO210 := n3_; clear n0_ n1_ n2_ n3_; clear ho hb hg hat))
            go_roundg k1
            case measure => have := HK1.out; omega
            case rel => exact ⟨(y208), (wrap64 (x6_1 + 1)), y0_10, H', ⟨y0_14⟩, ⟨by (with_reducible repeat (first | apply Kd.R_alloc | apply Kd.R_drewN | apply Kd.R_drew)); exact Kd.R_mono HO210.out (fun _ hk => trivial)⟩, ⟨y0_6⟩, ⟨bI HB.out⟩⟩
          · replace c12 := Bool.eq_false_iff.mpr c12
            subst c12
            rw [if_neg (show ¬ (false = true) by decide)] at H
            obtain ⟨y211, hy211⟩ : ∃ y_ : List (S150), y_ = (([] : List (S150))) := ⟨_, rfl⟩
            replace H : (some (y211, false)) = some (r1, r2) := by first | (rw [hy211]; with_reducible exact H) | (have H2_ := (Option.bind_some _ _).symm.trans H; rw [hy211]; with_reducible exact H2_) | (have H2_ := (Option.bind_some _ _).symm.trans H; with_reducible exact H2_) | with_reducible exact H | (rw [hy211]; exact H) | exact H
            have Ny211 := Aside0.mk hy211
            clear hy211
            simp only [Option.some.injEq, Prod.mk.injEq] at H
            obtain ⟨rfl, rfl⟩ := H
            obtain ⟨Ao19, co19, eo19⟩ := Kd.R_slice HO_5.out
            subst eo19
            have p201 : 0 ≤ (x6_1 : Int) := of_decide_eq_true y0_9
            have q201 : x6_1 < (t198.length : Int) := of_decide_eq_true y0_9
            obtain ⟨ad201, e201, hx201_0⟩ := Kd.at_string (Kd.R_reads' HO_5.out).2.2 x6_1 p201 q201
            cases e201
            replace p201 := eq_true p201
            replace q201 := eq_true q201
            go_wp2_with (first | ((with_reducible refine gate_callee (f := 130) rfl ?_); refine gB (some 26) Tryd.func130 #[.string (rdOf ByteArray.empty t198 x6_1)] ?_; (with_reducible refine (spec_TxOf.calls k1 (rdOf ByteArray.empty t198 x6_1) t202 t203 t204 t205 false _ A11.out).mono ?_); rintro e w20 ⟨rfl, hb⟩; refine ⟨_, rfl, ?_⟩; replace HO_4 := rb HO_4 hb; replace HO_5 := rb HO_5 hb; replace HB := bs HB hb; (try clear hb); (try clear hb2); (try clear hk); (try clear hi)) | ((with_reducible refine gd 7 ?_); refine bA 7 #[.int .i64 0, .int .i64 0, .int .i64 0, .int .i64 0] 150 ?_; intro gb207 hg w21 hbox hb; replace HO_4 := Aside0.mk (Kd.R_below (Kd.R_elderB (rI HO_4.out) gb207 (Nat.le_of_eq hg.symm)) hb); replace HO_5 := rb HO_5 hb; have BK207 := Aside0.mk (hbox); have GW207 := bg hg HB; have GJ207 := gi GW207; have GE207 := GW207; replace HB := bs HB hb; clear hb hbox hg; obtain ⟨hcz22_0, hcz22_1, hcz22_2, hcz22_3, hfz22_0, hfz22_1, hfz22_2, hfz22_3⟩ := cs4 BK207) | ((with_reducible refine gate_dst (N := 31) rfl ?_); refine Kd.R_lit k150 _ 150 ?hg (N := 31) ?hd (xs := ([] : List (S150))) (inner := []) (ok := fun _ => True) (okp := fun _ => True) ?hr ?hp (fun _ hk => hk) trivial (Below.refl _ _) (Nat.le_refl _) (by simp) ?_; (case hd => rfl); (case hg => rfl); (case hr => first | (go_simp; done) | (go_simp; rfl)); (case hp => exact (Reps.none _ _)); intro v212 w23 ho24 hb hg_ hnew_; clear hg_ hnew_; (first | rw [← Ny211.out] at ho24 | (simp only [Int.reduceToNat] at ho24; rw [← Ny211.out] at ho24)); replace HO_5 := Aside0.mk (Kd.R_below (rI (Kd.R_mono (Kd.R_far (p := ⟨gb207, 3, none⟩) (Kd.R_far (p := ⟨gb207, 2, none⟩) (Kd.R_far (p := ⟨gb207, 1, none⟩) (Kd.R_far (p := ⟨gb207, 0, none⟩) (Kd.R_types HO_5.out BK207.out (by decide)) (fun _ hk => hk.2) (.int .i64 t202)) (fun _ hk => hk.2) (.int .i64 t203)) (fun _ hk => hk.2) (.int .i64 t204)) (fun _ hk => hk.2) (.int .i64 t205)) (fun _ h_ => h_.1))) hb); have HO213 := Aside0.mk (Kd.R_lower (Kd.R_newB (Kd.R_new' ho24 (Kd.R_lt (rI (Kd.R_mono (Kd.R_far (p := ⟨gb207, 3, none⟩) (Kd.R_far (p := ⟨gb207, 2, none⟩) (Kd.R_far (p := ⟨gb207, 1, none⟩) (Kd.R_far (p := ⟨gb207, 0, none⟩) (Kd.R_mono HO_4.out (fun k_ hk => (⟨hk, hk.2⟩ : _ ∧ k_ ≠ gb207))) (fun _ hk => hk.2) (.int .i64 t202)) (fun _ hk => hk.2) (.int .i64 t203)) (fun _ hk => hk.2) (.int .i64 t204)) (fun _ hk => hk.2) (.int .i64 t205)) (fun _ h_ => h_.1))))) (g := gb207) (o := .cells #[.int .i64 t202, .int .i64 t203, .int .i64 t204, .int .i64 t205] 150 (0, 0)) (pI BK207)) (below_size (bI HB.out))); replace HO_4 := Aside0.mk (Kd.R_elder' (rI (Kd.R_mono (Kd.R_far (p := ⟨gb207, 3, none⟩) (Kd.R_far (p := ⟨gb207, 2, none⟩) (Kd.R_far (p := ⟨gb207, 1, none⟩) (Kd.R_far (p := ⟨gb207, 0, none⟩) (Kd.R_mono HO_4.out (fun k_ hk => (⟨hk, hk.2⟩ : _ ∧ k_ ≠ gb207))) (fun _ hk => hk.2) (.int .i64 t202)) (fun _ hk => hk.2) (.int .i64 t203)) (fun _ hk => hk.2) (.int .i64 t204)) (fun _ hk => hk.2) (.int .i64 t205)) (fun _ h_ => h_.1))) (Kd.R_base ho24) hb); replace BK207 := bp BK207 hb #[.int .i64 t202, .int .i64 t203, .int .i64 t204, .int .i64 t205]; replace HB := bs HB hb; clear hb ho24))
            go_ret2
            exact ⟨_, y0_7, by (with_reducible repeat (first | apply Kd.R_alloc | apply Kd.R_drewN | apply Kd.R_drew)); exact Kd.R_mono HO213.out (fun _ hk => trivial), bI HB.out⟩
        · rw [if_neg c9] at H
          have c9b0 : decide (x6_1 < (t198.length : Int)) = false := decide_eq_false c9
          clear c9
          simp only [Option.some.injEq, Prod.mk.injEq] at H
          obtain ⟨rfl, rfl⟩ := H
          obtain ⟨Ao25, co25, eo25⟩ := Kd.R_slice HO_5.out
          subst eo25
          go_wp2
          go_ret2
          exact ⟨_, y0_7, by (with_reducible repeat (first | apply Kd.R_alloc | apply Kd.R_drewN | apply Kd.R_drew)); exact HO_4.out, bI HB.out⟩

/-! ### spec_Steps: function 65 -/
mutual
def spec_Steps.j0 : Nat → List (S95) → List (S95) → List ByteArray → Bool → Option ((List (S95)) × Bool)
  | 0, _, _, _, _ => none
  | k + 1, x4, x5, x6, x31 => if x31 = true then (some (x4, false)) else (spec_Steps.l0 k x4 x5 x6 0 1)
def spec_Steps.l0 : Nat → List (S95) → List (S95) → List ByteArray → Int → Int → Option ((List (S95)) × Bool)
  | 0, _, _, _, _, _ => none
  | k + 1, x4, x5, x6, x7, x8 => if x8 < (x6.length : Int) then (if 0 ≤ x8 then ((spec_l2Cut.f k (rdOf ByteArray.empty x6 x8) 124).bind fun bt225 => ((spec_Number.f k bt225.1).bind fun bt228 => ((spec_TxsOf.f k bt225.2.1).bind fun bt230 => (if bt225.2.2 = true then (if bt228.2 = true then (if bt230.2 = true then (if bt228.1 ≤ x7 then (some (x4, false)) else (if bt228.1 > 60 then (some (x4, false)) else (if (bt230.1.length : Int) > 2 then (some (x4, false)) else (if x5.length < 4398046511104 then (spec_Steps.l0 k x4 (x5 ++ [(⟨bt228.1, bt230.1⟩ : S95)]) x6 bt228.1 (wrap64 (x8 + 1))) else (none))))) else (some (x4, false))) else (some (x4, false))) else (some (x4, false)))))) else (none)) else (some (x5, true))
end
def spec_Steps.f (k : Nat) (a0 : ByteArray) : Option ((List (S95)) × Bool) := (some (([] : List (S95)) : List (S95))).bind fun y214 => ((some (([] : List (S95)) : List (S95))).bind fun y217 => (if a0.toList = ([] : List UInt8) then (some (y217, true)) else ((spec_Split.f k a0 47).bind fun t220 => (if 0 < (t220.length : Int) then (if (rdOf ByteArray.empty t220 0).toList = ([] : List UInt8) then (spec_Steps.j0 k y214 y217 t220 (decide ((t220.length : Int) > 31))) else (spec_Steps.j0 k y214 y217 t220 true)) else (none)))))
theorem spec_Steps.mono_l : ∀ k, (∀ y0 y1 y2 y3, LeO (spec_Steps.j0 k y0 y1 y2 y3) (spec_Steps.j0 (k + 1) y0 y1 y2 y3)) ∧ (∀ y0 y1 y2 y3 y4, LeO (spec_Steps.l0 k y0 y1 y2 y3 y4) (spec_Steps.l0 (k + 1) y0 y1 y2 y3 y4))
  | 0 => ⟨fun _ _ _ _ r h => by simp [spec_Steps.j0] at h, fun _ _ _ _ _ r h => by simp [spec_Steps.l0] at h⟩
  | k + 1 => by
    obtain ⟨ih0, ih1⟩ := spec_Steps.mono_l k
    refine ⟨?_, ?_⟩
    · intro y0 y1 y2 y3
      unfold spec_Steps.j0
      repeat' first
      | (with_reducible exact ih0 _ _ _ _)
      | (with_reducible exact ih1 _ _ _ _ _)
      | (with_reducible exact spec_Number.mono _ _)
      | (with_reducible exact spec_Split.mono _ _ _)
      | (with_reducible exact spec_TxsOf.mono _ _)
      | (with_reducible exact spec_l2Cut.mono _ _ _)
      | (with_reducible exact LeO.refl _)
      | (with_reducible exact LeO.none _)
      | (with_reducible refine LeO.ite ?_ ?_)
      | (with_reducible refine LeO.bind ?_ (fun _ => ?_))
      | exact ih0 _ _ _ _
      | exact ih1 _ _ _ _ _
      | exact spec_Number.mono _ _
      | exact spec_Split.mono _ _ _
      | exact spec_TxsOf.mono _ _
      | exact spec_l2Cut.mono _ _ _
      | exact LeO.none _
      | refine LeO.ite ?_ ?_
      | refine LeO.bind ?_ (fun _ => ?_)
    · intro y0 y1 y2 y3 y4
      unfold spec_Steps.l0
      repeat' first
      | (with_reducible exact ih0 _ _ _ _)
      | (with_reducible exact ih1 _ _ _ _ _)
      | (with_reducible exact spec_Number.mono _ _)
      | (with_reducible exact spec_Split.mono _ _ _)
      | (with_reducible exact spec_TxsOf.mono _ _)
      | (with_reducible exact spec_l2Cut.mono _ _ _)
      | (with_reducible exact LeO.refl _)
      | (with_reducible exact LeO.none _)
      | (with_reducible refine LeO.ite ?_ ?_)
      | (with_reducible refine LeO.bind ?_ (fun _ => ?_))
      | exact ih0 _ _ _ _
      | exact ih1 _ _ _ _ _
      | exact spec_Number.mono _ _
      | exact spec_Split.mono _ _ _
      | exact spec_TxsOf.mono _ _
      | exact spec_l2Cut.mono _ _ _
      | exact LeO.none _
      | refine LeO.ite ?_ ?_
      | refine LeO.bind ?_ (fun _ => ?_)
theorem spec_Steps.mono : ∀ a0 k, LeO (spec_Steps.f k a0) (spec_Steps.f (k + 1) a0) := by
  intro a0 k
  obtain ⟨ih0, ih1⟩ := spec_Steps.mono_l k
  unfold spec_Steps.f
  repeat' first
      | (with_reducible exact ih0 _ _ _ _)
      | (with_reducible exact ih1 _ _ _ _ _)
      | (with_reducible exact spec_Number.mono _ _)
      | (with_reducible exact spec_Split.mono _ _ _)
      | (with_reducible exact spec_TxsOf.mono _ _)
      | (with_reducible exact spec_l2Cut.mono _ _ _)
      | (with_reducible exact LeO.refl _)
      | (with_reducible exact LeO.none _)
      | (with_reducible refine LeO.ite ?_ ?_)
      | (with_reducible refine LeO.bind ?_ (fun _ => ?_))
      | exact ih0 _ _ _ _
      | exact ih1 _ _ _ _ _
      | exact spec_Number.mono _ _
      | exact spec_Split.mono _ _ _
      | exact spec_TxsOf.mono _ _
      | exact spec_l2Cut.mono _ _ _
      | exact LeO.none _
      | refine LeO.ite ?_ ?_
      | refine LeO.bind ?_ (fun _ => ?_)
set_option maxHeartbeats 8000000 in
set_option maxRecDepth 100000 in
theorem spec_Steps.calls (k : Nat) (a0 : ByteArray) (r1 : List (S95)) (r2 : Bool) (w : World) (h : spec_Steps.f k a0 = some (r1, r2)) :
    Calls Tryd.prog 65 #[.string a0] w fun e w' => ∃ v0_ : Value, e = .returned (.tuple #[v0_, .bool r2]) ∧ Kd.S k95 95 w' w.heap.size (fun _ => True) v0_ r1 ∧ Below w.heap.size w w' := by
  have hu95 := Tryd.underlying95
  have HB := Aside0.mk (Below.refl w.heap.size w)
  have H : ((some (([] : List (S95)) : List (S95))).bind fun y214 => ((some (([] : List (S95)) : List (S95))).bind fun y217 => (if a0.toList = ([] : List UInt8) then (some (y217, true)) else ((spec_Split.f k a0 47).bind fun t220 => (if 0 < (t220.length : Int) then (if (rdOf ByteArray.empty t220 0).toList = ([] : List UInt8) then (spec_Steps.j0 k y214 y217 t220 (decide ((t220.length : Int) > 31))) else (spec_Steps.j0 k y214 y217 t220 true)) else (none)))))) = some (r1, r2) := h
  clear h
  obtain ⟨y214, hy214⟩ : ∃ y_ : List (S95), y_ = (([] : List (S95))) := ⟨_, rfl⟩
  replace H : ((some (([] : List (S95)) : List (S95))).bind fun y217 => (if a0.toList = ([] : List UInt8) then (some (y217, true)) else ((spec_Split.f k a0 47).bind fun t220 => (if 0 < (t220.length : Int) then (if (rdOf ByteArray.empty t220 0).toList = ([] : List UInt8) then (spec_Steps.j0 k y214 y217 t220 (decide ((t220.length : Int) > 31))) else (spec_Steps.j0 k y214 y217 t220 true)) else (none))))) = some (r1, r2) := by first | (rw [hy214]; with_reducible exact H) | (have H2_ := (Option.bind_some _ _).symm.trans H; rw [hy214]; with_reducible exact H2_) | (have H2_ := (Option.bind_some _ _).symm.trans H; with_reducible exact H2_) | with_reducible exact H | (rw [hy214]; exact H) | exact H
  have Ny214 := Aside0.mk hy214
  clear hy214
  obtain ⟨y217, hy217⟩ : ∃ y_ : List (S95), y_ = (([] : List (S95))) := ⟨_, rfl⟩
  replace H : (if a0.toList = ([] : List UInt8) then (some (y217, true)) else ((spec_Split.f k a0 47).bind fun t220 => (if 0 < (t220.length : Int) then (if (rdOf ByteArray.empty t220 0).toList = ([] : List UInt8) then (spec_Steps.j0 k y214 y217 t220 (decide ((t220.length : Int) > 31))) else (spec_Steps.j0 k y214 y217 t220 true)) else (none)))) = some (r1, r2) := by first | (rw [hy217]; with_reducible exact H) | (have H2_ := (Option.bind_some _ _).symm.trans H; rw [hy217]; with_reducible exact H2_) | (have H2_ := (Option.bind_some _ _).symm.trans H; with_reducible exact H2_) | with_reducible exact H | (rw [hy217]; exact H) | exact H
  have Ny217 := Aside0.mk hy217
  clear hy217
  by_cases c2 : a0.toList = ([] : List UInt8)
  · rw [if_pos c2] at H
    have c2b0 : (a0.toList == ([] : List UInt8)) = true := beq_iff_eq.mpr c2
    have c2b1 : (a0.toList != ([] : List UInt8)) = false := bne_eq_false_iff_eq.mpr c2
    clear c2
    simp only [Option.some.injEq, Prod.mk.injEq] at H
    obtain ⟨rfl, rfl⟩ := H
    go_enter Tryd.func65, Tryd.ntmps65
    go_wp2_with (first | ((with_reducible refine gate_dst (N := 16) rfl ?_); (try (refine gate_guard (by rfl) ?_; dsimp only)); refine Kd.S_lit k95 _ 95 ?hg (N := 16) ?hd (xs := ([] : List (S95))) (inner := []) (ok := fun _ => True) (okp := fun _ => True) ?hr ?hp (fun _ hk => hk) trivial (Below.refl _ _) (Nat.le_refl _) (by simp) ?_; (case hd => rfl); (case hg => rfl); (case hr => first | (go_simp; done) | (go_simp; rfl)); (case hp => exact (Reps.none _ _)); intro v215 w3 ho4 hb hg_ hnew_; clear hg_ hnew_; (first | rw [← Ny214.out] at ho4 | (simp only [Int.reduceToNat] at ho4; rw [← Ny214.out] at ho4)); have HO216 := Aside0.mk (Kd.S_lower ho4 (below_size (bI HB.out))); replace HB := bs HB hb; clear hb ho4) | ((with_reducible refine gate_dst (N := 17) rfl ?_); (try (refine gate_guard (by rfl) ?_; dsimp only)); refine Kd.S_lit k95 _ 95 ?hg (N := 17) ?hd (xs := ([] : List (S95))) (inner := []) (ok := fun _ => True) (okp := fun _ => True) ?hr ?hp (fun _ hk => hk) trivial (Below.refl _ _) (Nat.le_refl _) (by simp) ?_; (case hd => rfl); (case hg => rfl); (case hr => first | (go_simp; done) | (go_simp; rfl)); (case hp => exact (Reps.none _ _)); intro v218 w5 ho6 hb hg_ hnew_; clear hg_ hnew_; (first | rw [← Ny217.out] at ho6 | (simp only [Int.reduceToNat] at ho6; rw [← Ny217.out] at ho6)); have HO219 := Aside0.mk (Kd.S_lower (Kd.S_new' ho6 (Kd.S_lt (sI HO216.out))) (below_size (bI HB.out))); replace HO216 := Aside0.mk (Kd.S_elder' (sI HO216.out) (Kd.S_base ho6) hb); replace HB := bs HB hb; clear hb ho6))
    go_ret2
    exact ⟨_, y0_7, by (with_reducible repeat (first | apply Kd.S_alloc | apply Kd.S_drewN | apply Kd.S_drew)); exact Kd.S_mono HO219.out (fun _ hk => trivial), bI HB.out⟩
  · rw [if_neg c2] at H
    have c2b0 : (a0.toList == ([] : List UInt8)) = false := beq_eq_false_iff_ne.mpr c2
    have c2b1 : (a0.toList != ([] : List UInt8)) = true := bne_iff_ne.mpr c2
    obtain ⟨t220, A70, H⟩ := Option.bind_eq_some_iff.mp H
    try dsimp only at H
    have A7 := Aside0.mk A70
    clear A70
    have HC8 := Aside0.mk H
    clear H
    go_enter Tryd.func65, Tryd.ntmps65
    go_upto_region 6 with (first | ((with_reducible refine gate_dst (N := 16) rfl ?_); (try (refine gate_guard (by rfl) ?_; dsimp only)); refine Kd.S_lit k95 _ 95 ?hg (N := 16) ?hd (xs := ([] : List (S95))) (inner := []) (ok := fun _ => True) (okp := fun _ => True) ?hr ?hp (fun _ hk => hk) trivial (Below.refl _ _) (Nat.le_refl _) (by simp) ?_; (case hd => rfl); (case hg => rfl); (case hr => first | (go_simp; done) | (go_simp; rfl)); (case hp => exact (Reps.none _ _)); intro v215 w9 ho10 hb hg_ hnew_; clear hg_ hnew_; (first | rw [← Ny214.out] at ho10 | (simp only [Int.reduceToNat] at ho10; rw [← Ny214.out] at ho10)); have HO216 := Aside0.mk (Kd.S_lower ho10 (below_size (bI HB.out))); replace HB := bs HB hb; clear hb ho10) | ((with_reducible refine gate_dst (N := 17) rfl ?_); (try (refine gate_guard (by rfl) ?_; dsimp only)); refine Kd.S_lit k95 _ 95 ?hg (N := 17) ?hd (xs := ([] : List (S95))) (inner := []) (ok := fun _ => True) (okp := fun _ => True) ?hr ?hp (fun _ hk => hk) trivial (Below.refl _ _) (Nat.le_refl _) (by simp) ?_; (case hd => rfl); (case hg => rfl); (case hr => first | (go_simp; done) | (go_simp; rfl)); (case hp => exact (Reps.none _ _)); intro v218 w11 ho12 hb hg_ hnew_; clear hg_ hnew_; (first | rw [← Ny217.out] at ho12 | (simp only [Int.reduceToNat] at ho12; rw [← Ny217.out] at ho12)); have HO219 := Aside0.mk (Kd.S_lower (Kd.S_new' ho12 (Kd.S_lt (sI HO216.out))) (below_size (bI HB.out))); replace HO216 := Aside0.mk (Kd.S_elder' (sI HO216.out) (Kd.S_base ho12) hb); replace HB := bs HB hb; clear hb ho12) | ((with_reducible refine gate_callee (f := 102) rfl ?_); refine gB (some 22) Tryd.func102 #[.string a0, .int .u8 47] ?_; (with_reducible refine (spec_Split.calls k a0 47 t220 _ A7.out).mono ?_); rintro e w13 ⟨v221, rfl, ho0, hb⟩; refine ⟨_, rfl, ?_⟩; replace HO216 := sb HO216 hb; replace HO219 := sb HO219 hb; have HO222 := Aside0.mk (Kd.R_lower ho0 (below_size (bI HB.out))); replace HB := bs HB hb; (try clear hb); (try clear ho0)))
    (try simp only [Act.put, List.setIfInBounds_toArray, List.set_cons_zero, List.set_cons_succ])
    go_cut [31] (fun v31 wc => ∃ (kq : Nat) (x31_7 : Bool), v31 = .bool x31_7 ∧ Aside0 (spec_Steps.j0 kq y214 y217 t220 x31_7 = some (r1, r2)) ∧ Aside0 (kq ≤ k) ∧ Aside0 (Kd.S k95 95 wc w.heap.size (fun k_ => some k_ ≠ (v218 : Value).ownBlock) v215 y214) ∧ Aside0 (Kd.S k95 95 wc w.heap.size (fun k_ => some k_ ≠ (v215 : Value).ownBlock) v218 y217) ∧ Aside0 (Kd.R Kd.string 9 wc w.heap.size (fun _ => True) v221 t220) ∧ Aside0 (Below w.heap.size w wc))
    case first =>
      have H := HC8.out
      clear HC8
      by_cases c14 : 0 < (t220.length : Int)
      rotate_left
      · rw [if_neg c14] at H
        exact absurd H (by simp)
      rw [if_pos c14] at H
      have c14b0 : decide (0 < (t220.length : Int)) = true := decide_eq_true c14
      have c14b1 : decide (0 < t220.length) = true := decide_eq_true (by omega)
      clear c14
      (first | rw [c14b0] | (simp only [i64_w, i32_w]; rw [c14b0]) | skip)
      by_cases c15 : (rdOf ByteArray.empty t220 0).toList = ([] : List UInt8)
      · rw [if_pos c15] at H
        have c15b0 : ((rdOf ByteArray.empty t220 0).toList == ([] : List UInt8)) = true := beq_iff_eq.mpr c15
        have c15b1 : ((rdOf ByteArray.empty t220 0).toList != ([] : List UInt8)) = false := bne_eq_false_iff_eq.mpr c15
        clear c15
        have H' := Aside0.mk H
        clear H
        obtain ⟨Ao16, co16, eo16⟩ := Kd.R_slice HO222.out
        subst eo16
        have p223 : 0 ≤ (0 : Int) := (by omega)
        have q223 : 0 < (t220.length : Int) := of_decide_eq_true y0_9
        obtain ⟨ad223, e223, hx223_0⟩ := Kd.at_string (Kd.R_reads' HO222.out).2.2 0 p223 q223
        cases e223
        have qi223 : (0 < t220.length) = True := eq_true (by omega)
        (try rw [show ((0 : Int)).toNat = 0 from rfl] at hx223_0)
        (try rw [Addr.add_zero'] at hx223_0)
        replace p223 := eq_true p223
        replace q223 := eq_true q223
        go_wp2
        go_meet
        case rel => exact ⟨_, (decide ((t220.length : Int) > 31)), y0_10, H', ⟨y0_11⟩, ⟨by (with_reducible repeat (first | apply Kd.S_alloc | apply Kd.S_drewN | apply Kd.S_drew)); exact Kd.S_mono HO216.out (fun _ hk => hk.2)⟩, ⟨by (with_reducible repeat (first | apply Kd.S_alloc | apply Kd.S_drewN | apply Kd.S_drew)); exact Kd.S_mono HO219.out (fun _ hk => hk.2)⟩, ⟨by (with_reducible repeat (first | apply Kd.R_alloc | apply Kd.R_drewN | apply Kd.R_drew)); exact HO222.out⟩, ⟨bI HB.out⟩⟩
      · rw [if_neg c15] at H
        have c15b0 : ((rdOf ByteArray.empty t220 0).toList == ([] : List UInt8)) = false := beq_eq_false_iff_ne.mpr c15
        have c15b1 : ((rdOf ByteArray.empty t220 0).toList != ([] : List UInt8)) = true := bne_iff_ne.mpr c15
        have H' := Aside0.mk H
        clear H
        obtain ⟨Ao17, co17, eo17⟩ := Kd.R_slice HO222.out
        subst eo17
        have p223 : 0 ≤ (0 : Int) := (by omega)
        have q223 : 0 < (t220.length : Int) := of_decide_eq_true y0_9
        obtain ⟨ad223, e223, hx223_0⟩ := Kd.at_string (Kd.R_reads' HO222.out).2.2 0 p223 q223
        cases e223
        have qi223 : (0 < t220.length) = True := eq_true (by omega)
        (try rw [show ((0 : Int)).toNat = 0 from rfl] at hx223_0)
        (try rw [Addr.add_zero'] at hx223_0)
        replace p223 := eq_true p223
        replace q223 := eq_true q223
        go_wp2
        go_meet
        case rel => exact ⟨_, (true), y0_10, H', ⟨y0_11⟩, ⟨by (with_reducible repeat (first | apply Kd.S_alloc | apply Kd.S_drewN | apply Kd.S_drew)); exact Kd.S_mono HO216.out (fun _ hk => hk.2)⟩, ⟨by (with_reducible repeat (first | apply Kd.S_alloc | apply Kd.S_drewN | apply Kd.S_drew)); exact Kd.S_mono HO219.out (fun _ hk => hk.2)⟩, ⟨by (with_reducible repeat (first | apply Kd.R_alloc | apply Kd.R_drewN | apply Kd.R_drew)); exact HO222.out⟩, ⟨bI HB.out⟩⟩
    case rest =>
      clear HC8
      try clear c1
      try clear c2
      try clear c2b0
      try clear c2b1
      try clear p2
      try clear q2
      try clear hx2
      try clear qi2
      try clear c6
      try clear c10
      try clear c14
      try clear c14b0
      try clear c14b1
      try clear c15
      try clear c15b0
      try clear c15b1
      try clear hx223_0
      try clear p223
      try clear q223
      obtain ⟨kq, x31_7, rfl, HA, HJ7, HO_4, HO_5, HO_6, HB⟩ := hcut
      cases kq with
      | zero => exact absurd HA.out (by simp [spec_Steps.j0])
      | succ kj7 =>
        have H := HA.out
        clear HA
        simp only [spec_Steps.j0] at H
        by_cases c18 : x31_7 = true
        · subst c18
          rw [if_pos rfl] at H
          simp only [Option.some.injEq, Prod.mk.injEq] at H
          obtain ⟨rfl, rfl⟩ := H
          go_wp2
          go_ret2
          exact ⟨_, y0_7, y0_2, bI HB.out⟩
        · replace c18 := Bool.eq_false_iff.mpr c18
          subst c18
          rw [if_neg (show ¬ (false = true) by decide)] at H
          have H' := Aside0.mk H
          clear H
          go_wp2
          go_loopg [5, 7, 8] kj7 (fun kq v5 v7 v8 w' => ∃ (x5_2 : List (S95)) (x7_2 : Int) (x8_2 : Int), v7 = .int .i64 x7_2 ∧ v8 = .int .i64 x8_2 ∧ Aside0 (spec_Steps.l0 kq y214 x5_2 t220 x7_2 x8_2 = some (r1, r2)) ∧ Aside0 (kq ≤ kj7) ∧ Aside0 (Kd.S k95 95 w' w.heap.size (fun k_ => some k_ ≠ (v5 : Value).ownBlock) v215 y214) ∧ Aside0 (Kd.S k95 95 w' w.heap.size (fun k_ => some k_ ≠ (v215 : Value).ownBlock) v5 x5_2) ∧ Aside0 (Kd.R Kd.string 9 w' w.heap.size (fun _ => True) v221 t220) ∧ Aside0 (Below w.heap.size w w'))
          case atStart => exact ⟨(y217), (0), (1), y0_10, y0_10, H', ⟨Nat.le_refl _⟩, ⟨by (with_reducible repeat (first | apply Kd.S_alloc | apply Kd.S_drewN | apply Kd.S_drew)); exact HO_4.out⟩, ⟨by (with_reducible repeat (first | apply Kd.S_alloc | apply Kd.S_drewN | apply Kd.S_drew)); exact HO_5.out⟩, ⟨by (with_reducible repeat (first | apply Kd.R_alloc | apply Kd.R_drewN | apply Kd.R_drew)); exact HO_6.out⟩, ⟨bI HB.out⟩⟩
          case round =>
            clear H'
            try clear c1
            try clear c2
            try clear c2b0
            try clear c2b1
            try clear p2
            try clear q2
            try clear hx2
            try clear qi2
            try clear c6
            try clear c10
            try clear c14
            try clear c14b0
            try clear c14b1
            try clear c15
            try clear c15b0
            try clear c15b1
            try clear c18
            try clear hx223_0
            try clear p2
            try clear p223
            try clear q2
            try clear q223
            obtain ⟨x5_2, x7_2, x8_2, rfl, rfl, HA, HK2, HO_4, HO_5, HO_6, HB⟩ := hrel
            cases gk with
            | zero => exact absurd HA.out (by simp [spec_Steps.l0])
            | succ k2 =>
              have H := HA.out
              clear HA
              simp only [spec_Steps.l0] at H
              by_cases c19 : x8_2 < (t220.length : Int)
              · rw [if_pos c19] at H
                have c19b0 : decide (x8_2 < (t220.length : Int)) = true := decide_eq_true c19
                clear c19
                by_cases c20 : 0 ≤ x8_2
                rotate_left
                · rw [if_neg c20] at H
                  exact absurd H (by simp)
                rw [if_pos c20] at H
                have c20b0 : decide (0 ≤ x8_2) = true := decide_eq_true c20
                clear c20
                obtain ⟨⟨t225, t226, t227⟩, A210, H⟩ := Option.bind_eq_some_iff.mp H
                try dsimp only at H
                have A21 := Aside0.mk A210
                clear A210
                obtain ⟨⟨t228, t229⟩, A220, H⟩ := Option.bind_eq_some_iff.mp H
                try dsimp only at H
                have A22 := Aside0.mk A220
                clear A220
                obtain ⟨⟨t230, t231⟩, A230, H⟩ := Option.bind_eq_some_iff.mp H
                try dsimp only at H
                have A23 := Aside0.mk A230
                clear A230
                by_cases c24 : t227 = true
                · subst c24
                  rw [if_pos rfl] at H
                  by_cases c25 : t229 = true
                  · subst c25
                    rw [if_pos rfl] at H
                    by_cases c26 : t231 = true
                    · subst c26
                      rw [if_pos rfl] at H
                      by_cases c27 : t228 ≤ x7_2
                      · rw [if_pos c27] at H
                        have c27b0 : decide (t228 ≤ x7_2) = true := decide_eq_true c27
                        clear c27
                        simp only [Option.some.injEq, Prod.mk.injEq] at H
                        obtain ⟨rfl, rfl⟩ := H
                        obtain ⟨Ao28, co28, eo28⟩ := Kd.R_slice HO_6.out
                        subst eo28
                        have p224 : 0 ≤ (x8_2 : Int) := of_decide_eq_true y0_9
                        have q224 : x8_2 < (t220.length : Int) := of_decide_eq_true y0_9
                        obtain ⟨ad224, e224, hx224_0⟩ := Kd.at_string (Kd.R_reads' HO_6.out).2.2 x8_2 p224 q224
                        cases e224
                        replace p224 := eq_true p224
                        replace q224 := eq_true q224
                        go_wp2_with (first | ((with_reducible refine gate_callee (f := 103) rfl ?_); refine gB (some 44) Tryd.func103 #[.string (rdOf ByteArray.empty t220 x8_2), .int .u8 124] ?_; (with_reducible refine (spec_l2Cut.calls k2 (rdOf ByteArray.empty t220 x8_2) 124 t225 t226 true _ A21.out).mono ?_); rintro e w' ⟨rfl, ⟨nd, rfl⟩⟩; refine ⟨_, rfl, ?_⟩) | ((with_reducible refine gate_callee (f := 104) rfl ?_); refine gB (some 50) Tryd.func104 #[.string t225] ?_; (with_reducible refine (spec_Number.calls k2 t225 t228 true _ A22.out).mono ?_); rintro e w29 ⟨rfl, hb⟩; refine ⟨_, rfl, ?_⟩; replace HO_4 := sb HO_4 hb; replace HO_5 := sb HO_5 hb; replace HO_6 := rb HO_6 hb; replace HB := bs HB hb; (try clear hb); (try clear hb2); (try clear hk); (try clear hi)) | ((with_reducible refine gate_callee (f := 105) rfl ?_); refine gB (some 55) Tryd.func105 #[.string t226] ?_; (with_reducible refine (spec_TxsOf.calls k2 t226 t230 true _ A23.out).mono ?_); rintro e w30 ⟨v232, rfl, ho0, hb⟩; refine ⟨_, rfl, ?_⟩; replace HO_4 := Aside0.mk (Kd.S_elder' (sI HO_4.out) (Kd.R_base ho0) hb); replace HO_5 := Aside0.mk (Kd.S_elder' (sI HO_5.out) (Kd.R_base ho0) hb); replace HO_6 := rb HO_6 hb; have HO233 := Aside0.mk (Kd.R_lower ho0 (below_size (bI HB.out))); replace HB := bs HB hb; (try clear hb)))
                        go_ret2
                        exact ⟨_, y0_7, y0_2, bI HB.out⟩
                      · rw [if_neg c27] at H
                        have c27b0 : decide (t228 ≤ x7_2) = false := decide_eq_false c27
                        clear c27
                        by_cases c31 : t228 > 60
                        · rw [if_pos c31] at H
                          have c31b0 : decide (60 < t228) = true := decide_eq_true c31
                          clear c31
                          simp only [Option.some.injEq, Prod.mk.injEq] at H
                          obtain ⟨rfl, rfl⟩ := H
                          obtain ⟨Ao32, co32, eo32⟩ := Kd.R_slice HO_6.out
                          subst eo32
                          have p224 : 0 ≤ (x8_2 : Int) := of_decide_eq_true y0_9
                          have q224 : x8_2 < (t220.length : Int) := of_decide_eq_true y0_9
                          obtain ⟨ad224, e224, hx224_0⟩ := Kd.at_string (Kd.R_reads' HO_6.out).2.2 x8_2 p224 q224
                          cases e224
                          replace p224 := eq_true p224
                          replace q224 := eq_true q224
                          go_wp2_with (first | ((with_reducible refine gate_callee (f := 103) rfl ?_); refine gB (some 44) Tryd.func103 #[.string (rdOf ByteArray.empty t220 x8_2), .int .u8 124] ?_; (with_reducible refine (spec_l2Cut.calls k2 (rdOf ByteArray.empty t220 x8_2) 124 t225 t226 true _ A21.out).mono ?_); rintro e w' ⟨rfl, ⟨nd, rfl⟩⟩; refine ⟨_, rfl, ?_⟩) | ((with_reducible refine gate_callee (f := 104) rfl ?_); refine gB (some 50) Tryd.func104 #[.string t225] ?_; (with_reducible refine (spec_Number.calls k2 t225 t228 true _ A22.out).mono ?_); rintro e w33 ⟨rfl, hb⟩; refine ⟨_, rfl, ?_⟩; replace HO_4 := sb HO_4 hb; replace HO_5 := sb HO_5 hb; replace HO_6 := rb HO_6 hb; replace HB := bs HB hb; (try clear hb); (try clear hb2); (try clear hk); (try clear hi)) | ((with_reducible refine gate_callee (f := 105) rfl ?_); refine gB (some 55) Tryd.func105 #[.string t226] ?_; (with_reducible refine (spec_TxsOf.calls k2 t226 t230 true _ A23.out).mono ?_); rintro e w34 ⟨v232, rfl, ho0, hb⟩; refine ⟨_, rfl, ?_⟩; replace HO_4 := Aside0.mk (Kd.S_elder' (sI HO_4.out) (Kd.R_base ho0) hb); replace HO_5 := Aside0.mk (Kd.S_elder' (sI HO_5.out) (Kd.R_base ho0) hb); replace HO_6 := rb HO_6 hb; have HO233 := Aside0.mk (Kd.R_lower ho0 (below_size (bI HB.out))); replace HB := bs HB hb; (try clear hb)))
                          go_ret2
                          exact ⟨_, y0_7, y0_2, bI HB.out⟩
                        · rw [if_neg c31] at H
                          have c31b0 : decide (60 < t228) = false := decide_eq_false c31
                          clear c31
                          by_cases c35 : (t230.length : Int) > 2
                          · rw [if_pos c35] at H
                            have c35b0 : decide (2 < (t230.length : Int)) = true := decide_eq_true c35
                            have c35b1 : decide (2 < t230.length) = true := decide_eq_true (by omega)
                            clear c35
                            simp only [Option.some.injEq, Prod.mk.injEq] at H
                            obtain ⟨rfl, rfl⟩ := H
                            obtain ⟨Ao36, co36, eo36⟩ := Kd.R_slice HO_6.out
                            subst eo36
                            have p224 : 0 ≤ (x8_2 : Int) := of_decide_eq_true y0_9
                            have q224 : x8_2 < (t220.length : Int) := of_decide_eq_true y0_9
                            obtain ⟨ad224, e224, hx224_0⟩ := Kd.at_string (Kd.R_reads' HO_6.out).2.2 x8_2 p224 q224
                            cases e224
                            replace p224 := eq_true p224
                            replace q224 := eq_true q224
                            go_wp2_with (first | ((with_reducible refine gate_callee (f := 103) rfl ?_); refine gB (some 44) Tryd.func103 #[.string (rdOf ByteArray.empty t220 x8_2), .int .u8 124] ?_; (with_reducible refine (spec_l2Cut.calls k2 (rdOf ByteArray.empty t220 x8_2) 124 t225 t226 true _ A21.out).mono ?_); rintro e w' ⟨rfl, ⟨nd, rfl⟩⟩; refine ⟨_, rfl, ?_⟩) | ((with_reducible refine gate_callee (f := 104) rfl ?_); refine gB (some 50) Tryd.func104 #[.string t225] ?_; (with_reducible refine (spec_Number.calls k2 t225 t228 true _ A22.out).mono ?_); rintro e w37 ⟨rfl, hb⟩; refine ⟨_, rfl, ?_⟩; replace HO_4 := sb HO_4 hb; replace HO_5 := sb HO_5 hb; replace HO_6 := rb HO_6 hb; replace HB := bs HB hb; (try clear hb); (try clear hb2); (try clear hk); (try clear hi)) | ((with_reducible refine gate_callee (f := 105) rfl ?_); refine gB (some 55) Tryd.func105 #[.string t226] ?_; (with_reducible refine (spec_TxsOf.calls k2 t226 t230 true _ A23.out).mono ?_); rintro e w38 ⟨v232, rfl, ho0, hb⟩; refine ⟨_, rfl, ?_⟩; replace HO_4 := Aside0.mk (Kd.S_elder' (sI HO_4.out) (Kd.R_base ho0) hb); replace HO_5 := Aside0.mk (Kd.S_elder' (sI HO_5.out) (Kd.R_base ho0) hb); replace HO_6 := rb HO_6 hb; have HO233 := Aside0.mk (Kd.R_lower ho0 (below_size (bI HB.out))); replace HB := bs HB hb; (try clear hb); obtain ⟨Ao39, co39, eo39⟩ := Kd.R_slice HO233.out; subst eo39))
                            go_ret2
                            exact ⟨_, y0_7, y0_2, bI HB.out⟩
                          · rw [if_neg c35] at H
                            have c35b0 : decide (2 < (t230.length : Int)) = false := decide_eq_false c35
                            have c35b1 : decide (2 < t230.length) = false := decide_eq_false (by omega)
                            clear c35
                            by_cases c40 : x5_2.length < 4398046511104
                            rotate_left
                            · rw [if_neg c40] at H
                              exact absurd H (by simp)
                            rw [if_pos c40] at H
                            have LMc40 := Aside0.mk c40
                            clear c40
                            obtain ⟨y234, hy234⟩ : ∃ y_ : List (S95), y_ = (x5_2 ++ [(⟨t228, t230⟩ : S95)]) := ⟨_, rfl⟩
                            replace H : (spec_Steps.l0 k2 y214 y234 t220 t228 (wrap64 (x8_2 + 1))) = some (r1, r2) := by first | (rw [hy234]; with_reducible exact H) | (have H2_ := (Option.bind_some _ _).symm.trans H; rw [hy234]; with_reducible exact H2_) | (have H2_ := (Option.bind_some _ _).symm.trans H; with_reducible exact H2_) | with_reducible exact H | (rw [hy234]; exact H) | exact H
                            have Ny234 := Aside0.mk hy234
                            clear hy234
                            have H' := Aside0.mk H
                            clear H
                            obtain ⟨Ao41, co41, eo41⟩ := Kd.R_slice HO_6.out
                            subst eo41
                            have p224 : 0 ≤ (x8_2 : Int) := of_decide_eq_true y0_9
                            have q224 : x8_2 < (t220.length : Int) := of_decide_eq_true y0_9
                            obtain ⟨ad224, e224, hx224_0⟩ := Kd.at_string (Kd.R_reads' HO_6.out).2.2 x8_2 p224 q224
                            cases e224
                            replace p224 := eq_true p224
                            replace q224 := eq_true q224
                            go_wp2_with (first | ((with_reducible refine gate_callee (f := 103) rfl ?_); refine gB (some 44) Tryd.func103 #[.string (rdOf ByteArray.empty t220 x8_2), .int .u8 124] ?_; (with_reducible refine (spec_l2Cut.calls k2 (rdOf ByteArray.empty t220 x8_2) 124 t225 t226 true _ A21.out).mono ?_); rintro e w' ⟨rfl, ⟨nd, rfl⟩⟩; refine ⟨_, rfl, ?_⟩) | ((with_reducible refine gate_callee (f := 104) rfl ?_); refine gB (some 50) Tryd.func104 #[.string t225] ?_; (with_reducible refine (spec_Number.calls k2 t225 t228 true _ A22.out).mono ?_); rintro e w42 ⟨rfl, hb⟩; refine ⟨_, rfl, ?_⟩; replace HO_4 := sb HO_4 hb; replace HO_5 := sb HO_5 hb; replace HO_6 := rb HO_6 hb; replace HB := bs HB hb; (try clear hb); (try clear hb2); (try clear hk); (try clear hi)) | ((with_reducible refine gate_callee (f := 105) rfl ?_); refine gB (some 55) Tryd.func105 #[.string t226] ?_; (with_reducible refine (spec_TxsOf.calls k2 t226 t230 true _ A23.out).mono ?_); rintro e w43 ⟨v232, rfl, ho0, hb⟩; refine ⟨_, rfl, ?_⟩; replace HO_4 := Aside0.mk (Kd.S_elder' (sI HO_4.out) (Kd.R_base ho0) hb); replace HO_5 := Aside0.mk (Kd.S_elder' (sI HO_5.out) (Kd.R_base ho0) hb); replace HO_6 := rb HO_6 hb; have HO233 := Aside0.mk (Kd.R_lower ho0 (below_size (bI HB.out))); replace HB := bs HB hb; (try clear hb); obtain ⟨Ao44, co44, eo44⟩ := Kd.R_slice HO233.out; subst eo44) | ((with_reducible refine gate_builtin (b := .append) (xs := #[.tmp 84, .tmp 88]) rfl ?_); (try (refine gate_guard (by rfl) ?_; dsimp only)); at_builtin; refine Kd.S_append k95 (w0 := w) w.heap.size rfl (.tmp 84) (.tmp 88) 90 95 (.agg #[(.int .i64 0), (.slice none 0 0)]) 32 rfl Tryd.underlying90 info95 rfl (by decide) (by omega) u5 x5_2 (⟨t228, t230⟩ : S95) [.int .i64 t228, .slice Ao44 t230.length co44] (fun k_ => some k_ ≠ (v215 : Value).ownBlock) (fun k_ => some k_ = (.slice Ao44 t230.length co44 : Value).ownBlock) rfl rfl ?aP (fun k_ hk_ => ((Kd.R_mono (ok' := fun k_ => ((fun k_ => some k_ ≠ (v215 : Value).ownBlock)) k_ ∧ some k_ ≠ (u5 : Value).ownBlock) (Kd.R_apart' (Kd.R_apart' (HO233.out) (Kd.S_typed HO_4.out) (by decide)) (Kd.S_typed HO_5.out) (by decide)) (fun k_ hk => ⟨hk.1.2, hk.2⟩))).1 k_ hk_.symm) ?aF ?aO ?aB ?aS ?aL ?_; (case aP => exact k95_mkM _ _ _ (⟨t228, t230⟩ : S95) (Kd.R_mono (Kd.R_tight rfl (Kd.R_mono (ok' := fun k_ => ((fun k_ => some k_ ≠ (v215 : Value).ownBlock)) k_ ∧ some k_ ≠ (u5 : Value).ownBlock) (Kd.R_apart' (Kd.R_apart' (HO233.out) (Kd.S_typed HO_4.out) (by decide)) (Kd.S_typed HO_5.out) (by decide)) (fun k_ hk => ⟨hk.1.2, hk.2⟩))) (fun _ h_ => h_))); (case aB => exact (bI HB.out)); (case aF => exact (fun k_ hk => Kd.fresh' (Kd.S_lt (sI HO_4.out)) k_ hk)); (case aO => exact (sI (Kd.S_mono HO_5.out (fun k_ hk => ⟨hk.1, fun e_ => hk.2 e_⟩)))); (case aS => exact (below_size (bI HB.out))); (case aL => have := LMc40.out; omega); intro v235 w45 ho hb hg hat; rw [← Ny234.out] at ho; have n0_ := Aside0.mk (Kd.S_after (ok := (fun k_ => some k_ ≠ (.slice Ao44 t230.length co44 : Value).ownBlock)) (sI (Kd.S_mono HO_4.out (fun _ hk => ⟨hk.2, hk.1⟩))) hg hat); have n1_ := Aside0.mk (Kd.R_over' (rI HO_6.out) (Kd.S_typed (sI HO_5.out)) (by decide) hg); have n2_ := Aside0.mk (hb); have n3_ := Aside0.mk (ho); clear HO_4; clear HO_6; clear HB; clear HO_5; clear HO233; have HO_4 := n0_; have HO_6 := n1_; have HB := n2_; have HO236 := n3_; clear n0_ n1_ n2_ n3_; clear ho hb hg hat))
                            go_roundg k2
                            case measure => have := HJ7.out; have := HK2.out; omega
                            case rel => exact ⟨(y234), (t228), (wrap64 (x8_2 + 1)), y0_10, y0_10, H', ⟨by have := HJ7.out; have := HK2.out; omega⟩, ⟨by (with_reducible repeat (first | apply Kd.S_alloc | apply Kd.S_drewN | apply Kd.S_drew)); exact Kd.S_mono HO_4.out (fun _ hk => hk.2)⟩, ⟨by (with_reducible repeat (first | apply Kd.S_alloc | apply Kd.S_drewN | apply Kd.S_drew)); exact HO236.out⟩, ⟨by (with_reducible repeat (first | apply Kd.R_alloc | apply Kd.R_drewN | apply Kd.R_drew)); exact HO_6.out⟩, ⟨bI HB.out⟩⟩
                    · replace c26 := Bool.eq_false_iff.mpr c26
                      subst c26
                      rw [if_neg (show ¬ (false = true) by decide)] at H
                      simp only [Option.some.injEq, Prod.mk.injEq] at H
                      obtain ⟨rfl, rfl⟩ := H
                      obtain ⟨Ao46, co46, eo46⟩ := Kd.R_slice HO_6.out
                      subst eo46
                      have p224 : 0 ≤ (x8_2 : Int) := of_decide_eq_true y0_9
                      have q224 : x8_2 < (t220.length : Int) := of_decide_eq_true y0_9
                      obtain ⟨ad224, e224, hx224_0⟩ := Kd.at_string (Kd.R_reads' HO_6.out).2.2 x8_2 p224 q224
                      cases e224
                      replace p224 := eq_true p224
                      replace q224 := eq_true q224
                      go_wp2_with (first | ((with_reducible refine gate_callee (f := 103) rfl ?_); refine gB (some 44) Tryd.func103 #[.string (rdOf ByteArray.empty t220 x8_2), .int .u8 124] ?_; (with_reducible refine (spec_l2Cut.calls k2 (rdOf ByteArray.empty t220 x8_2) 124 t225 t226 true _ A21.out).mono ?_); rintro e w' ⟨rfl, ⟨nd, rfl⟩⟩; refine ⟨_, rfl, ?_⟩) | ((with_reducible refine gate_callee (f := 104) rfl ?_); refine gB (some 50) Tryd.func104 #[.string t225] ?_; (with_reducible refine (spec_Number.calls k2 t225 t228 true _ A22.out).mono ?_); rintro e w47 ⟨rfl, hb⟩; refine ⟨_, rfl, ?_⟩; replace HO_4 := sb HO_4 hb; replace HO_5 := sb HO_5 hb; replace HO_6 := rb HO_6 hb; replace HB := bs HB hb; (try clear hb); (try clear hb2); (try clear hk); (try clear hi)) | ((with_reducible refine gate_callee (f := 105) rfl ?_); refine gB (some 55) Tryd.func105 #[.string t226] ?_; (with_reducible refine (spec_TxsOf.calls k2 t226 t230 false _ A23.out).mono ?_); rintro e w48 ⟨v232, rfl, ho0, hb⟩; refine ⟨_, rfl, ?_⟩; replace HO_4 := Aside0.mk (Kd.S_elder' (sI HO_4.out) (Kd.R_base ho0) hb); replace HO_5 := Aside0.mk (Kd.S_elder' (sI HO_5.out) (Kd.R_base ho0) hb); replace HO_6 := rb HO_6 hb; have HO233 := Aside0.mk (Kd.R_lower ho0 (below_size (bI HB.out))); replace HB := bs HB hb; (try clear hb)))
                      go_ret2
                      exact ⟨_, y0_7, y0_2, bI HB.out⟩
                  · replace c25 := Bool.eq_false_iff.mpr c25
                    subst c25
                    rw [if_neg (show ¬ (false = true) by decide)] at H
                    simp only [Option.some.injEq, Prod.mk.injEq] at H
                    obtain ⟨rfl, rfl⟩ := H
                    obtain ⟨Ao49, co49, eo49⟩ := Kd.R_slice HO_6.out
                    subst eo49
                    have p224 : 0 ≤ (x8_2 : Int) := of_decide_eq_true y0_9
                    have q224 : x8_2 < (t220.length : Int) := of_decide_eq_true y0_9
                    obtain ⟨ad224, e224, hx224_0⟩ := Kd.at_string (Kd.R_reads' HO_6.out).2.2 x8_2 p224 q224
                    cases e224
                    replace p224 := eq_true p224
                    replace q224 := eq_true q224
                    go_wp2_with (first | ((with_reducible refine gate_callee (f := 103) rfl ?_); refine gB (some 44) Tryd.func103 #[.string (rdOf ByteArray.empty t220 x8_2), .int .u8 124] ?_; (with_reducible refine (spec_l2Cut.calls k2 (rdOf ByteArray.empty t220 x8_2) 124 t225 t226 true _ A21.out).mono ?_); rintro e w' ⟨rfl, ⟨nd, rfl⟩⟩; refine ⟨_, rfl, ?_⟩) | ((with_reducible refine gate_callee (f := 104) rfl ?_); refine gB (some 50) Tryd.func104 #[.string t225] ?_; (with_reducible refine (spec_Number.calls k2 t225 t228 false _ A22.out).mono ?_); rintro e w50 ⟨rfl, hb⟩; refine ⟨_, rfl, ?_⟩; replace HO_4 := sb HO_4 hb; replace HO_5 := sb HO_5 hb; replace HO_6 := rb HO_6 hb; replace HB := bs HB hb; (try clear hb); (try clear hb2); (try clear hk); (try clear hi)) | ((with_reducible refine gate_callee (f := 105) rfl ?_); refine gB (some 55) Tryd.func105 #[.string t226] ?_; (with_reducible refine (spec_TxsOf.calls k2 t226 t230 t231 _ A23.out).mono ?_); rintro e w51 ⟨v232, rfl, ho0, hb⟩; refine ⟨_, rfl, ?_⟩; replace HO_4 := Aside0.mk (Kd.S_elder' (sI HO_4.out) (Kd.R_base ho0) hb); replace HO_5 := Aside0.mk (Kd.S_elder' (sI HO_5.out) (Kd.R_base ho0) hb); replace HO_6 := rb HO_6 hb; have HO233 := Aside0.mk (Kd.R_lower ho0 (below_size (bI HB.out))); replace HB := bs HB hb; (try clear hb)))
                    go_ret2
                    exact ⟨_, y0_7, y0_2, bI HB.out⟩
                · replace c24 := Bool.eq_false_iff.mpr c24
                  subst c24
                  rw [if_neg (show ¬ (false = true) by decide)] at H
                  simp only [Option.some.injEq, Prod.mk.injEq] at H
                  obtain ⟨rfl, rfl⟩ := H
                  obtain ⟨Ao52, co52, eo52⟩ := Kd.R_slice HO_6.out
                  subst eo52
                  have p224 : 0 ≤ (x8_2 : Int) := of_decide_eq_true y0_9
                  have q224 : x8_2 < (t220.length : Int) := of_decide_eq_true y0_9
                  obtain ⟨ad224, e224, hx224_0⟩ := Kd.at_string (Kd.R_reads' HO_6.out).2.2 x8_2 p224 q224
                  cases e224
                  replace p224 := eq_true p224
                  replace q224 := eq_true q224
                  go_wp2_with (first | ((with_reducible refine gate_callee (f := 103) rfl ?_); refine gB (some 44) Tryd.func103 #[.string (rdOf ByteArray.empty t220 x8_2), .int .u8 124] ?_; (with_reducible refine (spec_l2Cut.calls k2 (rdOf ByteArray.empty t220 x8_2) 124 t225 t226 false _ A21.out).mono ?_); rintro e w' ⟨rfl, ⟨nd, rfl⟩⟩; refine ⟨_, rfl, ?_⟩) | ((with_reducible refine gate_callee (f := 104) rfl ?_); refine gB (some 50) Tryd.func104 #[.string t225] ?_; (with_reducible refine (spec_Number.calls k2 t225 t228 t229 _ A22.out).mono ?_); rintro e w53 ⟨rfl, hb⟩; refine ⟨_, rfl, ?_⟩; replace HO_4 := sb HO_4 hb; replace HO_5 := sb HO_5 hb; replace HO_6 := rb HO_6 hb; replace HB := bs HB hb; (try clear hb); (try clear hb2); (try clear hk); (try clear hi)) | ((with_reducible refine gate_callee (f := 105) rfl ?_); refine gB (some 55) Tryd.func105 #[.string t226] ?_; (with_reducible refine (spec_TxsOf.calls k2 t226 t230 t231 _ A23.out).mono ?_); rintro e w54 ⟨v232, rfl, ho0, hb⟩; refine ⟨_, rfl, ?_⟩; replace HO_4 := Aside0.mk (Kd.S_elder' (sI HO_4.out) (Kd.R_base ho0) hb); replace HO_5 := Aside0.mk (Kd.S_elder' (sI HO_5.out) (Kd.R_base ho0) hb); replace HO_6 := rb HO_6 hb; have HO233 := Aside0.mk (Kd.R_lower ho0 (below_size (bI HB.out))); replace HB := bs HB hb; (try clear hb)))
                  go_ret2
                  exact ⟨_, y0_7, y0_2, bI HB.out⟩
              · rw [if_neg c19] at H
                have c19b0 : decide (x8_2 < (t220.length : Int)) = false := decide_eq_false c19
                clear c19
                simp only [Option.some.injEq, Prod.mk.injEq] at H
                obtain ⟨rfl, rfl⟩ := H
                obtain ⟨Ao55, co55, eo55⟩ := Kd.R_slice HO_6.out
                subst eo55
                go_wp2
                go_ret2
                exact ⟨_, y0_7, by (with_reducible repeat (first | apply Kd.S_alloc | apply Kd.S_drewN | apply Kd.S_drew)); exact Kd.S_mono HO_5.out (fun _ hk => trivial), bI HB.out⟩

/-! ### spec_NameOk: function 73 -/
def spec_NameOk.f (k : Nat) (a0 : ByteArray) : Option (Bool) := (spec_Steps.f k a0).bind fun bt237 => (some bt237.2)
theorem spec_NameOk.mono : ∀ a0 k, LeO (spec_NameOk.f k a0) (spec_NameOk.f (k + 1) a0) := by
  intro a0 k
  unfold spec_NameOk.f
  repeat' first
      | (with_reducible exact spec_Steps.mono _ _)
      | (with_reducible exact LeO.refl _)
      | (with_reducible exact LeO.none _)
      | (with_reducible refine LeO.ite ?_ ?_)
      | (with_reducible refine LeO.bind ?_ (fun _ => ?_))
      | exact spec_Steps.mono _ _
      | exact LeO.none _
      | refine LeO.ite ?_ ?_
      | refine LeO.bind ?_ (fun _ => ?_)
set_option maxHeartbeats 8000000 in
set_option maxRecDepth 100000 in
theorem spec_NameOk.calls (k : Nat) (a0 : ByteArray) (r : Bool) (w : World) (h : spec_NameOk.f k a0 = some r) :
    Calls Tryd.prog 73 #[.string a0] w fun e w' => e = .returned (.bool r) ∧ Below w.heap.size w w' := by
  have HB := Aside0.mk (Below.refl w.heap.size w)
  have H : ((spec_Steps.f k a0).bind fun bt237 => (some bt237.2)) = some r := h
  clear h
  obtain ⟨⟨t237, t238⟩, A20, H⟩ := Option.bind_eq_some_iff.mp H
  try dsimp only at H
  have A2 := Aside0.mk A20
  clear A20
  obtain rfl := Option.some.inj H
  go_enter Tryd.func73, Tryd.ntmps73
  go_wp2_with (first | ((with_reducible refine gate_callee (f := 65) rfl ?_); refine gB (some 7) Tryd.func65 #[.string a0] ?_; (with_reducible refine (spec_Steps.calls k a0 t237 t238 _ A2.out).mono ?_); rintro e w3 ⟨v239, rfl, ho0, hb⟩; refine ⟨_, rfl, ?_⟩; have HO240 := Aside0.mk (Kd.S_lower ho0 (below_size (bI HB.out))); replace HB := bs HB hb; (try clear hb); (try clear ho0)))
  go_ret
  exact ⟨y0_7, bI HB.out⟩

/-! ### spec_ViewOf: function 74 -/
def spec_ViewOf.f (k : Nat) (a0 : ByteArray) : Option (Int) := (spec_Steps.f k a0).bind fun bt241 => (if bt241.2 = true then (if (bt241.1.length : Int) = 0 then (some 0) else (if 0 ≤ (wrap64 ((bt241.1.length : Int) - 1)) then (if (wrap64 ((bt241.1.length : Int) - 1)) < (bt241.1.length : Int) then (some ((rd_T95 bt241.1 (wrap64 ((bt241.1.length : Int) - 1))).f0)) else (none)) else (none))) else (some 0))
theorem spec_ViewOf.mono : ∀ a0 k, LeO (spec_ViewOf.f k a0) (spec_ViewOf.f (k + 1) a0) := by
  intro a0 k
  unfold spec_ViewOf.f
  repeat' first
      | (with_reducible exact spec_Steps.mono _ _)
      | (with_reducible exact LeO.refl _)
      | (with_reducible exact LeO.none _)
      | (with_reducible refine LeO.ite ?_ ?_)
      | (with_reducible refine LeO.bind ?_ (fun _ => ?_))
      | exact spec_Steps.mono _ _
      | exact LeO.none _
      | refine LeO.ite ?_ ?_
      | refine LeO.bind ?_ (fun _ => ?_)
set_option maxHeartbeats 8000000 in
set_option maxRecDepth 100000 in
theorem spec_ViewOf.calls (k : Nat) (a0 : ByteArray) (r : Int) (w : World) (h : spec_ViewOf.f k a0 = some r) :
    Calls Tryd.prog 74 #[.string a0] w fun e w' => e = .returned (.int .i64 r) ∧ Below w.heap.size w w' := by
  have HB := Aside0.mk (Below.refl w.heap.size w)
  have H : ((spec_Steps.f k a0).bind fun bt241 => (if bt241.2 = true then (if (bt241.1.length : Int) = 0 then (some 0) else (if 0 ≤ (wrap64 ((bt241.1.length : Int) - 1)) then (if (wrap64 ((bt241.1.length : Int) - 1)) < (bt241.1.length : Int) then (some ((rd_T95 bt241.1 (wrap64 ((bt241.1.length : Int) - 1))).f0)) else (none)) else (none))) else (some 0))) = some r := h
  clear h
  obtain ⟨⟨t241, t242⟩, A20, H⟩ := Option.bind_eq_some_iff.mp H
  try dsimp only at H
  have A2 := Aside0.mk A20
  clear A20
  by_cases c3 : t242 = true
  · subst c3
    rw [if_pos rfl] at H
    by_cases c4 : (t241.length : Int) = 0
    · rw [if_pos c4] at H
      have c4b0 : ((t241.length : Int) == 0) = true := beq_iff_eq.mpr c4
      have c4b1 : ((t241.length : Int) != 0) = false := bne_eq_false_iff_eq.mpr c4
      clear c4
      obtain rfl := Option.some.inj H
      go_enter Tryd.func74, Tryd.ntmps74
      go_wp2_with (first | ((with_reducible refine gate_callee (f := 65) rfl ?_); refine gB (some 7) Tryd.func65 #[.string a0] ?_; (with_reducible refine (spec_Steps.calls k a0 t241 true _ A2.out).mono ?_); rintro e w5 ⟨v243, rfl, ho0, hb⟩; refine ⟨_, rfl, ?_⟩; have HO244 := Aside0.mk (Kd.S_lower ho0 (below_size (bI HB.out))); replace HB := bs HB hb; (try clear hb); (try clear ho0); obtain ⟨Ao6, co6, eo6⟩ := Kd.S_slice HO244.out; subst eo6))
      go_ret
      exact ⟨y0_7, bI HB.out⟩
    · rw [if_neg c4] at H
      have c4b0 : ((t241.length : Int) == 0) = false := beq_eq_false_iff_ne.mpr c4
      have c4b1 : ((t241.length : Int) != 0) = true := bne_iff_ne.mpr c4
      have c4b2 : ¬ (t241 = []) := fun h_ => c4 (by rw [h_]; rfl)
      obtain ⟨ji7, hji7⟩ : ∃ j_ : Int, (wrap64 ((t241.length : Int) - 1)) = j_ := ⟨_, rfl⟩
      replace H : (if 0 ≤ (ji7) then (if (ji7) < (t241.length : Int) then (some ((rd_T95 t241 (ji7)).f0)) else (none)) else (none)) = some r := by first | (rw [hji7] at H; exact H) | (simp only [hji7] at H ⊢; exact H)
      (try rw [hji7] at A2)
      have hji7w : (IntKind.i64.wrap ((t241.length : Int) - 1)) = ji7 := (i64_w _).trans hji7
      by_cases c8 : 0 ≤ (ji7)
      rotate_left
      · rw [if_neg c8] at H
        exact absurd H (by simp)
      rw [if_pos c8] at H
      have c8b0 : decide (0 ≤ (ji7)) = true := decide_eq_true c8
      clear c8
      by_cases c9 : (ji7) < (t241.length : Int)
      rotate_left
      · rw [if_neg c9] at H
        exact absurd H (by simp)
      rw [if_pos c9] at H
      have c9b0 : decide ((ji7) < (t241.length : Int)) = true := decide_eq_true c9
      clear c9
      obtain rfl := Option.some.inj H
      go_enter Tryd.func74, Tryd.ntmps74
      go_wp2_with (first | ((with_reducible refine gate_callee (f := 65) rfl ?_); refine gB (some 7) Tryd.func65 #[.string a0] ?_; (with_reducible refine (spec_Steps.calls k a0 t241 true _ A2.out).mono ?_); rintro e w10 ⟨v243, rfl, ho0, hb⟩; refine ⟨_, rfl, ?_⟩; have HO244 := Aside0.mk (Kd.S_lower ho0 (below_size (bI HB.out))); replace HB := bs HB hb; (try clear hb); (try clear ho0); obtain ⟨Ao11, co11, eo11⟩ := Kd.S_slice HO244.out; subst eo11; have p245 : 0 ≤ ((ji7) : Int) := of_decide_eq_true y0_9; have q245 : (ji7) < (t241.length : Int) := of_decide_eq_true y0_9; obtain ⟨ad245, A245_1, c245_1, e245, hx245_0, hx245_1, hl245_1, hi245_1⟩ := at_T95 (Kd.S_reads' HO244.out).2.2 (ji7) p245 q245; cases e245; obtain ⟨ce245, hce245, hMe245, hcc245⟩ := Kd.S_get HO244.out z95 (ji7) p245 (by first | exact q245 | exact of_decide_eq_true y0_9 | (have e_ := (Kd.S_reads' HO244.out).1; omega)); obtain ⟨ve245_1, rfl, ge245_1⟩ := k95_openM hMe245; have hv245_1 := hcc245 1 _ rfl; rw [add_field _ _ 1 (by omega)] at hv245_1; replace hv245_1 := Option.some.inj (hv245_1.symm.trans hx245_1); rw [hv245_1] at ge245_1; have HL245_1 := Aside0.mk (show Kd.R k150 150 _ _ _ _ ((rd_T95 t241 (ji7)).f1) from ge245_1); clear hv245_1 ge245_1; clear hcc245 hce245; have HR245_1 := Aside0.mk hi245_1; have HC245_1 := Aside0.mk hl245_1; clear hi245_1 hl245_1; replace p245 := eq_true p245; replace q245 := eq_true q245))
      go_ret
      exact ⟨by first | rfl | (simp [errW_none, errW_some] <;> rfl) | (simp only [← hji7]; first | rfl | (simp [errW_none, errW_some] <;> rfl)) | (simp [*, errW_none, errW_some] <;> rfl), bI HB.out⟩
  · replace c3 := Bool.eq_false_iff.mpr c3
    subst c3
    rw [if_neg (show ¬ (false = true) by decide)] at H
    obtain rfl := Option.some.inj H
    go_enter Tryd.func74, Tryd.ntmps74
    go_wp2_with (first | ((with_reducible refine gate_callee (f := 65) rfl ?_); refine gB (some 7) Tryd.func65 #[.string a0] ?_; (with_reducible refine (spec_Steps.calls k a0 t241 false _ A2.out).mono ?_); rintro e w12 ⟨v243, rfl, ho0, hb⟩; refine ⟨_, rfl, ?_⟩; have HO244 := Aside0.mk (Kd.S_lower ho0 (below_size (bI HB.out))); replace HB := bs HB hb; (try clear hb); (try clear ho0)))
    go_ret
    exact ⟨y0_7, bI HB.out⟩

end Go.Proofs.YtcmldmlmhpfjhaaDoor.PFnExactSafeBytes
