-- By a program of this session, out of the translation (the print of the kit, with turns of its own). Lean checks it.
import Derived.Test.YtcmldmlmhpfjhaaDoorPFnExactPartQcx0
import Derived.Test.YtcmldmlmhpfjhaaDoorPFnExactPartQcx11
namespace Go.Proofs.YtcmldmlmhpfjhaaDoor.PFnExactPartQc
open Go.RowKit Go.Proofs.YtcmldmlmhpfjhaaDoorW.PrintWords Go.Proofs.YtcmldmlmhpfjhaaDoorW.PrintLast Go.Proofs.YtcmldmlmhpfjhaaDoorW.PrintMore
attribute [local go_sem] max2_int min2_int max_two min_two max_three min_three max_four min_four   -- for this text's walks alone
set_option linter.unusedVariables false
set_option linter.unusedSimpArgs false

/-! ### impl_copyInts: function 115 -/
def impl_copyInts.f (l0 : List Int) : Option (List Int) := if ([] : List Int).length + l0.length < 17592186044416 then (some (([] : List Int) ++ l0)) else (none)
set_option maxHeartbeats 8000000 in
set_option maxRecDepth 100000 in
theorem impl_copyInts.calls (A0 : Option Addr) (c0 : Nat) (l0 : List Int) (r : List Int) (w : World) (hr0 : Kd.C (Kd.int .i64) w A0 l0.length l0) (hc0 : l0.length ≤ c0) (h : impl_copyInts.f l0 = some r) :
    Calls Tryd.prog 115 #[.slice A0 l0.length c0] w fun e w' => ∃ v0_ : Value, e = .returned (v0_) ∧ Kd.R (Kd.int .i64) 3 w' w.heap.size (fun _ => True) v0_ r ∧ Below w.heap.size w w' := by
  have HR0 := Aside0.mk hr0
  have HC0 := Aside0.mk hc0
  clear hr0 hc0
  have HB := Aside0.mk (Below.refl w.heap.size w)
  have H : (if ([] : List Int).length + l0.length < 17592186044416 then (some (([] : List Int) ++ l0)) else (none)) = some r := h
  clear h
  by_cases c2 : ([] : List Int).length + l0.length < 17592186044416
  · rw [if_pos c2] at H
    have LMc2 := Aside0.mk c2
    clear c2
    obtain ⟨y342, hy342⟩ : ∃ y_ : List Int, y_ = (([] : List Int) ++ l0) := ⟨_, rfl⟩
    replace H : (some y342) = some r := by first | (rw [hy342]; with_reducible exact H) | (have H2_ := (Option.bind_some _ _).symm.trans H; rw [hy342]; with_reducible exact H2_) | (have H2_ := (Option.bind_some _ _).symm.trans H; with_reducible exact H2_) | with_reducible exact H | (rw [hy342]; exact H) | exact H
    have Ny342 := Aside0.mk hy342
    clear hy342
    obtain rfl := Option.some.inj H
    go_enter Tryd.func115, Tryd.ntmps115
    go_wp2_with (first | ((with_reducible refine gate_builtin (b := .append) (xs := #[.const (.slice none 0 0), .tmp 3]) rfl ?_); at_builtin; refine Kd.R_append_rows (Kd.int .i64) (w0 := w) w.heap.size rfl (.const (.slice none 0 0)) (.tmp 3) 27 3 (.int .i64 0) 8 rfl Tryd.underlying27 info3 rfl (by decide) (by omega) (.slice none 0 0) ([] : List Int) l0 _ _ _ (fun _ => True) (fun _ => False) rfl rfl ?aO ?aR (fun _ _ h => h) (fun _ h => h.elim) ?aF ?aB ?aS ?aL ?_; (case aR => exact cI HR0.out); (case aB => exact (bI HB.out)); (case aF => exact (fun _ _ => trivial)); (case aO => exact ((Kd.R_nil _ _ _ _ (fun _ => True)))); (case aS => exact (below_size (bI HB.out))); (case aL => have := LMc2.out; omega); intro v343 w3 ho hb hg hat; rw [← Ny342.out] at ho; replace HB := Aside0.mk (hb); have HO344 := Aside0.mk (ho); clear ho hb hg hat))
    go_ret
    exact ⟨_, y0_6, by (with_reducible repeat (first | apply Kd.R_alloc | apply Kd.R_drewN | apply Kd.R_drew)); exact HO344.out, bI HB.out⟩
  · rw [if_neg c2] at H
    exact absurd H (by simp)

/-! ### impl_copyQc: function 86 -/
def impl_copyQc.f (a0_0 : Int) (a0_1 : ByteArray) (l0_2 : List Int) : Option (Int × ByteArray × List Int) := (impl_copyInts.f l0_2).bind fun t347 => (some (a0_0, a0_1, t347))
set_option maxHeartbeats 8000000 in
set_option maxRecDepth 100000 in
theorem impl_copyQc.calls (a0_0 : Int) (a0_1 : ByteArray) (A0_2 : Option Addr) (c0_2 : Nat) (l0_2 : List Int) (r1 : Int) (r2 : ByteArray) (r3 : List Int) (w : World) (hr0_2 : Kd.C (Kd.int .i64) w A0_2 l0_2.length l0_2) (hc0_2 : l0_2.length ≤ c0_2) (h : impl_copyQc.f a0_0 a0_1 l0_2 = some (r1, r2, r3)) :
    Calls Tryd.prog 86 #[.agg #[.int .i64 a0_0, .string a0_1, .slice A0_2 l0_2.length c0_2]] w fun e w' => ∃ v2_ : Value, e = .returned (.agg #[.int .i64 r1, .string r2, v2_]) ∧ Kd.R (Kd.int .i64) 3 w' w.heap.size (fun _ => True) v2_ r3 ∧ Below w.heap.size w w' := by
  have hu41 := Tryd.underlying41
  have HR0_2 := Aside0.mk hr0_2
  have HC0_2 := Aside0.mk hc0_2
  clear hr0_2 hc0_2
  have HB := Aside0.mk (Below.refl w.heap.size w)
  have H : ((impl_copyInts.f l0_2).bind fun t347 => (some (a0_0, a0_1, t347))) = some (r1, r2, r3) := h
  clear h
  obtain ⟨t347, A20, H⟩ := Option.bind_eq_some_iff.mp H
  try dsimp only at H
  have A2 := Aside0.mk A20
  clear A20
  simp only [Option.some.injEq, Prod.mk.injEq] at H
  obtain ⟨rfl, rfl, rfl⟩ := H
  go_enter Tryd.func86, Tryd.ntmps86
  go_wp2_with (first | ((with_reducible refine gd 1 ?_); refine bA 1 #[.int .i64 a0_0, .string a0_1, .slice A0_2 l0_2.length c0_2] 41 ?_; intro gb345 hg w3 hbox hb; have BK345 := Aside0.mk (hbox); have GW345 := bg hg HB; have GJ345 := gi GW345; have GE345 := GW345; replace HB := bs HB hb; clear hb hbox hg) | ((with_reducible refine gd 2 ?_); refine bA 2 #[.int .i64 0, .string (⟨#[]⟩ : ByteArray), .slice none 0 0] 41 ?_; intro gb346 hg w4 hbox hb; have BK346 := Aside0.mk (hbox); have GW346 := bg hg HB; have GJ346 := gi GW346; have GE346 := GW346; replace HB := bs HB hb; have NB345_346 := b1 BK345 hg; have NI345_346 := ni NB345_346; have NB346_345 := b2 BK345 hg; have NI346_345 := ni NB346_345; replace BK345 := bk BK345 hb; clear hb hbox hg; have hnb5 := NB345_346.out; have hnc5 := NB346_345.out; obtain ⟨hcz6_0, hcz6_1, hcz6_2, hfz6_0, hfz6_1, hfz6_2⟩ := cs3 BK345) | ((with_reducible refine gate_callee (f := 115) rfl ?_); refine gB (some 5) Tryd.func115 #[.slice A0_2 l0_2.length c0_2] ?_; (with_reducible refine (impl_copyInts.calls _ _ l0_2 t347 _ ?side1 ?side2 A2.out).mono ?_); (case side1 => exact ch HR0_2 HB); (case side2 => exact HC0_2.out); rintro e w7 ⟨v348, rfl, ho0, hb⟩; refine ⟨_, rfl, ?_⟩; have HO349 := Aside0.mk (Kd.R_lower ho0 (below_size (bI HB.out))); replace BK345 := bk BK345 hb; replace BK346 := bk BK346 hb; replace HB := bs HB hb; (try clear hb); (try clear ho0); obtain ⟨Ao8, co8, eo8⟩ := Kd.R_slice HO349.out; subst eo8; obtain ⟨hcz9_0, hcz9_1, hcz9_2, hfz9_0, hfz9_1, hfz9_2⟩ := cs3 BK345; obtain ⟨hcz10_0, hcz10_1, hcz10_2, hfz10_0, hfz10_1, hfz10_2⟩ := cs3 BK346))
  refine bodyPost_ret (results_cell_row rfl _ _ gb346 41 #[.int .i64 a0_0, .string a0_1, .slice Ao8 t347.length co8] (0, 0) _ rfl (pI BK346) Tryd.underlying41 rfl (by kernel_rfl)) rfl ?_
  exact ⟨_, y0_6, by (with_reducible repeat (first | apply Kd.R_alloc | apply Kd.R_drewN | apply Kd.R_drew)); exact Kd.R_mono (Kd.R_far (p := ⟨gb346, 2, none⟩) (Kd.R_far (p := ⟨gb346, 1, none⟩) (Kd.R_far (p := ⟨gb346, 0, none⟩) (Kd.R_far (p := ⟨gb345, 2, none⟩) (Kd.R_types (Kd.R_types HO349.out BK345.out (by decide)) BK346.out (by decide)) (fun _ hk => hk.1.2) (.slice Ao8 t347.length co8)) (fun _ hk => hk.2) (.int .i64 a0_0)) (fun _ hk => hk.2) (.string a0_1)) (fun _ hk => hk.2) (.slice Ao8 t347.length co8)) (fun _ hk => trivial), bI HB.out⟩

/-! ### impl_PartQc: function 39 -/
def impl_PartQc.f (k : Nat) (a0_0 : Int) (a0_1 : Int) (a1_0 : Int) (a1_1 : ByteArray) (l1_2 : List Int) : Option (Int × ByteArray × List Int × Bool) := (impl_copyQc.f a1_0 a1_1 l1_2).bind fun bt353 => ((impl_QcOk.f k a0_0 a0_1 bt353.1 bt353.2.1 bt353.2.2).bind fun t359 => (if t359 = true then (if bt353.1 = 0 then (some (0, (⟨#[]⟩ : ByteArray), ([] : List Int), false)) else (some (bt353.1, bt353.2.1, bt353.2.2, true))) else (some (0, (⟨#[]⟩ : ByteArray), ([] : List Int), false))))
theorem impl_PartQc.mono : ∀ a0 a1 a2 a3 a4 k, LeO (impl_PartQc.f k a0 a1 a2 a3 a4) (impl_PartQc.f (k + 1) a0 a1 a2 a3 a4) := by
  intro a0 a1 a2 a3 a4 k
  unfold impl_PartQc.f
  repeat' first
      | (with_reducible exact impl_QcOk.mono _ _ _ _ _ _)
      | (with_reducible exact LeO.refl _)
      | (with_reducible exact LeO.none _)
      | (with_reducible refine LeO.ite ?_ ?_)
      | (with_reducible refine LeO.bind ?_ (fun _ => ?_))
      | exact impl_QcOk.mono _ _ _ _ _ _
      | exact LeO.none _
      | refine LeO.ite ?_ ?_
      | refine LeO.bind ?_ (fun _ => ?_)
set_option maxHeartbeats 8000000 in
set_option maxRecDepth 100000 in
theorem impl_PartQc.calls (k : Nat) (a0_0 : Int) (a0_1 : Int) (a1_0 : Int) (a1_1 : ByteArray) (A1_2 : Option Addr) (c1_2 : Nat) (l1_2 : List Int) (r1 : Int) (r2 : ByteArray) (r3 : List Int) (r4 : Bool) (w : World) (hr1_2 : Kd.C (Kd.int .i64) w A1_2 l1_2.length l1_2) (hc1_2 : l1_2.length ≤ c1_2) (h : impl_PartQc.f k a0_0 a0_1 a1_0 a1_1 l1_2 = some (r1, r2, r3, r4)) (hG : Glob w := by exact gG HG HB) :
    Calls Tryd.prog 39 #[.agg #[.int .i64 a0_0, .int .i64 a0_1], .agg #[.int .i64 a1_0, .string a1_1, .slice A1_2 l1_2.length c1_2]] w fun e w' => ∃ v2_ : Value, e = .returned (.tuple #[.agg #[.int .i64 r1, .string r2, v2_], .bool r4]) ∧ Kd.R (Kd.int .i64) 3 w' w.heap.size (fun _ => True) v2_ r3 ∧ Below w.heap.size w w' := by
  have HG := Aside0.mk hG
  clear hG
  have hu32 := Tryd.underlying32
  have hu34 := Tryd.underlying34
  have hu41 := Tryd.underlying41
  have HR1_2 := Aside0.mk hr1_2
  have HC1_2 := Aside0.mk hc1_2
  clear hr1_2 hc1_2
  have HB := Aside0.mk (Below.refl w.heap.size w)
  have H : ((impl_copyQc.f a1_0 a1_1 l1_2).bind fun bt353 => ((impl_QcOk.f k a0_0 a0_1 bt353.1 bt353.2.1 bt353.2.2).bind fun t359 => (if t359 = true then (if bt353.1 = 0 then (some (0, (⟨#[]⟩ : ByteArray), ([] : List Int), false)) else (some (bt353.1, bt353.2.1, bt353.2.2, true))) else (some (0, (⟨#[]⟩ : ByteArray), ([] : List Int), false))))) = some (r1, r2, r3, r4) := h
  clear h
  obtain ⟨⟨t353, t354, t355⟩, A30, H⟩ := Option.bind_eq_some_iff.mp H
  try dsimp only at H
  have A3 := Aside0.mk A30
  clear A30
  obtain ⟨t359, A40, H⟩ := Option.bind_eq_some_iff.mp H
  try dsimp only at H
  have A4 := Aside0.mk A40
  clear A40
  by_cases c5 : t359 = true
  · subst c5
    rw [if_pos rfl] at H
    by_cases c6 : t353 = 0
    · rw [if_pos c6] at H
      have c6b0 : (t353 == 0) = true := beq_iff_eq.mpr c6
      have c6b1 : (t353 != 0) = false := bne_eq_false_iff_eq.mpr c6
      clear c6
      simp only [Option.some.injEq, Prod.mk.injEq] at H
      obtain ⟨rfl, rfl, rfl, rfl⟩ := H
      go_enter Tryd.func39, Tryd.ntmps39
      go_wp2_with (first | ((with_reducible refine gd 2 ?_); refine bA 2 #[.int .i64 a0_0, .int .i64 a0_1] 32 ?_; intro gb350 hg w7 hbox hb; have BK350 := Aside0.mk (hbox); have GW350 := bg hg HB; have GJ350 := gi GW350; have GE350 := GW350; replace HB := bs HB hb; clear hb hbox hg) | ((with_reducible refine gd 3 ?_); refine bA 3 #[.int .i64 a1_0, .string a1_1, .slice A1_2 l1_2.length c1_2] 34 ?_; intro gb351 hg w8 hbox hb; have BK351 := Aside0.mk (hbox); have GW351 := bg hg HB; have GJ351 := gi GW351; have GE351 := GW351; replace HB := bs HB hb; have NB350_351 := b1 BK350 hg; have NI350_351 := ni NB350_351; have NB351_350 := b2 BK350 hg; have NI351_350 := ni NB351_350; replace BK350 := bk BK350 hb; clear hb hbox hg) | ((with_reducible refine gd 4 ?_); refine bA 4 #[.int .i64 0, .string (⟨#[]⟩ : ByteArray), .slice none 0 0] 41 ?_; intro gb352 hg w9 hbox hb; have BK352 := Aside0.mk (hbox); have GW352 := bg hg HB; have GJ352 := gi GW352; have GE352 := GW352; replace HB := bs HB hb; have NB350_352 := b1 BK350 hg; have NI350_352 := ni NB350_352; have NB352_350 := b2 BK350 hg; have NI352_350 := ni NB352_350; replace BK350 := bk BK350 hb; have NB351_352 := b1 BK351 hg; have NI351_352 := ni NB351_352; have NB352_351 := b2 BK351 hg; have NI352_351 := ni NB352_351; replace BK351 := bk BK351 hb; clear hb hbox hg; have hnb10 := NB351_350.out; have hnc10 := NB350_351.out; have hnb11 := NB351_352.out; have hnc11 := NB352_351.out; obtain ⟨hcz12_0, hcz12_1, hcz12_2, hfz12_0, hfz12_1, hfz12_2⟩ := cs3 BK351) | ((with_reducible refine gate_callee (f := 86) rfl ?_); refine gB (some 14) Tryd.func86 #[.agg #[.int .i64 a1_0, .string a1_1, .slice A1_2 l1_2.length c1_2]] ?_; (with_reducible refine (impl_copyQc.calls a1_0 a1_1 _ _ l1_2 t353 t354 t355 _ ?side1 ?side2 A3.out).mono ?_); (case side1 => exact ch HR1_2 HB); (case side2 => exact HC1_2.out); rintro e w13 ⟨v356, rfl, ho0, hb⟩; refine ⟨_, rfl, ?_⟩; have HO357 := Aside0.mk (Kd.R_lower ho0 (below_size (bI HB.out))); replace BK350 := bk BK350 hb; replace BK351 := bk BK351 hb; replace BK352 := bk BK352 hb; replace HB := bs HB hb; (try clear hb); (try clear ho0)) | ((with_reducible refine gd 6 ?_); refine bA 6 #[.int .i64 0, .string (⟨#[]⟩ : ByteArray), .slice none 0 0] 41 ?_; intro gb358 hg w14 hbox hb; replace HO357 := rb HO357 hb; have BK358 := Aside0.mk (hbox); have GW358 := bg hg HB; have GJ358 := gi GW358; have GE358 := GW358; replace HB := bs HB hb; have NB350_358 := b1 BK350 hg; have NI350_358 := ni NB350_358; have NB358_350 := b2 BK350 hg; have NI358_350 := ni NB358_350; replace BK350 := bk BK350 hb; have NB351_358 := b1 BK351 hg; have NI351_358 := ni NB351_358; have NB358_351 := b2 BK351 hg; have NI358_351 := ni NB358_351; replace BK351 := bk BK351 hb; have NB352_358 := b1 BK352 hg; have NI352_358 := ni NB352_358; have NB358_352 := b2 BK352 hg; have NI358_352 := ni NB358_352; replace BK352 := bk BK352 hb; clear hb hbox hg; have hnb15 := NB358_350.out; have hnc15 := NB350_358.out; have hnb16 := NB358_351.out; have hnc16 := NB351_358.out; have hnb17 := NB358_352.out; have hnc17 := NB352_358.out; obtain ⟨hcz18_0, hcz18_1, hcz18_2, hfz18_0, hfz18_1, hfz18_2⟩ := cs3 BK358; obtain ⟨Ao19, co19, eo19⟩ := Kd.R_slice HO357.out; subst eo19; have hnb20 := NB350_352.out; have hnc20 := NB352_350.out; obtain ⟨hcz21_0, hcz21_1, hfz21_0, hfz21_1⟩ := cs2 BK350) | ((with_reducible refine gate_callee (f := 26) rfl ?_); refine gB (some 17) Tryd.func26 #[.agg #[.int .i64 a0_0, .int .i64 a0_1], .agg #[.int .i64 t353, .string t354, .slice Ao19 t355.length co19]] ?_; (with_reducible refine (impl_QcOk.calls k a0_0 a0_1 t353 t354 _ _ t355 true _ ?side1 ?side2 A4.out).mono ?_); (case side1 => refine (Kd.R_reads' (e := 3) (base := w.heap.size) (ok := fun k_ => True) (n := t355.length) (c := co19) ?_).2.2; exact (rI (Kd.R_mono (Kd.R_far (p := ⟨gb358, 2, none⟩) (Kd.R_far (p := ⟨gb358, 1, none⟩) (Kd.R_far (p := ⟨gb358, 0, none⟩) (Kd.R_types HO357.out BK358.out (by decide)) (fun _ hk => hk.2) (.int .i64 t353)) (fun _ hk => hk.2) (.string t354)) (fun _ hk => hk.2) (.slice Ao19 t355.length co19)) (fun _ h_ => h_.1)))); (case side2 => exact (Kd.R_reads' HO357.out).2.1); rintro e w22 ⟨rfl, hb⟩; refine ⟨_, rfl, ?_⟩; replace HO357 := Aside0.mk (Kd.R_below (rI (Kd.R_mono (Kd.R_far (p := ⟨gb358, 2, none⟩) (Kd.R_far (p := ⟨gb358, 1, none⟩) (Kd.R_far (p := ⟨gb358, 0, none⟩) (Kd.R_types HO357.out BK358.out (by decide)) (fun _ hk => hk.2) (.int .i64 t353)) (fun _ hk => hk.2) (.string t354)) (fun _ hk => hk.2) (.slice Ao19 t355.length co19)) (fun _ h_ => h_.1))) hb); replace BK350 := Aside0.mk (blk_below (g := gb350) (o := .cells #[.int .i64 a0_0, .int .i64 a0_1] 32 (0, 0)) (gI BK350.out) hb); replace BK351 := Aside0.mk (blk_below (g := gb351) (o := .cells #[.int .i64 a1_0, .string a1_1, .slice A1_2 l1_2.length c1_2] 34 (0, 0)) (gI BK351.out) hb); replace BK352 := Aside0.mk (blk_below (g := gb352) (o := .cells #[.int .i64 0, .string (⟨#[]⟩ : ByteArray), .slice none 0 0] 41 (0, 0)) (gI BK352.out) hb); replace BK358 := bp BK358 hb #[.int .i64 t353, .string t354, .slice Ao19 t355.length co19]; replace HB := bs HB hb; (try clear hb); (try clear hb2); (try clear hk); (try clear hi); obtain ⟨hcz23_0, hcz23_1, hcz23_2, hfz23_0, hfz23_1, hfz23_2⟩ := cs3 BK358; obtain ⟨hcz24_0, hcz24_1, hcz24_2, hfz24_0, hfz24_1, hfz24_2⟩ := cs3 BK352))
      refine bodyPost_ret (results_ct rfl _ _ gb352 41 #[.int .i64 0, .string (⟨#[]⟩ : ByteArray), .slice none 0 0] (0, 0) _ rfl (pI BK352) Tryd.underlying41 rfl (by kernel_rfl)) rfl ?_
      exact ⟨_, y0_6, y0_0, bI HB.out⟩
    · rw [if_neg c6] at H
      have c6b0 : (t353 == 0) = false := beq_eq_false_iff_ne.mpr c6
      have c6b1 : (t353 != 0) = true := bne_iff_ne.mpr c6
      simp only [Option.some.injEq, Prod.mk.injEq] at H
      obtain ⟨rfl, rfl, rfl, rfl⟩ := H
      go_enter Tryd.func39, Tryd.ntmps39
      go_wp2_with (first | ((with_reducible refine gd 2 ?_); refine bA 2 #[.int .i64 a0_0, .int .i64 a0_1] 32 ?_; intro gb350 hg w25 hbox hb; have BK350 := Aside0.mk (hbox); have GW350 := bg hg HB; have GJ350 := gi GW350; have GE350 := GW350; replace HB := bs HB hb; clear hb hbox hg) | ((with_reducible refine gd 3 ?_); refine bA 3 #[.int .i64 a1_0, .string a1_1, .slice A1_2 l1_2.length c1_2] 34 ?_; intro gb351 hg w26 hbox hb; have BK351 := Aside0.mk (hbox); have GW351 := bg hg HB; have GJ351 := gi GW351; have GE351 := GW351; replace HB := bs HB hb; have NB350_351 := b1 BK350 hg; have NI350_351 := ni NB350_351; have NB351_350 := b2 BK350 hg; have NI351_350 := ni NB351_350; replace BK350 := bk BK350 hb; clear hb hbox hg) | ((with_reducible refine gd 4 ?_); refine bA 4 #[.int .i64 0, .string (⟨#[]⟩ : ByteArray), .slice none 0 0] 41 ?_; intro gb352 hg w27 hbox hb; have BK352 := Aside0.mk (hbox); have GW352 := bg hg HB; have GJ352 := gi GW352; have GE352 := GW352; replace HB := bs HB hb; have NB350_352 := b1 BK350 hg; have NI350_352 := ni NB350_352; have NB352_350 := b2 BK350 hg; have NI352_350 := ni NB352_350; replace BK350 := bk BK350 hb; have NB351_352 := b1 BK351 hg; have NI351_352 := ni NB351_352; have NB352_351 := b2 BK351 hg; have NI352_351 := ni NB352_351; replace BK351 := bk BK351 hb; clear hb hbox hg; have hnb28 := NB351_350.out; have hnc28 := NB350_351.out; have hnb29 := NB351_352.out; have hnc29 := NB352_351.out; obtain ⟨hcz30_0, hcz30_1, hcz30_2, hfz30_0, hfz30_1, hfz30_2⟩ := cs3 BK351) | ((with_reducible refine gate_callee (f := 86) rfl ?_); refine gB (some 14) Tryd.func86 #[.agg #[.int .i64 a1_0, .string a1_1, .slice A1_2 l1_2.length c1_2]] ?_; (with_reducible refine (impl_copyQc.calls a1_0 a1_1 _ _ l1_2 t353 t354 t355 _ ?side1 ?side2 A3.out).mono ?_); (case side1 => exact ch HR1_2 HB); (case side2 => exact HC1_2.out); rintro e w31 ⟨v356, rfl, ho0, hb⟩; refine ⟨_, rfl, ?_⟩; have HO357 := Aside0.mk (Kd.R_lower ho0 (below_size (bI HB.out))); replace BK350 := bk BK350 hb; replace BK351 := bk BK351 hb; replace BK352 := bk BK352 hb; replace HB := bs HB hb; (try clear hb); (try clear ho0)) | ((with_reducible refine gd 6 ?_); refine bA 6 #[.int .i64 0, .string (⟨#[]⟩ : ByteArray), .slice none 0 0] 41 ?_; intro gb358 hg w32 hbox hb; replace HO357 := rb HO357 hb; have BK358 := Aside0.mk (hbox); have GW358 := bg hg HB; have GJ358 := gi GW358; have GE358 := GW358; replace HB := bs HB hb; have NB350_358 := b1 BK350 hg; have NI350_358 := ni NB350_358; have NB358_350 := b2 BK350 hg; have NI358_350 := ni NB358_350; replace BK350 := bk BK350 hb; have NB351_358 := b1 BK351 hg; have NI351_358 := ni NB351_358; have NB358_351 := b2 BK351 hg; have NI358_351 := ni NB358_351; replace BK351 := bk BK351 hb; have NB352_358 := b1 BK352 hg; have NI352_358 := ni NB352_358; have NB358_352 := b2 BK352 hg; have NI358_352 := ni NB358_352; replace BK352 := bk BK352 hb; clear hb hbox hg; have hnb33 := NB358_350.out; have hnc33 := NB350_358.out; have hnb34 := NB358_351.out; have hnc34 := NB351_358.out; have hnb35 := NB358_352.out; have hnc35 := NB352_358.out; obtain ⟨hcz36_0, hcz36_1, hcz36_2, hfz36_0, hfz36_1, hfz36_2⟩ := cs3 BK358; obtain ⟨Ao37, co37, eo37⟩ := Kd.R_slice HO357.out; subst eo37; have hnb38 := NB350_352.out; have hnc38 := NB352_350.out; obtain ⟨hcz39_0, hcz39_1, hfz39_0, hfz39_1⟩ := cs2 BK350) | ((with_reducible refine gate_callee (f := 26) rfl ?_); refine gB (some 17) Tryd.func26 #[.agg #[.int .i64 a0_0, .int .i64 a0_1], .agg #[.int .i64 t353, .string t354, .slice Ao37 t355.length co37]] ?_; (with_reducible refine (impl_QcOk.calls k a0_0 a0_1 t353 t354 _ _ t355 true _ ?side1 ?side2 A4.out).mono ?_); (case side1 => refine (Kd.R_reads' (e := 3) (base := w.heap.size) (ok := fun k_ => True) (n := t355.length) (c := co37) ?_).2.2; exact (rI (Kd.R_mono (Kd.R_far (p := ⟨gb358, 2, none⟩) (Kd.R_far (p := ⟨gb358, 1, none⟩) (Kd.R_far (p := ⟨gb358, 0, none⟩) (Kd.R_types HO357.out BK358.out (by decide)) (fun _ hk => hk.2) (.int .i64 t353)) (fun _ hk => hk.2) (.string t354)) (fun _ hk => hk.2) (.slice Ao37 t355.length co37)) (fun _ h_ => h_.1)))); (case side2 => exact (Kd.R_reads' HO357.out).2.1); rintro e w40 ⟨rfl, hb⟩; refine ⟨_, rfl, ?_⟩; replace HO357 := Aside0.mk (Kd.R_below (rI (Kd.R_mono (Kd.R_far (p := ⟨gb358, 2, none⟩) (Kd.R_far (p := ⟨gb358, 1, none⟩) (Kd.R_far (p := ⟨gb358, 0, none⟩) (Kd.R_types HO357.out BK358.out (by decide)) (fun _ hk => hk.2) (.int .i64 t353)) (fun _ hk => hk.2) (.string t354)) (fun _ hk => hk.2) (.slice Ao37 t355.length co37)) (fun _ h_ => h_.1))) hb); replace BK350 := Aside0.mk (blk_below (g := gb350) (o := .cells #[.int .i64 a0_0, .int .i64 a0_1] 32 (0, 0)) (gI BK350.out) hb); replace BK351 := Aside0.mk (blk_below (g := gb351) (o := .cells #[.int .i64 a1_0, .string a1_1, .slice A1_2 l1_2.length c1_2] 34 (0, 0)) (gI BK351.out) hb); replace BK352 := Aside0.mk (blk_below (g := gb352) (o := .cells #[.int .i64 0, .string (⟨#[]⟩ : ByteArray), .slice none 0 0] 41 (0, 0)) (gI BK352.out) hb); replace BK358 := bp BK358 hb #[.int .i64 t353, .string t354, .slice Ao37 t355.length co37]; replace HB := bs HB hb; (try clear hb); (try clear hb2); (try clear hk); (try clear hi); obtain ⟨hcz41_0, hcz41_1, hcz41_2, hfz41_0, hfz41_1, hfz41_2⟩ := cs3 BK358; obtain ⟨hcz42_0, hcz42_1, hcz42_2, hfz42_0, hfz42_1, hfz42_2⟩ := cs3 BK352))
      refine bodyPost_ret (results_ct rfl _ _ gb352 41 #[.int .i64 t353, .string t354, .slice Ao37 t355.length co37] (0, 0) _ rfl (pI BK352) Tryd.underlying41 rfl (by kernel_rfl)) rfl ?_
      exact ⟨_, y0_6, by (with_reducible repeat (first | apply Kd.R_alloc | apply Kd.R_drewN | apply Kd.R_drew)); exact Kd.R_mono (Kd.R_far (p := ⟨gb352, 2, none⟩) (Kd.R_far (p := ⟨gb352, 1, none⟩) (Kd.R_far (p := ⟨gb352, 0, none⟩) (Kd.R_types HO357.out BK352.out (by decide)) (fun _ hk => hk.2) (.int .i64 t353)) (fun _ hk => hk.2) (.string t354)) (fun _ hk => hk.2) (.slice Ao37 t355.length co37)) (fun _ hk => trivial), bI HB.out⟩
  · replace c5 := Bool.eq_false_iff.mpr c5
    subst c5
    rw [if_neg (show ¬ (false = true) by decide)] at H
    simp only [Option.some.injEq, Prod.mk.injEq] at H
    obtain ⟨rfl, rfl, rfl, rfl⟩ := H
    go_enter Tryd.func39, Tryd.ntmps39
    go_wp2_with (first | ((with_reducible refine gd 2 ?_); refine bA 2 #[.int .i64 a0_0, .int .i64 a0_1] 32 ?_; intro gb350 hg w43 hbox hb; have BK350 := Aside0.mk (hbox); have GW350 := bg hg HB; have GJ350 := gi GW350; have GE350 := GW350; replace HB := bs HB hb; clear hb hbox hg) | ((with_reducible refine gd 3 ?_); refine bA 3 #[.int .i64 a1_0, .string a1_1, .slice A1_2 l1_2.length c1_2] 34 ?_; intro gb351 hg w44 hbox hb; have BK351 := Aside0.mk (hbox); have GW351 := bg hg HB; have GJ351 := gi GW351; have GE351 := GW351; replace HB := bs HB hb; have NB350_351 := b1 BK350 hg; have NI350_351 := ni NB350_351; have NB351_350 := b2 BK350 hg; have NI351_350 := ni NB351_350; replace BK350 := bk BK350 hb; clear hb hbox hg) | ((with_reducible refine gd 4 ?_); refine bA 4 #[.int .i64 0, .string (⟨#[]⟩ : ByteArray), .slice none 0 0] 41 ?_; intro gb352 hg w45 hbox hb; have BK352 := Aside0.mk (hbox); have GW352 := bg hg HB; have GJ352 := gi GW352; have GE352 := GW352; replace HB := bs HB hb; have NB350_352 := b1 BK350 hg; have NI350_352 := ni NB350_352; have NB352_350 := b2 BK350 hg; have NI352_350 := ni NB352_350; replace BK350 := bk BK350 hb; have NB351_352 := b1 BK351 hg; have NI351_352 := ni NB351_352; have NB352_351 := b2 BK351 hg; have NI352_351 := ni NB352_351; replace BK351 := bk BK351 hb; clear hb hbox hg; have hnb46 := NB351_350.out; have hnc46 := NB350_351.out; have hnb47 := NB351_352.out; have hnc47 := NB352_351.out; obtain ⟨hcz48_0, hcz48_1, hcz48_2, hfz48_0, hfz48_1, hfz48_2⟩ := cs3 BK351) | ((with_reducible refine gate_callee (f := 86) rfl ?_); refine gB (some 14) Tryd.func86 #[.agg #[.int .i64 a1_0, .string a1_1, .slice A1_2 l1_2.length c1_2]] ?_; (with_reducible refine (impl_copyQc.calls a1_0 a1_1 _ _ l1_2 t353 t354 t355 _ ?side1 ?side2 A3.out).mono ?_); (case side1 => exact ch HR1_2 HB); (case side2 => exact HC1_2.out); rintro e w49 ⟨v356, rfl, ho0, hb⟩; refine ⟨_, rfl, ?_⟩; have HO357 := Aside0.mk (Kd.R_lower ho0 (below_size (bI HB.out))); replace BK350 := bk BK350 hb; replace BK351 := bk BK351 hb; replace BK352 := bk BK352 hb; replace HB := bs HB hb; (try clear hb); (try clear ho0)) | ((with_reducible refine gd 6 ?_); refine bA 6 #[.int .i64 0, .string (⟨#[]⟩ : ByteArray), .slice none 0 0] 41 ?_; intro gb358 hg w50 hbox hb; replace HO357 := rb HO357 hb; have BK358 := Aside0.mk (hbox); have GW358 := bg hg HB; have GJ358 := gi GW358; have GE358 := GW358; replace HB := bs HB hb; have NB350_358 := b1 BK350 hg; have NI350_358 := ni NB350_358; have NB358_350 := b2 BK350 hg; have NI358_350 := ni NB358_350; replace BK350 := bk BK350 hb; have NB351_358 := b1 BK351 hg; have NI351_358 := ni NB351_358; have NB358_351 := b2 BK351 hg; have NI358_351 := ni NB358_351; replace BK351 := bk BK351 hb; have NB352_358 := b1 BK352 hg; have NI352_358 := ni NB352_358; have NB358_352 := b2 BK352 hg; have NI358_352 := ni NB358_352; replace BK352 := bk BK352 hb; clear hb hbox hg; have hnb51 := NB358_350.out; have hnc51 := NB350_358.out; have hnb52 := NB358_351.out; have hnc52 := NB351_358.out; have hnb53 := NB358_352.out; have hnc53 := NB352_358.out; obtain ⟨hcz54_0, hcz54_1, hcz54_2, hfz54_0, hfz54_1, hfz54_2⟩ := cs3 BK358; obtain ⟨Ao55, co55, eo55⟩ := Kd.R_slice HO357.out; subst eo55; have hnb56 := NB350_352.out; have hnc56 := NB352_350.out; obtain ⟨hcz57_0, hcz57_1, hfz57_0, hfz57_1⟩ := cs2 BK350) | ((with_reducible refine gate_callee (f := 26) rfl ?_); refine gB (some 17) Tryd.func26 #[.agg #[.int .i64 a0_0, .int .i64 a0_1], .agg #[.int .i64 t353, .string t354, .slice Ao55 t355.length co55]] ?_; (with_reducible refine (impl_QcOk.calls k a0_0 a0_1 t353 t354 _ _ t355 false _ ?side1 ?side2 A4.out).mono ?_); (case side1 => refine (Kd.R_reads' (e := 3) (base := w.heap.size) (ok := fun k_ => True) (n := t355.length) (c := co55) ?_).2.2; exact (rI (Kd.R_mono (Kd.R_far (p := ⟨gb358, 2, none⟩) (Kd.R_far (p := ⟨gb358, 1, none⟩) (Kd.R_far (p := ⟨gb358, 0, none⟩) (Kd.R_types HO357.out BK358.out (by decide)) (fun _ hk => hk.2) (.int .i64 t353)) (fun _ hk => hk.2) (.string t354)) (fun _ hk => hk.2) (.slice Ao55 t355.length co55)) (fun _ h_ => h_.1)))); (case side2 => exact (Kd.R_reads' HO357.out).2.1); rintro e w58 ⟨rfl, hb⟩; refine ⟨_, rfl, ?_⟩; replace HO357 := Aside0.mk (Kd.R_below (rI (Kd.R_mono (Kd.R_far (p := ⟨gb358, 2, none⟩) (Kd.R_far (p := ⟨gb358, 1, none⟩) (Kd.R_far (p := ⟨gb358, 0, none⟩) (Kd.R_types HO357.out BK358.out (by decide)) (fun _ hk => hk.2) (.int .i64 t353)) (fun _ hk => hk.2) (.string t354)) (fun _ hk => hk.2) (.slice Ao55 t355.length co55)) (fun _ h_ => h_.1))) hb); replace BK350 := Aside0.mk (blk_below (g := gb350) (o := .cells #[.int .i64 a0_0, .int .i64 a0_1] 32 (0, 0)) (gI BK350.out) hb); replace BK351 := Aside0.mk (blk_below (g := gb351) (o := .cells #[.int .i64 a1_0, .string a1_1, .slice A1_2 l1_2.length c1_2] 34 (0, 0)) (gI BK351.out) hb); replace BK352 := Aside0.mk (blk_below (g := gb352) (o := .cells #[.int .i64 0, .string (⟨#[]⟩ : ByteArray), .slice none 0 0] 41 (0, 0)) (gI BK352.out) hb); replace BK358 := bp BK358 hb #[.int .i64 t353, .string t354, .slice Ao55 t355.length co55]; replace HB := bs HB hb; (try clear hb); (try clear hb2); (try clear hk); (try clear hi); obtain ⟨hcz59_0, hcz59_1, hcz59_2, hfz59_0, hfz59_1, hfz59_2⟩ := cs3 BK352))
    refine bodyPost_ret (results_ct rfl _ _ gb352 41 #[.int .i64 0, .string (⟨#[]⟩ : ByteArray), .slice none 0 0] (0, 0) _ rfl (pI BK352) Tryd.underlying41 rfl (by kernel_rfl)) rfl ?_
    exact ⟨_, y0_6, y0_0, bI HB.out⟩

/-! ### laws_markIntS: function 87 -/
def laws_markIntS.l0 : Nat → List Int → Int → Int → Option (Int × List Int)
  | 0, _, _, _ => none
  | k + 1, x0, x1, x5 => if x5 < (x0.length : Int) then (if 0 ≤ x5 then (laws_markIntS.l0 k (x0.set (x5 : Int).toNat x1) (wrap64 (x1 + 1)) (wrap64 (x5 + 1))) else (none)) else (some (x1, x0))
def laws_markIntS.f (k : Nat) (l0 : List Int) (a1 : Int) : Option (Int × List Int) := laws_markIntS.l0 k l0 a1 0
theorem laws_markIntS.mono_l : ∀ k, (∀ y0 y1 y2, LeO (laws_markIntS.l0 k y0 y1 y2) (laws_markIntS.l0 (k + 1) y0 y1 y2))
  | 0 => fun _ _ _ r h => by simp [laws_markIntS.l0] at h
  | k + 1 => by
    have ih0 := laws_markIntS.mono_l k
    · intro y0 y1 y2
      unfold laws_markIntS.l0
      repeat' first
      | (with_reducible exact ih0 _ _ _)
      | (with_reducible exact LeO.refl _)
      | (with_reducible exact LeO.none _)
      | (with_reducible refine LeO.ite ?_ ?_)
      | (with_reducible refine LeO.bind ?_ (fun _ => ?_))
      | exact ih0 _ _ _
      | exact LeO.none _
      | refine LeO.ite ?_ ?_
      | refine LeO.bind ?_ (fun _ => ?_)
theorem laws_markIntS.mono : ∀ a0 a1 k, LeO (laws_markIntS.f k a0 a1) (laws_markIntS.f (k + 1) a0 a1) := by
  intro a0 a1 k
  have ih0 := laws_markIntS.mono_l k
  unfold laws_markIntS.f
  repeat' first
      | (with_reducible exact ih0 _ _ _)
      | (with_reducible exact LeO.refl _)
      | (with_reducible exact LeO.none _)
      | (with_reducible refine LeO.ite ?_ ?_)
      | (with_reducible refine LeO.bind ?_ (fun _ => ?_))
      | exact ih0 _ _ _
      | exact LeO.none _
      | refine LeO.ite ?_ ?_
      | refine LeO.bind ?_ (fun _ => ?_)
set_option maxHeartbeats 8000000 in
set_option maxRecDepth 100000 in
theorem laws_markIntS.calls (k : Nat) (P0_ : Nat → Prop) (u9000_ : Value) (l0 : List Int) (a1 : Int) (r1 : Int) (r2 : List Int) (w0 w : World) (hB : Below w0.heap.size w0 w) (ho0 : Kd.R (Kd.int .i64) 3 w w0.heap.size P0_ u9000_ l0) (h : laws_markIntS.f k l0 a1 = some (r1, r2)) :
    Calls Tryd.prog 87 #[u9000_, .int .i64 a1] w fun e w' => e = .returned (.int .i64 r1) ∧ Kd.R (Kd.int .i64) 3 w' w0.heap.size (fun k_ => (P0_ k_ ∨ w.heap.size ≤ k_)) u9000_ r2 ∧ Below w0.heap.size w0 w' ∧ Kept w w' (fun k_ => P0_ k_) := by
  have HO0 := Aside0.mk (show Kd.R (Kd.int .i64) 3 w w0.heap.size (fun k_ => (P0_ k_ ∨ w.heap.size ≤ k_)) u9000_ l0 from Kd.R_mono ho0 (fun k_ hk => (.inl hk)))
  have HK := Aside0.mk (Kept.refl w (fun k_ => P0_ k_))
  have HW0 := Aside0.mk hB.size
  have HB := Aside0.mk hB
  clear hB
  have H : (laws_markIntS.l0 k l0 a1 0) = some (r1, r2) := h
  clear h
  have H' := Aside0.mk H
  clear H
  go_enter Tryd.func87, Tryd.ntmps87
  go_wp2
  go_loopg [1, 5] k (fun kq v1 v5 w' => ∃ (x0_1 : List Int) (x1_1 : Int) (x5_1 : Int), v1 = .int .i64 x1_1 ∧ v5 = .int .i64 x5_1 ∧ Aside0 (laws_markIntS.l0 kq x0_1 x1_1 x5_1 = some (r1, r2)) ∧ Aside0 (kq ≤ k) ∧ Aside0 (Kd.R (Kd.int .i64) 3 w' w0.heap.size (fun k_ => (P0_ k_ ∨ w.heap.size ≤ k_)) u9000_ x0_1) ∧ Aside0 (Kept w w' (fun k_ => P0_ k_)) ∧ Aside0 (Below w0.heap.size w0 w'))
  case atStart => exact ⟨(l0), (a1), (0), y0_9, y0_9, H', ⟨Nat.le_refl _⟩, ⟨by (with_reducible repeat (first | apply Kd.R_alloc | apply Kd.R_drewN | apply Kd.R_drew)); exact HO0.out⟩, ⟨y0_3⟩, ⟨bI HB.out⟩⟩
  case round =>
    clear H'
    try clear p2
    obtain ⟨x0_1, x1_1, x5_1, rfl, rfl, HA, HK1, HO_0, HK, HB⟩ := hrel
    cases gk with
    | zero => exact absurd HA.out (by simp [laws_markIntS.l0])
    | succ k1 =>
      have H := HA.out
      clear HA
      simp only [laws_markIntS.l0] at H
      by_cases c3 : x5_1 < (x0_1.length : Int)
      · rw [if_pos c3] at H
        have c3b0 : decide (x5_1 < (x0_1.length : Int)) = true := decide_eq_true c3
        clear c3
        by_cases c4 : 0 ≤ x5_1
        rotate_left
        · rw [if_neg c4] at H
          exact absurd H (by simp)
        rw [if_pos c4] at H
        have c4b0 : decide (0 ≤ x5_1) = true := decide_eq_true c4
        clear c4
        obtain ⟨y360, hy360⟩ : ∃ y_ : List Int, y_ = (x0_1.set (x5_1 : Int).toNat x1_1) := ⟨_, rfl⟩
        replace H : (laws_markIntS.l0 k1 y360 (wrap64 (x1_1 + 1)) (wrap64 (x5_1 + 1))) = some (r1, r2) := by first | (rw [hy360]; with_reducible exact H) | (have H2_ := (Option.bind_some _ _).symm.trans H; rw [hy360]; with_reducible exact H2_) | (have H2_ := (Option.bind_some _ _).symm.trans H; with_reducible exact H2_) | with_reducible exact H | (rw [hy360]; exact H) | exact H
        have Ny360 := Aside0.mk hy360
        clear hy360
        have H' := Aside0.mk H
        clear H
        obtain ⟨Ao6, co6, eo6⟩ := Kd.R_slice HO_0.out
        subst eo6
        have p5 : 0 ≤ (x5_1 : Int) := of_decide_eq_true y0_8
        have q5 : (x5_1 : Int) < ((x0_1.length : Int) : Int) := of_decide_eq_true y0_8
        obtain ⟨go5, co5, eo5, gb5, gl5, cl5, HG5⟩ := Kd.R_form HO_0.out (by omega)
        (first | cases eo5 | (injection eo5 with ea_ en_ ec_; (first | subst ea_ | (injection ea_ with ea_; subst ea_)); subst ec_; clear en_))
        have GB5 := Aside0.mk gb5
        have GG5 := Aside0.mk HG5
        clear gb5 gl5 HG5
        have HMgo5 := Aside0.mk (show (P0_ go5 ∨ w.heap.size ≤ go5) from (HO_0.out.1 _ rfl))
        obtain ⟨hx5_0, hf5_0⟩ := Kd.R_celln 0 HO_0.out (x5_1 : Int) p5 q5
        replace p5 := eq_true p5
        replace q5 := eq_true q5
        have HP7 := Kd.R_putg HO_0.out (x5_1 : Int) x1_1
        go_wp2_with (first | ((with_reducible refine gate_store (t := 3) (p := 15) rfl ?_); refine store_event (t := 3) (p := 15) (v := ?vo_w8) (w1 := (wr.setCell ⟨go5, (x5_1 : Int).toNat, none⟩ (.int .i64 x1_1))) ?hg ?ho ?hn ?hr ?_; (case ho => rfl); (case hg => rfl); (case hn => rfl); (case hr => first | (go_simp; done) | (go_simp; rfl)); intro w8 hw; have hg : wr.grownBy w8 (some go5) := (by rw [hw]; exact HP7.2); have hp_ : Kd.R (Kd.int .i64) 3 w8 w0.heap.size (fun k_ => (P0_ k_ ∨ w.heap.size ≤ k_)) (.slice (some ⟨go5, 0, none⟩) x0_1.length co6) y360 := (by rw [hw, Ny360.out]; exact HP7.1); clear HP7; replace HB := Aside0.mk ((by rw [hw]; exact below_set (HB.out) GB5.out : Below w0.heap.size w0 w8)); replace HK := Aside0.mk (Kept.of_grown (S := (fun k_ => P0_ k_)) hg y0_3 (fun k_ e_ => (HO_0.out.1 k_ e_))); replace HO_0 := Aside0.mk (hp_); clear hg hw hp_))
        go_roundg k1
        case measure => have := HK1.out; omega
        case rel => exact ⟨(y360), (wrap64 (x1_1 + 1)), (wrap64 (x5_1 + 1)), y0_9, y0_9, H', ⟨y0_13⟩, ⟨by (with_reducible repeat (first | apply Kd.R_alloc | apply Kd.R_drewN | apply Kd.R_drew)); exact HO_0.out⟩, ⟨y0_3⟩, ⟨bI HB.out⟩⟩
      · rw [if_neg c3] at H
        have c3b0 : decide (x5_1 < (x0_1.length : Int)) = false := decide_eq_false c3
        clear c3
        simp only [Option.some.injEq, Prod.mk.injEq] at H
        obtain ⟨rfl, rfl⟩ := H
        obtain ⟨Ao9, co9, eo9⟩ := Kd.R_slice HO_0.out
        subst eo9
        go_wp2
        go_ret
        exact ⟨y0_6, by (with_reducible repeat (first | apply Kd.R_alloc | apply Kd.R_drewN | apply Kd.R_drew)); exact HO_0.out, bI HB.out, y0_3⟩

/-! ### laws_markPart: function 40 -/
def laws_markPart.f (k : Nat) (a0_0 : Int) (a0_1 : ByteArray) (l0_2 : List Int) (a1 : Int) : Option (Int × List Int) := (laws_markIntS.f k l0_2 a1).bind fun bt362 => (some (bt362.1, bt362.2))
theorem laws_markPart.mono : ∀ a0 a1 a2 a3 k, LeO (laws_markPart.f k a0 a1 a2 a3) (laws_markPart.f (k + 1) a0 a1 a2 a3) := by
  intro a0 a1 a2 a3 k
  unfold laws_markPart.f
  repeat' first
      | (with_reducible exact laws_markIntS.mono _ _ _)
      | (with_reducible exact LeO.refl _)
      | (with_reducible exact LeO.none _)
      | (with_reducible refine LeO.ite ?_ ?_)
      | (with_reducible refine LeO.bind ?_ (fun _ => ?_))
      | exact laws_markIntS.mono _ _ _
      | exact LeO.none _
      | refine LeO.ite ?_ ?_
      | refine LeO.bind ?_ (fun _ => ?_)
set_option maxHeartbeats 8000000 in
set_option maxRecDepth 100000 in
theorem laws_markPart.calls (k : Nat) (a0_0 : Int) (a0_1 : ByteArray) (P0_2_ : Nat → Prop) (u9000_ : Value) (l0_2 : List Int) (a1 : Int) (r1 : Int) (r2 : List Int) (w0 w : World) (hB : Below w0.heap.size w0 w) (ho0_2 : Kd.R (Kd.int .i64) 3 w w0.heap.size P0_2_ u9000_ l0_2) (h : laws_markPart.f k a0_0 a0_1 l0_2 a1 = some (r1, r2)) :
    Calls Tryd.prog 40 #[.agg #[.int .i64 a0_0, .string a0_1, u9000_], .int .i64 a1] w fun e w' => e = .returned (.int .i64 r1) ∧ Kd.R (Kd.int .i64) 3 w' w0.heap.size (fun k_ => (P0_2_ k_ ∨ w.heap.size ≤ k_)) u9000_ r2 ∧ Below w0.heap.size w0 w' ∧ Kept w w' (fun k_ => P0_2_ k_) := by
  have hu34 := Tryd.underlying34
  have HO0_2 := Aside0.mk (show Kd.R (Kd.int .i64) 3 w w0.heap.size (fun k_ => (P0_2_ k_ ∨ w.heap.size ≤ k_)) u9000_ l0_2 from Kd.R_mono ho0_2 (fun k_ hk => (.inl hk)))
  have HK := Aside0.mk (Kept.refl w (fun k_ => P0_2_ k_))
  have HW0 := Aside0.mk hB.size
  have HB := Aside0.mk hB
  clear hB
  have H : ((laws_markIntS.f k l0_2 a1).bind fun bt362 => (some (bt362.1, bt362.2))) = some (r1, r2) := h
  clear h
  obtain ⟨⟨t362, t363⟩, A30, H⟩ := Option.bind_eq_some_iff.mp H
  try dsimp only at H
  have A3 := Aside0.mk A30
  clear A30
  simp only [Option.some.injEq, Prod.mk.injEq] at H
  obtain ⟨rfl, rfl⟩ := H
  obtain ⟨Ao4, co4, eo4⟩ := Kd.R_slice HO0_2.out
  subst eo4
  go_enter Tryd.func40, Tryd.ntmps40
  go_wp2_with (first | ((with_reducible refine gd 2 ?_); refine bA 2 #[.int .i64 a0_0, .string a0_1, .slice Ao4 l0_2.length co4] 34 ?_; intro gb361 hg w5 hbox hb; replace HO0_2 := rb HO0_2 hb; have BK361 := Aside0.mk (hbox); have GW361 := Aside0.mk ((by rw [hg]; exact (by first | exact HK.out.1 | exact (show Kept w _ (fun k_ => P0_2_ k_) from y0_3).1) : w.heap.size ≤ gb361)); have GJ361 := gi GW361; replace HK := Aside0.mk (Kept.below (S := (fun k_ => P0_2_ k_)) y0_3 hb); have GE361 := bg hg HB; have GI361 := gi GE361; replace HB := bs HB hb; clear hb hbox hg; obtain ⟨hcz6_0, hcz6_1, hcz6_2, hfz6_0, hfz6_1, hfz6_2⟩ := cs3 BK361) | ((with_reducible refine gate_callee (f := 87) rfl ?_); refine gB (some 8) Tryd.func87 #[.slice Ao4 l0_2.length co4, .int .i64 a1] ?_; (with_reducible refine (laws_markIntS.calls k (fun k_ => some k_ = (.slice Ao4 l0_2.length co4 : Value).ownBlock) (.slice Ao4 l0_2.length co4) l0_2 a1 t362 t363 w0 _ ?side1 ?side2 A3.out).mono ?_); (case side1 => exact bI HB.out); (case side2 => exact Kd.R_tight rfl HO0_2.out); rintro e w7 ⟨rfl, hy0, hb, hkp⟩; refine ⟨_, rfl, ?_⟩; replace BK361 := Aside0.mk (blk_kept (kI BK361.out) hkp (fun hs_ => (fun e_ => (Kd.R_ne HO0_2.out BK361.out (by decide)) e_) hs_)); replace HK := Aside0.mk (Kept.then_ (S := (fun k_ => P0_2_ k_)) (by repeat (first | (with_reducible first | exact HK.out | apply Kept.alloc | apply Kept.drewN | apply Kept.drew | refine Kept.setCell ?_ (.inr GW361.out) _) | exact HK.out)) hkp (fun k_ hs_ => (fun e_ => (HO0_2.out.1 k_ e_.symm)) hs_)); replace HO0_2 := Aside0.mk (Kd.R_reok rfl hy0 (fun k_ e_ => HO0_2.out.1 k_ e_)); replace HB := Aside0.mk (hb); (try clear hb); (try clear hkp); (try clear hy0)))
  go_ret
  exact ⟨y0_6, by (with_reducible repeat (first | apply Kd.R_alloc | apply Kd.R_drewN | apply Kd.R_drew)); exact HO0_2.out, bI HB.out, by repeat (first | (with_reducible first | exact HK.out | apply Kept.alloc | apply Kept.drewN | apply Kept.drew | refine Kept.setCell ?_ (.inr GW361.out) _) | exact HK.out)⟩

/-! ### laws_markQc: function 41 -/
def laws_markQc.f (k : Nat) (a0_0 : Int) (a0_1 : ByteArray) (l0_2 : List Int) (a1 : Int) : Option (Int × List Int) := (laws_markIntS.f k l0_2 a1).bind fun bt365 => (some (bt365.1, bt365.2))
theorem laws_markQc.mono : ∀ a0 a1 a2 a3 k, LeO (laws_markQc.f k a0 a1 a2 a3) (laws_markQc.f (k + 1) a0 a1 a2 a3) := by
  intro a0 a1 a2 a3 k
  unfold laws_markQc.f
  repeat' first
      | (with_reducible exact laws_markIntS.mono _ _ _)
      | (with_reducible exact LeO.refl _)
      | (with_reducible exact LeO.none _)
      | (with_reducible refine LeO.ite ?_ ?_)
      | (with_reducible refine LeO.bind ?_ (fun _ => ?_))
      | exact laws_markIntS.mono _ _ _
      | exact LeO.none _
      | refine LeO.ite ?_ ?_
      | refine LeO.bind ?_ (fun _ => ?_)
set_option maxHeartbeats 8000000 in
set_option maxRecDepth 100000 in
theorem laws_markQc.calls (k : Nat) (a0_0 : Int) (a0_1 : ByteArray) (P0_2_ : Nat → Prop) (u9000_ : Value) (l0_2 : List Int) (a1 : Int) (r1 : Int) (r2 : List Int) (w0 w : World) (hB : Below w0.heap.size w0 w) (ho0_2 : Kd.R (Kd.int .i64) 3 w w0.heap.size P0_2_ u9000_ l0_2) (h : laws_markQc.f k a0_0 a0_1 l0_2 a1 = some (r1, r2)) :
    Calls Tryd.prog 41 #[.agg #[.int .i64 a0_0, .string a0_1, u9000_], .int .i64 a1] w fun e w' => e = .returned (.int .i64 r1) ∧ Kd.R (Kd.int .i64) 3 w' w0.heap.size (fun k_ => (P0_2_ k_ ∨ w.heap.size ≤ k_)) u9000_ r2 ∧ Below w0.heap.size w0 w' ∧ Kept w w' (fun k_ => P0_2_ k_) := by
  have hu41 := Tryd.underlying41
  have HO0_2 := Aside0.mk (show Kd.R (Kd.int .i64) 3 w w0.heap.size (fun k_ => (P0_2_ k_ ∨ w.heap.size ≤ k_)) u9000_ l0_2 from Kd.R_mono ho0_2 (fun k_ hk => (.inl hk)))
  have HK := Aside0.mk (Kept.refl w (fun k_ => P0_2_ k_))
  have HW0 := Aside0.mk hB.size
  have HB := Aside0.mk hB
  clear hB
  have H : ((laws_markIntS.f k l0_2 a1).bind fun bt365 => (some (bt365.1, bt365.2))) = some (r1, r2) := h
  clear h
  obtain ⟨⟨t365, t366⟩, A30, H⟩ := Option.bind_eq_some_iff.mp H
  try dsimp only at H
  have A3 := Aside0.mk A30
  clear A30
  simp only [Option.some.injEq, Prod.mk.injEq] at H
  obtain ⟨rfl, rfl⟩ := H
  obtain ⟨Ao4, co4, eo4⟩ := Kd.R_slice HO0_2.out
  subst eo4
  go_enter Tryd.func41, Tryd.ntmps41
  go_wp2_with (first | ((with_reducible refine gd 2 ?_); refine bA 2 #[.int .i64 a0_0, .string a0_1, .slice Ao4 l0_2.length co4] 41 ?_; intro gb364 hg w5 hbox hb; replace HO0_2 := rb HO0_2 hb; have BK364 := Aside0.mk (hbox); have GW364 := Aside0.mk ((by rw [hg]; exact (by first | exact HK.out.1 | exact (show Kept w _ (fun k_ => P0_2_ k_) from y0_3).1) : w.heap.size ≤ gb364)); have GJ364 := gi GW364; replace HK := Aside0.mk (Kept.below (S := (fun k_ => P0_2_ k_)) y0_3 hb); have GE364 := bg hg HB; have GI364 := gi GE364; replace HB := bs HB hb; clear hb hbox hg; obtain ⟨hcz6_0, hcz6_1, hcz6_2, hfz6_0, hfz6_1, hfz6_2⟩ := cs3 BK364) | ((with_reducible refine gate_callee (f := 87) rfl ?_); refine gB (some 8) Tryd.func87 #[.slice Ao4 l0_2.length co4, .int .i64 a1] ?_; (with_reducible refine (laws_markIntS.calls k (fun k_ => some k_ = (.slice Ao4 l0_2.length co4 : Value).ownBlock) (.slice Ao4 l0_2.length co4) l0_2 a1 t365 t366 w0 _ ?side1 ?side2 A3.out).mono ?_); (case side1 => exact bI HB.out); (case side2 => exact Kd.R_tight rfl HO0_2.out); rintro e w7 ⟨rfl, hy0, hb, hkp⟩; refine ⟨_, rfl, ?_⟩; replace BK364 := Aside0.mk (blk_kept (kI BK364.out) hkp (fun hs_ => (fun e_ => (Kd.R_ne HO0_2.out BK364.out (by decide)) e_) hs_)); replace HK := Aside0.mk (Kept.then_ (S := (fun k_ => P0_2_ k_)) (by repeat (first | (with_reducible first | exact HK.out | apply Kept.alloc | apply Kept.drewN | apply Kept.drew | refine Kept.setCell ?_ (.inr GW364.out) _) | exact HK.out)) hkp (fun k_ hs_ => (fun e_ => (HO0_2.out.1 k_ e_.symm)) hs_)); replace HO0_2 := Aside0.mk (Kd.R_reok rfl hy0 (fun k_ e_ => HO0_2.out.1 k_ e_)); replace HB := Aside0.mk (hb); (try clear hb); (try clear hkp); (try clear hy0)))
  go_ret
  exact ⟨y0_6, by (with_reducible repeat (first | apply Kd.R_alloc | apply Kd.R_drewN | apply Kd.R_drew)); exact HO0_2.out, bI HB.out, by repeat (first | (with_reducible first | exact HK.out | apply Kept.alloc | apply Kept.drewN | apply Kept.drew | refine Kept.setCell ?_ (.inr GW364.out) _) | exact HK.out)⟩

/-! ### laws_heldIntS: function 88 -/
def laws_heldIntS.l0 : Nat → List Int → Int → Int → Option (Int)
  | 0, _, _, _ => none
  | k + 1, x0, x1, x5 => if x5 < (x0.length : Int) then (if 0 ≤ x5 then (if (rd x0 x5) = x1 then (laws_heldIntS.l0 k x0 (wrap64 (x1 + 1)) (wrap64 (x5 + 1))) else (some (-1))) else (none)) else (some x1)
def laws_heldIntS.f (k : Nat) (l0 : List Int) (a1 : Int) : Option (Int) := laws_heldIntS.l0 k l0 a1 0
theorem laws_heldIntS.mono_l : ∀ k, (∀ y0 y1 y2, LeO (laws_heldIntS.l0 k y0 y1 y2) (laws_heldIntS.l0 (k + 1) y0 y1 y2))
  | 0 => fun _ _ _ r h => by simp [laws_heldIntS.l0] at h
  | k + 1 => by
    have ih0 := laws_heldIntS.mono_l k
    · intro y0 y1 y2
      unfold laws_heldIntS.l0
      repeat' first
      | (with_reducible exact ih0 _ _ _)
      | (with_reducible exact LeO.refl _)
      | (with_reducible exact LeO.none _)
      | (with_reducible refine LeO.ite ?_ ?_)
      | (with_reducible refine LeO.bind ?_ (fun _ => ?_))
      | exact ih0 _ _ _
      | exact LeO.none _
      | refine LeO.ite ?_ ?_
      | refine LeO.bind ?_ (fun _ => ?_)
theorem laws_heldIntS.mono : ∀ a0 a1 k, LeO (laws_heldIntS.f k a0 a1) (laws_heldIntS.f (k + 1) a0 a1) := by
  intro a0 a1 k
  have ih0 := laws_heldIntS.mono_l k
  unfold laws_heldIntS.f
  repeat' first
      | (with_reducible exact ih0 _ _ _)
      | (with_reducible exact LeO.refl _)
      | (with_reducible exact LeO.none _)
      | (with_reducible refine LeO.ite ?_ ?_)
      | (with_reducible refine LeO.bind ?_ (fun _ => ?_))
      | exact ih0 _ _ _
      | exact LeO.none _
      | refine LeO.ite ?_ ?_
      | refine LeO.bind ?_ (fun _ => ?_)
set_option maxHeartbeats 8000000 in
set_option maxRecDepth 100000 in
theorem laws_heldIntS.calls (k : Nat) (A0 : Option Addr) (c0 : Nat) (l0 : List Int) (a1 : Int) (r : Int) (w : World) (hr0 : Kd.C (Kd.int .i64) w A0 l0.length l0) (hc0 : l0.length ≤ c0) (h : laws_heldIntS.f k l0 a1 = some r) :
    Calls Tryd.prog 88 #[.slice A0 l0.length c0, .int .i64 a1] w fun e w' => e = .returned (.int .i64 r) ∧ Drawn0 w w' := by
  have HR0 := Aside0.mk hr0
  have HC0 := Aside0.mk hc0
  clear hr0 hc0
  have H : (laws_heldIntS.l0 k l0 a1 0) = some r := h
  clear h
  have H' := Aside0.mk H
  clear H
  go_enter Tryd.func88, Tryd.ntmps88
  go_wp2
  go_loopg [1, 5] k (fun kq v1 v5 w' => ∃ (x1_1 : Int) (x5_1 : Int), v1 = .int .i64 x1_1 ∧ v5 = .int .i64 x5_1 ∧ Aside0 (laws_heldIntS.l0 kq l0 x1_1 x5_1 = some r) ∧ Aside0 (kq ≤ k) ∧ Drawn0 w w')
  case atStart => exact ⟨(a1), (0), y0_9, y0_9, H', ⟨Nat.le_refl _⟩, y0_7⟩
  case round =>
    clear H'
    try clear p2
    obtain ⟨x1_1, x5_1, rfl, rfl, HA, HK1, ⟨m1, rfl⟩⟩ := hrel
    cases gk with
    | zero => exact absurd HA.out (by simp [laws_heldIntS.l0])
    | succ k1 =>
      have H := HA.out
      clear HA
      simp only [laws_heldIntS.l0] at H
      by_cases c3 : x5_1 < (l0.length : Int)
      · rw [if_pos c3] at H
        have c3b0 : decide (x5_1 < (l0.length : Int)) = true := decide_eq_true c3
        clear c3
        by_cases c4 : 0 ≤ x5_1
        rotate_left
        · rw [if_neg c4] at H
          exact absurd H (by simp)
        rw [if_pos c4] at H
        have c4b0 : decide (0 ≤ x5_1) = true := decide_eq_true c4
        clear c4
        by_cases c5 : (rd l0 x5_1) = x1_1
        · rw [if_pos c5] at H
          have c5b0 : ((rd l0 x5_1) == x1_1) = true := beq_iff_eq.mpr c5
          have c5b1 : ((rd l0 x5_1) != x1_1) = false := bne_eq_false_iff_eq.mpr c5
          clear c5
          have H' := Aside0.mk H
          clear H
          have p367 : 0 ≤ (x5_1 : Int) := of_decide_eq_true y0_8
          have q367 : x5_1 < (l0.length : Int) := of_decide_eq_true y0_8
          obtain ⟨ad367, e367, hx367_0⟩ := Kd.at_int HR0.out x5_1 p367 q367
          cases e367
          replace p367 := eq_true p367
          replace q367 := eq_true q367
          go_wp2
          go_roundg k1
          case measure => have := HK1.out; omega
          case rel => exact ⟨(wrap64 (x1_1 + 1)), (wrap64 (x5_1 + 1)), y0_9, y0_9, H', ⟨y0_13⟩, y0_7⟩
        · rw [if_neg c5] at H
          have c5b0 : ((rd l0 x5_1) == x1_1) = false := beq_eq_false_iff_ne.mpr c5
          have c5b1 : ((rd l0 x5_1) != x1_1) = true := bne_iff_ne.mpr c5
          obtain rfl := Option.some.inj H
          have p367 : 0 ≤ (x5_1 : Int) := of_decide_eq_true y0_8
          have q367 : x5_1 < (l0.length : Int) := of_decide_eq_true y0_8
          obtain ⟨ad367, e367, hx367_0⟩ := Kd.at_int HR0.out x5_1 p367 q367
          cases e367
          replace p367 := eq_true p367
          replace q367 := eq_true q367
          go_wp2
          go_ret
          exact ⟨y0_9, y0_7⟩
      · rw [if_neg c3] at H
        have c3b0 : decide (x5_1 < (l0.length : Int)) = false := decide_eq_false c3
        clear c3
        obtain rfl := Option.some.inj H
        go_wp2
        go_ret
        exact ⟨y0_9, y0_7⟩

/-! ### laws_heldQc: function 42 -/
def laws_heldQc.f (k : Nat) (a0_0 : Int) (a0_1 : ByteArray) (l0_2 : List Int) (a1 : Int) : Option (Int) := (laws_heldIntS.f k l0_2 a1).bind fun t369 => (if t369 < 0 then (some (-1)) else (some t369))
theorem laws_heldQc.mono : ∀ a0 a1 a2 a3 k, LeO (laws_heldQc.f k a0 a1 a2 a3) (laws_heldQc.f (k + 1) a0 a1 a2 a3) := by
  intro a0 a1 a2 a3 k
  unfold laws_heldQc.f
  repeat' first
      | (with_reducible exact laws_heldIntS.mono _ _ _)
      | (with_reducible exact LeO.refl _)
      | (with_reducible exact LeO.none _)
      | (with_reducible refine LeO.ite ?_ ?_)
      | (with_reducible refine LeO.bind ?_ (fun _ => ?_))
      | exact laws_heldIntS.mono _ _ _
      | exact LeO.none _
      | refine LeO.ite ?_ ?_
      | refine LeO.bind ?_ (fun _ => ?_)
set_option maxHeartbeats 8000000 in
set_option maxRecDepth 100000 in
theorem laws_heldQc.calls (k : Nat) (a0_0 : Int) (a0_1 : ByteArray) (A0_2 : Option Addr) (c0_2 : Nat) (l0_2 : List Int) (a1 : Int) (r : Int) (w : World) (hr0_2 : Kd.C (Kd.int .i64) w A0_2 l0_2.length l0_2) (hc0_2 : l0_2.length ≤ c0_2) (h : laws_heldQc.f k a0_0 a0_1 l0_2 a1 = some r) :
    Calls Tryd.prog 42 #[.agg #[.int .i64 a0_0, .string a0_1, .slice A0_2 l0_2.length c0_2], .int .i64 a1] w fun e w' => e = .returned (.int .i64 r) ∧ Below w.heap.size w w' := by
  have hu41 := Tryd.underlying41
  have HR0_2 := Aside0.mk hr0_2
  have HC0_2 := Aside0.mk hc0_2
  clear hr0_2 hc0_2
  have HB := Aside0.mk (Below.refl w.heap.size w)
  have H : ((laws_heldIntS.f k l0_2 a1).bind fun t369 => (if t369 < 0 then (some (-1)) else (some t369))) = some r := h
  clear h
  obtain ⟨t369, A30, H⟩ := Option.bind_eq_some_iff.mp H
  try dsimp only at H
  have A3 := Aside0.mk A30
  clear A30
  by_cases c4 : t369 < 0
  · rw [if_pos c4] at H
    have c4b0 : decide (t369 < 0) = true := decide_eq_true c4
    clear c4
    obtain rfl := Option.some.inj H
    go_enter Tryd.func42, Tryd.ntmps42
    go_wp2_with (first | ((with_reducible refine gd 2 ?_); refine bA 2 #[.int .i64 a0_0, .string a0_1, .slice A0_2 l0_2.length c0_2] 41 ?_; intro gb368 hg w5 hbox hb; have BK368 := Aside0.mk (hbox); have GW368 := bg hg HB; have GJ368 := gi GW368; have GE368 := GW368; replace HB := bs HB hb; clear hb hbox hg; obtain ⟨hcz6_0, hcz6_1, hcz6_2, hfz6_0, hfz6_1, hfz6_2⟩ := cs3 BK368) | ((with_reducible refine gate_callee (f := 88) rfl ?_); refine gB (some 8) Tryd.func88 #[.slice A0_2 l0_2.length c0_2, .int .i64 a1] ?_; (with_reducible refine (laws_heldIntS.calls k _ _ l0_2 a1 t369 _ ?side1 ?side2 A3.out).mono ?_); (case side1 => exact ch HR0_2 HB); (case side2 => exact HC0_2.out); rintro e w' ⟨rfl, ⟨nd, rfl⟩⟩; refine ⟨_, rfl, ?_⟩))
    go_ret
    exact ⟨y0_6, bI HB.out⟩
  · rw [if_neg c4] at H
    have c4b0 : decide (t369 < 0) = false := decide_eq_false c4
    clear c4
    obtain rfl := Option.some.inj H
    go_enter Tryd.func42, Tryd.ntmps42
    go_wp2_with (first | ((with_reducible refine gd 2 ?_); refine bA 2 #[.int .i64 a0_0, .string a0_1, .slice A0_2 l0_2.length c0_2] 41 ?_; intro gb368 hg w7 hbox hb; have BK368 := Aside0.mk (hbox); have GW368 := bg hg HB; have GJ368 := gi GW368; have GE368 := GW368; replace HB := bs HB hb; clear hb hbox hg; obtain ⟨hcz8_0, hcz8_1, hcz8_2, hfz8_0, hfz8_1, hfz8_2⟩ := cs3 BK368) | ((with_reducible refine gate_callee (f := 88) rfl ?_); refine gB (some 8) Tryd.func88 #[.slice A0_2 l0_2.length c0_2, .int .i64 a1] ?_; (with_reducible refine (laws_heldIntS.calls k _ _ l0_2 a1 t369 _ ?side1 ?side2 A3.out).mono ?_); (case side1 => exact ch HR0_2 HB); (case side2 => exact HC0_2.out); rintro e w' ⟨rfl, ⟨nd, rfl⟩⟩; refine ⟨_, rfl, ?_⟩))
    go_ret
    exact ⟨y0_6, bI HB.out⟩

end Go.Proofs.YtcmldmlmhpfjhaaDoor.PFnExactPartQc
