-- By a program of this session, out of the translation (the print of the kit, with turns of its own). Lean checks it.
import Derived.Test.YtcmldmlmhpfjhaaDoorPFnExactSafeBytesx0
import Derived.Test.YtcmldmlmhpfjhaaDoorPFnExactSafeBytesx2
import Derived.Test.YtcmldmlmhpfjhaaDoorPFnExactSafeBytesx4
import Derived.Test.YtcmldmlmhpfjhaaDoorPFnExactSafeBytesx5
namespace Go.Proofs.YtcmldmlmhpfjhaaDoor.PFnExactSafeBytes
open Go.RowKit Go.Proofs.YtcmldmlmhpfjhaaDoorW.PrintWords Go.Proofs.YtcmldmlmhpfjhaaDoorW.PrintLast Go.Proofs.YtcmldmlmhpfjhaaDoorW.PrintMore
attribute [local go_sem] max2_int min2_int max_two min_two max_three min_three max_four min_four   -- for this text's walks alone
set_option linter.unusedVariables false
set_option linter.unusedSimpArgs false

/-! ### spec_SafeOk: function 34 -/
def spec_SafeOk.f (k : Nat) (a0_0 : Int) (a0_1 : Int) (a1_0 : Int) (a1_1 : Int) (a1_2 : Int) (a1_3 : ByteArray) (l1_4 : List Int) (a1_5 : ByteArray) : Option (Bool) := (spec_l1In.f a1_0 0 60).bind fun t255 => (if t255 = true then ((spec_l1In.f a1_1 0 60).bind fun t256 => (if t256 = true then ((spec_QcOk.f k a0_0 a0_1 a1_2 a1_3 l1_4).bind fun t257 => (if t257 = true then ((spec_NameOk.f k a1_5).bind fun t258 => (some t258)) else (some false))) else (some false))) else (some false))
theorem spec_SafeOk.mono : ∀ a0 a1 a2 a3 a4 a5 a6 a7 k, LeO (spec_SafeOk.f k a0 a1 a2 a3 a4 a5 a6 a7) (spec_SafeOk.f (k + 1) a0 a1 a2 a3 a4 a5 a6 a7) := by
  intro a0 a1 a2 a3 a4 a5 a6 a7 k
  unfold spec_SafeOk.f
  repeat' first
      | (with_reducible exact spec_NameOk.mono _ _)
      | (with_reducible exact spec_QcOk.mono _ _ _ _ _ _)
      | (with_reducible exact LeO.refl _)
      | (with_reducible exact LeO.none _)
      | (with_reducible refine LeO.ite ?_ ?_)
      | (with_reducible refine LeO.bind ?_ (fun _ => ?_))
      | exact spec_NameOk.mono _ _
      | exact spec_QcOk.mono _ _ _ _ _ _
      | exact LeO.none _
      | refine LeO.ite ?_ ?_
      | refine LeO.bind ?_ (fun _ => ?_)
set_option maxHeartbeats 8000000 in
set_option maxRecDepth 100000 in
theorem spec_SafeOk.calls (k : Nat) (a0_0 : Int) (a0_1 : Int) (a1_0 : Int) (a1_1 : Int) (a1_2 : Int) (a1_3 : ByteArray) (A1_4 : Option Addr) (c1_4 : Nat) (l1_4 : List Int) (a1_5 : ByteArray) (r : Bool) (w : World) (hr1_4 : Kd.C (Kd.int .i64) w A1_4 l1_4.length l1_4) (hc1_4 : l1_4.length ≤ c1_4) (h : spec_SafeOk.f k a0_0 a0_1 a1_0 a1_1 a1_2 a1_3 l1_4 a1_5 = some r) :
    Calls Tryd.prog 34 #[.agg #[.int .i64 a0_0, .int .i64 a0_1], .agg #[.int .i64 a1_0, .int .i64 a1_1, .int .i64 a1_2, .string a1_3, .slice A1_4 l1_4.length c1_4, .string a1_5]] w fun e w' => e = .returned (.bool r) ∧ Below w.heap.size w w' := by
  have hu32 := Tryd.underlying32
  have hu57 := Tryd.underlying57
  have hu41 := Tryd.underlying41
  have HR1_4 := Aside0.mk hr1_4
  have HC1_4 := Aside0.mk hc1_4
  clear hr1_4 hc1_4
  have HB := Aside0.mk (Below.refl w.heap.size w)
  have H : ((spec_l1In.f a1_0 0 60).bind fun t255 => (if t255 = true then ((spec_l1In.f a1_1 0 60).bind fun t256 => (if t256 = true then ((spec_QcOk.f k a0_0 a0_1 a1_2 a1_3 l1_4).bind fun t257 => (if t257 = true then ((spec_NameOk.f k a1_5).bind fun t258 => (some t258)) else (some false))) else (some false))) else (some false))) = some r := h
  clear h
  obtain ⟨t255, A30, H⟩ := Option.bind_eq_some_iff.mp H
  try dsimp only at H
  have A3 := Aside0.mk A30
  clear A30
  by_cases c4 : t255 = true
  · subst c4
    rw [if_pos rfl] at H
    obtain ⟨t256, A50, H⟩ := Option.bind_eq_some_iff.mp H
    try dsimp only at H
    have A5 := Aside0.mk A50
    clear A50
    by_cases c6 : t256 = true
    · subst c6
      rw [if_pos rfl] at H
      obtain ⟨t257, A70, H⟩ := Option.bind_eq_some_iff.mp H
      try dsimp only at H
      have A7 := Aside0.mk A70
      clear A70
      by_cases c8 : t257 = true
      · subst c8
        rw [if_pos rfl] at H
        obtain ⟨t258, A90, H⟩ := Option.bind_eq_some_iff.mp H
        try dsimp only at H
        have A9 := Aside0.mk A90
        clear A90
        obtain rfl := Option.some.inj H
        go_enter Tryd.func34, Tryd.ntmps34
        go_wp2_with (first | ((with_reducible refine gd 2 ?_); refine bA 2 #[.int .i64 a0_0, .int .i64 a0_1] 32 ?_; intro gb253 hg w10 hbox hb; have BK253 := Aside0.mk (hbox); have GW253 := bg hg HB; have GJ253 := gi GW253; have GE253 := GW253; replace HB := bs HB hb; clear hb hbox hg) | ((with_reducible refine gd 3 ?_); refine bA 3 #[.int .i64 a1_0, .int .i64 a1_1, .int .i64 a1_2, .string a1_3, .slice A1_4 l1_4.length c1_4, .string a1_5] 57 ?_; intro gb254 hg w11 hbox hb; have BK254 := Aside0.mk (hbox); have GW254 := bg hg HB; have GJ254 := gi GW254; have GE254 := GW254; replace HB := bs HB hb; have NB253_254 := b1 BK253 hg; have NI253_254 := ni NB253_254; have NB254_253 := b2 BK253 hg; have NI254_253 := ni NB254_253; replace BK253 := bk BK253 hb; clear hb hbox hg; have hnb12 := NB254_253.out; have hnc12 := NB253_254.out; have hcz13_0 := bc0 BK254.out; have hcz13_1 := bc1 BK254.out; have hcz13_2 := bc2 BK254.out; have hcz13_3 := bc3 BK254.out; have hcz13_4 := bc4 BK254.out; have hcz13_5 := bc5 BK254.out; have hfz13_0 := blk_frozen BK254.out 0; have hfz13_1 := blk_frozen BK254.out 1; have hfz13_2 := blk_frozen BK254.out 2; have hfz13_3 := blk_frozen BK254.out 3; have hfz13_4 := blk_frozen BK254.out 4; have hfz13_5 := blk_frozen BK254.out 5) | ((with_reducible refine gate_callee (f := 71) rfl ?_); refine gB (some 7) Tryd.func71 #[.int .i64 a1_0, .int .i64 0, .int .i64 60] ?_; (with_reducible refine (spec_l1In.calls a1_0 0 60 true _ A3.out).mono ?_); rintro e w' ⟨rfl, ⟨nd, rfl⟩⟩; refine ⟨_, rfl, ?_⟩) | (go_at_call 71; (with_reducible refine (spec_l1In.calls a1_1 0 60 true _ A5.out).mono ?_); rintro e w' ⟨rfl, ⟨nd, rfl⟩⟩; obtain ⟨hcz14_0, hcz14_1, hfz14_0, hfz14_1⟩ := cs2 BK253) | (go_at_call 24; (with_reducible refine (spec_QcOk.calls k a0_0 a0_1 a1_2 a1_3 _ _ l1_4 true _ ?side1 ?side2 A7.out).mono ?_); (case side1 => exact (Kd.C_below HR1_4.out (bI HB.out))); (case side2 => exact HC1_4.out); rintro e w15 ⟨rfl, hb⟩; replace BK253 := bk BK253 hb; replace BK254 := bk BK254 hb; replace HB := bs HB hb; (try clear hb); (try clear hb2); (try clear hk); (try clear hi); have hcz16_0 := bc0 BK254.out; have hcz16_1 := bc1 BK254.out; have hcz16_2 := bc2 BK254.out; have hcz16_3 := bc3 BK254.out; have hcz16_4 := bc4 BK254.out; have hcz16_5 := bc5 BK254.out; have hfz16_0 := blk_frozen BK254.out 0; have hfz16_1 := blk_frozen BK254.out 1; have hfz16_2 := blk_frozen BK254.out 2; have hfz16_3 := blk_frozen BK254.out 3; have hfz16_4 := blk_frozen BK254.out 4; have hfz16_5 := blk_frozen BK254.out 5) | (go_at_call 73; (with_reducible refine (spec_NameOk.calls k a1_5 t258 _ A9.out).mono ?_); rintro e w17 ⟨rfl, hb⟩; replace BK253 := bk BK253 hb; replace BK254 := bk BK254 hb; replace HB := bs HB hb; (try clear hb); (try clear hb2); (try clear hk); (try clear hi)))
        go_ret
        exact ⟨y0_7, bI HB.out⟩
      · replace c8 := Bool.eq_false_iff.mpr c8
        subst c8
        rw [if_neg (show ¬ (false = true) by decide)] at H
        obtain rfl := Option.some.inj H
        go_enter Tryd.func34, Tryd.ntmps34
        go_wp2_with (first | ((with_reducible refine gd 2 ?_); refine bA 2 #[.int .i64 a0_0, .int .i64 a0_1] 32 ?_; intro gb253 hg w18 hbox hb; have BK253 := Aside0.mk (hbox); have GW253 := bg hg HB; have GJ253 := gi GW253; have GE253 := GW253; replace HB := bs HB hb; clear hb hbox hg) | ((with_reducible refine gd 3 ?_); refine bA 3 #[.int .i64 a1_0, .int .i64 a1_1, .int .i64 a1_2, .string a1_3, .slice A1_4 l1_4.length c1_4, .string a1_5] 57 ?_; intro gb254 hg w19 hbox hb; have BK254 := Aside0.mk (hbox); have GW254 := bg hg HB; have GJ254 := gi GW254; have GE254 := GW254; replace HB := bs HB hb; have NB253_254 := b1 BK253 hg; have NI253_254 := ni NB253_254; have NB254_253 := b2 BK253 hg; have NI254_253 := ni NB254_253; replace BK253 := bk BK253 hb; clear hb hbox hg; have hnb20 := NB254_253.out; have hnc20 := NB253_254.out; have hcz21_0 := bc0 BK254.out; have hcz21_1 := bc1 BK254.out; have hcz21_2 := bc2 BK254.out; have hcz21_3 := bc3 BK254.out; have hcz21_4 := bc4 BK254.out; have hcz21_5 := bc5 BK254.out; have hfz21_0 := blk_frozen BK254.out 0; have hfz21_1 := blk_frozen BK254.out 1; have hfz21_2 := blk_frozen BK254.out 2; have hfz21_3 := blk_frozen BK254.out 3; have hfz21_4 := blk_frozen BK254.out 4; have hfz21_5 := blk_frozen BK254.out 5) | ((with_reducible refine gate_callee (f := 71) rfl ?_); refine gB (some 7) Tryd.func71 #[.int .i64 a1_0, .int .i64 0, .int .i64 60] ?_; (with_reducible refine (spec_l1In.calls a1_0 0 60 true _ A3.out).mono ?_); rintro e w' ⟨rfl, ⟨nd, rfl⟩⟩; refine ⟨_, rfl, ?_⟩) | (go_at_call 71; (with_reducible refine (spec_l1In.calls a1_1 0 60 true _ A5.out).mono ?_); rintro e w' ⟨rfl, ⟨nd, rfl⟩⟩; obtain ⟨hcz22_0, hcz22_1, hfz22_0, hfz22_1⟩ := cs2 BK253) | (go_at_call 24; (with_reducible refine (spec_QcOk.calls k a0_0 a0_1 a1_2 a1_3 _ _ l1_4 false _ ?side1 ?side2 A7.out).mono ?_); (case side1 => exact (Kd.C_below HR1_4.out (bI HB.out))); (case side2 => exact HC1_4.out); rintro e w23 ⟨rfl, hb⟩; replace BK253 := bk BK253 hb; replace BK254 := bk BK254 hb; replace HB := bs HB hb; (try clear hb); (try clear hb2); (try clear hk); (try clear hi)))
        go_ret
        exact ⟨y0_7, bI HB.out⟩
    · replace c6 := Bool.eq_false_iff.mpr c6
      subst c6
      rw [if_neg (show ¬ (false = true) by decide)] at H
      obtain rfl := Option.some.inj H
      go_enter Tryd.func34, Tryd.ntmps34
      go_wp2_with (first | ((with_reducible refine gd 2 ?_); refine bA 2 #[.int .i64 a0_0, .int .i64 a0_1] 32 ?_; intro gb253 hg w24 hbox hb; have BK253 := Aside0.mk (hbox); have GW253 := bg hg HB; have GJ253 := gi GW253; have GE253 := GW253; replace HB := bs HB hb; clear hb hbox hg) | ((with_reducible refine gd 3 ?_); refine bA 3 #[.int .i64 a1_0, .int .i64 a1_1, .int .i64 a1_2, .string a1_3, .slice A1_4 l1_4.length c1_4, .string a1_5] 57 ?_; intro gb254 hg w25 hbox hb; have BK254 := Aside0.mk (hbox); have GW254 := bg hg HB; have GJ254 := gi GW254; have GE254 := GW254; replace HB := bs HB hb; have NB253_254 := b1 BK253 hg; have NI253_254 := ni NB253_254; have NB254_253 := b2 BK253 hg; have NI254_253 := ni NB254_253; replace BK253 := bk BK253 hb; clear hb hbox hg; have hnb26 := NB254_253.out; have hnc26 := NB253_254.out; have hcz27_0 := bc0 BK254.out; have hcz27_1 := bc1 BK254.out; have hcz27_2 := bc2 BK254.out; have hcz27_3 := bc3 BK254.out; have hcz27_4 := bc4 BK254.out; have hcz27_5 := bc5 BK254.out; have hfz27_0 := blk_frozen BK254.out 0; have hfz27_1 := blk_frozen BK254.out 1; have hfz27_2 := blk_frozen BK254.out 2; have hfz27_3 := blk_frozen BK254.out 3; have hfz27_4 := blk_frozen BK254.out 4; have hfz27_5 := blk_frozen BK254.out 5) | ((with_reducible refine gate_callee (f := 71) rfl ?_); refine gB (some 7) Tryd.func71 #[.int .i64 a1_0, .int .i64 0, .int .i64 60] ?_; (with_reducible refine (spec_l1In.calls a1_0 0 60 true _ A3.out).mono ?_); rintro e w' ⟨rfl, ⟨nd, rfl⟩⟩; refine ⟨_, rfl, ?_⟩) | (go_at_call 71; (with_reducible refine (spec_l1In.calls a1_1 0 60 false _ A5.out).mono ?_); rintro e w' ⟨rfl, ⟨nd, rfl⟩⟩))
      go_ret
      exact ⟨y0_7, bI HB.out⟩
  · replace c4 := Bool.eq_false_iff.mpr c4
    subst c4
    rw [if_neg (show ¬ (false = true) by decide)] at H
    obtain rfl := Option.some.inj H
    go_enter Tryd.func34, Tryd.ntmps34
    go_wp2_with (first | ((with_reducible refine gd 2 ?_); refine bA 2 #[.int .i64 a0_0, .int .i64 a0_1] 32 ?_; intro gb253 hg w28 hbox hb; have BK253 := Aside0.mk (hbox); have GW253 := bg hg HB; have GJ253 := gi GW253; have GE253 := GW253; replace HB := bs HB hb; clear hb hbox hg) | ((with_reducible refine gd 3 ?_); refine bA 3 #[.int .i64 a1_0, .int .i64 a1_1, .int .i64 a1_2, .string a1_3, .slice A1_4 l1_4.length c1_4, .string a1_5] 57 ?_; intro gb254 hg w29 hbox hb; have BK254 := Aside0.mk (hbox); have GW254 := bg hg HB; have GJ254 := gi GW254; have GE254 := GW254; replace HB := bs HB hb; have NB253_254 := b1 BK253 hg; have NI253_254 := ni NB253_254; have NB254_253 := b2 BK253 hg; have NI254_253 := ni NB254_253; replace BK253 := bk BK253 hb; clear hb hbox hg; have hnb30 := NB254_253.out; have hnc30 := NB253_254.out; have hcz31_0 := bc0 BK254.out; have hcz31_1 := bc1 BK254.out; have hcz31_2 := bc2 BK254.out; have hcz31_3 := bc3 BK254.out; have hcz31_4 := bc4 BK254.out; have hcz31_5 := bc5 BK254.out; have hfz31_0 := blk_frozen BK254.out 0; have hfz31_1 := blk_frozen BK254.out 1; have hfz31_2 := blk_frozen BK254.out 2; have hfz31_3 := blk_frozen BK254.out 3; have hfz31_4 := blk_frozen BK254.out 4; have hfz31_5 := blk_frozen BK254.out 5) | ((with_reducible refine gate_callee (f := 71) rfl ?_); refine gB (some 7) Tryd.func71 #[.int .i64 a1_0, .int .i64 0, .int .i64 60] ?_; (with_reducible refine (spec_l1In.calls a1_0 0 60 false _ A3.out).mono ?_); rintro e w' ⟨rfl, ⟨nd, rfl⟩⟩; refine ⟨_, rfl, ?_⟩))
    go_ret
    exact ⟨y0_7, bI HB.out⟩

/-! ### spec_PutNum: function 89 -/
def spec_PutNum.l0 : Nat → Int → List Int → Option (List Int)
  | 0, _, _ => none
  | k + 1, x0, x3 => if x0 > 127 then (if x3.length < 140737488355328 then (spec_PutNum.l0 k (wrap64 (Int.tdiv x0 128)) (x3 ++ [(wrap64 ((Int.tmod x0 128) + 128)) % 256])) else (none)) else (if x3.length < 140737488355328 then (some (x3 ++ [(x0) % 256])) else (none))
def spec_PutNum.f (k : Nat) (a0 : Int) : Option (List Int) := (some (([] : List Int) : List Int)).bind fun y259 => ((spec_l1In.f a0 0 2147483647).bind fun t262 => (if t262 = true then (spec_PutNum.l0 k a0 y259) else (some y259)))
theorem spec_PutNum.mono_l : ∀ k, (∀ y0 y1, LeO (spec_PutNum.l0 k y0 y1) (spec_PutNum.l0 (k + 1) y0 y1))
  | 0 => fun _ _ r h => by simp [spec_PutNum.l0] at h
  | k + 1 => by
    have ih0 := spec_PutNum.mono_l k
    · intro y0 y1
      unfold spec_PutNum.l0
      repeat' first
      | (with_reducible exact ih0 _ _)
      | (with_reducible exact LeO.refl _)
      | (with_reducible exact LeO.none _)
      | (with_reducible refine LeO.ite ?_ ?_)
      | (with_reducible refine LeO.bind ?_ (fun _ => ?_))
      | exact ih0 _ _
      | exact LeO.none _
      | refine LeO.ite ?_ ?_
      | refine LeO.bind ?_ (fun _ => ?_)
theorem spec_PutNum.mono : ∀ a0 k, LeO (spec_PutNum.f k a0) (spec_PutNum.f (k + 1) a0) := by
  intro a0 k
  have ih0 := spec_PutNum.mono_l k
  unfold spec_PutNum.f
  repeat' first
      | (with_reducible exact ih0 _ _)
      | (with_reducible exact LeO.refl _)
      | (with_reducible exact LeO.none _)
      | (with_reducible refine LeO.ite ?_ ?_)
      | (with_reducible refine LeO.bind ?_ (fun _ => ?_))
      | exact ih0 _ _
      | exact LeO.none _
      | refine LeO.ite ?_ ?_
      | refine LeO.bind ?_ (fun _ => ?_)
set_option maxHeartbeats 8000000 in
set_option maxRecDepth 100000 in
theorem spec_PutNum.calls (k : Nat) (a0 : Int) (r : List Int) (w : World) (h : spec_PutNum.f k a0 = some r) :
    Calls Tryd.prog 89 #[.int .i64 a0] w fun e w' => ∃ v0_ : Value, e = .returned (v0_) ∧ Kd.R (Kd.int .u8) 5 w' w.heap.size (fun _ => True) v0_ r ∧ Below w.heap.size w w' := by
  have HB := Aside0.mk (Below.refl w.heap.size w)
  have H : ((some (([] : List Int) : List Int)).bind fun y259 => ((spec_l1In.f a0 0 2147483647).bind fun t262 => (if t262 = true then (spec_PutNum.l0 k a0 y259) else (some y259)))) = some r := h
  clear h
  obtain ⟨y259, hy259⟩ : ∃ y_ : List Int, y_ = (([] : List Int)) := ⟨_, rfl⟩
  replace H : ((spec_l1In.f a0 0 2147483647).bind fun t262 => (if t262 = true then (spec_PutNum.l0 k a0 y259) else (some y259))) = some r := by first | (rw [hy259]; with_reducible exact H) | (have H2_ := (Option.bind_some _ _).symm.trans H; rw [hy259]; with_reducible exact H2_) | (have H2_ := (Option.bind_some _ _).symm.trans H; with_reducible exact H2_) | with_reducible exact H | (rw [hy259]; exact H) | exact H
  have Ny259 := Aside0.mk hy259
  clear hy259
  obtain ⟨t262, A20, H⟩ := Option.bind_eq_some_iff.mp H
  try dsimp only at H
  have A2 := Aside0.mk A20
  clear A20
  by_cases c3 : t262 = true
  · subst c3
    rw [if_pos rfl] at H
    have H' := Aside0.mk H
    clear H
    go_enter Tryd.func89, Tryd.ntmps89
    go_wp2_with (first | ((with_reducible refine gate_dst (N := 4) rfl ?_); refine Kd.R_lit (Kd.int .u8) _ 5 ?hg (N := 4) ?hd (xs := ([] : List Int)) (inner := []) (ok := fun _ => True) (okp := fun _ => True) ?hr ?hp (fun _ hk => hk) trivial (Below.refl _ _) (Nat.le_refl _) (by simp) ?_; (case hd => rfl); (case hg => rfl); (case hr => first | (go_simp; done) | (go_simp; rfl)); (case hp => exact (Reps.none _ _)); intro v260 w4 ho5 hb hg_ hnew_; clear hg_ hnew_; (first | rw [← Ny259.out] at ho5 | (simp only [Int.reduceToNat] at ho5; rw [← Ny259.out] at ho5)); have HO261 := Aside0.mk (Kd.R_lower ho5 (below_size (bI HB.out))); replace HB := bs HB hb; clear hb ho5) | ((with_reducible refine gate_callee (f := 71) rfl ?_); refine gB (some 6) Tryd.func71 #[.int .i64 a0, .int .i64 0, .int .i64 2147483647] ?_; (with_reducible refine (spec_l1In.calls a0 0 2147483647 true _ A2.out).mono ?_); rintro e w' ⟨rfl, ⟨nd, rfl⟩⟩; refine ⟨_, rfl, ?_⟩))
    go_loopg [0, 3] k (fun kq v0 v3 w' => ∃ (x0_1 : Int) (x3_1 : List Int), v0 = .int .i64 x0_1 ∧ Aside0 (spec_PutNum.l0 kq x0_1 x3_1 = some r) ∧ Aside0 (kq ≤ k) ∧ Aside0 (Kd.R (Kd.int .u8) 5 w' w.heap.size (fun _ => True) v3 x3_1) ∧ Aside0 (Below w.heap.size w w'))
    case atStart => exact ⟨(a0), (y259), y0_10, H', ⟨Nat.le_refl _⟩, ⟨by (with_reducible repeat (first | apply Kd.R_alloc | apply Kd.R_drewN | apply Kd.R_drew)); exact HO261.out⟩, ⟨bI HB.out⟩⟩
    case round =>
      clear H'
      try clear p2
      try clear c3
      obtain ⟨x0_1, x3_1, rfl, HA, HK1, HO_3, HB⟩ := hrel
      cases gk with
      | zero => exact absurd HA.out (by simp [spec_PutNum.l0])
      | succ k1 =>
        have H := HA.out
        clear HA
        simp only [spec_PutNum.l0] at H
        by_cases c6 : x0_1 > 127
        · rw [if_pos c6] at H
          have c6b0 : decide (127 < x0_1) = true := decide_eq_true c6
          clear c6
          by_cases c7 : x3_1.length < 140737488355328
          rotate_left
          · rw [if_neg c7] at H
            exact absurd H (by simp)
          rw [if_pos c7] at H
          have LMc7 := Aside0.mk c7
          clear c7
          obtain ⟨y263, hy263⟩ : ∃ y_ : List Int, y_ = (x3_1 ++ [(wrap64 ((Int.tmod x0_1 128) + 128)) % 256]) := ⟨_, rfl⟩
          replace H : (spec_PutNum.l0 k1 (wrap64 (Int.tdiv x0_1 128)) y263) = some r := by first | (rw [hy263]; with_reducible exact H) | (have H2_ := (Option.bind_some _ _).symm.trans H; rw [hy263]; with_reducible exact H2_) | (have H2_ := (Option.bind_some _ _).symm.trans H; with_reducible exact H2_) | with_reducible exact H | (rw [hy263]; exact H) | exact H
          have Ny263 := Aside0.mk hy263
          clear hy263
          have H' := Aside0.mk H
          clear H
          go_wp2_with (first | ((with_reducible refine gate_builtin (b := .append) (xs := #[.tmp 11, .tmp 16]) rfl ?_); at_builtin; refine Kd.R_append (Kd.int .u8) (w0 := w) w.heap.size rfl (.tmp 11) (.tmp 16) 74 5 (.int .u8 0) 1 rfl Tryd.underlying74 info5 rfl (by decide) (by omega) u3 x3_1 ((wrap64 ((Int.tmod x0_1 128) + 128)) % 256) [.int .u8 ((wrap64 ((Int.tmod x0_1 128) + 128)) % 256)] (fun _ => True) (fun _ => False) rfl rfl ?aP (fun _ hk => hk.elim) ?aF ?aO ?aB ?aS ?aL ?_; (case aP => exact rfl); (case aB => exact (bI HB.out)); (case aF => exact (fun _ _ => trivial)); (case aO => exact (rI HO_3.out)); (case aS => exact (below_size (bI HB.out))); (case aL => have := LMc7.out; omega); intro v264 w8 ho hb hg hat; rw [← Ny263.out] at ho; have n0_ := Aside0.mk (hb); have n1_ := Aside0.mk (ho); clear HB; clear HO_3; have HB := n0_; have HO265 := n1_; clear n0_ n1_; clear ho hb hg hat))
          go_roundg k1
          case measure => have := HK1.out; omega
          case rel => exact ⟨(wrap64 (Int.tdiv x0_1 128)), (y263), y0_10, H', ⟨y0_14⟩, ⟨by (with_reducible repeat (first | apply Kd.R_alloc | apply Kd.R_drewN | apply Kd.R_drew)); exact HO265.out⟩, ⟨bI HB.out⟩⟩
        · rw [if_neg c6] at H
          have c6b0 : decide (127 < x0_1) = false := decide_eq_false c6
          clear c6
          by_cases c9 : x3_1.length < 140737488355328
          rotate_left
          · rw [if_neg c9] at H
            exact absurd H (by simp)
          rw [if_pos c9] at H
          have LMc9 := Aside0.mk c9
          clear c9
          obtain ⟨y266, hy266⟩ : ∃ y_ : List Int, y_ = (x3_1 ++ [(x0_1) % 256]) := ⟨_, rfl⟩
          replace H : (some y266) = some r := by first | (rw [hy266]; with_reducible exact H) | (have H2_ := (Option.bind_some _ _).symm.trans H; rw [hy266]; with_reducible exact H2_) | (have H2_ := (Option.bind_some _ _).symm.trans H; with_reducible exact H2_) | with_reducible exact H | (rw [hy266]; exact H) | exact H
          have Ny266 := Aside0.mk hy266
          clear hy266
          obtain rfl := Option.some.inj H
          go_wp2_with (first | ((with_reducible refine gate_builtin (b := .append) (xs := #[.tmp 20, .tmp 23]) rfl ?_); at_builtin; refine Kd.R_append (Kd.int .u8) (w0 := w) w.heap.size rfl (.tmp 20) (.tmp 23) 74 5 (.int .u8 0) 1 rfl Tryd.underlying74 info5 rfl (by decide) (by omega) u3 x3_1 ((x0_1) % 256) [.int .u8 ((x0_1) % 256)] (fun _ => True) (fun _ => False) rfl rfl ?aP (fun _ hk => hk.elim) ?aF ?aO ?aB ?aS ?aL ?_; (case aP => exact rfl); (case aB => exact (bI HB.out)); (case aF => exact (fun _ _ => trivial)); (case aO => exact (rI HO_3.out)); (case aS => exact (below_size (bI HB.out))); (case aL => have := LMc9.out; omega); intro v267 w10 ho hb hg hat; rw [← Ny266.out] at ho; have n0_ := Aside0.mk (hb); have n1_ := Aside0.mk (ho); clear HB; clear HO_3; have HB := n0_; have HO268 := n1_; clear n0_ n1_; clear ho hb hg hat))
          go_ret
          exact ⟨_, y0_7, by (with_reducible repeat (first | apply Kd.R_alloc | apply Kd.R_drewN | apply Kd.R_drew)); exact HO268.out, bI HB.out⟩
  · replace c3 := Bool.eq_false_iff.mpr c3
    subst c3
    rw [if_neg (show ¬ (false = true) by decide)] at H
    obtain rfl := Option.some.inj H
    go_enter Tryd.func89, Tryd.ntmps89
    go_wp2_with (first | ((with_reducible refine gate_dst (N := 4) rfl ?_); refine Kd.R_lit (Kd.int .u8) _ 5 ?hg (N := 4) ?hd (xs := ([] : List Int)) (inner := []) (ok := fun _ => True) (okp := fun _ => True) ?hr ?hp (fun _ hk => hk) trivial (Below.refl _ _) (Nat.le_refl _) (by simp) ?_; (case hd => rfl); (case hg => rfl); (case hr => first | (go_simp; done) | (go_simp; rfl)); (case hp => exact (Reps.none _ _)); intro v260 w11 ho12 hb hg_ hnew_; clear hg_ hnew_; (first | rw [← Ny259.out] at ho12 | (simp only [Int.reduceToNat] at ho12; rw [← Ny259.out] at ho12)); have HO261 := Aside0.mk (Kd.R_lower ho12 (below_size (bI HB.out))); replace HB := bs HB hb; clear hb ho12) | ((with_reducible refine gate_callee (f := 71) rfl ?_); refine gB (some 6) Tryd.func71 #[.int .i64 a0, .int .i64 0, .int .i64 2147483647] ?_; (with_reducible refine (spec_l1In.calls a0 0 2147483647 false _ A2.out).mono ?_); rintro e w' ⟨rfl, ⟨nd, rfl⟩⟩; refine ⟨_, rfl, ?_⟩))
    go_ret
    exact ⟨_, y0_7, by (with_reducible repeat (first | apply Kd.R_alloc | apply Kd.R_drewN | apply Kd.R_drew)); exact HO261.out, bI HB.out⟩

/-! ### spec_PutText: function 90 -/
def spec_PutText.f (k : Nat) (a0 : ByteArray) : Option (List Int) := (spec_PutNum.f k (a0.size : Int)).bind fun t1 => (if t1.length + a0.size < 140737488355328 then (some (t1 ++ bytesOf a0)) else (none))
theorem spec_PutText.mono : ∀ a0 k, LeO (spec_PutText.f k a0) (spec_PutText.f (k + 1) a0) := by
  intro a0 k
  unfold spec_PutText.f
  repeat' first
      | (with_reducible exact spec_PutNum.mono _ _)
      | (with_reducible exact LeO.refl _)
      | (with_reducible exact LeO.none _)
      | (with_reducible refine LeO.ite ?_ ?_)
      | (with_reducible refine LeO.bind ?_ (fun _ => ?_))
      | exact spec_PutNum.mono _ _
      | exact LeO.none _
      | refine LeO.ite ?_ ?_
      | refine LeO.bind ?_ (fun _ => ?_)
theorem spec_PutText.up {w W : World} (h : Below w.heap.size w W) (e : TypeId) (s : ByteArray) : Below w.heap.size w (Go.Lib.bytesWorld W e s) := bytes_below h (below_size h) e s
set_option maxHeartbeats 8000000 in
set_option maxRecDepth 100000 in
theorem spec_PutText.calls (k : Nat) (a0 : ByteArray) (r : List Int) (w : World) (h : spec_PutText.f k a0 = some r) :
    Calls Tryd.prog 90 #[.string a0] w fun e w' => ∃ v0_ : Value, e = .returned (v0_) ∧ Kd.R (Kd.int .u8) 5 w' w.heap.size (fun _ => True) v0_ r ∧ Below w.heap.size w w' := by
  have HB := Aside0.mk (Below.refl w.heap.size w)
  obtain ⟨t1, A20, H⟩ := Option.bind_eq_some_iff.mp h
  try dsimp only at H
  have A2 := Aside0.mk A20
  clear A20 h
  by_cases c3 : t1.length + a0.size < 140737488355328
  · rw [if_pos c3] at H
    have LMc3 := Aside0.mk c3
    clear c3
    obtain ⟨y1, hy1⟩ : ∃ y_ : List Int, y_ = (t1 ++ bytesOf a0) := ⟨_, rfl⟩
    rw [← hy1] at H
    have Ny1 := Aside0.mk hy1
    clear hy1
    obtain rfl := Option.some.inj H
    clear H
    have kb := fun W => print_bytes (P := Tryd.prog) 9 74 5 Tryd.underlying9 Tryd.underlying74 Tryd.underlying5 a0 W
    go_enter Tryd.func90, Tryd.ntmps90
    go_wp2_with (first | ((with_reducible refine gate_callee (f := 89) rfl ?_); refine gB (some 5) Tryd.func89 #[.int .i64 (a0.size : Int)] ?_; (with_reducible refine (spec_PutNum.calls k (a0.size : Int) t1 _ A2.out).mono ?_); rintro e w4 ⟨v1, rfl, ho0, hb⟩; refine ⟨_, rfl, ?_⟩; have HO1 := Aside0.mk (Kd.R_lower ho0 (below_size (bI HB.out))); replace HB := bs HB hb; clear hb ho0; have HB1 := Aside0.mk (spec_PutText.up HB.out 5 a0); have HO2 := Aside0.mk (Kd.R_below HO1.out (spec_PutText.up (Below.refl _ _) 5 a0))) | (at_builtin; refine Kd.R_append_rows (Kd.int .u8) (w0 := w) w.heap.size rfl (.tmp 5) (.tmp 7) 74 5 (.int .u8 0) 1 rfl Tryd.underlying74 info5 rfl (by decide) (by omega) v1 t1 (bytesOf a0) _ _ _ (fun _ => True) (fun _ => False) rfl rfl ?aO ?aR (fun _ _ h => h) (fun _ h => h.elim) ?aF ?aB ?aS ?aL ?_; (case aR => rw [← bytesOf_length a0]; exact Kd.C_of_reads (d := (0 : Int)) (h1 := fun _ => rfl) (readsInt_of.1 (by rw [bytesOf_length]; exact bytes_reads w4 5 a0 (by have := LMc3.out; omega)))); (case aB => exact HB1.out); (case aF => exact (fun _ _ => trivial)); (case aO => exact HO2.out); (case aS => exact (below_size HB1.out)); (case aL => have := LMc3.out; omega); intro v2 w5 ho hb hg hat; rw [← Ny1.out] at ho))
    go_ret
    exact ⟨_, y0_10, ho, hb⟩
  · rw [if_neg c3] at H
    exact absurd H (by simp)

/-! ### spec_QcBytes: function 48 -/
def spec_QcBytes.l0 : Nat → List Int → Int → Int → ByteArray → List Int → Option (List Int)
  | 0, _, _, _, _, _ => none
  | k + 1, x5, x6, x271000, x271001, x271002 => if x6 < (x271002.length : Int) then (if 0 ≤ x6 then ((spec_PutNum.f k (rd x271002 x6)).bind fun t291 => (if x5.length + t291.length < 140737488355328 then (spec_QcBytes.l0 k (x5 ++ t291) (wrap64 (x6 + 1)) x271000 x271001 x271002) else (none))) else (none)) else (some x5)
def spec_QcBytes.f (k : Nat) (a0_0 : Int) (a0_1 : Int) (a1_0 : Int) (a1_1 : ByteArray) (l1_2 : List Int) : Option (List Int) := (spec_QcOk.f k a0_0 a0_1 a1_0 a1_1 l1_2).bind fun t271 => (if t271 = true then ((spec_PutNum.f k a1_0).bind fun t275 => ((spec_PutText.f k a1_1).bind fun t278 => (if t275.length + t278.length < 140737488355328 then ((some (t275 ++ t278 : List Int)).bind fun y281 => ((spec_PutNum.f k (l1_2.length : Int)).bind fun t284 => (if y281.length + t284.length < 140737488355328 then (spec_QcBytes.l0 k (y281 ++ t284) 0 a1_0 a1_1 l1_2) else (none)))) else (none)))) else (some (([] : List Int))))
theorem spec_QcBytes.mono_l : ∀ k, (∀ y0 y1 y2 y3 y4, LeO (spec_QcBytes.l0 k y0 y1 y2 y3 y4) (spec_QcBytes.l0 (k + 1) y0 y1 y2 y3 y4))
  | 0 => fun _ _ _ _ _ r h => by simp [spec_QcBytes.l0] at h
  | k + 1 => by
    have ih0 := spec_QcBytes.mono_l k
    · intro y0 y1 y2 y3 y4
      unfold spec_QcBytes.l0
      repeat' first
      | (with_reducible exact ih0 _ _ _ _ _)
      | (with_reducible exact spec_PutNum.mono _ _)
      | (with_reducible exact spec_PutText.mono _ _)
      | (with_reducible exact spec_QcOk.mono _ _ _ _ _ _)
      | (with_reducible exact LeO.refl _)
      | (with_reducible exact LeO.none _)
      | (with_reducible refine LeO.ite ?_ ?_)
      | (with_reducible refine LeO.bind ?_ (fun _ => ?_))
      | exact ih0 _ _ _ _ _
      | exact spec_PutNum.mono _ _
      | exact spec_PutText.mono _ _
      | exact spec_QcOk.mono _ _ _ _ _ _
      | exact LeO.none _
      | refine LeO.ite ?_ ?_
      | refine LeO.bind ?_ (fun _ => ?_)
theorem spec_QcBytes.mono : ∀ a0 a1 a2 a3 a4 k, LeO (spec_QcBytes.f k a0 a1 a2 a3 a4) (spec_QcBytes.f (k + 1) a0 a1 a2 a3 a4) := by
  intro a0 a1 a2 a3 a4 k
  have ih0 := spec_QcBytes.mono_l k
  unfold spec_QcBytes.f
  repeat' first
      | (with_reducible exact ih0 _ _ _ _ _)
      | (with_reducible exact spec_PutNum.mono _ _)
      | (with_reducible exact spec_PutText.mono _ _)
      | (with_reducible exact spec_QcOk.mono _ _ _ _ _ _)
      | (with_reducible exact LeO.refl _)
      | (with_reducible exact LeO.none _)
      | (with_reducible refine LeO.ite ?_ ?_)
      | (with_reducible refine LeO.bind ?_ (fun _ => ?_))
      | exact ih0 _ _ _ _ _
      | exact spec_PutNum.mono _ _
      | exact spec_PutText.mono _ _
      | exact spec_QcOk.mono _ _ _ _ _ _
      | exact LeO.none _
      | refine LeO.ite ?_ ?_
      | refine LeO.bind ?_ (fun _ => ?_)
def spec_QcBytes.T3 : Bool × List (List Nat × List Nat) := (true, [([], []), ([0], [0]), ([1], [1]), ([], []), ([3], [3]), ([4, 2], [4]), ([2, 5, 5], [2, 5]), ([6, 6, 0, 1, 2, 3, 4, 5, 6], [6])])
def spec_QcBytes.B3 : List Nat := [0, 1, 3, 0, 8, 31, 63, 127]
theorem spec_QcBytes.tab3 : rtab .any (opsOf Tryd.f48 3) = spec_QcBytes.T3 := by kernel_rfl
theorem spec_QcBytes.bits3 : waitsOk spec_QcBytes.T3.2 spec_QcBytes.B3 = true := by kernel_rfl
set_option maxHeartbeats 8000000 in
set_option maxRecDepth 100000 in
theorem spec_QcBytes.calls (k : Nat) (a0_0 : Int) (a0_1 : Int) (a1_0 : Int) (a1_1 : ByteArray) (A1_2 : Option Addr) (c1_2 : Nat) (l1_2 : List Int) (r : List Int) (w : World) (hr1_2 : Kd.C (Kd.int .i64) w A1_2 l1_2.length l1_2) (hc1_2 : l1_2.length ≤ c1_2) (h : spec_QcBytes.f k a0_0 a0_1 a1_0 a1_1 l1_2 = some r) :
    Calls Tryd.prog 48 #[.agg #[.int .i64 a0_0, .int .i64 a0_1], .agg #[.int .i64 a1_0, .string a1_1, .slice A1_2 l1_2.length c1_2]] w fun e w' => ∃ v0_ : Value, e = .returned (v0_) ∧ Kd.R (Kd.int .u8) 5 w' w.heap.size (fun _ => True) v0_ r ∧ Below w.heap.size w w' := by
  have hu32 := Tryd.underlying32
  have hu41 := Tryd.underlying41
  have HR1_2 := Aside0.mk hr1_2
  have HC1_2 := Aside0.mk hc1_2
  clear hr1_2 hc1_2
  have HB := Aside0.mk (Below.refl w.heap.size w)
  have H : ((spec_QcOk.f k a0_0 a0_1 a1_0 a1_1 l1_2).bind fun t271 => (if t271 = true then ((spec_PutNum.f k a1_0).bind fun t275 => ((spec_PutText.f k a1_1).bind fun t278 => (if t275.length + t278.length < 140737488355328 then ((some (t275 ++ t278 : List Int)).bind fun y281 => ((spec_PutNum.f k (l1_2.length : Int)).bind fun t284 => (if y281.length + t284.length < 140737488355328 then (spec_QcBytes.l0 k (y281 ++ t284) 0 a1_0 a1_1 l1_2) else (none)))) else (none)))) else (some (([] : List Int))))) = some r := h
  clear h
  obtain ⟨t271, A30, H⟩ := Option.bind_eq_some_iff.mp H
  try dsimp only at H
  have A3 := Aside0.mk A30
  clear A30
  by_cases c4 : t271 = true
  · subst c4
    rw [if_pos rfl] at H
    obtain ⟨t275, A50, H⟩ := Option.bind_eq_some_iff.mp H
    try dsimp only at H
    have A5 := Aside0.mk A50
    clear A50
    obtain ⟨t278, A60, H⟩ := Option.bind_eq_some_iff.mp H
    try dsimp only at H
    have A6 := Aside0.mk A60
    clear A60
    by_cases c7 : t275.length + t278.length < 140737488355328
    rotate_left
    · rw [if_neg c7] at H
      exact absurd H (by simp)
    rw [if_pos c7] at H
    have LMc7 := Aside0.mk c7
    clear c7
    obtain ⟨y281, hy281⟩ : ∃ y_ : List Int, y_ = (t275 ++ t278) := ⟨_, rfl⟩
    replace H : ((spec_PutNum.f k (l1_2.length : Int)).bind fun t284 => (if y281.length + t284.length < 140737488355328 then (spec_QcBytes.l0 k (y281 ++ t284) 0 a1_0 a1_1 l1_2) else (none))) = some r := by first | (rw [hy281]; with_reducible exact H) | (have H2_ := (Option.bind_some _ _).symm.trans H; rw [hy281]; with_reducible exact H2_) | (have H2_ := (Option.bind_some _ _).symm.trans H; with_reducible exact H2_) | with_reducible exact H | (rw [hy281]; exact H) | exact H
    have Ny281 := Aside0.mk hy281
    clear hy281
    obtain ⟨t284, A80, H⟩ := Option.bind_eq_some_iff.mp H
    try dsimp only at H
    have A8 := Aside0.mk A80
    clear A80
    by_cases c9 : y281.length + t284.length < 140737488355328
    rotate_left
    · rw [if_neg c9] at H
      exact absurd H (by simp)
    rw [if_pos c9] at H
    have LMc9 := Aside0.mk c9
    clear c9
    obtain ⟨y287, hy287⟩ : ∃ y_ : List Int, y_ = (y281 ++ t284) := ⟨_, rfl⟩
    replace H : (spec_QcBytes.l0 k y287 0 a1_0 a1_1 l1_2) = some r := by first | (rw [hy287]; with_reducible exact H) | (have H2_ := (Option.bind_some _ _).symm.trans H; rw [hy287]; with_reducible exact H2_) | (have H2_ := (Option.bind_some _ _).symm.trans H; with_reducible exact H2_) | with_reducible exact H | (rw [hy287]; exact H) | exact H
    have Ny287 := Aside0.mk hy287
    clear hy287
    have H' := Aside0.mk H
    clear H
    go_enter Tryd.func48, Tryd.ntmps48
    try go_wp2_with (first | ((with_reducible refine gd 2 ?_); refine bA 2 #[.int .i64 a0_0, .int .i64 a0_1] 32 ?_; intro gb269 hg w10 hbox hb; have BK269 := Aside0.mk (hbox); have GW269 := bg hg HB; have GJ269 := gi GW269; have GE269 := GW269; replace HB := bs HB hb; clear hb hbox hg) | ((with_reducible refine gd 3 ?_); refine bA 3 #[.int .i64 a1_0, .string a1_1, .slice A1_2 l1_2.length c1_2] 41 ?_; intro gb270 hg w11 hbox hb; have BK270 := Aside0.mk (hbox); have GW270 := bg hg HB; have GJ270 := gi GW270; have GE270 := GW270; replace HB := bs HB hb; have NB269_270 := b1 BK269 hg; have NI269_270 := ni NB269_270; have NB270_269 := b2 BK269 hg; have NI270_269 := ni NB270_269; replace BK269 := bk BK269 hb; clear hb hbox hg; have hnb12 := NB269_270.out; have hnc12 := NB270_269.out; obtain ⟨hcz13_0, hcz13_1, hfz13_0, hfz13_1⟩ := cs2 BK269; obtain ⟨hcz14_0, hcz14_1, hcz14_2, hfz14_0, hfz14_1, hfz14_2⟩ := cs3 BK270) | ((with_reducible refine gate_callee (f := 24) rfl ?_); refine gB (some 9) Tryd.func24 #[.agg #[.int .i64 a0_0, .int .i64 a0_1], .agg #[.int .i64 a1_0, .string a1_1, .slice A1_2 l1_2.length c1_2]] ?_; (with_reducible refine (spec_QcOk.calls k a0_0 a0_1 a1_0 a1_1 _ _ l1_2 true _ ?side1 ?side2 A3.out).mono ?_); (case side1 => exact ch HR1_2 HB); (case side2 => exact HC1_2.out); rintro e w15 ⟨rfl, hb⟩; refine ⟨_, rfl, ?_⟩; replace BK269 := bk BK269 hb; replace BK270 := bk BK270 hb; replace HB := bs HB hb; (try clear hb); (try clear hb2); (try clear hk); (try clear hi)))
    replace BK269 := Aside0.mk (blk_drew BK269.out)
    replace BK270 := Aside0.mk (blk_drew BK270.out)
    replace HB := Aside0.mk (below_drew1 HB.out)
    refine start_ (n := 8) (S := fun w' => w'.cell? ⟨gb270, 0, none⟩ = some (.int .i64 a1_0) ∧ w'.cell? ⟨gb270, 1, none⟩ = some (.string a1_1) ∧ w'.cell? ⟨gb270, 2, none⟩ = some (.slice A1_2 l1_2.length c1_2)) (ds := []) #[false, false, false, false, false, false, false, false] (by kernel_rfl) rfl rfl ⟨bc0 BK270.out, bc1 BK270.out, bc2 BK270.out⟩ (fun hHeld => ?_); refine with_tabW spec_QcBytes.tab3 spec_QcBytes.bits3 (fun HT_ HW_ => ?_)
    generalize w15.drew = w16 at BK269 BK270 HB hHeld ⊢
    refine pA 0 (some 12) (bz 8 1) HT_ ?_
    refine pA 3 (some 15) (bz 8 9) HT_ ?_
    refine tA 1 (some 13) (bz 8 11) HT_ HW_ hHeld ?_
    refine tA 4 (some 16) (bz 8 27) HT_ HW_ hHeld ?_
    refine oA 2 (some 14) (bz 8 31) HT_ (fun K hK => ?_)
    refine gA Tryd.func89 #[.int .i64 a1_0] ?_
    with_reducible refine (spec_PutNum.calls k a1_0 t275 _ A5.out).mono ?_
    rintro e w17 ⟨v276, rfl, ho0, hb⟩
    refine ⟨_, rfl, ?_⟩
    have HO277 := Aside0.mk (Kd.R_lower ho0 (below_size (bI HB.out)))
    replace BK269 := bk BK269 hb
    replace BK270 := bk BK270 hb
    replace HB := bs HB hb
    (try clear hb)
    (try clear hb2)
    (try clear hk)
    (try clear hi)
    (try clear ho0)
    refine hK.out _ _ ⟨bc0 BK270.out, bc1 BK270.out, bc2 BK270.out⟩ (fun hHeld => ?_)
    clear hK K
    refine nA (some 14) ?_
    refine oA 5 (some 17) (bz 8 63) HT_ (fun K hK => ?_)
    refine gA Tryd.func90 #[.string a1_1] ?_
    with_reducible refine (spec_PutText.calls k a1_1 t278 _ A6.out).mono ?_
    rintro e w18 ⟨v279, rfl, ho0, hb⟩
    refine ⟨_, rfl, ?_⟩
    have HO280 := Aside0.mk (Kd.R_lower (Kd.R_new' ho0 (Kd.R_lt (rI HO277.out))) (below_size (bI HB.out)))
    replace HO277 := Aside0.mk (Kd.R_elder' (rI HO277.out) (Kd.R_base ho0) hb)
    replace BK269 := bk BK269 hb
    replace BK270 := bk BK270 hb
    replace HB := bs HB hb
    (try clear hb)
    (try clear hb2)
    (try clear hk)
    (try clear hi)
    (try clear ho0)
    obtain ⟨Ao20, co20, eo20⟩ := Kd.R_slice HO280.out
    (first | subst eo20 | (injection eo20 with f1_ f2_ f3_; have f4_ := f1_.symm; have f5_ := f3_.symm; clear f1_ f2_ f3_; subst f4_; subst f5_))
    refine hK.out _ _ ⟨bc0 BK270.out, bc1 BK270.out, bc2 BK270.out⟩ (fun hHeld => ?_)
    clear hK K
    refine nA (some 17) ?_
    refine oA 6 (some 18) (bz 8 127) HT_ (fun K hK => ?_)
    refine Kd.R_append_rows_step (Kd.int .u8) (w0 := w) w.heap.size (by rfl) (.tmp 14) (.tmp 17) 74 5 (.int .u8 0) 1 rfl Tryd.underlying74 info5 rfl (by decide) (by omega) v276 t275 t278 _ _ _ (fun k_ => some k_ ≠ (.slice Ao20 t278.length co20 : Value).ownBlock) (fun _ => False) rfl rfl ?aO ?aR (fun _ _ h => h) (fun _ h => h.elim) ?aF ?aB ?aS ?aL ?_
    (case aR => repeat (first | exact (Kd.R_reads' HO280.out).2.2 | (with_reducible refine Kd.C_alloc ?_ _) | (with_reducible refine Kd.C_drewN ?_ _) | (with_reducible refine Kd.C_drew ?_)))
    (case aB => exact (bI HB.out))
    (case aF => exact (fun k_ hk => Kd.fresh' (Kd.R_lt (rI HO280.out)) k_ hk))
    (case aO => exact (rI (Kd.R_mono HO277.out (fun _ hk => hk.2))))
    (case aS => exact (below_size (bI HB.out)))
    (case aL => have := LMc7.out; omega)
    intro v282 w19 ho hb hg hat
    rw [← Ny281.out] at ho
    have n0_ := bn BK269 hg (Kd.R_ne HO277.out BK269.out (by decide))
    have n1_ := bn BK270 hg (Kd.R_ne HO277.out BK270.out (by decide))
    have n2_ := Aside0.mk (Kd.R_after (ok := (fun _ => True)) (rI HO280.out) hg hat)
    have n3_ := Aside0.mk (hb)
    have n4_ := Aside0.mk (ho)
    clear BK269
    clear BK270
    clear HO280
    clear HB
    clear HO277
    have BK269 := n0_
    have BK270 := n1_
    have HO280 := n2_
    have HB := n3_
    have HO283 := n4_
    clear n0_ n1_ n2_ n3_ n4_
    clear ho hb hg hat
    refine hK.out _ _ ⟨bc0 BK270.out, bc1 BK270.out, bc2 BK270.out⟩ (fun hHeld => ?_)
    clear hK K
    refine nA (some 18) ?_
    refine pA 7 (some 5) (bz 8 255) HT_ ?_
    refine done_ (done_of HT_.out (by kernel_rfl)) ?_
    have hcz21_0 := bc0 BK270.out
    have hcz21_1 := bc1 BK270.out
    have hcz21_2 := bc2 BK270.out
    have hfz21_0 := blk_frozen BK270.out 0
    have hfz21_1 := blk_frozen BK270.out 1
    have hfz21_2 := blk_frozen BK270.out 2
    try go_wp2_with (first | ((with_reducible refine gate_callee (f := 89) rfl ?_); refine gB (some 23) Tryd.func89 #[.int .i64 (l1_2.length : Int)] ?_; (with_reducible refine (spec_PutNum.calls k (l1_2.length : Int) t284 _ A8.out).mono ?_); rintro e w22 ⟨v285, rfl, ho0, hb⟩; refine ⟨_, rfl, ?_⟩; have HO286 := Aside0.mk (Kd.R_lower (Kd.R_new' (Kd.R_new' ho0 (Kd.R_lt (rI HO280.out))) (Kd.R_lt (rI HO283.out))) (below_size (bI HB.out))); replace HO280 := Aside0.mk (Kd.R_elder' (rI HO280.out) (Kd.R_base ho0) hb); replace HO283 := Aside0.mk (Kd.R_elder' (rI HO283.out) (Kd.R_base ho0) hb); replace BK269 := bk BK269 hb; replace BK270 := bk BK270 hb; replace HB := bs HB hb; (try clear hb); (try clear ho0); obtain ⟨Ao24, co24, eo24⟩ := Kd.R_slice HO286.out; subst eo24) | ((with_reducible refine gate_builtin (b := .append) (xs := #[.tmp 19, .tmp 23]) rfl ?_); at_builtin; refine Kd.R_append_rows (Kd.int .u8) (w0 := w) w.heap.size rfl (.tmp 19) (.tmp 23) 74 5 (.int .u8 0) 1 rfl Tryd.underlying74 info5 rfl (by decide) (by omega) v282 y281 t284 _ _ _ (fun k_ => some k_ ≠ (.slice Ao20 t278.length co20 : Value).ownBlock ∧ some k_ ≠ (.slice Ao24 t284.length co24 : Value).ownBlock) (fun _ => False) rfl rfl ?aO ?aR (fun _ _ h => h) (fun _ h => h.elim) ?aF ?aB ?aS ?aL ?_; (case aR => repeat (first | exact (Kd.R_reads' HO286.out).2.2 | (with_reducible refine Kd.C_alloc ?_ _) | (with_reducible refine Kd.C_drewN ?_ _) | (with_reducible refine Kd.C_drew ?_))); (case aB => exact (bI HB.out)); (case aF => exact (fun k_ hk => ⟨Kd.fresh' (Kd.R_lt (rI HO280.out)) k_ hk, Kd.fresh' (Kd.R_lt (rI HO286.out)) k_ hk⟩)); (case aO => exact (rI HO283.out)); (case aS => exact (below_size (bI HB.out))); (case aL => have := LMc9.out; omega); intro v288 w23 ho hb hg hat; rw [← Ny287.out] at ho; have n0_ := bn BK269 hg (Kd.R_ne HO283.out BK269.out (by decide)); have n1_ := bn BK270 hg (Kd.R_ne HO283.out BK270.out (by decide)); have n2_ := Aside0.mk (Kd.R_after (ok := (fun k_ => some k_ ≠ (.slice Ao24 t284.length co24 : Value).ownBlock)) (rI (Kd.R_mono HO280.out (fun _ hk => ⟨hk.2, hk.1.2⟩))) hg hat); have n3_ := Aside0.mk (Kd.R_after (ok := (fun k_ => some k_ ≠ (.slice Ao20 t278.length co20 : Value).ownBlock)) (rI (Kd.R_mono HO286.out (fun _ hk => ⟨hk.1.2, hk.2⟩))) hg hat); have n4_ := Aside0.mk (hb); have n5_ := Aside0.mk (ho); clear BK269; clear BK270; clear HO280; clear HO286; clear HB; clear HO283; have BK269 := n0_; have BK270 := n1_; have HO280 := n2_; have HO286 := n3_; have HB := n4_; have HO289 := n5_; clear n0_ n1_ n2_ n3_ n4_ n5_; clear ho hb hg hat))
    go_loopg [5, 6] k (fun kq v5 v6 w' => ∃ (x5_1 : List Int) (x6_1 : Int), v6 = .int .i64 x6_1 ∧ Aside0 (spec_QcBytes.l0 kq x5_1 x6_1 a1_0 a1_1 l1_2 = some r) ∧ Aside0 (kq ≤ k) ∧ Aside0 (Kd.R (Kd.int .u8) 5 w' w.heap.size (fun _ => True) v5 x5_1) ∧ Aside0 (w'.heap[gb269]? = some (.cells #[.int .i64 a0_0, .int .i64 a0_1] 32 (0, 0))) ∧ Aside0 (w'.heap[gb270]? = some (.cells #[.int .i64 a1_0, .string a1_1, (.slice A1_2 l1_2.length c1_2)] 41 (0, 0))) ∧ Aside0 (Below w.heap.size w w'))
    case atStart => exact ⟨(y287), (0), y0_10, H', ⟨Nat.le_refl _⟩, ⟨by (with_reducible repeat (first | apply Kd.R_alloc | apply Kd.R_drewN | apply Kd.R_drew)); exact Kd.R_mono HO289.out (fun _ hk => trivial)⟩, ⟨gI BK269.out⟩, ⟨gI BK270.out⟩, ⟨bI HB.out⟩⟩
    case round =>
      clear H'
      try clear c1
      try clear c2
      try clear p2
      try clear c4
      try clear c7
      try clear c8
      try clear c9
      try clear c12
      try clear c24
      try clear hcz13_0
      try clear hcz13_1
      try clear hcz14_0
      try clear hcz14_1
      try clear hcz14_2
      try clear hcz21_0
      try clear hcz21_1
      try clear hcz21_2
      try clear hfz13_0
      try clear hfz13_1
      try clear hfz14_0
      try clear hfz14_1
      try clear hfz14_2
      try clear hfz21_0
      try clear hfz21_1
      try clear hfz21_2
      obtain ⟨x5_1, x6_1, rfl, HA, HK1, HO_5, BK269, BK270, HB⟩ := hrel
      cases gk with
      | zero => exact absurd HA.out (by simp [spec_QcBytes.l0])
      | succ k1 =>
        have H := HA.out
        clear HA
        simp only [spec_QcBytes.l0] at H
        by_cases c25 : x6_1 < (l1_2.length : Int)
        · rw [if_pos c25] at H
          have c25b0 : decide (x6_1 < (l1_2.length : Int)) = true := decide_eq_true c25
          clear c25
          by_cases c26 : 0 ≤ x6_1
          rotate_left
          · rw [if_neg c26] at H
            exact absurd H (by simp)
          rw [if_pos c26] at H
          have c26b0 : decide (0 ≤ x6_1) = true := decide_eq_true c26
          clear c26
          obtain ⟨t291, A270, H⟩ := Option.bind_eq_some_iff.mp H
          try dsimp only at H
          have A27 := Aside0.mk A270
          clear A270
          by_cases c28 : x5_1.length + t291.length < 140737488355328
          rotate_left
          · rw [if_neg c28] at H
            exact absurd H (by simp)
          rw [if_pos c28] at H
          have LMc28 := Aside0.mk c28
          clear c28
          obtain ⟨y294, hy294⟩ : ∃ y_ : List Int, y_ = (x5_1 ++ t291) := ⟨_, rfl⟩
          replace H : (spec_QcBytes.l0 k1 y294 (wrap64 (x6_1 + 1)) a1_0 a1_1 l1_2) = some r := by first | (rw [hy294]; with_reducible exact H) | (have H2_ := (Option.bind_some _ _).symm.trans H; rw [hy294]; with_reducible exact H2_) | (have H2_ := (Option.bind_some _ _).symm.trans H; with_reducible exact H2_) | with_reducible exact H | (rw [hy294]; exact H) | exact H
          have Ny294 := Aside0.mk hy294
          clear hy294
          have H' := Aside0.mk H
          clear H
          have hnb29 := NB270_269.out
          have hnc29 := NB269_270.out
          have hcz30_0 := bc0 BK270.out
          have hcz30_1 := bc1 BK270.out
          have hcz30_2 := bc2 BK270.out
          have hfz30_0 := blk_frozen BK270.out 0
          have hfz30_1 := blk_frozen BK270.out 1
          have hfz30_2 := blk_frozen BK270.out 2
          have p290 : 0 ≤ (x6_1 : Int) := of_decide_eq_true y0_9
          have q290 : x6_1 < (l1_2.length : Int) := of_decide_eq_true y0_9
          obtain ⟨ad290, e290, hx290_0⟩ := Kd.at_int HR1_2.out x6_1 p290 q290
          cases e290
          replace hx290_0 := bx HB hx290_0
          replace p290 := eq_true p290
          replace q290 := eq_true q290
          go_wp2_with (first | ((with_reducible refine gate_callee (f := 89) rfl ?_); refine gB (some 38) Tryd.func89 #[.int .i64 (rd l1_2 x6_1)] ?_; (with_reducible refine (spec_PutNum.calls k1 (rd l1_2 x6_1) t291 _ A27.out).mono ?_); rintro e w31 ⟨v292, rfl, ho0, hb⟩; refine ⟨_, rfl, ?_⟩; have HO293 := Aside0.mk (Kd.R_lower (Kd.R_new' ho0 (Kd.R_lt (rI HO_5.out))) (below_size (bI HB.out))); replace HO_5 := Aside0.mk (Kd.R_elder' (rI HO_5.out) (Kd.R_base ho0) hb); replace BK269 := bk BK269 hb; replace BK270 := bk BK270 hb; replace HB := bs HB hb; (try clear hb); (try clear ho0); obtain ⟨Ao33, co33, eo33⟩ := Kd.R_slice HO293.out; subst eo33) | ((with_reducible refine gate_builtin (b := .append) (xs := #[.tmp 32, .tmp 38]) rfl ?_); at_builtin; refine Kd.R_append_rows (Kd.int .u8) (w0 := w) w.heap.size rfl (.tmp 32) (.tmp 38) 74 5 (.int .u8 0) 1 rfl Tryd.underlying74 info5 rfl (by decide) (by omega) u5 x5_1 t291 _ _ _ (fun k_ => some k_ ≠ (.slice Ao33 t291.length co33 : Value).ownBlock) (fun _ => False) rfl rfl ?aO ?aR (fun _ _ h => h) (fun _ h => h.elim) ?aF ?aB ?aS ?aL ?_; (case aR => repeat (first | exact (Kd.R_reads' HO293.out).2.2 | (with_reducible refine Kd.C_alloc ?_ _) | (with_reducible refine Kd.C_drewN ?_ _) | (with_reducible refine Kd.C_drew ?_))); (case aB => exact (bI HB.out)); (case aF => exact (fun k_ hk => Kd.fresh' (Kd.R_lt (rI HO293.out)) k_ hk)); (case aO => exact (rI (Kd.R_mono HO_5.out (fun _ hk => hk.2)))); (case aS => exact (below_size (bI HB.out))); (case aL => have := LMc28.out; omega); intro v295 w32 ho hb hg hat; rw [← Ny294.out] at ho; have n0_ := bn BK269 hg (Kd.R_ne HO_5.out BK269.out (by decide)); have n1_ := bn BK270 hg (Kd.R_ne HO_5.out BK270.out (by decide)); have n2_ := Aside0.mk (Kd.R_after (ok := (fun _ => True)) (rI HO293.out) hg hat); have n3_ := Aside0.mk (hb); have n4_ := Aside0.mk (ho); clear BK269; clear BK270; clear HO293; clear HB; clear HO_5; have BK269 := n0_; have BK270 := n1_; have HO293 := n2_; have HB := n3_; have HO296 := n4_; clear n0_ n1_ n2_ n3_ n4_; clear ho hb hg hat))
          go_roundg k1
          case measure => have := HK1.out; omega
          case rel => exact ⟨(y294), (wrap64 (x6_1 + 1)), y0_10, H', ⟨y0_14⟩, ⟨by (with_reducible repeat (first | apply Kd.R_alloc | apply Kd.R_drewN | apply Kd.R_drew)); exact Kd.R_mono HO296.out (fun _ hk => trivial)⟩, ⟨gI BK269.out⟩, ⟨gI BK270.out⟩, ⟨bI HB.out⟩⟩
        · rw [if_neg c25] at H
          have c25b0 : decide (x6_1 < (l1_2.length : Int)) = false := decide_eq_false c25
          clear c25
          obtain rfl := Option.some.inj H
          have hnb34 := NB270_269.out
          have hnc34 := NB269_270.out
          have hcz35_0 := bc0 BK270.out
          have hcz35_1 := bc1 BK270.out
          have hcz35_2 := bc2 BK270.out
          have hfz35_0 := blk_frozen BK270.out 0
          have hfz35_1 := blk_frozen BK270.out 1
          have hfz35_2 := blk_frozen BK270.out 2
          go_wp2
          go_ret
          exact ⟨_, y0_7, y0_6, bI HB.out⟩
  · replace c4 := Bool.eq_false_iff.mpr c4
    subst c4
    rw [if_neg (show ¬ (false = true) by decide)] at H
    obtain ⟨y272, hy272⟩ : ∃ y_ : List Int, y_ = (([] : List Int)) := ⟨_, rfl⟩
    replace H : (some y272) = some r := by first | (rw [hy272]; with_reducible exact H) | (have H2_ := (Option.bind_some _ _).symm.trans H; rw [hy272]; with_reducible exact H2_) | (have H2_ := (Option.bind_some _ _).symm.trans H; with_reducible exact H2_) | with_reducible exact H | (rw [hy272]; exact H) | exact H
    have Ny272 := Aside0.mk hy272
    clear hy272
    obtain rfl := Option.some.inj H
    go_enter Tryd.func48, Tryd.ntmps48
    go_wp2_with (first | ((with_reducible refine gd 2 ?_); refine bA 2 #[.int .i64 a0_0, .int .i64 a0_1] 32 ?_; intro gb269 hg w36 hbox hb; have BK269 := Aside0.mk (hbox); have GW269 := bg hg HB; have GJ269 := gi GW269; have GE269 := GW269; replace HB := bs HB hb; clear hb hbox hg) | ((with_reducible refine gd 3 ?_); refine bA 3 #[.int .i64 a1_0, .string a1_1, .slice A1_2 l1_2.length c1_2] 41 ?_; intro gb270 hg w37 hbox hb; have BK270 := Aside0.mk (hbox); have GW270 := bg hg HB; have GJ270 := gi GW270; have GE270 := GW270; replace HB := bs HB hb; have NB269_270 := b1 BK269 hg; have NI269_270 := ni NB269_270; have NB270_269 := b2 BK269 hg; have NI270_269 := ni NB270_269; replace BK269 := bk BK269 hb; clear hb hbox hg; have hnb38 := NB269_270.out; have hnc38 := NB270_269.out; obtain ⟨hcz39_0, hcz39_1, hfz39_0, hfz39_1⟩ := cs2 BK269; obtain ⟨hcz40_0, hcz40_1, hcz40_2, hfz40_0, hfz40_1, hfz40_2⟩ := cs3 BK270) | ((with_reducible refine gate_callee (f := 24) rfl ?_); refine gB (some 9) Tryd.func24 #[.agg #[.int .i64 a0_0, .int .i64 a0_1], .agg #[.int .i64 a1_0, .string a1_1, .slice A1_2 l1_2.length c1_2]] ?_; (with_reducible refine (spec_QcOk.calls k a0_0 a0_1 a1_0 a1_1 _ _ l1_2 false _ ?side1 ?side2 A3.out).mono ?_); (case side1 => exact ch HR1_2 HB); (case side2 => exact HC1_2.out); rintro e w41 ⟨rfl, hb⟩; refine ⟨_, rfl, ?_⟩; replace BK269 := bk BK269 hb; replace BK270 := bk BK270 hb; replace HB := bs HB hb; (try clear hb); (try clear hb2); (try clear hk); (try clear hi)) | ((with_reducible refine gate_dst (N := 11) rfl ?_); refine Kd.R_lit (Kd.int .u8) _ 5 ?hg (N := 11) ?hd (xs := ([] : List Int)) (inner := []) (ok := fun _ => True) (okp := fun _ => True) ?hr ?hp (fun _ hk => hk) trivial (Below.refl _ _) (Nat.le_refl _) (by simp) ?_; (case hd => rfl); (case hg => rfl); (case hr => first | (go_simp; done) | (go_simp; rfl)); (case hp => exact (Reps.none _ _)); intro v273 w42 ho43 hb hg_ hnew_; clear hg_ hnew_; (first | rw [← Ny272.out] at ho43 | (simp only [Int.reduceToNat] at ho43; rw [← Ny272.out] at ho43)); have HO274 := Aside0.mk (Kd.R_lower ho43 (below_size (bI HB.out))); replace BK269 := bk BK269 hb; replace BK270 := bk BK270 hb; replace HB := bs HB hb; clear hb ho43))
    go_ret
    exact ⟨_, y0_7, by (with_reducible repeat (first | apply Kd.R_alloc | apply Kd.R_drewN | apply Kd.R_drew)); exact HO274.out, bI HB.out⟩

end Go.Proofs.YtcmldmlmhpfjhaaDoor.PFnExactSafeBytes
