-- By a program of this session, out of the translation (the print of the kit, with turns of its own). Lean checks it.
import Derived.Test.YtcmldmlmhpfjhaaDoorPFnExactSafeOkx0
import Derived.Test.YtcmldmlmhpfjhaaDoorPFnExactSafeOkx5
import Derived.Test.YtcmldmlmhpfjhaaDoorPFnExactSafeOkx7
import Derived.Test.YtcmldmlmhpfjhaaDoorPFnExactSafeOkx9
namespace Go.Proofs.YtcmldmlmhpfjhaaDoor.PFnExactSafeOk
open Go.RowKit Go.Proofs.YtcmldmlmhpfjhaaDoorW.PrintWords Go.Proofs.YtcmldmlmhpfjhaaDoorW.PrintLast Go.Proofs.YtcmldmlmhpfjhaaDoorW.PrintMore
attribute [local go_sem] max2_int min2_int max_two min_two max_three min_three max_four min_four   -- for this text's walks alone
set_option linter.unusedVariables false
set_option linter.unusedSimpArgs false

/-! ### impl_SafeOk: function 36 -/
def impl_SafeOk.f (k : Nat) (a0_0 : Int) (a0_1 : Int) (a1_0 : Int) (a1_1 : Int) (a1_2 : Int) (a1_3 : ByteArray) (l1_4 : List Int) (a1_5 : ByteArray) : Option (Bool) := (impl_within.f a1_0 0 60).bind fun t341 => (if t341 = true then ((impl_within.f a1_1 0 60).bind fun t342 => (if t342 = true then ((impl_QcOk.f k a0_0 a0_1 a1_2 a1_3 l1_4).bind fun t343 => (if t343 = true then ((impl_NameOk.f k a1_5).bind fun t344 => (some t344)) else (some false))) else (some false))) else (some false))
theorem impl_SafeOk.mono : ∀ a0 a1 a2 a3 a4 a5 a6 a7 k, LeO (impl_SafeOk.f k a0 a1 a2 a3 a4 a5 a6 a7) (impl_SafeOk.f (k + 1) a0 a1 a2 a3 a4 a5 a6 a7) := by
  intro a0 a1 a2 a3 a4 a5 a6 a7 k
  unfold impl_SafeOk.f
  repeat' first
      | (with_reducible exact impl_NameOk.mono _ _)
      | (with_reducible exact impl_QcOk.mono _ _ _ _ _ _)
      | (with_reducible exact LeO.refl _)
      | (with_reducible exact LeO.none _)
      | (with_reducible refine LeO.ite ?_ ?_)
      | (with_reducible refine LeO.bind ?_ (fun _ => ?_))
      | exact impl_NameOk.mono _ _
      | exact impl_QcOk.mono _ _ _ _ _ _
      | exact LeO.none _
      | refine LeO.ite ?_ ?_
      | refine LeO.bind ?_ (fun _ => ?_)
set_option maxHeartbeats 8000000 in
set_option maxRecDepth 100000 in
theorem impl_SafeOk.calls (k : Nat) (a0_0 : Int) (a0_1 : Int) (a1_0 : Int) (a1_1 : Int) (a1_2 : Int) (a1_3 : ByteArray) (A1_4 : Option Addr) (c1_4 : Nat) (l1_4 : List Int) (a1_5 : ByteArray) (r : Bool) (w : World) (hr1_4 : Kd.C (Kd.int .i64) w A1_4 l1_4.length l1_4) (hc1_4 : l1_4.length ≤ c1_4) (h : impl_SafeOk.f k a0_0 a0_1 a1_0 a1_1 a1_2 a1_3 l1_4 a1_5 = some r) (hG : Glob w := by exact gG HG HB) :
    Calls Tryd.prog 36 #[.agg #[.int .i64 a0_0, .int .i64 a0_1], .agg #[.int .i64 a1_0, .int .i64 a1_1, .int .i64 a1_2, .string a1_3, .slice A1_4 l1_4.length c1_4, .string a1_5]] w fun e w' => e = .returned (.bool r) ∧ Below w.heap.size w w' := by
  have HG := Aside0.mk hG
  clear hG
  have hu32 := Tryd.underlying32
  have hu57 := Tryd.underlying57
  have hu41 := Tryd.underlying41
  have HR1_4 := Aside0.mk hr1_4
  have HC1_4 := Aside0.mk hc1_4
  clear hr1_4 hc1_4
  have HB := Aside0.mk (Below.refl w.heap.size w)
  have H : ((impl_within.f a1_0 0 60).bind fun t341 => (if t341 = true then ((impl_within.f a1_1 0 60).bind fun t342 => (if t342 = true then ((impl_QcOk.f k a0_0 a0_1 a1_2 a1_3 l1_4).bind fun t343 => (if t343 = true then ((impl_NameOk.f k a1_5).bind fun t344 => (some t344)) else (some false))) else (some false))) else (some false))) = some r := h
  clear h
  obtain ⟨t341, A30, H⟩ := Option.bind_eq_some_iff.mp H
  try dsimp only at H
  have A3 := Aside0.mk A30
  clear A30
  by_cases c4 : t341 = true
  · subst c4
    rw [if_pos rfl] at H
    obtain ⟨t342, A50, H⟩ := Option.bind_eq_some_iff.mp H
    try dsimp only at H
    have A5 := Aside0.mk A50
    clear A50
    by_cases c6 : t342 = true
    · subst c6
      rw [if_pos rfl] at H
      obtain ⟨t343, A70, H⟩ := Option.bind_eq_some_iff.mp H
      try dsimp only at H
      have A7 := Aside0.mk A70
      clear A70
      by_cases c8 : t343 = true
      · subst c8
        rw [if_pos rfl] at H
        obtain ⟨t344, A90, H⟩ := Option.bind_eq_some_iff.mp H
        try dsimp only at H
        have A9 := Aside0.mk A90
        clear A90
        obtain rfl := Option.some.inj H
        go_enter Tryd.func36, Tryd.ntmps36
        go_wp2_with (first | ((with_reducible refine gd 2 ?_); refine bA 2 #[.int .i64 a0_0, .int .i64 a0_1] 32 ?_; intro gb339 hg w10 hbox hb; have BK339 := Aside0.mk (hbox); have GW339 := bg hg HB; have GJ339 := gi GW339; have GE339 := GW339; replace HB := bs HB hb; clear hb hbox hg) | ((with_reducible refine gd 3 ?_); refine bA 3 #[.int .i64 a1_0, .int .i64 a1_1, .int .i64 a1_2, .string a1_3, .slice A1_4 l1_4.length c1_4, .string a1_5] 57 ?_; intro gb340 hg w11 hbox hb; have BK340 := Aside0.mk (hbox); have GW340 := bg hg HB; have GJ340 := gi GW340; have GE340 := GW340; replace HB := bs HB hb; have NB339_340 := b1 BK339 hg; have NI339_340 := ni NB339_340; have NB340_339 := b2 BK339 hg; have NI340_339 := ni NB340_339; replace BK339 := bk BK339 hb; clear hb hbox hg; have hnb12 := NB340_339.out; have hnc12 := NB339_340.out; have hcz13_0 := bc0 BK340.out; have hcz13_1 := bc1 BK340.out; have hcz13_2 := bc2 BK340.out; have hcz13_3 := bc3 BK340.out; have hcz13_4 := bc4 BK340.out; have hcz13_5 := bc5 BK340.out; have hfz13_0 := blk_frozen BK340.out 0; have hfz13_1 := blk_frozen BK340.out 1; have hfz13_2 := blk_frozen BK340.out 2; have hfz13_3 := blk_frozen BK340.out 3; have hfz13_4 := blk_frozen BK340.out 4; have hfz13_5 := blk_frozen BK340.out 5) | ((with_reducible refine gate_callee (f := 77) rfl ?_); refine gB (some 7) Tryd.func77 #[.int .i64 a1_0, .int .i64 0, .int .i64 60] ?_; (with_reducible refine (impl_within.calls a1_0 0 60 true _ A3.out).mono ?_); rintro e w' ⟨rfl, ⟨nd, rfl⟩⟩; refine ⟨_, rfl, ?_⟩) | (go_at_call 77; (with_reducible refine (impl_within.calls a1_1 0 60 true _ A5.out).mono ?_); rintro e w' ⟨rfl, ⟨nd, rfl⟩⟩; obtain ⟨hcz14_0, hcz14_1, hfz14_0, hfz14_1⟩ := cs2 BK339) | (go_at_call 26; (with_reducible refine (impl_QcOk.calls k a0_0 a0_1 a1_2 a1_3 _ _ l1_4 true _ ?side1 ?side2 A7.out).mono ?_); (case side1 => exact (Kd.C_below HR1_4.out (bI HB.out))); (case side2 => exact HC1_4.out); rintro e w15 ⟨rfl, hb⟩; replace BK339 := bk BK339 hb; replace BK340 := bk BK340 hb; replace HB := bs HB hb; (try clear hb); (try clear hb2); (try clear hk); (try clear hi); have hcz16_0 := bc0 BK340.out; have hcz16_1 := bc1 BK340.out; have hcz16_2 := bc2 BK340.out; have hcz16_3 := bc3 BK340.out; have hcz16_4 := bc4 BK340.out; have hcz16_5 := bc5 BK340.out; have hfz16_0 := blk_frozen BK340.out 0; have hfz16_1 := blk_frozen BK340.out 1; have hfz16_2 := blk_frozen BK340.out 2; have hfz16_3 := blk_frozen BK340.out 3; have hfz16_4 := blk_frozen BK340.out 4; have hfz16_5 := blk_frozen BK340.out 5) | (go_at_call 78; (with_reducible refine (impl_NameOk.calls k a1_5 t344 _ A9.out).mono ?_); rintro e w17 ⟨rfl, hb⟩; replace BK339 := bk BK339 hb; replace BK340 := bk BK340 hb; replace HB := bs HB hb; (try clear hb); (try clear hb2); (try clear hk); (try clear hi)))
        go_ret
        exact ⟨y0_4, bI HB.out⟩
      · replace c8 := Bool.eq_false_iff.mpr c8
        subst c8
        rw [if_neg (show ¬ (false = true) by decide)] at H
        obtain rfl := Option.some.inj H
        go_enter Tryd.func36, Tryd.ntmps36
        go_wp2_with (first | ((with_reducible refine gd 2 ?_); refine bA 2 #[.int .i64 a0_0, .int .i64 a0_1] 32 ?_; intro gb339 hg w18 hbox hb; have BK339 := Aside0.mk (hbox); have GW339 := bg hg HB; have GJ339 := gi GW339; have GE339 := GW339; replace HB := bs HB hb; clear hb hbox hg) | ((with_reducible refine gd 3 ?_); refine bA 3 #[.int .i64 a1_0, .int .i64 a1_1, .int .i64 a1_2, .string a1_3, .slice A1_4 l1_4.length c1_4, .string a1_5] 57 ?_; intro gb340 hg w19 hbox hb; have BK340 := Aside0.mk (hbox); have GW340 := bg hg HB; have GJ340 := gi GW340; have GE340 := GW340; replace HB := bs HB hb; have NB339_340 := b1 BK339 hg; have NI339_340 := ni NB339_340; have NB340_339 := b2 BK339 hg; have NI340_339 := ni NB340_339; replace BK339 := bk BK339 hb; clear hb hbox hg; have hnb20 := NB340_339.out; have hnc20 := NB339_340.out; have hcz21_0 := bc0 BK340.out; have hcz21_1 := bc1 BK340.out; have hcz21_2 := bc2 BK340.out; have hcz21_3 := bc3 BK340.out; have hcz21_4 := bc4 BK340.out; have hcz21_5 := bc5 BK340.out; have hfz21_0 := blk_frozen BK340.out 0; have hfz21_1 := blk_frozen BK340.out 1; have hfz21_2 := blk_frozen BK340.out 2; have hfz21_3 := blk_frozen BK340.out 3; have hfz21_4 := blk_frozen BK340.out 4; have hfz21_5 := blk_frozen BK340.out 5) | ((with_reducible refine gate_callee (f := 77) rfl ?_); refine gB (some 7) Tryd.func77 #[.int .i64 a1_0, .int .i64 0, .int .i64 60] ?_; (with_reducible refine (impl_within.calls a1_0 0 60 true _ A3.out).mono ?_); rintro e w' ⟨rfl, ⟨nd, rfl⟩⟩; refine ⟨_, rfl, ?_⟩) | (go_at_call 77; (with_reducible refine (impl_within.calls a1_1 0 60 true _ A5.out).mono ?_); rintro e w' ⟨rfl, ⟨nd, rfl⟩⟩; obtain ⟨hcz22_0, hcz22_1, hfz22_0, hfz22_1⟩ := cs2 BK339) | (go_at_call 26; (with_reducible refine (impl_QcOk.calls k a0_0 a0_1 a1_2 a1_3 _ _ l1_4 false _ ?side1 ?side2 A7.out).mono ?_); (case side1 => exact (Kd.C_below HR1_4.out (bI HB.out))); (case side2 => exact HC1_4.out); rintro e w23 ⟨rfl, hb⟩; replace BK339 := bk BK339 hb; replace BK340 := bk BK340 hb; replace HB := bs HB hb; (try clear hb); (try clear hb2); (try clear hk); (try clear hi)))
        go_ret
        exact ⟨y0_4, bI HB.out⟩
    · replace c6 := Bool.eq_false_iff.mpr c6
      subst c6
      rw [if_neg (show ¬ (false = true) by decide)] at H
      obtain rfl := Option.some.inj H
      go_enter Tryd.func36, Tryd.ntmps36
      go_wp2_with (first | ((with_reducible refine gd 2 ?_); refine bA 2 #[.int .i64 a0_0, .int .i64 a0_1] 32 ?_; intro gb339 hg w24 hbox hb; have BK339 := Aside0.mk (hbox); have GW339 := bg hg HB; have GJ339 := gi GW339; have GE339 := GW339; replace HB := bs HB hb; clear hb hbox hg) | ((with_reducible refine gd 3 ?_); refine bA 3 #[.int .i64 a1_0, .int .i64 a1_1, .int .i64 a1_2, .string a1_3, .slice A1_4 l1_4.length c1_4, .string a1_5] 57 ?_; intro gb340 hg w25 hbox hb; have BK340 := Aside0.mk (hbox); have GW340 := bg hg HB; have GJ340 := gi GW340; have GE340 := GW340; replace HB := bs HB hb; have NB339_340 := b1 BK339 hg; have NI339_340 := ni NB339_340; have NB340_339 := b2 BK339 hg; have NI340_339 := ni NB340_339; replace BK339 := bk BK339 hb; clear hb hbox hg; have hnb26 := NB340_339.out; have hnc26 := NB339_340.out; have hcz27_0 := bc0 BK340.out; have hcz27_1 := bc1 BK340.out; have hcz27_2 := bc2 BK340.out; have hcz27_3 := bc3 BK340.out; have hcz27_4 := bc4 BK340.out; have hcz27_5 := bc5 BK340.out; have hfz27_0 := blk_frozen BK340.out 0; have hfz27_1 := blk_frozen BK340.out 1; have hfz27_2 := blk_frozen BK340.out 2; have hfz27_3 := blk_frozen BK340.out 3; have hfz27_4 := blk_frozen BK340.out 4; have hfz27_5 := blk_frozen BK340.out 5) | ((with_reducible refine gate_callee (f := 77) rfl ?_); refine gB (some 7) Tryd.func77 #[.int .i64 a1_0, .int .i64 0, .int .i64 60] ?_; (with_reducible refine (impl_within.calls a1_0 0 60 true _ A3.out).mono ?_); rintro e w' ⟨rfl, ⟨nd, rfl⟩⟩; refine ⟨_, rfl, ?_⟩) | (go_at_call 77; (with_reducible refine (impl_within.calls a1_1 0 60 false _ A5.out).mono ?_); rintro e w' ⟨rfl, ⟨nd, rfl⟩⟩))
      go_ret
      exact ⟨y0_4, bI HB.out⟩
  · replace c4 := Bool.eq_false_iff.mpr c4
    subst c4
    rw [if_neg (show ¬ (false = true) by decide)] at H
    obtain rfl := Option.some.inj H
    go_enter Tryd.func36, Tryd.ntmps36
    go_wp2_with (first | ((with_reducible refine gd 2 ?_); refine bA 2 #[.int .i64 a0_0, .int .i64 a0_1] 32 ?_; intro gb339 hg w28 hbox hb; have BK339 := Aside0.mk (hbox); have GW339 := bg hg HB; have GJ339 := gi GW339; have GE339 := GW339; replace HB := bs HB hb; clear hb hbox hg) | ((with_reducible refine gd 3 ?_); refine bA 3 #[.int .i64 a1_0, .int .i64 a1_1, .int .i64 a1_2, .string a1_3, .slice A1_4 l1_4.length c1_4, .string a1_5] 57 ?_; intro gb340 hg w29 hbox hb; have BK340 := Aside0.mk (hbox); have GW340 := bg hg HB; have GJ340 := gi GW340; have GE340 := GW340; replace HB := bs HB hb; have NB339_340 := b1 BK339 hg; have NI339_340 := ni NB339_340; have NB340_339 := b2 BK339 hg; have NI340_339 := ni NB340_339; replace BK339 := bk BK339 hb; clear hb hbox hg; have hnb30 := NB340_339.out; have hnc30 := NB339_340.out; have hcz31_0 := bc0 BK340.out; have hcz31_1 := bc1 BK340.out; have hcz31_2 := bc2 BK340.out; have hcz31_3 := bc3 BK340.out; have hcz31_4 := bc4 BK340.out; have hcz31_5 := bc5 BK340.out; have hfz31_0 := blk_frozen BK340.out 0; have hfz31_1 := blk_frozen BK340.out 1; have hfz31_2 := blk_frozen BK340.out 2; have hfz31_3 := blk_frozen BK340.out 3; have hfz31_4 := blk_frozen BK340.out 4; have hfz31_5 := blk_frozen BK340.out 5) | ((with_reducible refine gate_callee (f := 77) rfl ?_); refine gB (some 7) Tryd.func77 #[.int .i64 a1_0, .int .i64 0, .int .i64 60] ?_; (with_reducible refine (impl_within.calls a1_0 0 60 false _ A3.out).mono ?_); rintro e w' ⟨rfl, ⟨nd, rfl⟩⟩; refine ⟨_, rfl, ?_⟩))
    go_ret
    exact ⟨y0_4, bI HB.out⟩

/-! ### laws_eqIntS: function 81 -/
def laws_eqIntS.l0 : Nat → List Int → List Int → Int → Option (Bool)
  | 0, _, _, _ => none
  | k + 1, x0, x1, x5 => if x5 < (x0.length : Int) then (if 0 ≤ x5 then (if x5 < (x1.length : Int) then (if (rd x0 x5) = (rd x1 x5) then (laws_eqIntS.l0 k x0 x1 (wrap64 (x5 + 1))) else (some false)) else (none)) else (none)) else (some true)
def laws_eqIntS.f (k : Nat) (l0 : List Int) (l1 : List Int) : Option (Bool) := if (l0.length : Int) = (l1.length : Int) then (laws_eqIntS.l0 k l0 l1 0) else (some false)
theorem laws_eqIntS.mono_l : ∀ k, (∀ y0 y1 y2, LeO (laws_eqIntS.l0 k y0 y1 y2) (laws_eqIntS.l0 (k + 1) y0 y1 y2))
  | 0 => fun _ _ _ r h => by simp [laws_eqIntS.l0] at h
  | k + 1 => by
    have ih0 := laws_eqIntS.mono_l k
    · intro y0 y1 y2
      unfold laws_eqIntS.l0
      repeat' first
      | (with_reducible exact ih0 _ _ _)
      | (with_reducible exact LeO.refl _)
      | (with_reducible exact LeO.none _)
      | (with_reducible refine LeO.ite ?_ ?_)
      | (with_reducible refine LeO.bind ?_ (fun _ => ?_))
      | exact ih0 _ _ _
      | exact LeO.none _
      | refine LeO.ite ?_ ?_
      | refine LeO.bind ?_ (fun _ => ?_)
theorem laws_eqIntS.mono : ∀ a0 a1 k, LeO (laws_eqIntS.f k a0 a1) (laws_eqIntS.f (k + 1) a0 a1) := by
  intro a0 a1 k
  have ih0 := laws_eqIntS.mono_l k
  unfold laws_eqIntS.f
  repeat' first
      | (with_reducible exact ih0 _ _ _)
      | (with_reducible exact LeO.refl _)
      | (with_reducible exact LeO.none _)
      | (with_reducible refine LeO.ite ?_ ?_)
      | (with_reducible refine LeO.bind ?_ (fun _ => ?_))
      | exact ih0 _ _ _
      | exact LeO.none _
      | refine LeO.ite ?_ ?_
      | refine LeO.bind ?_ (fun _ => ?_)
set_option maxHeartbeats 8000000 in
set_option maxRecDepth 100000 in
theorem laws_eqIntS.calls (k : Nat) (A0 : Option Addr) (c0 : Nat) (l0 : List Int) (A1 : Option Addr) (c1 : Nat) (l1 : List Int) (r : Bool) (w : World) (hr0 : Kd.C (Kd.int .i64) w A0 l0.length l0) (hc0 : l0.length ≤ c0) (hr1 : Kd.C (Kd.int .i64) w A1 l1.length l1) (hc1 : l1.length ≤ c1) (h : laws_eqIntS.f k l0 l1 = some r) :
    Calls Tryd.prog 81 #[.slice A0 l0.length c0, .slice A1 l1.length c1] w fun e w' => e = .returned (.bool r) ∧ Drawn0 w w' := by
  have HR0 := Aside0.mk hr0
  have HC0 := Aside0.mk hc0
  clear hr0 hc0
  have HR1 := Aside0.mk hr1
  have HC1 := Aside0.mk hc1
  clear hr1 hc1
  have H : (if (l0.length : Int) = (l1.length : Int) then (laws_eqIntS.l0 k l0 l1 0) else (some false)) = some r := h
  clear h
  by_cases c3 : (l0.length : Int) = (l1.length : Int)
  · rw [if_pos c3] at H
    have c3b0 : ((l0.length : Int) == (l1.length : Int)) = true := beq_iff_eq.mpr c3
    have c3b1 : ((l0.length : Int) != (l1.length : Int)) = false := bne_eq_false_iff_eq.mpr c3
    have c3b2 : (l0.length == l1.length) = true := by first | simpa using c3 | (simp at c3 ⊢; omega)
    clear c3
    have H' := Aside0.mk H
    clear H
    go_enter Tryd.func81, Tryd.ntmps81
    go_wp2
    repeat (go_quiet (fail); try go_wp2)
    go_loopg [5] k (fun kq v5 w' => ∃ (x5_1 : Int), v5 = .int .i64 x5_1 ∧ Aside0 (laws_eqIntS.l0 kq l0 l1 x5_1 = some r) ∧ Aside0 (kq ≤ k) ∧ Drawn0 w w')
    case atStart => exact ⟨(0), y0_7, H', ⟨Nat.le_refl _⟩, y0_5⟩
    case round =>
      clear H'
      try clear c1
      try clear p2
      try clear c3
      try clear c3b0
      try clear c3b1
      try clear c3b2
      obtain ⟨x5_1, rfl, HA, HK1, ⟨m1, rfl⟩⟩ := hrel
      cases gk with
      | zero => exact absurd HA.out (by simp [laws_eqIntS.l0])
      | succ k1 =>
        have H := HA.out
        clear HA
        simp only [laws_eqIntS.l0] at H
        by_cases c4 : x5_1 < (l0.length : Int)
        · rw [if_pos c4] at H
          have c4b0 : decide (x5_1 < (l0.length : Int)) = true := decide_eq_true c4
          clear c4
          by_cases c5 : 0 ≤ x5_1
          rotate_left
          · rw [if_neg c5] at H
            exact absurd H (by simp)
          rw [if_pos c5] at H
          have c5b0 : decide (0 ≤ x5_1) = true := decide_eq_true c5
          clear c5
          by_cases c6 : x5_1 < (l1.length : Int)
          rotate_left
          · rw [if_neg c6] at H
            exact absurd H (by simp)
          rw [if_pos c6] at H
          have c6b0 : decide (x5_1 < (l1.length : Int)) = true := decide_eq_true c6
          clear c6
          by_cases c7 : (rd l0 x5_1) = (rd l1 x5_1)
          · rw [if_pos c7] at H
            have c7b0 : ((rd l0 x5_1) == (rd l1 x5_1)) = true := beq_iff_eq.mpr c7
            have c7b1 : ((rd l0 x5_1) != (rd l1 x5_1)) = false := bne_eq_false_iff_eq.mpr c7
            clear c7
            have H' := Aside0.mk H
            clear H
            have p345 : 0 ≤ (x5_1 : Int) := of_decide_eq_true y0_6
            have q345 : x5_1 < (l0.length : Int) := of_decide_eq_true y0_6
            obtain ⟨ad345, e345, hx345_0⟩ := Kd.at_int HR0.out x5_1 p345 q345
            cases e345
            replace p345 := eq_true p345
            replace q345 := eq_true q345
            have p346 : 0 ≤ (x5_1 : Int) := of_decide_eq_true y0_6
            have q346 : x5_1 < (l1.length : Int) := of_decide_eq_true y0_6
            obtain ⟨ad346, e346, hx346_0⟩ := Kd.at_int HR1.out x5_1 p346 q346
            cases e346
            replace p346 := eq_true p346
            replace q346 := eq_true q346
            go_wp2
            repeat (go_quiet (fail); try go_wp2)
            go_roundg k1
            case measure => have := HK1.out; omega
            case rel => exact ⟨(wrap64 (x5_1 + 1)), y0_7, H', ⟨y0_11⟩, y0_5⟩
          · rw [if_neg c7] at H
            have c7b0 : ((rd l0 x5_1) == (rd l1 x5_1)) = false := beq_eq_false_iff_ne.mpr c7
            have c7b1 : ((rd l0 x5_1) != (rd l1 x5_1)) = true := bne_iff_ne.mpr c7
            obtain rfl := Option.some.inj H
            have p345 : 0 ≤ (x5_1 : Int) := of_decide_eq_true y0_6
            have q345 : x5_1 < (l0.length : Int) := of_decide_eq_true y0_6
            obtain ⟨ad345, e345, hx345_0⟩ := Kd.at_int HR0.out x5_1 p345 q345
            cases e345
            replace p345 := eq_true p345
            replace q345 := eq_true q345
            have p346 : 0 ≤ (x5_1 : Int) := of_decide_eq_true y0_6
            have q346 : x5_1 < (l1.length : Int) := of_decide_eq_true y0_6
            obtain ⟨ad346, e346, hx346_0⟩ := Kd.at_int HR1.out x5_1 p346 q346
            cases e346
            replace p346 := eq_true p346
            replace q346 := eq_true q346
            go_wp2
            repeat (go_quiet (fail); try go_wp2)
            go_ret
            exact ⟨y0_7, y0_5⟩
        · rw [if_neg c4] at H
          have c4b0 : decide (x5_1 < (l0.length : Int)) = false := decide_eq_false c4
          clear c4
          obtain rfl := Option.some.inj H
          go_wp2
          repeat (go_quiet (fail); try go_wp2)
          go_ret
          exact ⟨y0_7, y0_5⟩
  · rw [if_neg c3] at H
    have c3b0 : ((l0.length : Int) == (l1.length : Int)) = false := beq_eq_false_iff_ne.mpr c3
    have c3b1 : ((l0.length : Int) != (l1.length : Int)) = true := bne_iff_ne.mpr c3
    have c3b2 : (l0.length == l1.length) = false := by first | simpa using c3 | (simp at c3 ⊢; omega)
    obtain rfl := Option.some.inj H
    go_enter Tryd.func81, Tryd.ntmps81
    go_wp2
    repeat (go_quiet (fail); try go_wp2)
    go_ret
    exact ⟨y0_7, y0_5⟩

/-! ### laws_eqQc: function 27 -/
def laws_eqQc.f (k : Nat) (a0_0 : Int) (a0_1 : ByteArray) (l0_2 : List Int) (a1_0 : Int) (a1_1 : ByteArray) (l1_2 : List Int) : Option (Bool) := if a0_0 = a1_0 then (if a0_1.toList = a1_1.toList then ((laws_eqIntS.f k l0_2 l1_2).bind fun t349 => (if t349 = true then (some true) else (some false))) else (some false)) else (some false)
theorem laws_eqQc.mono : ∀ a0 a1 a2 a3 a4 a5 k, LeO (laws_eqQc.f k a0 a1 a2 a3 a4 a5) (laws_eqQc.f (k + 1) a0 a1 a2 a3 a4 a5) := by
  intro a0 a1 a2 a3 a4 a5 k
  unfold laws_eqQc.f
  repeat' first
      | (with_reducible exact laws_eqIntS.mono _ _ _)
      | (with_reducible exact LeO.refl _)
      | (with_reducible exact LeO.none _)
      | (with_reducible refine LeO.ite ?_ ?_)
      | (with_reducible refine LeO.bind ?_ (fun _ => ?_))
      | exact laws_eqIntS.mono _ _ _
      | exact LeO.none _
      | refine LeO.ite ?_ ?_
      | refine LeO.bind ?_ (fun _ => ?_)
set_option maxHeartbeats 8000000 in
set_option maxRecDepth 100000 in
theorem laws_eqQc.calls (k : Nat) (a0_0 : Int) (a0_1 : ByteArray) (A0_2 : Option Addr) (c0_2 : Nat) (l0_2 : List Int) (a1_0 : Int) (a1_1 : ByteArray) (A1_2 : Option Addr) (c1_2 : Nat) (l1_2 : List Int) (r : Bool) (w : World) (hr0_2 : Kd.C (Kd.int .i64) w A0_2 l0_2.length l0_2) (hc0_2 : l0_2.length ≤ c0_2) (hr1_2 : Kd.C (Kd.int .i64) w A1_2 l1_2.length l1_2) (hc1_2 : l1_2.length ≤ c1_2) (h : laws_eqQc.f k a0_0 a0_1 l0_2 a1_0 a1_1 l1_2 = some r) :
    Calls Tryd.prog 27 #[.agg #[.int .i64 a0_0, .string a0_1, .slice A0_2 l0_2.length c0_2], .agg #[.int .i64 a1_0, .string a1_1, .slice A1_2 l1_2.length c1_2]] w fun e w' => e = .returned (.bool r) ∧ Below w.heap.size w w' := by
  have hu41 := Tryd.underlying41
  have HR0_2 := Aside0.mk hr0_2
  have HC0_2 := Aside0.mk hc0_2
  clear hr0_2 hc0_2
  have HR1_2 := Aside0.mk hr1_2
  have HC1_2 := Aside0.mk hc1_2
  clear hr1_2 hc1_2
  have HB := Aside0.mk (Below.refl w.heap.size w)
  have H : (if a0_0 = a1_0 then (if a0_1.toList = a1_1.toList then ((laws_eqIntS.f k l0_2 l1_2).bind fun t349 => (if t349 = true then (some true) else (some false))) else (some false)) else (some false)) = some r := h
  clear h
  by_cases c3 : a0_0 = a1_0
  · rw [if_pos c3] at H
    have c3b0 : (a0_0 == a1_0) = true := beq_iff_eq.mpr c3
    have c3b1 : (a0_0 != a1_0) = false := bne_eq_false_iff_eq.mpr c3
    clear c3
    by_cases c4 : a0_1.toList = a1_1.toList
    · rw [if_pos c4] at H
      have c4b0 : (a0_1.toList == a1_1.toList) = true := beq_iff_eq.mpr c4
      have c4b1 : (a0_1.toList != a1_1.toList) = false := bne_eq_false_iff_eq.mpr c4
      clear c4
      obtain ⟨t349, A50, H⟩ := Option.bind_eq_some_iff.mp H
      try dsimp only at H
      have A5 := Aside0.mk A50
      clear A50
      by_cases c6 : t349 = true
      · subst c6
        rw [if_pos rfl] at H
        obtain rfl := Option.some.inj H
        go_enter Tryd.func27, Tryd.ntmps27
        go_wp2_with (first | ((with_reducible refine gd 2 ?_); refine bA 2 #[.int .i64 a0_0, .string a0_1, .slice A0_2 l0_2.length c0_2] 41 ?_; intro gb347 hg w7 hbox hb; have BK347 := Aside0.mk (hbox); have GW347 := bg hg HB; have GJ347 := gi GW347; have GE347 := GW347; replace HB := bs HB hb; clear hb hbox hg) | ((with_reducible refine gd 3 ?_); refine bA 3 #[.int .i64 a1_0, .string a1_1, .slice A1_2 l1_2.length c1_2] 41 ?_; intro gb348 hg w8 hbox hb; have BK348 := Aside0.mk (hbox); have GW348 := bg hg HB; have GJ348 := gi GW348; have GE348 := GW348; replace HB := bs HB hb; have NB347_348 := b1 BK347 hg; have NI347_348 := ni NB347_348; have NB348_347 := b2 BK347 hg; have NI348_347 := ni NB348_347; replace BK347 := bk BK347 hb; clear hb hbox hg; have hnb9 := NB347_348.out; have hnc9 := NB348_347.out; obtain ⟨hcz10_0, hcz10_1, hcz10_2, hfz10_0, hfz10_1, hfz10_2⟩ := cs3 BK347; obtain ⟨hcz11_0, hcz11_1, hcz11_2, hfz11_0, hfz11_1, hfz11_2⟩ := cs3 BK348) | ((with_reducible refine gate_callee (f := 81) rfl ?_); refine gB (some 19) Tryd.func81 #[.slice A0_2 l0_2.length c0_2, .slice A1_2 l1_2.length c1_2] ?_; (with_reducible refine (laws_eqIntS.calls k _ _ l0_2 _ _ l1_2 true _ ?side1 ?side2 ?side3 ?side4 A5.out).mono ?_); (case side1 => exact ch HR0_2 HB); (case side2 => exact HC0_2.out); (case side3 => exact ch HR1_2 HB); (case side4 => exact HC1_2.out); rintro e w' ⟨rfl, ⟨nd, rfl⟩⟩; refine ⟨_, rfl, ?_⟩))
        go_ret
        exact ⟨y0_4, bI HB.out⟩
      · replace c6 := Bool.eq_false_iff.mpr c6
        subst c6
        rw [if_neg (show ¬ (false = true) by decide)] at H
        obtain rfl := Option.some.inj H
        go_enter Tryd.func27, Tryd.ntmps27
        go_wp2_with (first | ((with_reducible refine gd 2 ?_); refine bA 2 #[.int .i64 a0_0, .string a0_1, .slice A0_2 l0_2.length c0_2] 41 ?_; intro gb347 hg w12 hbox hb; have BK347 := Aside0.mk (hbox); have GW347 := bg hg HB; have GJ347 := gi GW347; have GE347 := GW347; replace HB := bs HB hb; clear hb hbox hg) | ((with_reducible refine gd 3 ?_); refine bA 3 #[.int .i64 a1_0, .string a1_1, .slice A1_2 l1_2.length c1_2] 41 ?_; intro gb348 hg w13 hbox hb; have BK348 := Aside0.mk (hbox); have GW348 := bg hg HB; have GJ348 := gi GW348; have GE348 := GW348; replace HB := bs HB hb; have NB347_348 := b1 BK347 hg; have NI347_348 := ni NB347_348; have NB348_347 := b2 BK347 hg; have NI348_347 := ni NB348_347; replace BK347 := bk BK347 hb; clear hb hbox hg; have hnb14 := NB347_348.out; have hnc14 := NB348_347.out; obtain ⟨hcz15_0, hcz15_1, hcz15_2, hfz15_0, hfz15_1, hfz15_2⟩ := cs3 BK347; obtain ⟨hcz16_0, hcz16_1, hcz16_2, hfz16_0, hfz16_1, hfz16_2⟩ := cs3 BK348) | ((with_reducible refine gate_callee (f := 81) rfl ?_); refine gB (some 19) Tryd.func81 #[.slice A0_2 l0_2.length c0_2, .slice A1_2 l1_2.length c1_2] ?_; (with_reducible refine (laws_eqIntS.calls k _ _ l0_2 _ _ l1_2 false _ ?side1 ?side2 ?side3 ?side4 A5.out).mono ?_); (case side1 => exact ch HR0_2 HB); (case side2 => exact HC0_2.out); (case side3 => exact ch HR1_2 HB); (case side4 => exact HC1_2.out); rintro e w' ⟨rfl, ⟨nd, rfl⟩⟩; refine ⟨_, rfl, ?_⟩))
        go_ret
        exact ⟨y0_4, bI HB.out⟩
    · rw [if_neg c4] at H
      have c4b0 : (a0_1.toList == a1_1.toList) = false := beq_eq_false_iff_ne.mpr c4
      have c4b1 : (a0_1.toList != a1_1.toList) = true := bne_iff_ne.mpr c4
      obtain rfl := Option.some.inj H
      go_enter Tryd.func27, Tryd.ntmps27
      go_wp2_with (first | ((with_reducible refine gd 2 ?_); refine bA 2 #[.int .i64 a0_0, .string a0_1, .slice A0_2 l0_2.length c0_2] 41 ?_; intro gb347 hg w17 hbox hb; have BK347 := Aside0.mk (hbox); have GW347 := bg hg HB; have GJ347 := gi GW347; have GE347 := GW347; replace HB := bs HB hb; clear hb hbox hg) | ((with_reducible refine gd 3 ?_); refine bA 3 #[.int .i64 a1_0, .string a1_1, .slice A1_2 l1_2.length c1_2] 41 ?_; intro gb348 hg w18 hbox hb; have BK348 := Aside0.mk (hbox); have GW348 := bg hg HB; have GJ348 := gi GW348; have GE348 := GW348; replace HB := bs HB hb; have NB347_348 := b1 BK347 hg; have NI347_348 := ni NB347_348; have NB348_347 := b2 BK347 hg; have NI348_347 := ni NB348_347; replace BK347 := bk BK347 hb; clear hb hbox hg; have hnb19 := NB347_348.out; have hnc19 := NB348_347.out; obtain ⟨hcz20_0, hcz20_1, hcz20_2, hfz20_0, hfz20_1, hfz20_2⟩ := cs3 BK347; obtain ⟨hcz21_0, hcz21_1, hcz21_2, hfz21_0, hfz21_1, hfz21_2⟩ := cs3 BK348))
      go_ret
      exact ⟨y0_4, bI HB.out⟩
  · rw [if_neg c3] at H
    have c3b0 : (a0_0 == a1_0) = false := beq_eq_false_iff_ne.mpr c3
    have c3b1 : (a0_0 != a1_0) = true := bne_iff_ne.mpr c3
    obtain rfl := Option.some.inj H
    go_enter Tryd.func27, Tryd.ntmps27
    go_wp2_with (first | ((with_reducible refine gd 2 ?_); refine bA 2 #[.int .i64 a0_0, .string a0_1, .slice A0_2 l0_2.length c0_2] 41 ?_; intro gb347 hg w22 hbox hb; have BK347 := Aside0.mk (hbox); have GW347 := bg hg HB; have GJ347 := gi GW347; have GE347 := GW347; replace HB := bs HB hb; clear hb hbox hg) | ((with_reducible refine gd 3 ?_); refine bA 3 #[.int .i64 a1_0, .string a1_1, .slice A1_2 l1_2.length c1_2] 41 ?_; intro gb348 hg w23 hbox hb; have BK348 := Aside0.mk (hbox); have GW348 := bg hg HB; have GJ348 := gi GW348; have GE348 := GW348; replace HB := bs HB hb; have NB347_348 := b1 BK347 hg; have NI347_348 := ni NB347_348; have NB348_347 := b2 BK347 hg; have NI348_347 := ni NB348_347; replace BK347 := bk BK347 hb; clear hb hbox hg; have hnb24 := NB347_348.out; have hnc24 := NB348_347.out; obtain ⟨hcz25_0, hcz25_1, hcz25_2, hfz25_0, hfz25_1, hfz25_2⟩ := cs3 BK347; obtain ⟨hcz26_0, hcz26_1, hcz26_2, hfz26_0, hfz26_1, hfz26_2⟩ := cs3 BK348))
    go_ret
    exact ⟨y0_4, bI HB.out⟩

/-! ### laws_eqSafe: function 37 -/
def laws_eqSafe.f (k : Nat) (a0_0 : Int) (a0_1 : Int) (a0_2 : Int) (a0_3 : ByteArray) (l0_4 : List Int) (a0_5 : ByteArray) (a1_0 : Int) (a1_1 : Int) (a1_2 : Int) (a1_3 : ByteArray) (l1_4 : List Int) (a1_5 : ByteArray) : Option (Bool) := if a0_0 = a1_0 then (if a0_1 = a1_1 then ((laws_eqQc.f k a0_2 a0_3 l0_4 a1_2 a1_3 l1_4).bind fun t352 => (if t352 = true then (if a0_5.toList = a1_5.toList then (some true) else (some false)) else (some false))) else (some false)) else (some false)
theorem laws_eqSafe.mono : ∀ a0 a1 a2 a3 a4 a5 a6 a7 a8 a9 a10 a11 k, LeO (laws_eqSafe.f k a0 a1 a2 a3 a4 a5 a6 a7 a8 a9 a10 a11) (laws_eqSafe.f (k + 1) a0 a1 a2 a3 a4 a5 a6 a7 a8 a9 a10 a11) := by
  intro a0 a1 a2 a3 a4 a5 a6 a7 a8 a9 a10 a11 k
  unfold laws_eqSafe.f
  repeat' first
      | (with_reducible exact laws_eqQc.mono _ _ _ _ _ _ _)
      | (with_reducible exact LeO.refl _)
      | (with_reducible exact LeO.none _)
      | (with_reducible refine LeO.ite ?_ ?_)
      | (with_reducible refine LeO.bind ?_ (fun _ => ?_))
      | exact laws_eqQc.mono _ _ _ _ _ _ _
      | exact LeO.none _
      | refine LeO.ite ?_ ?_
      | refine LeO.bind ?_ (fun _ => ?_)
set_option maxHeartbeats 8000000 in
set_option maxRecDepth 100000 in
theorem laws_eqSafe.calls (k : Nat) (a0_0 : Int) (a0_1 : Int) (a0_2 : Int) (a0_3 : ByteArray) (A0_4 : Option Addr) (c0_4 : Nat) (l0_4 : List Int) (a0_5 : ByteArray) (a1_0 : Int) (a1_1 : Int) (a1_2 : Int) (a1_3 : ByteArray) (A1_4 : Option Addr) (c1_4 : Nat) (l1_4 : List Int) (a1_5 : ByteArray) (r : Bool) (w : World) (hr0_4 : Kd.C (Kd.int .i64) w A0_4 l0_4.length l0_4) (hc0_4 : l0_4.length ≤ c0_4) (hr1_4 : Kd.C (Kd.int .i64) w A1_4 l1_4.length l1_4) (hc1_4 : l1_4.length ≤ c1_4) (h : laws_eqSafe.f k a0_0 a0_1 a0_2 a0_3 l0_4 a0_5 a1_0 a1_1 a1_2 a1_3 l1_4 a1_5 = some r) :
    Calls Tryd.prog 37 #[.agg #[.int .i64 a0_0, .int .i64 a0_1, .int .i64 a0_2, .string a0_3, .slice A0_4 l0_4.length c0_4, .string a0_5], .agg #[.int .i64 a1_0, .int .i64 a1_1, .int .i64 a1_2, .string a1_3, .slice A1_4 l1_4.length c1_4, .string a1_5]] w fun e w' => e = .returned (.bool r) ∧ Below w.heap.size w w' := by
  have hu57 := Tryd.underlying57
  have hu41 := Tryd.underlying41
  have HR0_4 := Aside0.mk hr0_4
  have HC0_4 := Aside0.mk hc0_4
  clear hr0_4 hc0_4
  have HR1_4 := Aside0.mk hr1_4
  have HC1_4 := Aside0.mk hc1_4
  clear hr1_4 hc1_4
  have HB := Aside0.mk (Below.refl w.heap.size w)
  have H : (if a0_0 = a1_0 then (if a0_1 = a1_1 then ((laws_eqQc.f k a0_2 a0_3 l0_4 a1_2 a1_3 l1_4).bind fun t352 => (if t352 = true then (if a0_5.toList = a1_5.toList then (some true) else (some false)) else (some false))) else (some false)) else (some false)) = some r := h
  clear h
  by_cases c3 : a0_0 = a1_0
  · rw [if_pos c3] at H
    have c3b0 : (a0_0 == a1_0) = true := beq_iff_eq.mpr c3
    have c3b1 : (a0_0 != a1_0) = false := bne_eq_false_iff_eq.mpr c3
    clear c3
    by_cases c4 : a0_1 = a1_1
    · rw [if_pos c4] at H
      have c4b0 : (a0_1 == a1_1) = true := beq_iff_eq.mpr c4
      have c4b1 : (a0_1 != a1_1) = false := bne_eq_false_iff_eq.mpr c4
      clear c4
      obtain ⟨t352, A50, H⟩ := Option.bind_eq_some_iff.mp H
      try dsimp only at H
      have A5 := Aside0.mk A50
      clear A50
      by_cases c6 : t352 = true
      · subst c6
        rw [if_pos rfl] at H
        by_cases c7 : a0_5.toList = a1_5.toList
        · rw [if_pos c7] at H
          have c7b0 : (a0_5.toList == a1_5.toList) = true := beq_iff_eq.mpr c7
          have c7b1 : (a0_5.toList != a1_5.toList) = false := bne_eq_false_iff_eq.mpr c7
          clear c7
          obtain rfl := Option.some.inj H
          go_enter Tryd.func37, Tryd.ntmps37
          go_wp2_with (first | ((with_reducible refine gd 2 ?_); refine bA 2 #[.int .i64 a0_0, .int .i64 a0_1, .int .i64 a0_2, .string a0_3, .slice A0_4 l0_4.length c0_4, .string a0_5] 57 ?_; intro gb350 hg w8 hbox hb; have BK350 := Aside0.mk (hbox); have GW350 := bg hg HB; have GJ350 := gi GW350; have GE350 := GW350; replace HB := bs HB hb; clear hb hbox hg) | ((with_reducible refine gd 3 ?_); refine bA 3 #[.int .i64 a1_0, .int .i64 a1_1, .int .i64 a1_2, .string a1_3, .slice A1_4 l1_4.length c1_4, .string a1_5] 57 ?_; intro gb351 hg w9 hbox hb; have BK351 := Aside0.mk (hbox); have GW351 := bg hg HB; have GJ351 := gi GW351; have GE351 := GW351; replace HB := bs HB hb; have NB350_351 := b1 BK350 hg; have NI350_351 := ni NB350_351; have NB351_350 := b2 BK350 hg; have NI351_350 := ni NB351_350; replace BK350 := bk BK350 hb; clear hb hbox hg; have hnb10 := NB350_351.out; have hnc10 := NB351_350.out; have hcz11_0 := bc0 BK350.out; have hcz11_1 := bc1 BK350.out; have hcz11_2 := bc2 BK350.out; have hcz11_3 := bc3 BK350.out; have hcz11_4 := bc4 BK350.out; have hcz11_5 := bc5 BK350.out; have hfz11_0 := blk_frozen BK350.out 0; have hfz11_1 := blk_frozen BK350.out 1; have hfz11_2 := blk_frozen BK350.out 2; have hfz11_3 := blk_frozen BK350.out 3; have hfz11_4 := blk_frozen BK350.out 4; have hfz11_5 := blk_frozen BK350.out 5; have hcz12_0 := bc0 BK351.out; have hcz12_1 := bc1 BK351.out; have hcz12_2 := bc2 BK351.out; have hcz12_3 := bc3 BK351.out; have hcz12_4 := bc4 BK351.out; have hcz12_5 := bc5 BK351.out; have hfz12_0 := blk_frozen BK351.out 0; have hfz12_1 := blk_frozen BK351.out 1; have hfz12_2 := blk_frozen BK351.out 2; have hfz12_3 := blk_frozen BK351.out 3; have hfz12_4 := blk_frozen BK351.out 4; have hfz12_5 := blk_frozen BK351.out 5) | ((with_reducible refine gate_callee (f := 27) rfl ?_); refine gB (some 19) Tryd.func27 #[.agg #[.int .i64 a0_2, .string a0_3, .slice A0_4 l0_4.length c0_4], .agg #[.int .i64 a1_2, .string a1_3, .slice A1_4 l1_4.length c1_4]] ?_; (with_reducible refine (laws_eqQc.calls k a0_2 a0_3 _ _ l0_4 a1_2 a1_3 _ _ l1_4 true _ ?side1 ?side2 ?side3 ?side4 A5.out).mono ?_); (case side1 => exact ch HR0_4 HB); (case side2 => exact HC0_4.out); (case side3 => exact ch HR1_4 HB); (case side4 => exact HC1_4.out); rintro e w13 ⟨rfl, hb⟩; refine ⟨_, rfl, ?_⟩; replace BK350 := bk BK350 hb; replace BK351 := bk BK351 hb; replace HB := bs HB hb; (try clear hb); (try clear hb2); (try clear hk); (try clear hi); have hcz14_0 := bc0 BK350.out; have hcz14_1 := bc1 BK350.out; have hcz14_2 := bc2 BK350.out; have hcz14_3 := bc3 BK350.out; have hcz14_4 := bc4 BK350.out; have hcz14_5 := bc5 BK350.out; have hfz14_0 := blk_frozen BK350.out 0; have hfz14_1 := blk_frozen BK350.out 1; have hfz14_2 := blk_frozen BK350.out 2; have hfz14_3 := blk_frozen BK350.out 3; have hfz14_4 := blk_frozen BK350.out 4; have hfz14_5 := blk_frozen BK350.out 5; have hcz15_0 := bc0 BK351.out; have hcz15_1 := bc1 BK351.out; have hcz15_2 := bc2 BK351.out; have hcz15_3 := bc3 BK351.out; have hcz15_4 := bc4 BK351.out; have hcz15_5 := bc5 BK351.out; have hfz15_0 := blk_frozen BK351.out 0; have hfz15_1 := blk_frozen BK351.out 1; have hfz15_2 := blk_frozen BK351.out 2; have hfz15_3 := blk_frozen BK351.out 3; have hfz15_4 := blk_frozen BK351.out 4; have hfz15_5 := blk_frozen BK351.out 5))
          go_ret
          exact ⟨y0_4, bI HB.out⟩
        · rw [if_neg c7] at H
          have c7b0 : (a0_5.toList == a1_5.toList) = false := beq_eq_false_iff_ne.mpr c7
          have c7b1 : (a0_5.toList != a1_5.toList) = true := bne_iff_ne.mpr c7
          obtain rfl := Option.some.inj H
          go_enter Tryd.func37, Tryd.ntmps37
          go_wp2_with (first | ((with_reducible refine gd 2 ?_); refine bA 2 #[.int .i64 a0_0, .int .i64 a0_1, .int .i64 a0_2, .string a0_3, .slice A0_4 l0_4.length c0_4, .string a0_5] 57 ?_; intro gb350 hg w16 hbox hb; have BK350 := Aside0.mk (hbox); have GW350 := bg hg HB; have GJ350 := gi GW350; have GE350 := GW350; replace HB := bs HB hb; clear hb hbox hg) | ((with_reducible refine gd 3 ?_); refine bA 3 #[.int .i64 a1_0, .int .i64 a1_1, .int .i64 a1_2, .string a1_3, .slice A1_4 l1_4.length c1_4, .string a1_5] 57 ?_; intro gb351 hg w17 hbox hb; have BK351 := Aside0.mk (hbox); have GW351 := bg hg HB; have GJ351 := gi GW351; have GE351 := GW351; replace HB := bs HB hb; have NB350_351 := b1 BK350 hg; have NI350_351 := ni NB350_351; have NB351_350 := b2 BK350 hg; have NI351_350 := ni NB351_350; replace BK350 := bk BK350 hb; clear hb hbox hg; have hnb18 := NB350_351.out; have hnc18 := NB351_350.out; have hcz19_0 := bc0 BK350.out; have hcz19_1 := bc1 BK350.out; have hcz19_2 := bc2 BK350.out; have hcz19_3 := bc3 BK350.out; have hcz19_4 := bc4 BK350.out; have hcz19_5 := bc5 BK350.out; have hfz19_0 := blk_frozen BK350.out 0; have hfz19_1 := blk_frozen BK350.out 1; have hfz19_2 := blk_frozen BK350.out 2; have hfz19_3 := blk_frozen BK350.out 3; have hfz19_4 := blk_frozen BK350.out 4; have hfz19_5 := blk_frozen BK350.out 5; have hcz20_0 := bc0 BK351.out; have hcz20_1 := bc1 BK351.out; have hcz20_2 := bc2 BK351.out; have hcz20_3 := bc3 BK351.out; have hcz20_4 := bc4 BK351.out; have hcz20_5 := bc5 BK351.out; have hfz20_0 := blk_frozen BK351.out 0; have hfz20_1 := blk_frozen BK351.out 1; have hfz20_2 := blk_frozen BK351.out 2; have hfz20_3 := blk_frozen BK351.out 3; have hfz20_4 := blk_frozen BK351.out 4; have hfz20_5 := blk_frozen BK351.out 5) | ((with_reducible refine gate_callee (f := 27) rfl ?_); refine gB (some 19) Tryd.func27 #[.agg #[.int .i64 a0_2, .string a0_3, .slice A0_4 l0_4.length c0_4], .agg #[.int .i64 a1_2, .string a1_3, .slice A1_4 l1_4.length c1_4]] ?_; (with_reducible refine (laws_eqQc.calls k a0_2 a0_3 _ _ l0_4 a1_2 a1_3 _ _ l1_4 true _ ?side1 ?side2 ?side3 ?side4 A5.out).mono ?_); (case side1 => exact ch HR0_4 HB); (case side2 => exact HC0_4.out); (case side3 => exact ch HR1_4 HB); (case side4 => exact HC1_4.out); rintro e w21 ⟨rfl, hb⟩; refine ⟨_, rfl, ?_⟩; replace BK350 := bk BK350 hb; replace BK351 := bk BK351 hb; replace HB := bs HB hb; (try clear hb); (try clear hb2); (try clear hk); (try clear hi); have hcz22_0 := bc0 BK350.out; have hcz22_1 := bc1 BK350.out; have hcz22_2 := bc2 BK350.out; have hcz22_3 := bc3 BK350.out; have hcz22_4 := bc4 BK350.out; have hcz22_5 := bc5 BK350.out; have hfz22_0 := blk_frozen BK350.out 0; have hfz22_1 := blk_frozen BK350.out 1; have hfz22_2 := blk_frozen BK350.out 2; have hfz22_3 := blk_frozen BK350.out 3; have hfz22_4 := blk_frozen BK350.out 4; have hfz22_5 := blk_frozen BK350.out 5; have hcz23_0 := bc0 BK351.out; have hcz23_1 := bc1 BK351.out; have hcz23_2 := bc2 BK351.out; have hcz23_3 := bc3 BK351.out; have hcz23_4 := bc4 BK351.out; have hcz23_5 := bc5 BK351.out; have hfz23_0 := blk_frozen BK351.out 0; have hfz23_1 := blk_frozen BK351.out 1; have hfz23_2 := blk_frozen BK351.out 2; have hfz23_3 := blk_frozen BK351.out 3; have hfz23_4 := blk_frozen BK351.out 4; have hfz23_5 := blk_frozen BK351.out 5))
          go_ret
          exact ⟨y0_4, bI HB.out⟩
      · replace c6 := Bool.eq_false_iff.mpr c6
        subst c6
        rw [if_neg (show ¬ (false = true) by decide)] at H
        obtain rfl := Option.some.inj H
        go_enter Tryd.func37, Tryd.ntmps37
        go_wp2_with (first | ((with_reducible refine gd 2 ?_); refine bA 2 #[.int .i64 a0_0, .int .i64 a0_1, .int .i64 a0_2, .string a0_3, .slice A0_4 l0_4.length c0_4, .string a0_5] 57 ?_; intro gb350 hg w24 hbox hb; have BK350 := Aside0.mk (hbox); have GW350 := bg hg HB; have GJ350 := gi GW350; have GE350 := GW350; replace HB := bs HB hb; clear hb hbox hg) | ((with_reducible refine gd 3 ?_); refine bA 3 #[.int .i64 a1_0, .int .i64 a1_1, .int .i64 a1_2, .string a1_3, .slice A1_4 l1_4.length c1_4, .string a1_5] 57 ?_; intro gb351 hg w25 hbox hb; have BK351 := Aside0.mk (hbox); have GW351 := bg hg HB; have GJ351 := gi GW351; have GE351 := GW351; replace HB := bs HB hb; have NB350_351 := b1 BK350 hg; have NI350_351 := ni NB350_351; have NB351_350 := b2 BK350 hg; have NI351_350 := ni NB351_350; replace BK350 := bk BK350 hb; clear hb hbox hg; have hnb26 := NB350_351.out; have hnc26 := NB351_350.out; have hcz27_0 := bc0 BK350.out; have hcz27_1 := bc1 BK350.out; have hcz27_2 := bc2 BK350.out; have hcz27_3 := bc3 BK350.out; have hcz27_4 := bc4 BK350.out; have hcz27_5 := bc5 BK350.out; have hfz27_0 := blk_frozen BK350.out 0; have hfz27_1 := blk_frozen BK350.out 1; have hfz27_2 := blk_frozen BK350.out 2; have hfz27_3 := blk_frozen BK350.out 3; have hfz27_4 := blk_frozen BK350.out 4; have hfz27_5 := blk_frozen BK350.out 5; have hcz28_0 := bc0 BK351.out; have hcz28_1 := bc1 BK351.out; have hcz28_2 := bc2 BK351.out; have hcz28_3 := bc3 BK351.out; have hcz28_4 := bc4 BK351.out; have hcz28_5 := bc5 BK351.out; have hfz28_0 := blk_frozen BK351.out 0; have hfz28_1 := blk_frozen BK351.out 1; have hfz28_2 := blk_frozen BK351.out 2; have hfz28_3 := blk_frozen BK351.out 3; have hfz28_4 := blk_frozen BK351.out 4; have hfz28_5 := blk_frozen BK351.out 5) | ((with_reducible refine gate_callee (f := 27) rfl ?_); refine gB (some 19) Tryd.func27 #[.agg #[.int .i64 a0_2, .string a0_3, .slice A0_4 l0_4.length c0_4], .agg #[.int .i64 a1_2, .string a1_3, .slice A1_4 l1_4.length c1_4]] ?_; (with_reducible refine (laws_eqQc.calls k a0_2 a0_3 _ _ l0_4 a1_2 a1_3 _ _ l1_4 false _ ?side1 ?side2 ?side3 ?side4 A5.out).mono ?_); (case side1 => exact ch HR0_4 HB); (case side2 => exact HC0_4.out); (case side3 => exact ch HR1_4 HB); (case side4 => exact HC1_4.out); rintro e w29 ⟨rfl, hb⟩; refine ⟨_, rfl, ?_⟩; replace BK350 := bk BK350 hb; replace BK351 := bk BK351 hb; replace HB := bs HB hb; (try clear hb); (try clear hb2); (try clear hk); (try clear hi)))
        go_ret
        exact ⟨y0_4, bI HB.out⟩
    · rw [if_neg c4] at H
      have c4b0 : (a0_1 == a1_1) = false := beq_eq_false_iff_ne.mpr c4
      have c4b1 : (a0_1 != a1_1) = true := bne_iff_ne.mpr c4
      obtain rfl := Option.some.inj H
      go_enter Tryd.func37, Tryd.ntmps37
      go_wp2_with (first | ((with_reducible refine gd 2 ?_); refine bA 2 #[.int .i64 a0_0, .int .i64 a0_1, .int .i64 a0_2, .string a0_3, .slice A0_4 l0_4.length c0_4, .string a0_5] 57 ?_; intro gb350 hg w30 hbox hb; have BK350 := Aside0.mk (hbox); have GW350 := bg hg HB; have GJ350 := gi GW350; have GE350 := GW350; replace HB := bs HB hb; clear hb hbox hg) | ((with_reducible refine gd 3 ?_); refine bA 3 #[.int .i64 a1_0, .int .i64 a1_1, .int .i64 a1_2, .string a1_3, .slice A1_4 l1_4.length c1_4, .string a1_5] 57 ?_; intro gb351 hg w31 hbox hb; have BK351 := Aside0.mk (hbox); have GW351 := bg hg HB; have GJ351 := gi GW351; have GE351 := GW351; replace HB := bs HB hb; have NB350_351 := b1 BK350 hg; have NI350_351 := ni NB350_351; have NB351_350 := b2 BK350 hg; have NI351_350 := ni NB351_350; replace BK350 := bk BK350 hb; clear hb hbox hg; have hnb32 := NB350_351.out; have hnc32 := NB351_350.out; have hcz33_0 := bc0 BK350.out; have hcz33_1 := bc1 BK350.out; have hcz33_2 := bc2 BK350.out; have hcz33_3 := bc3 BK350.out; have hcz33_4 := bc4 BK350.out; have hcz33_5 := bc5 BK350.out; have hfz33_0 := blk_frozen BK350.out 0; have hfz33_1 := blk_frozen BK350.out 1; have hfz33_2 := blk_frozen BK350.out 2; have hfz33_3 := blk_frozen BK350.out 3; have hfz33_4 := blk_frozen BK350.out 4; have hfz33_5 := blk_frozen BK350.out 5; have hcz34_0 := bc0 BK351.out; have hcz34_1 := bc1 BK351.out; have hcz34_2 := bc2 BK351.out; have hcz34_3 := bc3 BK351.out; have hcz34_4 := bc4 BK351.out; have hcz34_5 := bc5 BK351.out; have hfz34_0 := blk_frozen BK351.out 0; have hfz34_1 := blk_frozen BK351.out 1; have hfz34_2 := blk_frozen BK351.out 2; have hfz34_3 := blk_frozen BK351.out 3; have hfz34_4 := blk_frozen BK351.out 4; have hfz34_5 := blk_frozen BK351.out 5))
      go_ret
      exact ⟨y0_4, bI HB.out⟩
  · rw [if_neg c3] at H
    have c3b0 : (a0_0 == a1_0) = false := beq_eq_false_iff_ne.mpr c3
    have c3b1 : (a0_0 != a1_0) = true := bne_iff_ne.mpr c3
    obtain rfl := Option.some.inj H
    go_enter Tryd.func37, Tryd.ntmps37
    go_wp2_with (first | ((with_reducible refine gd 2 ?_); refine bA 2 #[.int .i64 a0_0, .int .i64 a0_1, .int .i64 a0_2, .string a0_3, .slice A0_4 l0_4.length c0_4, .string a0_5] 57 ?_; intro gb350 hg w35 hbox hb; have BK350 := Aside0.mk (hbox); have GW350 := bg hg HB; have GJ350 := gi GW350; have GE350 := GW350; replace HB := bs HB hb; clear hb hbox hg) | ((with_reducible refine gd 3 ?_); refine bA 3 #[.int .i64 a1_0, .int .i64 a1_1, .int .i64 a1_2, .string a1_3, .slice A1_4 l1_4.length c1_4, .string a1_5] 57 ?_; intro gb351 hg w36 hbox hb; have BK351 := Aside0.mk (hbox); have GW351 := bg hg HB; have GJ351 := gi GW351; have GE351 := GW351; replace HB := bs HB hb; have NB350_351 := b1 BK350 hg; have NI350_351 := ni NB350_351; have NB351_350 := b2 BK350 hg; have NI351_350 := ni NB351_350; replace BK350 := bk BK350 hb; clear hb hbox hg; have hnb37 := NB350_351.out; have hnc37 := NB351_350.out; have hcz38_0 := bc0 BK350.out; have hcz38_1 := bc1 BK350.out; have hcz38_2 := bc2 BK350.out; have hcz38_3 := bc3 BK350.out; have hcz38_4 := bc4 BK350.out; have hcz38_5 := bc5 BK350.out; have hfz38_0 := blk_frozen BK350.out 0; have hfz38_1 := blk_frozen BK350.out 1; have hfz38_2 := blk_frozen BK350.out 2; have hfz38_3 := blk_frozen BK350.out 3; have hfz38_4 := blk_frozen BK350.out 4; have hfz38_5 := blk_frozen BK350.out 5; have hcz39_0 := bc0 BK351.out; have hcz39_1 := bc1 BK351.out; have hcz39_2 := bc2 BK351.out; have hcz39_3 := bc3 BK351.out; have hcz39_4 := bc4 BK351.out; have hcz39_5 := bc5 BK351.out; have hfz39_0 := blk_frozen BK351.out 0; have hfz39_1 := blk_frozen BK351.out 1; have hfz39_2 := blk_frozen BK351.out 2; have hfz39_3 := blk_frozen BK351.out 3; have hfz39_4 := blk_frozen BK351.out 4; have hfz39_5 := blk_frozen BK351.out 5))
    go_ret
    exact ⟨y0_4, bI HB.out⟩

end Go.Proofs.YtcmldmlmhpfjhaaDoor.PFnExactSafeOk
