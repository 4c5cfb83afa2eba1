-- By a program of this session, out of the translation (the print of the kit, with turns of its own). Lean checks it.
import Derived.Test.YtemjmefacifdeaaDoorPFnExactNoteBytesx0
import Derived.Test.YtemjmefacifdeaaDoorPFnExactNoteBytesx7
import Derived.Test.YtemjmefacifdeaaDoorPFnExactNoteBytesx9
import Derived.Test.YtemjmefacifdeaaDoorPFnExactNoteBytesx11
namespace Go.Proofs.YtemjmefacifdeaaDoor.PFnExactNoteBytes
open Go.RowKit Go.Proofs.YtemjmefacifdeaaDoorW.PrintWords Go.Proofs.YtemjmefacifdeaaDoorW.PrintLast Go.Proofs.YtemjmefacifdeaaDoorW.PrintMore
attribute [local go_sem] max2_int min2_int max_two min_two max_three min_three max_four min_four   -- for this text's walks alone
set_option linter.unusedVariables false
set_option linter.unusedSimpArgs false

/-! ### impl_SafeOk: function 28 -/
def impl_SafeOk.f (k : Nat) (a0_0 : Int) (a0_1 : Int) (a1_0 : Int) (a1_1 : Int) (a1_2 : Int) (a1_3 : ByteArray) (l1_4 : List Int) (a1_5 : ByteArray) : Option (Bool) := (impl_within.f a1_0 0 60).bind fun t423 => (if t423 = true then ((impl_within.f a1_1 0 60).bind fun t424 => (if t424 = true then ((impl_QcOk.f k a0_0 a0_1 a1_2 a1_3 l1_4).bind fun t425 => (if t425 = true then ((impl_NameOk.f k a1_5).bind fun t426 => (some t426)) else (some false))) else (some false))) else (some false))
theorem impl_SafeOk.mono : ∀ a0 a1 a2 a3 a4 a5 a6 a7 k, LeO (impl_SafeOk.f k a0 a1 a2 a3 a4 a5 a6 a7) (impl_SafeOk.f (k + 1) a0 a1 a2 a3 a4 a5 a6 a7) := by
 intro a0 a1 a2 a3 a4 a5 a6 a7 k
 unfold impl_SafeOk.f
 repeat' first | (with_reducible exact impl_NameOk.mono _ _) | (with_reducible exact impl_QcOk.mono _ _ _ _ _ _) | (with_reducible exact LeO.refl _) | (with_reducible exact LeO.none _) | (with_reducible refine LeO.ite ?_ ?_) | (with_reducible refine LeO.bind ?_ (fun _ => ?_))
set_option maxHeartbeats 8000000 in
set_option maxRecDepth 100000 in
theorem impl_SafeOk.calls (k : Nat) (a0_0 : Int) (a0_1 : Int) (a1_0 : Int) (a1_1 : Int) (a1_2 : Int) (a1_3 : ByteArray) (A1_4 : Option Addr) (c1_4 : Nat) (l1_4 : List Int) (a1_5 : ByteArray) (r : Bool) (w : World) (hr1_4 : Kd.C (Kd.int .i64) w A1_4 l1_4.length l1_4) (hc1_4 : l1_4.length ≤ c1_4) (h : impl_SafeOk.f k a0_0 a0_1 a1_0 a1_1 a1_2 a1_3 l1_4 a1_5 = some r) (hG : Glob w := by exact gG HG HB) :
  Calls Tryd.prog 28 #[.agg #[.int .i64 a0_0, .int .i64 a0_1], .agg #[.int .i64 a1_0, .int .i64 a1_1, .int .i64 a1_2, .string a1_3, .slice A1_4 l1_4.length c1_4, .string a1_5]] w fun e w' => e = .returned (.bool r) ∧ Below w.heap.size w w' := by
 have HG := Aside0.mk hG; clear hG; have hu32 := Tryd.underlying32; have hu36 := Tryd.underlying36; have hu34 := Tryd.underlying34; have HR1_4 := Aside0.mk hr1_4; have HC1_4 := Aside0.mk hc1_4; clear hr1_4 hc1_4; have HB := Aside0.mk (Below.refl w.heap.size w)
 have H : ((impl_within.f a1_0 0 60).bind fun t423 => (if t423 = true then ((impl_within.f a1_1 0 60).bind fun t424 => (if t424 = true then ((impl_QcOk.f k a0_0 a0_1 a1_2 a1_3 l1_4).bind fun t425 => (if t425 = true then ((impl_NameOk.f k a1_5).bind fun t426 => (some t426)) else (some false))) else (some false))) else (some false))) = some r := h
 clear h; obtain ⟨t423, A30, H⟩ := Option.bind_eq_some_iff.mp H
 try dsimp only at H
 have A3 := Aside0.mk A30; clear A30
 by_cases c4 : t423 = true
 ·
  subst c4
  rw [if_pos rfl] at H
  obtain ⟨t424, A50, H⟩ := Option.bind_eq_some_iff.mp H
  try dsimp only at H
  have A5 := Aside0.mk A50; clear A50
  by_cases c6 : t424 = true
  ·
   subst c6
   rw [if_pos rfl] at H
   obtain ⟨t425, A70, H⟩ := Option.bind_eq_some_iff.mp H
   try dsimp only at H
   have A7 := Aside0.mk A70; clear A70
   by_cases c8 : t425 = true
   ·
    subst c8
    rw [if_pos rfl] at H
    obtain ⟨t426, A90, H⟩ := Option.bind_eq_some_iff.mp H
    try dsimp only at H
    have A9 := Aside0.mk A90; clear A90; obtain rfl := Option.some.inj H
    go_enter Tryd.func28, Tryd.ntmps28
    go_wp2_with (first | ((with_reducible refine gd 2 ?_); refine bA 2 #[.int .i64 a0_0, .int .i64 a0_1] 32 ?_; intro gb421 hg w10 hbox hb; have BK421 := Aside0.mk (hbox); have GW421 := bg hg HB; have GJ421 := gi GW421; have GE421 := GW421; replace HB := bs HB hb; clear hb hbox hg) | ((with_reducible refine gd 3 ?_); refine bA 3 #[.int .i64 a1_0, .int .i64 a1_1, .int .i64 a1_2, .string a1_3, .slice A1_4 l1_4.length c1_4, .string a1_5] 36 ?_; intro gb422 hg w11 hbox hb; have BK422 := Aside0.mk (hbox); have GW422 := bg hg HB; have GJ422 := gi GW422; have GE422 := GW422; replace HB := bs HB hb; have NB421_422 := b1 BK421 hg; have NI421_422 := ni NB421_422; have NB422_421 := b2 BK421 hg; have NI422_421 := ni NB422_421; replace BK421 := bk BK421 hb; clear hb hbox hg; have hnb12 := NB422_421.out; have hnc12 := NB421_422.out; have hcz13_0 := bc0 BK422.out; have hcz13_1 := bc1 BK422.out; have hcz13_2 := bc2 BK422.out; have hcz13_3 := bc3 BK422.out; have hcz13_4 := bc4 BK422.out; have hcz13_5 := bc5 BK422.out; have hfz13_0 := blk_frozen BK422.out 0; have hfz13_1 := blk_frozen BK422.out 1; have hfz13_2 := blk_frozen BK422.out 2; have hfz13_3 := blk_frozen BK422.out 3; have hfz13_4 := blk_frozen BK422.out 4; have hfz13_5 := blk_frozen BK422.out 5) | ((with_reducible refine gate_callee (f := 32) rfl ?_); refine gB (some 7) Tryd.func32 #[.int .i64 a1_0, .int .i64 0, .int .i64 60] ?_; (with_reducible refine (impl_within.calls a1_0 0 60 true _ A3.out).mono ?_); rintro e w' ⟨rfl, ⟨nd, rfl⟩⟩; refine ⟨_, rfl, ?_⟩) | (go_at_call 32; (with_reducible refine (impl_within.calls a1_1 0 60 true _ A5.out).mono ?_); rintro e w' ⟨rfl, ⟨nd, rfl⟩⟩; obtain ⟨hcz14_0, hcz14_1, hfz14_0, hfz14_1⟩ := cs2 BK421) | (go_at_call 37; (with_reducible refine (impl_QcOk.calls k a0_0 a0_1 a1_2 a1_3 _ _ l1_4 true _ ?side1 ?side2 A7.out).mono ?_); (case side1 => exact (Kd.C_below HR1_4.out (bI HB.out))); (case side2 => exact HC1_4.out); rintro e w15 ⟨rfl, hb⟩; replace BK421 := bk BK421 hb; replace BK422 := bk BK422 hb; replace HB := bs HB hb; (try clear hb); (try clear hb2); (try clear hk); (try clear hi); have hcz16_0 := bc0 BK422.out; have hcz16_1 := bc1 BK422.out; have hcz16_2 := bc2 BK422.out; have hcz16_3 := bc3 BK422.out; have hcz16_4 := bc4 BK422.out; have hcz16_5 := bc5 BK422.out; have hfz16_0 := blk_frozen BK422.out 0; have hfz16_1 := blk_frozen BK422.out 1; have hfz16_2 := blk_frozen BK422.out 2; have hfz16_3 := blk_frozen BK422.out 3; have hfz16_4 := blk_frozen BK422.out 4; have hfz16_5 := blk_frozen BK422.out 5) | (go_at_call 38; (with_reducible refine (impl_NameOk.calls k a1_5 t426 _ A9.out).mono ?_); rintro e w17 ⟨rfl, hb⟩; replace BK421 := bk BK421 hb; replace BK422 := bk BK422 hb; replace HB := bs HB hb; (try clear hb); (try clear hb2); (try clear hk); (try clear hi)))
    go_ret
    exact ⟨y0_7, bI HB.out⟩
   replace c8 := Bool.eq_false_iff.mpr c8; subst c8
   rw [if_neg (show ¬ (false = true) by decide)] at H
   obtain rfl := Option.some.inj H
   go_enter Tryd.func28, Tryd.ntmps28
   go_wp2_with (first | ((with_reducible refine gd 2 ?_); refine bA 2 #[.int .i64 a0_0, .int .i64 a0_1] 32 ?_; intro gb421 hg w18 hbox hb; have BK421 := Aside0.mk (hbox); have GW421 := bg hg HB; have GJ421 := gi GW421; have GE421 := GW421; replace HB := bs HB hb; clear hb hbox hg) | ((with_reducible refine gd 3 ?_); refine bA 3 #[.int .i64 a1_0, .int .i64 a1_1, .int .i64 a1_2, .string a1_3, .slice A1_4 l1_4.length c1_4, .string a1_5] 36 ?_; intro gb422 hg w19 hbox hb; have BK422 := Aside0.mk (hbox); have GW422 := bg hg HB; have GJ422 := gi GW422; have GE422 := GW422; replace HB := bs HB hb; have NB421_422 := b1 BK421 hg; have NI421_422 := ni NB421_422; have NB422_421 := b2 BK421 hg; have NI422_421 := ni NB422_421; replace BK421 := bk BK421 hb; clear hb hbox hg; have hnb20 := NB422_421.out; have hnc20 := NB421_422.out; have hcz21_0 := bc0 BK422.out; have hcz21_1 := bc1 BK422.out; have hcz21_2 := bc2 BK422.out; have hcz21_3 := bc3 BK422.out; have hcz21_4 := bc4 BK422.out; have hcz21_5 := bc5 BK422.out; have hfz21_0 := blk_frozen BK422.out 0; have hfz21_1 := blk_frozen BK422.out 1; have hfz21_2 := blk_frozen BK422.out 2; have hfz21_3 := blk_frozen BK422.out 3; have hfz21_4 := blk_frozen BK422.out 4; have hfz21_5 := blk_frozen BK422.out 5) | ((with_reducible refine gate_callee (f := 32) rfl ?_); refine gB (some 7) Tryd.func32 #[.int .i64 a1_0, .int .i64 0, .int .i64 60] ?_; (with_reducible refine (impl_within.calls a1_0 0 60 true _ A3.out).mono ?_); rintro e w' ⟨rfl, ⟨nd, rfl⟩⟩; refine ⟨_, rfl, ?_⟩) | (go_at_call 32; (with_reducible refine (impl_within.calls a1_1 0 60 true _ A5.out).mono ?_); rintro e w' ⟨rfl, ⟨nd, rfl⟩⟩; obtain ⟨hcz22_0, hcz22_1, hfz22_0, hfz22_1⟩ := cs2 BK421) | (go_at_call 37; (with_reducible refine (impl_QcOk.calls k a0_0 a0_1 a1_2 a1_3 _ _ l1_4 false _ ?side1 ?side2 A7.out).mono ?_); (case side1 => exact (Kd.C_below HR1_4.out (bI HB.out))); (case side2 => exact HC1_4.out); rintro e w23 ⟨rfl, hb⟩; replace BK421 := bk BK421 hb; replace BK422 := bk BK422 hb; replace HB := bs HB hb; (try clear hb); (try clear hb2); (try clear hk); (try clear hi)))
   go_ret
   exact ⟨y0_7, bI HB.out⟩
  replace c6 := Bool.eq_false_iff.mpr c6; subst c6
  rw [if_neg (show ¬ (false = true) by decide)] at H
  obtain rfl := Option.some.inj H
  go_enter Tryd.func28, Tryd.ntmps28
  go_wp2_with (first | ((with_reducible refine gd 2 ?_); refine bA 2 #[.int .i64 a0_0, .int .i64 a0_1] 32 ?_; intro gb421 hg w24 hbox hb; have BK421 := Aside0.mk (hbox); have GW421 := bg hg HB; have GJ421 := gi GW421; have GE421 := GW421; replace HB := bs HB hb; clear hb hbox hg) | ((with_reducible refine gd 3 ?_); refine bA 3 #[.int .i64 a1_0, .int .i64 a1_1, .int .i64 a1_2, .string a1_3, .slice A1_4 l1_4.length c1_4, .string a1_5] 36 ?_; intro gb422 hg w25 hbox hb; have BK422 := Aside0.mk (hbox); have GW422 := bg hg HB; have GJ422 := gi GW422; have GE422 := GW422; replace HB := bs HB hb; have NB421_422 := b1 BK421 hg; have NI421_422 := ni NB421_422; have NB422_421 := b2 BK421 hg; have NI422_421 := ni NB422_421; replace BK421 := bk BK421 hb; clear hb hbox hg; have hnb26 := NB422_421.out; have hnc26 := NB421_422.out; have hcz27_0 := bc0 BK422.out; have hcz27_1 := bc1 BK422.out; have hcz27_2 := bc2 BK422.out; have hcz27_3 := bc3 BK422.out; have hcz27_4 := bc4 BK422.out; have hcz27_5 := bc5 BK422.out; have hfz27_0 := blk_frozen BK422.out 0; have hfz27_1 := blk_frozen BK422.out 1; have hfz27_2 := blk_frozen BK422.out 2; have hfz27_3 := blk_frozen BK422.out 3; have hfz27_4 := blk_frozen BK422.out 4; have hfz27_5 := blk_frozen BK422.out 5) | ((with_reducible refine gate_callee (f := 32) rfl ?_); refine gB (some 7) Tryd.func32 #[.int .i64 a1_0, .int .i64 0, .int .i64 60] ?_; (with_reducible refine (impl_within.calls a1_0 0 60 true _ A3.out).mono ?_); rintro e w' ⟨rfl, ⟨nd, rfl⟩⟩; refine ⟨_, rfl, ?_⟩) | (go_at_call 32; (with_reducible refine (impl_within.calls a1_1 0 60 false _ A5.out).mono ?_); rintro e w' ⟨rfl, ⟨nd, rfl⟩⟩))
  go_ret
  exact ⟨y0_7, bI HB.out⟩
 replace c4 := Bool.eq_false_iff.mpr c4; subst c4
 rw [if_neg (show ¬ (false = true) by decide)] at H
 obtain rfl := Option.some.inj H
 go_enter Tryd.func28, Tryd.ntmps28
 go_wp2_with (first | ((with_reducible refine gd 2 ?_); refine bA 2 #[.int .i64 a0_0, .int .i64 a0_1] 32 ?_; intro gb421 hg w28 hbox hb; have BK421 := Aside0.mk (hbox); have GW421 := bg hg HB; have GJ421 := gi GW421; have GE421 := GW421; replace HB := bs HB hb; clear hb hbox hg) | ((with_reducible refine gd 3 ?_); refine bA 3 #[.int .i64 a1_0, .int .i64 a1_1, .int .i64 a1_2, .string a1_3, .slice A1_4 l1_4.length c1_4, .string a1_5] 36 ?_; intro gb422 hg w29 hbox hb; have BK422 := Aside0.mk (hbox); have GW422 := bg hg HB; have GJ422 := gi GW422; have GE422 := GW422; replace HB := bs HB hb; have NB421_422 := b1 BK421 hg; have NI421_422 := ni NB421_422; have NB422_421 := b2 BK421 hg; have NI422_421 := ni NB422_421; replace BK421 := bk BK421 hb; clear hb hbox hg; have hnb30 := NB422_421.out; have hnc30 := NB421_422.out; have hcz31_0 := bc0 BK422.out; have hcz31_1 := bc1 BK422.out; have hcz31_2 := bc2 BK422.out; have hcz31_3 := bc3 BK422.out; have hcz31_4 := bc4 BK422.out; have hcz31_5 := bc5 BK422.out; have hfz31_0 := blk_frozen BK422.out 0; have hfz31_1 := blk_frozen BK422.out 1; have hfz31_2 := blk_frozen BK422.out 2; have hfz31_3 := blk_frozen BK422.out 3; have hfz31_4 := blk_frozen BK422.out 4; have hfz31_5 := blk_frozen BK422.out 5) | ((with_reducible refine gate_callee (f := 32) rfl ?_); refine gB (some 7) Tryd.func32 #[.int .i64 a1_0, .int .i64 0, .int .i64 60] ?_; (with_reducible refine (impl_within.calls a1_0 0 60 false _ A3.out).mono ?_); rintro e w' ⟨rfl, ⟨nd, rfl⟩⟩; refine ⟨_, rfl, ?_⟩))
 go_ret
 exact ⟨y0_7, bI HB.out⟩

/-! ### impl_PutNum: function 19 -/
def impl_PutNum.l0 : Nat → Int → List Int → Option (List Int)
 | 0, _, _ => none
 | k + 1, x0, x3 => if x0 ≥ 128 then (if x3.length < 140737488355328 then (impl_PutNum.l0 k (wrap64 (Int.tdiv x0 128)) (x3 ++ [(wrap64 ((Int.tmod x0 128) + 128)) % 256])) else (none)) else (if x3.length < 140737488355328 then (some (x3 ++ [(x0) % 256])) else (none))
def impl_PutNum.f (k : Nat) (a0 : Int) : Option (List Int) := (impl_within.f a0 0 2147483647).bind fun t427 => (if t427 = true then (impl_PutNum.l0 k a0 ([] : List Int)) else (some ([] : List Int)))
theorem impl_PutNum.mono_l : ∀ k, (∀ y0 y1, LeO (impl_PutNum.l0 k y0 y1) (impl_PutNum.l0 (k + 1) y0 y1))
 | 0 => fun _ _ r h => by simp [impl_PutNum.l0] at h
 | k + 1 => by
  have ih0 := impl_PutNum.mono_l k
  intro y0 y1
  unfold impl_PutNum.l0
  repeat' first | (with_reducible exact ih0 _ _) | (with_reducible exact LeO.refl _) | (with_reducible exact LeO.none _) | (with_reducible refine LeO.ite ?_ ?_) | (with_reducible refine LeO.bind ?_ (fun _ => ?_))
theorem impl_PutNum.mono : ∀ a0 k, LeO (impl_PutNum.f k a0) (impl_PutNum.f (k + 1) a0) := by
 intro a0 k
 have ih0 := impl_PutNum.mono_l k
 unfold impl_PutNum.f
 repeat' first | (with_reducible exact ih0 _ _) | (with_reducible exact LeO.refl _) | (with_reducible exact LeO.none _) | (with_reducible refine LeO.ite ?_ ?_) | (with_reducible refine LeO.bind ?_ (fun _ => ?_))
set_option maxHeartbeats 8000000 in
set_option maxRecDepth 100000 in
theorem impl_PutNum.calls (k : Nat) (a0 : Int) (r : List Int) (w : World) (h : impl_PutNum.f k a0 = some r) :
  Calls Tryd.prog 19 #[.int .i64 a0] w fun e w' => ∃ v0_ : Value, e = .returned (v0_) ∧ Kd.R (Kd.int .u8) 5 w' w.heap.size (fun _ => True) v0_ r ∧ Below w.heap.size w w' := by
 have HB := Aside0.mk (Below.refl w.heap.size w)
 have H : ((impl_within.f a0 0 2147483647).bind fun t427 => (if t427 = true then (impl_PutNum.l0 k a0 ([] : List Int)) else (some ([] : List Int)))) = some r := h
 clear h; obtain ⟨t427, A20, H⟩ := Option.bind_eq_some_iff.mp H
 try dsimp only at H
 have A2 := Aside0.mk A20; clear A20
 by_cases c3 : t427 = true
 ·
  subst c3
  rw [if_pos rfl] at H
  have H' := Aside0.mk H; clear H
  go_enter Tryd.func19, Tryd.ntmps19
  go_wp2_with (first | ((with_reducible refine gate_callee (f := 32) rfl ?_); refine gB (some 5) Tryd.func32 #[.int .i64 a0, .int .i64 0, .int .i64 2147483647] ?_; (with_reducible refine (impl_within.calls a0 0 2147483647 true _ A2.out).mono ?_); rintro e w' ⟨rfl, ⟨nd, rfl⟩⟩; refine ⟨_, rfl, ?_⟩))
  go_loopg [0, 3] k (fun kq v0 v3 w' => ∃ (x0_1 : Int) (x3_1 : List Int), v0 = .int .i64 x0_1 ∧ Aside0 (impl_PutNum.l0 kq x0_1 x3_1 = some r) ∧ Aside0 (kq ≤ k) ∧ Aside0 (Kd.R (Kd.int .u8) 5 w' w.heap.size (fun _ => True) v3 x3_1) ∧ Aside0 (Below w.heap.size w w'))
  case atStart => exact ⟨(a0), (([] : List Int)), y0_10, H', ⟨Nat.le_refl _⟩, ⟨y0_0⟩, ⟨bI HB.out⟩⟩
  case round =>
   clear H'
   try clear c1
   try clear p2
   try clear c3
   obtain ⟨x0_1, x3_1, rfl, HA, HK1, HO_3, HB⟩ := hrel; cases gk with
   | zero => exact absurd HA.out (by simp [impl_PutNum.l0])
   | succ k1 =>
    have H := HA.out; clear HA
    simp only [impl_PutNum.l0] at H
    by_cases c4 : x0_1 ≥ 128
    ·
     rw [if_pos c4] at H
     have c4b0 : decide (128 ≤ x0_1) = true := decide_eq_true c4; clear c4
     by_cases c5 : x3_1.length < 140737488355328
     rotate_left
     ·
      rw [if_neg c5] at H
      exact absurd H (by simp)
     rw [if_pos c5] at H
     have LMc5 := Aside0.mk c5; clear c5; obtain ⟨y428, hy428⟩ : ∃ y_ : List Int, y_ = (x3_1 ++ [(wrap64 ((Int.tmod x0_1 128) + 128)) % 256]) := ⟨_, rfl⟩
     replace H : (impl_PutNum.l0 k1 (wrap64 (Int.tdiv x0_1 128)) y428) = some r := by first | (rw [hy428]; with_reducible exact H) | (have H2_ := (Option.bind_some _ _).symm.trans H; rw [hy428]; with_reducible exact H2_) | (have H2_ := (Option.bind_some _ _).symm.trans H; with_reducible exact H2_) | with_reducible exact H | (rw [hy428]; exact H) | exact H
     have Ny428 := Aside0.mk hy428; clear hy428; have H' := Aside0.mk H; clear H
     go_wp2_with (first | ((with_reducible refine gate_builtin (b := .append) (xs := #[.tmp 9, .tmp 14]) rfl ?_); at_builtin; refine Kd.R_append (Kd.int .u8) (w0 := w) w.heap.size rfl (.tmp 9) (.tmp 14) 30 5 (.int .u8 0) 1 rfl Tryd.underlying30 info5 rfl (by decide) (by omega) u3 x3_1 ((wrap64 ((Int.tmod x0_1 128) + 128)) % 256) [.int .u8 ((wrap64 ((Int.tmod x0_1 128) + 128)) % 256)] (fun _ => True) (fun _ => False) rfl rfl ?aP (fun _ hk => hk.elim) ?aF ?aO ?aB ?aS ?aL ?_; (case aP => exact rfl); (case aB => exact (bI HB.out)); (case aF => exact (fun _ _ => trivial)); (case aO => exact (rI HO_3.out)); (case aS => exact (below_size (bI HB.out))); (case aL => have := LMc5.out; omega); intro v429 w6 ho hb hg hat; rw [← Ny428.out] at ho; have n0_ := Aside0.mk (hb); have n1_ := Aside0.mk (ho); clear HB; clear HO_3; have HB := n0_; have HO430 := n1_; clear n0_ n1_; clear ho hb hg hat))
     go_roundg k1
     case measure => have := HK1.out; omega
     case rel => exact ⟨(wrap64 (Int.tdiv x0_1 128)), (y428), y0_10, H', ⟨y0_14⟩, ⟨by (with_reducible repeat (first | apply Kd.R_alloc | apply Kd.R_drewN | apply Kd.R_drew)); exact HO430.out⟩, ⟨bI HB.out⟩⟩
    rw [if_neg c4] at H
    have c4b0 : decide (128 ≤ x0_1) = false := decide_eq_false c4; clear c4
    by_cases c7 : x3_1.length < 140737488355328
    rotate_left
    ·
     rw [if_neg c7] at H
     exact absurd H (by simp)
    rw [if_pos c7] at H
    have LMc7 := Aside0.mk c7; clear c7; obtain ⟨y431, hy431⟩ : ∃ y_ : List Int, y_ = (x3_1 ++ [(x0_1) % 256]) := ⟨_, rfl⟩
    replace H : (some y431) = some r := by first | (rw [hy431]; with_reducible exact H) | (have H2_ := (Option.bind_some _ _).symm.trans H; rw [hy431]; with_reducible exact H2_) | (have H2_ := (Option.bind_some _ _).symm.trans H; with_reducible exact H2_) | with_reducible exact H | (rw [hy431]; exact H) | exact H
    have Ny431 := Aside0.mk hy431; clear hy431; obtain rfl := Option.some.inj H
    go_wp2_with (first | ((with_reducible refine gate_builtin (b := .append) (xs := #[.tmp 18, .tmp 21]) rfl ?_); at_builtin; refine Kd.R_append (Kd.int .u8) (w0 := w) w.heap.size rfl (.tmp 18) (.tmp 21) 30 5 (.int .u8 0) 1 rfl Tryd.underlying30 info5 rfl (by decide) (by omega) u3 x3_1 ((x0_1) % 256) [.int .u8 ((x0_1) % 256)] (fun _ => True) (fun _ => False) rfl rfl ?aP (fun _ hk => hk.elim) ?aF ?aO ?aB ?aS ?aL ?_; (case aP => exact rfl); (case aB => exact (bI HB.out)); (case aF => exact (fun _ _ => trivial)); (case aO => exact (rI HO_3.out)); (case aS => exact (below_size (bI HB.out))); (case aL => have := LMc7.out; omega); intro v432 w8 ho hb hg hat; rw [← Ny431.out] at ho; have n0_ := Aside0.mk (hb); have n1_ := Aside0.mk (ho); clear HB; clear HO_3; have HB := n0_; have HO433 := n1_; clear n0_ n1_; clear ho hb hg hat))
    go_ret
    exact ⟨_, y0_7, by (with_reducible repeat (first | apply Kd.R_alloc | apply Kd.R_drewN | apply Kd.R_drew)); exact HO433.out, bI HB.out⟩
 replace c3 := Bool.eq_false_iff.mpr c3; subst c3
 rw [if_neg (show ¬ (false = true) by decide)] at H
 obtain rfl := Option.some.inj H
 go_enter Tryd.func19, Tryd.ntmps19
 go_wp2_with (first | ((with_reducible refine gate_callee (f := 32) rfl ?_); refine gB (some 5) Tryd.func32 #[.int .i64 a0, .int .i64 0, .int .i64 2147483647] ?_; (with_reducible refine (impl_within.calls a0 0 2147483647 false _ A2.out).mono ?_); rintro e w' ⟨rfl, ⟨nd, rfl⟩⟩; refine ⟨_, rfl, ?_⟩))
 go_ret
 exact ⟨_, y0_7, y0_0, bI HB.out⟩

/-! ### impl_putNums: function 29 -/
def impl_putNums.l0 : Nat → List Int → List Int → Int → Int → Option (List Int)
 | 0, _, _, _, _ => none
 | k + 1, x3, x6, x7, x8 => if x8 < x7 then (if 0 ≤ x8 then (if x8 < (x6.length : Int) then ((impl_PutNum.f k (rd x6 x8)).bind fun t435 => (if x3.length + t435.length < 140737488355328 then (impl_putNums.l0 k (x3 ++ t435) x6 x7 (wrap64 (x8 + 1))) else (none))) else (none)) else (none)) else (some x3)
def impl_putNums.f (k : Nat) (l0 : List Int) : Option (List Int) := impl_putNums.l0 k ([] : List Int) l0 (l0.length : Int) 0
theorem impl_putNums.mono_l : ∀ k, (∀ y0 y1 y2 y3, LeO (impl_putNums.l0 k y0 y1 y2 y3) (impl_putNums.l0 (k + 1) y0 y1 y2 y3))
 | 0 => fun _ _ _ _ r h => by simp [impl_putNums.l0] at h
 | k + 1 => by
  have ih0 := impl_putNums.mono_l k
  intro y0 y1 y2 y3
  unfold impl_putNums.l0
  repeat' first | (with_reducible exact ih0 _ _ _ _) | (with_reducible exact impl_PutNum.mono _ _) | (with_reducible exact LeO.refl _) | (with_reducible exact LeO.none _) | (with_reducible refine LeO.ite ?_ ?_) | (with_reducible refine LeO.bind ?_ (fun _ => ?_))
theorem impl_putNums.mono : ∀ a0 k, LeO (impl_putNums.f k a0) (impl_putNums.f (k + 1) a0) := by
 intro a0 k
 have ih0 := impl_putNums.mono_l k
 unfold impl_putNums.f
 repeat' first | (with_reducible exact ih0 _ _ _ _) | (with_reducible exact impl_PutNum.mono _ _) | (with_reducible exact LeO.refl _) | (with_reducible exact LeO.none _) | (with_reducible refine LeO.ite ?_ ?_) | (with_reducible refine LeO.bind ?_ (fun _ => ?_))
set_option maxHeartbeats 8000000 in
set_option maxRecDepth 100000 in
theorem impl_putNums.calls (k : Nat) (A0 : Option Addr) (c0 : Nat) (l0 : List Int) (r : List Int) (w : World) (hr0 : Kd.C (Kd.int .i64) w A0 l0.length l0) (hc0 : l0.length ≤ c0) (h : impl_putNums.f k l0 = some r) :
  Calls Tryd.prog 29 #[.slice A0 l0.length c0] w fun e w' => ∃ v0_ : Value, e = .returned (v0_) ∧ Kd.R (Kd.int .u8) 5 w' w.heap.size (fun _ => True) v0_ r ∧ Below w.heap.size w w' := by
 have HR0 := Aside0.mk hr0; have HC0 := Aside0.mk hc0; clear hr0 hc0; have HB := Aside0.mk (Below.refl w.heap.size w); have H : (impl_putNums.l0 k ([] : List Int) l0 (l0.length : Int) 0) = some r := h; clear h; have H' := Aside0.mk H; clear H
 go_enter Tryd.func29, Tryd.ntmps29
 go_wp2
 go_loopg [3, 8] k (fun kq v3 v8 w' => ∃ (x3_1 : List Int) (x8_1 : Int), v8 = .int .i64 x8_1 ∧ Aside0 (impl_putNums.l0 kq x3_1 l0 (l0.length : Int) x8_1 = some r) ∧ Aside0 (kq ≤ k) ∧ Aside0 (Kd.R (Kd.int .u8) 5 w' w.heap.size (fun _ => True) v3 x3_1) ∧ Aside0 (Below w.heap.size w w'))
 case atStart => exact ⟨(([] : List Int)), (0), y0_10, H', ⟨Nat.le_refl _⟩, ⟨y0_0⟩, ⟨bI HB.out⟩⟩
 case round =>
  clear H'; obtain ⟨x3_1, x8_1, rfl, HA, HK1, HO_3, HB⟩ := hrel; cases gk with
  | zero => exact absurd HA.out (by simp [impl_putNums.l0])
  | succ k1 =>
   have H := HA.out; clear HA
   simp only [impl_putNums.l0] at H
   by_cases c2 : x8_1 < (l0.length : Int)
   ·
    rw [if_pos c2] at H
    have c2b0 : decide (x8_1 < (l0.length : Int)) = true := decide_eq_true c2; clear c2
    by_cases c3 : 0 ≤ x8_1
    rotate_left
    ·
     rw [if_neg c3] at H
     exact absurd H (by simp)
    rw [if_pos c3] at H
    have c3b0 : decide (0 ≤ x8_1) = true := decide_eq_true c3; clear c3
    by_cases c4 : x8_1 < (l0.length : Int)
    rotate_left
    ·
     rw [if_neg c4] at H
     exact absurd H (by simp)
    rw [if_pos c4] at H
    have c4b0 : decide (x8_1 < (l0.length : Int)) = true := decide_eq_true c4; clear c4; obtain ⟨t435, A50, H⟩ := Option.bind_eq_some_iff.mp H
    try dsimp only at H
    have A5 := Aside0.mk A50; clear A50
    by_cases c6 : x3_1.length + t435.length < 140737488355328
    rotate_left
    ·
     rw [if_neg c6] at H
     exact absurd H (by simp)
    rw [if_pos c6] at H
    have LMc6 := Aside0.mk c6; clear c6; obtain ⟨y438, hy438⟩ : ∃ y_ : List Int, y_ = (x3_1 ++ t435) := ⟨_, rfl⟩
    replace H : (impl_putNums.l0 k1 y438 l0 (l0.length : Int) (wrap64 (x8_1 + 1))) = some r := by first | (rw [hy438]; with_reducible exact H) | (have H2_ := (Option.bind_some _ _).symm.trans H; rw [hy438]; with_reducible exact H2_) | (have H2_ := (Option.bind_some _ _).symm.trans H; with_reducible exact H2_) | with_reducible exact H | (rw [hy438]; exact H) | exact H
    have Ny438 := Aside0.mk hy438; clear hy438; have H' := Aside0.mk H; clear H; have p434 : 0 ≤ (x8_1 : Int) := of_decide_eq_true y0_9; have q434 : x8_1 < (l0.length : Int) := of_decide_eq_true y0_9; obtain ⟨ad434, e434, hx434_0⟩ := Kd.at_int HR0.out x8_1 p434 q434; cases e434; replace hx434_0 := bx HB hx434_0; replace p434 := eq_true p434; replace q434 := eq_true q434
    go_wp2_with (first | ((with_reducible refine gate_callee (f := 19) rfl ?_); refine gB (some 14) Tryd.func19 #[.int .i64 (rd l0 x8_1)] ?_; (with_reducible refine (impl_PutNum.calls k1 (rd l0 x8_1) t435 _ A5.out).mono ?_); rintro e w7 ⟨v436, rfl, ho0, hb⟩; refine ⟨_, rfl, ?_⟩; have HO437 := Aside0.mk (Kd.R_lower (Kd.R_new' ho0 (Kd.R_lt (rI HO_3.out))) (below_size (bI HB.out))); replace HO_3 := Aside0.mk (Kd.R_elder' (rI HO_3.out) (Kd.R_base ho0) hb); replace HB := bs HB hb; (try clear hb); (try clear ho0); obtain ⟨Ao9, co9, eo9⟩ := Kd.R_slice HO437.out; subst eo9) | ((with_reducible refine gate_builtin (b := .append) (xs := #[.tmp 12, .tmp 14]) rfl ?_); at_builtin; refine Kd.R_append_rows (Kd.int .u8) (w0 := w) w.heap.size rfl (.tmp 12) (.tmp 14) 30 5 (.int .u8 0) 1 rfl Tryd.underlying30 info5 rfl (by decide) (by omega) u3 x3_1 t435 _ _ _ (fun k_ => some k_ ≠ (.slice Ao9 t435.length co9 : Value).ownBlock) (fun _ => False) rfl rfl ?aO ?aR (fun _ _ h => h) (fun _ h => h.elim) ?aF ?aB ?aS ?aL ?_; (case aR => repeat (first | exact (Kd.R_reads' HO437.out).2.2 | (with_reducible refine Kd.C_alloc ?_ _) | (with_reducible refine Kd.C_drewN ?_ _) | (with_reducible refine Kd.C_drew ?_))); (case aB => exact (bI HB.out)); (case aF => exact (fun k_ hk => Kd.fresh' (Kd.R_lt (rI HO437.out)) k_ hk)); (case aO => exact (rI (Kd.R_mono HO_3.out (fun _ hk => hk.2)))); (case aS => exact (below_size (bI HB.out))); (case aL => have := LMc6.out; omega); intro v439 w8 ho hb hg hat; rw [← Ny438.out] at ho; have n0_ := Aside0.mk (Kd.R_after (ok := (fun _ => True)) (rI HO437.out) hg hat); have n1_ := Aside0.mk (hb); have n2_ := Aside0.mk (ho); clear HO437; clear HB; clear HO_3; have HO437 := n0_; have HB := n1_; have HO440 := n2_; clear n0_ n1_ n2_; clear ho hb hg hat))
    go_roundg k1
    case measure => have := HK1.out; omega
    case rel => exact ⟨(y438), (wrap64 (x8_1 + 1)), y0_10, H', ⟨y0_14⟩, ⟨by (with_reducible repeat (first | apply Kd.R_alloc | apply Kd.R_drewN | apply Kd.R_drew)); exact Kd.R_mono HO440.out (fun _ hk => trivial)⟩, ⟨bI HB.out⟩⟩
   rw [if_neg c2] at H
   have c2b0 : decide (x8_1 < (l0.length : Int)) = false := decide_eq_false c2; clear c2; obtain rfl := Option.some.inj H
   go_wp2
   go_ret
   exact ⟨_, y0_7, y0_5, bI HB.out⟩

/-! ### impl_PutText: function 31 -/
def impl_PutText.f (k : Nat) (a0 : ByteArray) : Option (List Int) := (impl_PutNum.f k (a0.size : Int)).bind fun t441 => (if t441.length + a0.size < 140737488355328 then (some (t441 ++ bytesOf a0)) else (none))
theorem impl_PutText.mono : ∀ a0 k, LeO (impl_PutText.f k a0) (impl_PutText.f (k + 1) a0) := by
 intro a0 k
 unfold impl_PutText.f
 repeat' first | (with_reducible exact impl_PutNum.mono _ _) | (with_reducible exact LeO.refl _) | (with_reducible exact LeO.none _) | (with_reducible refine LeO.ite ?_ ?_) | (with_reducible refine LeO.bind ?_ (fun _ => ?_))
set_option maxHeartbeats 8000000 in
set_option maxRecDepth 100000 in
theorem impl_PutText.calls (k : Nat) (a0 : ByteArray) (r : List Int) (w : World) (h : impl_PutText.f k a0 = some r) :
  Calls Tryd.prog 31 #[.string a0] w fun e w' => ∃ v0_ : Value, e = .returned (v0_) ∧ Kd.R (Kd.int .u8) 5 w' w.heap.size (fun _ => True) v0_ r ∧ Below w.heap.size w w' := by
 have HB := Aside0.mk (Below.refl w.heap.size w)
 have H : ((impl_PutNum.f k (a0.size : Int)).bind fun t441 => (if t441.length + a0.size < 140737488355328 then (some (t441 ++ bytesOf a0)) else (none))) = some r := h
 clear h; obtain ⟨t441, A20, H⟩ := Option.bind_eq_some_iff.mp H
 try dsimp only at H
 have A2 := Aside0.mk A20; clear A20
 by_cases c3 : t441.length + a0.size < 140737488355328
 ·
  rw [if_pos c3] at H
  have LMc3 := Aside0.mk c3; clear c3; obtain ⟨y444, hy444⟩ : ∃ y_ : List Int, y_ = (t441 ++ bytesOf a0) := ⟨_, rfl⟩
  replace H : (some y444) = some r := by first | (rw [hy444]; with_reducible exact H) | (have H2_ := (Option.bind_some _ _).symm.trans H; rw [hy444]; with_reducible exact H2_) | (have H2_ := (Option.bind_some _ _).symm.trans H; with_reducible exact H2_) | with_reducible exact H | (rw [hy444]; exact H) | exact H
  have Ny444 := Aside0.mk hy444; clear hy444; obtain rfl := Option.some.inj H
  go_enter Tryd.func31, Tryd.ntmps31
  go_wp2_with (first | ((with_reducible refine gate_callee (f := 19) rfl ?_); refine gB (some 5) Tryd.func19 #[.int .i64 (a0.size : Int)] ?_; (with_reducible refine (impl_PutNum.calls k (a0.size : Int) t441 _ A2.out).mono ?_); rintro e w4 ⟨v442, rfl, ho0, hb⟩; refine ⟨_, rfl, ?_⟩; have HO443 := Aside0.mk (Kd.R_lower ho0 (below_size (bI HB.out))); replace HB := bs HB hb; (try clear hb); (try clear ho0)) | (at_builtin; refine print_append_str (w0 := w) w.heap.size rfl (.tmp 5) _ 30 9 5 rfl Tryd.underlying30 Tryd.underlying9 info5 v442 t441 a0 rfl rfl ?aO ?aB ?aS ?aL ?_; (case aB => exact (bI HB.out)); (case aO => exact (Kd.own_of_R (rI HO443.out))); (case aS => exact (below_size (bI HB.out))); (case aL => have := LMc3.out; omega); intro v445 w5 ho0 hb hg; have ho := Kd.R_of_own (h1 := fun _ => rfl) (ok := fun _ => True) ho0 (fun _ _ => trivial); clear ho0; have hat := True.intro; rw [← Ny444.out] at ho; change Kd.R (Kd.int .u8) 5 w5 w.heap.size (fun _ => True) v445 y444 at ho; have n0_ := Aside0.mk (hb); have n1_ := Aside0.mk (ho); clear HB; clear HO443; have HB := n0_; have HO446 := n1_; clear n0_ n1_; clear ho hb hg hat))
  go_ret
  exact ⟨_, y0_7, by (with_reducible repeat (first | apply Kd.R_alloc | apply Kd.R_drewN | apply Kd.R_drew)); exact HO446.out, bI HB.out⟩
 rw [if_neg c3] at H
 exact absurd H (by simp)

/-! ### impl_QcBytes: function 30 -/
def impl_QcBytes.f (k : Nat) (a0_0 : Int) (a0_1 : Int) (a1_0 : Int) (a1_1 : ByteArray) (l1_2 : List Int) : Option (List Int) := (impl_QcOk.f k a0_0 a0_1 a1_0 a1_1 l1_2).bind fun t449 => (if t449 = true then ((impl_PutNum.f k a1_0).bind fun t450 => ((impl_PutText.f k a1_1).bind fun t453 => (if t450.length + t453.length < 140737488355328 then ((some (t450 ++ t453 : List Int)).bind fun y456 => ((impl_PutNum.f k (l1_2.length : Int)).bind fun t459 => (if y456.length + t459.length < 140737488355328 then ((some (y456 ++ t459 : List Int)).bind fun y462 => ((impl_putNums.f k l1_2).bind fun t465 => (if y462.length + t465.length < 140737488355328 then (some (y462 ++ t465)) else (none)))) else (none)))) else (none)))) else (some ([] : List Int)))
theorem impl_QcBytes.mono : ∀ a0 a1 a2 a3 a4 k, LeO (impl_QcBytes.f k a0 a1 a2 a3 a4) (impl_QcBytes.f (k + 1) a0 a1 a2 a3 a4) := by
 intro a0 a1 a2 a3 a4 k
 unfold impl_QcBytes.f
 repeat' first | (with_reducible exact impl_PutNum.mono _ _) | (with_reducible exact impl_PutText.mono _ _) | (with_reducible exact impl_QcOk.mono _ _ _ _ _ _) | (with_reducible exact impl_putNums.mono _ _) | (with_reducible exact LeO.refl _) | (with_reducible exact LeO.none _) | (with_reducible refine LeO.ite ?_ ?_) | (with_reducible refine LeO.bind ?_ (fun _ => ?_))
def impl_QcBytes.T3 : Bool × List (List Nat × List Nat) := (true, [([], []), ([0], [0]), ([1], [1]), ([], []), ([3], [3]), ([4, 2], [4]), ([2, 5, 5], [2, 5]), ([6, 6, 0, 1, 2, 3, 4, 5, 6], [6])])
def impl_QcBytes.B3 : List Nat := [0, 1, 3, 0, 8, 31, 63, 127]
theorem impl_QcBytes.tab3 : rtab .any (opsOf Tryd.f30 3) = impl_QcBytes.T3 := by kernel_rfl
theorem impl_QcBytes.bits3 : waitsOk impl_QcBytes.T3.2 impl_QcBytes.B3 = true := by kernel_rfl
set_option maxHeartbeats 8000000 in
set_option maxRecDepth 100000 in
theorem impl_QcBytes.calls (k : Nat) (a0_0 : Int) (a0_1 : Int) (a1_0 : Int) (a1_1 : ByteArray) (A1_2 : Option Addr) (c1_2 : Nat) (l1_2 : List Int) (r : List Int) (w : World) (hr1_2 : Kd.C (Kd.int .i64) w A1_2 l1_2.length l1_2) (hc1_2 : l1_2.length ≤ c1_2) (h : impl_QcBytes.f k a0_0 a0_1 a1_0 a1_1 l1_2 = some r) (hG : Glob w := by exact gG HG HB) :
  Calls Tryd.prog 30 #[.agg #[.int .i64 a0_0, .int .i64 a0_1], .agg #[.int .i64 a1_0, .string a1_1, .slice A1_2 l1_2.length c1_2]] w fun e w' => ∃ v0_ : Value, e = .returned (v0_) ∧ Kd.R (Kd.int .u8) 5 w' w.heap.size (fun _ => True) v0_ r ∧ Below w.heap.size w w' := by
 have HG := Aside0.mk hG; clear hG; have hu32 := Tryd.underlying32; have hu34 := Tryd.underlying34; have HR1_2 := Aside0.mk hr1_2; have HC1_2 := Aside0.mk hc1_2; clear hr1_2 hc1_2; have HB := Aside0.mk (Below.refl w.heap.size w)
 have H : ((impl_QcOk.f k a0_0 a0_1 a1_0 a1_1 l1_2).bind fun t449 => (if t449 = true then ((impl_PutNum.f k a1_0).bind fun t450 => ((impl_PutText.f k a1_1).bind fun t453 => (if t450.length + t453.length < 140737488355328 then ((some (t450 ++ t453 : List Int)).bind fun y456 => ((impl_PutNum.f k (l1_2.length : Int)).bind fun t459 => (if y456.length + t459.length < 140737488355328 then ((some (y456 ++ t459 : List Int)).bind fun y462 => ((impl_putNums.f k l1_2).bind fun t465 => (if y462.length + t465.length < 140737488355328 then (some (y462 ++ t465)) else (none)))) else (none)))) else (none)))) else (some ([] : List Int)))) = some r := h
 clear h; obtain ⟨t449, A30, H⟩ := Option.bind_eq_some_iff.mp H
 try dsimp only at H
 have A3 := Aside0.mk A30; clear A30
 by_cases c4 : t449 = true
 ·
  subst c4
  rw [if_pos rfl] at H
  obtain ⟨t450, A50, H⟩ := Option.bind_eq_some_iff.mp H
  try dsimp only at H
  have A5 := Aside0.mk A50; clear A50; obtain ⟨t453, A60, H⟩ := Option.bind_eq_some_iff.mp H
  try dsimp only at H
  have A6 := Aside0.mk A60; clear A60
  by_cases c7 : t450.length + t453.length < 140737488355328
  rotate_left
  ·
   rw [if_neg c7] at H
   exact absurd H (by simp)
  rw [if_pos c7] at H
  have LMc7 := Aside0.mk c7; clear c7; obtain ⟨y456, hy456⟩ : ∃ y_ : List Int, y_ = (t450 ++ t453) := ⟨_, rfl⟩
  replace H : ((impl_PutNum.f k (l1_2.length : Int)).bind fun t459 => (if y456.length + t459.length < 140737488355328 then ((some (y456 ++ t459 : List Int)).bind fun y462 => ((impl_putNums.f k l1_2).bind fun t465 => (if y462.length + t465.length < 140737488355328 then (some (y462 ++ t465)) else (none)))) else (none))) = some r := by first | (rw [hy456]; with_reducible exact H) | (have H2_ := (Option.bind_some _ _).symm.trans H; rw [hy456]; with_reducible exact H2_) | (have H2_ := (Option.bind_some _ _).symm.trans H; with_reducible exact H2_) | with_reducible exact H | (rw [hy456]; exact H) | exact H
  have Ny456 := Aside0.mk hy456; clear hy456; obtain ⟨t459, A80, H⟩ := Option.bind_eq_some_iff.mp H
  try dsimp only at H
  have A8 := Aside0.mk A80; clear A80
  by_cases c9 : y456.length + t459.length < 140737488355328
  rotate_left
  ·
   rw [if_neg c9] at H
   exact absurd H (by simp)
  rw [if_pos c9] at H
  have LMc9 := Aside0.mk c9; clear c9; obtain ⟨y462, hy462⟩ : ∃ y_ : List Int, y_ = (y456 ++ t459) := ⟨_, rfl⟩
  replace H : ((impl_putNums.f k l1_2).bind fun t465 => (if y462.length + t465.length < 140737488355328 then (some (y462 ++ t465)) else (none))) = some r := by first | (rw [hy462]; with_reducible exact H) | (have H2_ := (Option.bind_some _ _).symm.trans H; rw [hy462]; with_reducible exact H2_) | (have H2_ := (Option.bind_some _ _).symm.trans H; with_reducible exact H2_) | with_reducible exact H | (rw [hy462]; exact H) | exact H
  have Ny462 := Aside0.mk hy462; clear hy462; obtain ⟨t465, A100, H⟩ := Option.bind_eq_some_iff.mp H
  try dsimp only at H
  have A10 := Aside0.mk A100; clear A100
  by_cases c11 : y462.length + t465.length < 140737488355328
  rotate_left
  ·
   rw [if_neg c11] at H
   exact absurd H (by simp)
  rw [if_pos c11] at H
  have LMc11 := Aside0.mk c11; clear c11; obtain ⟨y468, hy468⟩ : ∃ y_ : List Int, y_ = (y462 ++ t465) := ⟨_, rfl⟩
  replace H : (some y468) = some r := by first | (rw [hy468]; with_reducible exact H) | (have H2_ := (Option.bind_some _ _).symm.trans H; rw [hy468]; with_reducible exact H2_) | (have H2_ := (Option.bind_some _ _).symm.trans H; with_reducible exact H2_) | with_reducible exact H | (rw [hy468]; exact H) | exact H
  have Ny468 := Aside0.mk hy468; clear hy468; obtain rfl := Option.some.inj H
  go_enter Tryd.func30, Tryd.ntmps30
  try go_wp2_with (first | ((with_reducible refine gd 2 ?_); refine bA 2 #[.int .i64 a0_0, .int .i64 a0_1] 32 ?_; intro gb447 hg w12 hbox hb; have BK447 := Aside0.mk (hbox); have GW447 := bg hg HB; have GJ447 := gi GW447; have GE447 := GW447; replace HB := bs HB hb; clear hb hbox hg) | ((with_reducible refine gd 3 ?_); refine bA 3 #[.int .i64 a1_0, .string a1_1, .slice A1_2 l1_2.length c1_2] 34 ?_; intro gb448 hg w13 hbox hb; have BK448 := Aside0.mk (hbox); have GW448 := bg hg HB; have GJ448 := gi GW448; have GE448 := GW448; replace HB := bs HB hb; have NB447_448 := b1 BK447 hg; have NI447_448 := ni NB447_448; have NB448_447 := b2 BK447 hg; have NI448_447 := ni NB448_447; replace BK447 := bk BK447 hb; clear hb hbox hg; have hnb14 := NB447_448.out; have hnc14 := NB448_447.out; obtain ⟨hcz15_0, hcz15_1, hfz15_0, hfz15_1⟩ := cs2 BK447; obtain ⟨hcz16_0, hcz16_1, hcz16_2, hfz16_0, hfz16_1, hfz16_2⟩ := cs3 BK448) | ((with_reducible refine gate_callee (f := 37) rfl ?_); refine gB (some 8) Tryd.func37 #[.agg #[.int .i64 a0_0, .int .i64 a0_1], .agg #[.int .i64 a1_0, .string a1_1, .slice A1_2 l1_2.length c1_2]] ?_; (with_reducible refine (impl_QcOk.calls k a0_0 a0_1 a1_0 a1_1 _ _ l1_2 true _ ?side1 ?side2 A3.out).mono ?_); (case side1 => exact ch HR1_2 HB); (case side2 => exact HC1_2.out); rintro e w17 ⟨rfl, hb⟩; refine ⟨_, rfl, ?_⟩; replace BK447 := bk BK447 hb; replace BK448 := bk BK448 hb; replace HB := bs HB hb; (try clear hb); (try clear hb2); (try clear hk); (try clear hi)))
  replace BK447 := Aside0.mk (blk_drew BK447.out); replace BK448 := Aside0.mk (blk_drew BK448.out); replace HB := Aside0.mk (below_drew1 HB.out)
  refine start_ (n := 8) (S := fun w' => w'.cell? ⟨gb448, 0, none⟩ = some (.int .i64 a1_0) ∧ w'.cell? ⟨gb448, 1, none⟩ = some (.string a1_1) ∧ w'.cell? ⟨gb448, 2, none⟩ = some (.slice A1_2 l1_2.length c1_2)) (ds := []) #[false, false, false, false, false, false, false, false] (by kernel_rfl) rfl rfl ⟨bc0 BK448.out, bc1 BK448.out, bc2 BK448.out⟩ (fun hHeld => ?_); refine with_tabW impl_QcBytes.tab3 impl_QcBytes.bits3 (fun HT_ HW_ => ?_)
  generalize w17.drew = w18 at BK447 BK448 HB hHeld ⊢
  refine pA 0 (some 10) (bz 8 1) HT_ ?_
  refine pA 3 (some 13) (bz 8 9) HT_ ?_
  refine tA 1 (some 11) (bz 8 11) HT_ HW_ hHeld ?_
  refine tA 4 (some 14) (bz 8 27) HT_ HW_ hHeld ?_
  refine oA 2 (some 12) (bz 8 31) HT_ (fun K hK => ?_)
  refine gA Tryd.func19 #[.int .i64 a1_0] ?_
  with_reducible refine (impl_PutNum.calls k a1_0 t450 _ A5.out).mono ?_
  rintro e w19 ⟨v451, rfl, ho0, hb⟩
  refine ⟨_, rfl, ?_⟩
  have HO452 := Aside0.mk (Kd.R_lower ho0 (below_size (bI HB.out))); replace BK447 := bk BK447 hb; replace BK448 := bk BK448 hb; replace HB := bs HB hb
  (try clear hb)
  (try clear hb2)
  (try clear hk)
  (try clear hi)
  (try clear ho0)
  refine hK.out _ _ ⟨bc0 BK448.out, bc1 BK448.out, bc2 BK448.out⟩ (fun hHeld => ?_)
  clear hK K
  refine nA (some 12) ?_
  refine oA 5 (some 15) (bz 8 63) HT_ (fun K hK => ?_)
  refine gA Tryd.func31 #[.string a1_1] ?_
  with_reducible refine (impl_PutText.calls k a1_1 t453 _ A6.out).mono ?_
  rintro e w20 ⟨v454, rfl, ho0, hb⟩
  refine ⟨_, rfl, ?_⟩
  have HO455 := Aside0.mk (Kd.R_lower (Kd.R_new' ho0 (Kd.R_lt (rI HO452.out))) (below_size (bI HB.out))); replace HO452 := Aside0.mk (Kd.R_elder' (rI HO452.out) (Kd.R_base ho0) hb); replace BK447 := bk BK447 hb; replace BK448 := bk BK448 hb; replace HB := bs HB hb
  (try clear hb)
  (try clear hb2)
  (try clear hk)
  (try clear hi)
  (try clear ho0)
  obtain ⟨Ao22, co22, eo22⟩ := Kd.R_slice HO455.out
  (first | subst eo22 | (injection eo22 with f1_ f2_ f3_; have f4_ := f1_.symm; have f5_ := f3_.symm; clear f1_ f2_ f3_; subst f4_; subst f5_))
  refine hK.out _ _ ⟨bc0 BK448.out, bc1 BK448.out, bc2 BK448.out⟩ (fun hHeld => ?_)
  clear hK K
  refine nA (some 15) ?_
  refine oA 6 (some 16) (bz 8 127) HT_ (fun K hK => ?_)
  refine Kd.R_append_rows_step (Kd.int .u8) (w0 := w) w.heap.size (by rfl) (.tmp 12) (.tmp 15) 30 5 (.int .u8 0) 1 rfl Tryd.underlying30 info5 rfl (by decide) (by omega) v451 t450 t453 _ _ _ (fun k_ => some k_ ≠ (.slice Ao22 t453.length co22 : Value).ownBlock) (fun _ => False) rfl rfl ?aO ?aR (fun _ _ h => h) (fun _ h => h.elim) ?aF ?aB ?aS ?aL ?_
  (case aR => repeat (first | exact (Kd.R_reads' HO455.out).2.2 | (with_reducible refine Kd.C_alloc ?_ _) | (with_reducible refine Kd.C_drewN ?_ _) | (with_reducible refine Kd.C_drew ?_)))
  (case aB => exact (bI HB.out))
  (case aF => exact (fun k_ hk => Kd.fresh' (Kd.R_lt (rI HO455.out)) k_ hk))
  (case aO => exact (rI (Kd.R_mono HO452.out (fun _ hk => hk.2))))
  (case aS => exact (below_size (bI HB.out)))
  (case aL => have := LMc7.out; omega)
  intro v457 w21 ho hb hg hat
  rw [← Ny456.out] at ho
  have n0_ := bn BK447 hg (Kd.R_ne HO452.out BK447.out (by decide))
  have n1_ := bn BK448 hg (Kd.R_ne HO452.out BK448.out (by decide))
  have n2_ := Aside0.mk (Kd.R_after (ok := (fun _ => True)) (rI HO455.out) hg hat)
  have n3_ := Aside0.mk (hb); have n4_ := Aside0.mk (ho); clear BK447; clear BK448; clear HO455; clear HB; clear HO452; have BK447 := n0_; have BK448 := n1_; have HO455 := n2_; have HB := n3_; have HO458 := n4_; clear n0_ n1_ n2_ n3_ n4_; clear ho hb hg hat
  refine hK.out _ _ ⟨bc0 BK448.out, bc1 BK448.out, bc2 BK448.out⟩ (fun hHeld => ?_)
  clear hK K
  refine nA (some 16) ?_
  refine pA 7 (some 5) (bz 8 255) HT_ ?_
  refine done_ (done_of HT_.out (by kernel_rfl)) ?_
  have hcz23_0 := bc0 BK448.out; have hcz23_1 := bc1 BK448.out; have hcz23_2 := bc2 BK448.out; have hfz23_0 := blk_frozen BK448.out 0; have hfz23_1 := blk_frozen BK448.out 1; have hfz23_2 := blk_frozen BK448.out 2
  try go_wp2_with (first | ((with_reducible refine gate_callee (f := 19) rfl ?_); refine gB (some 21) Tryd.func19 #[.int .i64 (l1_2.length : Int)] ?_; (with_reducible refine (impl_PutNum.calls k (l1_2.length : Int) t459 _ A8.out).mono ?_); rintro e w24 ⟨v460, rfl, ho0, hb⟩; refine ⟨_, rfl, ?_⟩; have HO461 := Aside0.mk (Kd.R_lower (Kd.R_new' (Kd.R_new' ho0 (Kd.R_lt (rI HO455.out))) (Kd.R_lt (rI HO458.out))) (below_size (bI HB.out))); replace HO455 := Aside0.mk (Kd.R_elder' (rI HO455.out) (Kd.R_base ho0) hb); replace HO458 := Aside0.mk (Kd.R_elder' (rI HO458.out) (Kd.R_base ho0) hb); replace BK447 := bk BK447 hb; replace BK448 := bk BK448 hb; replace HB := bs HB hb; (try clear hb); (try clear ho0); obtain ⟨Ao26, co26, eo26⟩ := Kd.R_slice HO461.out; subst eo26) | ((with_reducible refine gate_builtin (b := .append) (xs := #[.tmp 17, .tmp 21]) rfl ?_); at_builtin; refine Kd.R_append_rows (Kd.int .u8) (w0 := w) w.heap.size rfl (.tmp 17) (.tmp 21) 30 5 (.int .u8 0) 1 rfl Tryd.underlying30 info5 rfl (by decide) (by omega) v457 y456 t459 _ _ _ (fun k_ => some k_ ≠ (.slice Ao22 t453.length co22 : Value).ownBlock ∧ some k_ ≠ (.slice Ao26 t459.length co26 : Value).ownBlock) (fun _ => False) rfl rfl ?aO ?aR (fun _ _ h => h) (fun _ h => h.elim) ?aF ?aB ?aS ?aL ?_; (case aR => repeat (first | exact (Kd.R_reads' HO461.out).2.2 | (with_reducible refine Kd.C_alloc ?_ _) | (with_reducible refine Kd.C_drewN ?_ _) | (with_reducible refine Kd.C_drew ?_))); (case aB => exact (bI HB.out)); (case aF => exact (fun k_ hk => ⟨Kd.fresh' (Kd.R_lt (rI HO455.out)) k_ hk, Kd.fresh' (Kd.R_lt (rI HO461.out)) k_ hk⟩)); (case aO => exact (rI HO458.out)); (case aS => exact (below_size (bI HB.out))); (case aL => have := LMc9.out; omega); intro v463 w25 ho hb hg hat; rw [← Ny462.out] at ho; have n0_ := bn BK447 hg (Kd.R_ne HO458.out BK447.out (by decide)); have n1_ := bn BK448 hg (Kd.R_ne HO458.out BK448.out (by decide)); have n2_ := Aside0.mk (Kd.R_after (ok := (fun k_ => some k_ ≠ (.slice Ao26 t459.length co26 : Value).ownBlock)) (rI (Kd.R_mono HO455.out (fun _ hk => ⟨hk.2, hk.1.2⟩))) hg hat); have n3_ := Aside0.mk (Kd.R_after (ok := (fun k_ => some k_ ≠ (.slice Ao22 t453.length co22 : Value).ownBlock)) (rI (Kd.R_mono HO461.out (fun _ hk => ⟨hk.1.2, hk.2⟩))) hg hat); have n4_ := Aside0.mk (hb); have n5_ := Aside0.mk (ho); clear BK447; clear BK448; clear HO455; clear HO461; clear HB; clear HO458; have BK447 := n0_; have BK448 := n1_; have HO455 := n2_; have HO461 := n3_; have HB := n4_; have HO464 := n5_; clear n0_ n1_ n2_ n3_ n4_ n5_; clear ho hb hg hat; obtain ⟨hcz27_0, hcz27_1, hcz27_2, hfz27_0, hfz27_1, hfz27_2⟩ := cs3 BK448) | ((with_reducible refine gate_callee (f := 29) rfl ?_); refine gB (some 26) Tryd.func29 #[.slice A1_2 l1_2.length c1_2] ?_; (with_reducible refine (impl_putNums.calls k _ _ l1_2 t465 _ ?side1 ?side2 A10.out).mono ?_); (case side1 => exact ch HR1_2 HB); (case side2 => exact HC1_2.out); rintro e w28 ⟨v466, rfl, ho0, hb⟩; refine ⟨_, rfl, ?_⟩; have n0_ := Aside0.mk (Kd.R_elder' (rI HO455.out) (Kd.R_base ho0) hb); have n1_ := Aside0.mk (Kd.R_elder' (rI HO461.out) (Kd.R_base ho0) hb); have n2_ := Aside0.mk (Kd.R_elder' (rI HO464.out) (Kd.R_base ho0) hb); have n3_ := Aside0.mk (Kd.R_lower (Kd.R_new' (Kd.R_new' (Kd.R_new' ho0 (Kd.R_lt (rI HO455.out))) (Kd.R_lt (rI HO461.out))) (Kd.R_lt (rI HO464.out))) (below_size (bI HB.out))); have n4_ := bk BK447 hb; have n5_ := bk BK448 hb; have n6_ := bs HB hb; clear HO455; clear HO461; clear HO464; clear BK447; clear BK448; clear HB; have HO455 := n0_; have HO461 := n1_; have HO464 := n2_; have HO467 := n3_; have BK447 := n4_; have BK448 := n5_; have HB := n6_; clear n0_ n1_ n2_ n3_ n4_ n5_ n6_; (try clear hb); (try clear ho0); obtain ⟨Ao30, co30, eo30⟩ := Kd.R_slice HO467.out; subst eo30) | ((with_reducible refine gate_builtin (b := .append) (xs := #[.tmp 23, .tmp 26]) rfl ?_); at_builtin; refine Kd.R_append_rows (Kd.int .u8) (w0 := w) w.heap.size rfl (.tmp 23) (.tmp 26) 30 5 (.int .u8 0) 1 rfl Tryd.underlying30 info5 rfl (by decide) (by omega) v463 y462 t465 _ _ _ (fun k_ => some k_ ≠ (.slice Ao22 t453.length co22 : Value).ownBlock ∧ some k_ ≠ (.slice Ao26 t459.length co26 : Value).ownBlock ∧ some k_ ≠ (.slice Ao30 t465.length co30 : Value).ownBlock) (fun _ => False) rfl rfl ?aO ?aR (fun _ _ h => h) (fun _ h => h.elim) ?aF ?aB ?aS ?aL ?_; (case aR => repeat (first | exact (Kd.R_reads' HO467.out).2.2 | (with_reducible refine Kd.C_alloc ?_ _) | (with_reducible refine Kd.C_drewN ?_ _) | (with_reducible refine Kd.C_drew ?_))); (case aB => exact (bI HB.out)); (case aF => exact (fun k_ hk => ⟨Kd.fresh' (Kd.R_lt (rI HO455.out)) k_ hk, Kd.fresh' (Kd.R_lt (rI HO461.out)) k_ hk, Kd.fresh' (Kd.R_lt (rI HO467.out)) k_ hk⟩)); (case aO => exact (rI (Kd.R_mono HO464.out (fun _ hk => ⟨hk.1.1, ⟨hk.1.2, hk.2⟩⟩)))); (case aS => exact (below_size (bI HB.out))); (case aL => have := LMc11.out; omega); intro v469 w29 ho hb hg hat; rw [← Ny468.out] at ho; have n0_ := bn BK447 hg (Kd.R_ne HO464.out BK447.out (by decide)); have n1_ := bn BK448 hg (Kd.R_ne HO464.out BK448.out (by decide)); have n2_ := Aside0.mk (Kd.R_after (ok := (fun k_ => some k_ ≠ (.slice Ao26 t459.length co26 : Value).ownBlock ∧ some k_ ≠ (.slice Ao30 t465.length co30 : Value).ownBlock)) (rI (Kd.R_mono HO455.out (fun _ hk => ⟨⟨hk.1.1, hk.2⟩, hk.1.2⟩))) hg hat); have n3_ := Aside0.mk (Kd.R_after (ok := (fun k_ => some k_ ≠ (.slice Ao22 t453.length co22 : Value).ownBlock ∧ some k_ ≠ (.slice Ao30 t465.length co30 : Value).ownBlock)) (rI (Kd.R_mono HO461.out (fun _ hk => ⟨⟨hk.1.1, hk.2⟩, hk.1.2⟩))) hg hat); have n4_ := Aside0.mk (Kd.R_after (ok := (fun k_ => some k_ ≠ (.slice Ao22 t453.length co22 : Value).ownBlock ∧ some k_ ≠ (.slice Ao26 t459.length co26 : Value).ownBlock)) (rI (Kd.R_mono HO467.out (fun _ hk => ⟨⟨hk.1.1.2, hk.1.2⟩, hk.2⟩))) hg hat); have n5_ := Aside0.mk (hb); have n6_ := Aside0.mk (ho); clear BK447; clear BK448; clear HO455; clear HO461; clear HO467; clear HB; clear HO464; have BK447 := n0_; have BK448 := n1_; have HO455 := n2_; have HO461 := n3_; have HO467 := n4_; have HB := n5_; have HO470 := n6_; clear n0_ n1_ n2_ n3_ n4_ n5_ n6_; clear ho hb hg hat))
  go_ret
  exact ⟨_, y0_7, by (with_reducible repeat (first | apply Kd.R_alloc | apply Kd.R_drewN | apply Kd.R_drew)); exact Kd.R_mono HO470.out (fun _ hk => trivial), bI HB.out⟩
 replace c4 := Bool.eq_false_iff.mpr c4; subst c4
 rw [if_neg (show ¬ (false = true) by decide)] at H
 obtain rfl := Option.some.inj H
 go_enter Tryd.func30, Tryd.ntmps30
 go_wp2_with (first | ((with_reducible refine gd 2 ?_); refine bA 2 #[.int .i64 a0_0, .int .i64 a0_1] 32 ?_; intro gb447 hg w31 hbox hb; have BK447 := Aside0.mk (hbox); have GW447 := bg hg HB; have GJ447 := gi GW447; have GE447 := GW447; replace HB := bs HB hb; clear hb hbox hg) | ((with_reducible refine gd 3 ?_); refine bA 3 #[.int .i64 a1_0, .string a1_1, .slice A1_2 l1_2.length c1_2] 34 ?_; intro gb448 hg w32 hbox hb; have BK448 := Aside0.mk (hbox); have GW448 := bg hg HB; have GJ448 := gi GW448; have GE448 := GW448; replace HB := bs HB hb; have NB447_448 := b1 BK447 hg; have NI447_448 := ni NB447_448; have NB448_447 := b2 BK447 hg; have NI448_447 := ni NB448_447; replace BK447 := bk BK447 hb; clear hb hbox hg; have hnb33 := NB447_448.out; have hnc33 := NB448_447.out; obtain ⟨hcz34_0, hcz34_1, hfz34_0, hfz34_1⟩ := cs2 BK447; obtain ⟨hcz35_0, hcz35_1, hcz35_2, hfz35_0, hfz35_1, hfz35_2⟩ := cs3 BK448) | ((with_reducible refine gate_callee (f := 37) rfl ?_); refine gB (some 8) Tryd.func37 #[.agg #[.int .i64 a0_0, .int .i64 a0_1], .agg #[.int .i64 a1_0, .string a1_1, .slice A1_2 l1_2.length c1_2]] ?_; (with_reducible refine (impl_QcOk.calls k a0_0 a0_1 a1_0 a1_1 _ _ l1_2 false _ ?side1 ?side2 A3.out).mono ?_); (case side1 => exact ch HR1_2 HB); (case side2 => exact HC1_2.out); rintro e w36 ⟨rfl, hb⟩; refine ⟨_, rfl, ?_⟩; replace BK447 := bk BK447 hb; replace BK448 := bk BK448 hb; replace HB := bs HB hb; (try clear hb); (try clear hb2); (try clear hk); (try clear hi)))
 go_ret
 exact ⟨_, y0_7, y0_0, bI HB.out⟩

end Go.Proofs.YtemjmefacifdeaaDoor.PFnExactNoteBytes
