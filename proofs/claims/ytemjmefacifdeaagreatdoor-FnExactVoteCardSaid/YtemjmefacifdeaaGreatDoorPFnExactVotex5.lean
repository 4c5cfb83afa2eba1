-- By a program of this session, out of the translation (the print of the kit, with turns of its own). Lean checks it.
import Derived.Test.YtemjmefacifdeaaGreatDoorPFnExactVotex0
import Derived.Test.YtemjmefacifdeaaGreatDoorPFnExactVotex2
import Derived.Test.YtemjmefacifdeaaGreatDoorPFnExactVotex3
import Derived.Test.YtemjmefacifdeaaGreatDoorPFnExactVotex4
namespace Go.Proofs.YtemjmefacifdeaaGreatDoor.PFnExactVote
open Go.RowKit Go.Proofs.YtemjmefacifdeaaGreatDoorW.PrintWords Go.Proofs.YtemjmefacifdeaaGreatDoorW.PrintLast Go.Proofs.YtemjmefacifdeaaGreatDoorW.PrintMore
attribute [local go_sem] max2_int min2_int max_two min_two max_three min_three max_four min_four   -- for this text's walks alone
set_option linter.unusedVariables false
set_option linter.unusedSimpArgs false

/-! ### spec_SafeOk: function 66 -/
def spec_SafeOk.f (k : Nat) (a0_0 : Int) (a0_1 : Int) (a1_0 : Int) (a1_1 : Int) (a1_2 : Int) (a1_3 : ByteArray) (l1_4 : List Int) (a1_5 : ByteArray) : Option (Bool) := (spec_l1In.f a1_0 0 60).bind fun t223 => (if t223 = true then ((spec_l1In.f a1_1 0 60).bind fun t224 => (if t224 = true then ((spec_QcOk.f k a0_0 a0_1 a1_2 a1_3 l1_4).bind fun t225 => (if t225 = true then ((spec_NameOk.f k a1_5).bind fun t226 => (some t226)) else (some false))) else (some false))) else (some false))
theorem spec_SafeOk.mono : ∀ a0 a1 a2 a3 a4 a5 a6 a7 k, LeO (spec_SafeOk.f k a0 a1 a2 a3 a4 a5 a6 a7) (spec_SafeOk.f (k + 1) a0 a1 a2 a3 a4 a5 a6 a7) := by
 intro a0 a1 a2 a3 a4 a5 a6 a7 k
 unfold spec_SafeOk.f
 repeat' first | (with_reducible exact spec_NameOk.mono _ _) | (with_reducible exact spec_QcOk.mono _ _ _ _ _ _) | (with_reducible exact LeO.refl _) | (with_reducible exact LeO.none _) | (with_reducible refine LeO.ite ?_ ?_) | (with_reducible refine LeO.bind ?_ (fun _ => ?_))
set_option maxHeartbeats 8000000 in
set_option maxRecDepth 100000 in
theorem spec_SafeOk.calls (k : Nat) (a0_0 : Int) (a0_1 : Int) (a1_0 : Int) (a1_1 : Int) (a1_2 : Int) (a1_3 : ByteArray) (A1_4 : Option Addr) (c1_4 : Nat) (l1_4 : List Int) (a1_5 : ByteArray) (r : Bool) (w : World) (hr1_4 : Kd.C (Kd.int .i64) w A1_4 l1_4.length l1_4) (hc1_4 : l1_4.length ≤ c1_4) (h : spec_SafeOk.f k a0_0 a0_1 a1_0 a1_1 a1_2 a1_3 l1_4 a1_5 = some r) :
  Calls Tryz.prog 66 #[.agg #[.int .i64 a0_0, .int .i64 a0_1], .agg #[.int .i64 a1_0, .int .i64 a1_1, .int .i64 a1_2, .string a1_3, .slice A1_4 l1_4.length c1_4, .string a1_5]] w fun e w' => e = .returned (.bool r) ∧ Below w.heap.size w w' := by
 have hu38 := Tryz.underlying38; have hu35 := Tryz.underlying35; have hu33 := Tryz.underlying33; have HR1_4 := Aside0.mk hr1_4; have HC1_4 := Aside0.mk hc1_4; clear hr1_4 hc1_4; have HB := Aside0.mk (Below.refl w.heap.size w)
 have H : ((spec_l1In.f a1_0 0 60).bind fun t223 => (if t223 = true then ((spec_l1In.f a1_1 0 60).bind fun t224 => (if t224 = true then ((spec_QcOk.f k a0_0 a0_1 a1_2 a1_3 l1_4).bind fun t225 => (if t225 = true then ((spec_NameOk.f k a1_5).bind fun t226 => (some t226)) else (some false))) else (some false))) else (some false))) = some r := h
 clear h; obtain ⟨t223, A30, H⟩ := Option.bind_eq_some_iff.mp H
 try dsimp only at H
 have A3 := Aside0.mk A30; clear A30
 by_cases c4 : t223 = true
 ·
  subst c4
  rw [if_pos rfl] at H
  obtain ⟨t224, A50, H⟩ := Option.bind_eq_some_iff.mp H
  try dsimp only at H
  have A5 := Aside0.mk A50; clear A50
  by_cases c6 : t224 = true
  ·
   subst c6
   rw [if_pos rfl] at H
   obtain ⟨t225, A70, H⟩ := Option.bind_eq_some_iff.mp H
   try dsimp only at H
   have A7 := Aside0.mk A70; clear A70
   by_cases c8 : t225 = true
   ·
    subst c8
    rw [if_pos rfl] at H
    obtain ⟨t226, A90, H⟩ := Option.bind_eq_some_iff.mp H
    try dsimp only at H
    have A9 := Aside0.mk A90; clear A90; obtain rfl := Option.some.inj H
    go_enter Tryz.func66, Tryz.ntmps66
    go_wp2_with (first | ((with_reducible refine gd 2 ?_); refine bA 2 #[.int .i64 a0_0, .int .i64 a0_1] 38 ?_; intro gb221 hg w10 hbox hb; have BK221 := Aside0.mk (hbox); have GW221 := bg hg HB; have GJ221 := gi GW221; have GE221 := GW221; replace HB := bs HB hb; clear hb hbox hg) | ((with_reducible refine gd 3 ?_); refine bA 3 #[.int .i64 a1_0, .int .i64 a1_1, .int .i64 a1_2, .string a1_3, .slice A1_4 l1_4.length c1_4, .string a1_5] 35 ?_; intro gb222 hg w11 hbox hb; have BK222 := Aside0.mk (hbox); have GW222 := bg hg HB; have GJ222 := gi GW222; have GE222 := GW222; replace HB := bs HB hb; have NB221_222 := b1 BK221 hg; have NI221_222 := ni NB221_222; have NB222_221 := b2 BK221 hg; have NI222_221 := ni NB222_221; replace BK221 := bk BK221 hb; clear hb hbox hg; have hnb12 := NB222_221.out; have hnc12 := NB221_222.out; have hcz13_0 := bc0 BK222.out; have hcz13_1 := bc1 BK222.out; have hcz13_2 := bc2 BK222.out; have hcz13_3 := bc3 BK222.out; have hcz13_4 := bc4 BK222.out; have hcz13_5 := bc5 BK222.out; have hfz13_0 := blk_frozen BK222.out 0; have hfz13_1 := blk_frozen BK222.out 1; have hfz13_2 := blk_frozen BK222.out 2; have hfz13_3 := blk_frozen BK222.out 3; have hfz13_4 := blk_frozen BK222.out 4; have hfz13_5 := blk_frozen BK222.out 5) | ((with_reducible refine gate_callee (f := 100) rfl ?_); refine gB (some 7) Tryz.func100 #[.int .i64 a1_0, .int .i64 0, .int .i64 60] ?_; (with_reducible refine (spec_l1In.calls a1_0 0 60 true _ A3.out).mono ?_); rintro e w' ⟨rfl, ⟨nd, rfl⟩⟩; refine ⟨_, rfl, ?_⟩) | (go_at_call 100; (with_reducible refine (spec_l1In.calls a1_1 0 60 true _ A5.out).mono ?_); rintro e w' ⟨rfl, ⟨nd, rfl⟩⟩; obtain ⟨hcz14_0, hcz14_1, hfz14_0, hfz14_1⟩ := cs2 BK221) | (go_at_call 49; (with_reducible refine (spec_QcOk.calls k a0_0 a0_1 a1_2 a1_3 _ _ l1_4 true _ ?side1 ?side2 A7.out).mono ?_); (case side1 => exact (Kd.C_below HR1_4.out (bI HB.out))); (case side2 => exact HC1_4.out); rintro e w15 ⟨rfl, hb⟩; replace BK221 := bk BK221 hb; replace BK222 := bk BK222 hb; replace HB := bs HB hb; (try clear hb); (try clear hb2); (try clear hk); (try clear hi); have hcz16_0 := bc0 BK222.out; have hcz16_1 := bc1 BK222.out; have hcz16_2 := bc2 BK222.out; have hcz16_3 := bc3 BK222.out; have hcz16_4 := bc4 BK222.out; have hcz16_5 := bc5 BK222.out; have hfz16_0 := blk_frozen BK222.out 0; have hfz16_1 := blk_frozen BK222.out 1; have hfz16_2 := blk_frozen BK222.out 2; have hfz16_3 := blk_frozen BK222.out 3; have hfz16_4 := blk_frozen BK222.out 4; have hfz16_5 := blk_frozen BK222.out 5) | (go_at_call 97; (with_reducible refine (spec_NameOk.calls k a1_5 t226 _ A9.out).mono ?_); rintro e w17 ⟨rfl, hb⟩; replace BK221 := bk BK221 hb; replace BK222 := bk BK222 hb; replace HB := bs HB hb; (try clear hb); (try clear hb2); (try clear hk); (try clear hi)))
    go_ret
    exact ⟨y0_7, bI HB.out⟩
   replace c8 := Bool.eq_false_iff.mpr c8; subst c8
   rw [if_neg (show ¬ (false = true) by decide)] at H
   obtain rfl := Option.some.inj H
   go_enter Tryz.func66, Tryz.ntmps66
   go_wp2_with (first | ((with_reducible refine gd 2 ?_); refine bA 2 #[.int .i64 a0_0, .int .i64 a0_1] 38 ?_; intro gb221 hg w18 hbox hb; have BK221 := Aside0.mk (hbox); have GW221 := bg hg HB; have GJ221 := gi GW221; have GE221 := GW221; replace HB := bs HB hb; clear hb hbox hg) | ((with_reducible refine gd 3 ?_); refine bA 3 #[.int .i64 a1_0, .int .i64 a1_1, .int .i64 a1_2, .string a1_3, .slice A1_4 l1_4.length c1_4, .string a1_5] 35 ?_; intro gb222 hg w19 hbox hb; have BK222 := Aside0.mk (hbox); have GW222 := bg hg HB; have GJ222 := gi GW222; have GE222 := GW222; replace HB := bs HB hb; have NB221_222 := b1 BK221 hg; have NI221_222 := ni NB221_222; have NB222_221 := b2 BK221 hg; have NI222_221 := ni NB222_221; replace BK221 := bk BK221 hb; clear hb hbox hg; have hnb20 := NB222_221.out; have hnc20 := NB221_222.out; have hcz21_0 := bc0 BK222.out; have hcz21_1 := bc1 BK222.out; have hcz21_2 := bc2 BK222.out; have hcz21_3 := bc3 BK222.out; have hcz21_4 := bc4 BK222.out; have hcz21_5 := bc5 BK222.out; have hfz21_0 := blk_frozen BK222.out 0; have hfz21_1 := blk_frozen BK222.out 1; have hfz21_2 := blk_frozen BK222.out 2; have hfz21_3 := blk_frozen BK222.out 3; have hfz21_4 := blk_frozen BK222.out 4; have hfz21_5 := blk_frozen BK222.out 5) | ((with_reducible refine gate_callee (f := 100) rfl ?_); refine gB (some 7) Tryz.func100 #[.int .i64 a1_0, .int .i64 0, .int .i64 60] ?_; (with_reducible refine (spec_l1In.calls a1_0 0 60 true _ A3.out).mono ?_); rintro e w' ⟨rfl, ⟨nd, rfl⟩⟩; refine ⟨_, rfl, ?_⟩) | (go_at_call 100; (with_reducible refine (spec_l1In.calls a1_1 0 60 true _ A5.out).mono ?_); rintro e w' ⟨rfl, ⟨nd, rfl⟩⟩; obtain ⟨hcz22_0, hcz22_1, hfz22_0, hfz22_1⟩ := cs2 BK221) | (go_at_call 49; (with_reducible refine (spec_QcOk.calls k a0_0 a0_1 a1_2 a1_3 _ _ l1_4 false _ ?side1 ?side2 A7.out).mono ?_); (case side1 => exact (Kd.C_below HR1_4.out (bI HB.out))); (case side2 => exact HC1_4.out); rintro e w23 ⟨rfl, hb⟩; replace BK221 := bk BK221 hb; replace BK222 := bk BK222 hb; replace HB := bs HB hb; (try clear hb); (try clear hb2); (try clear hk); (try clear hi)))
   go_ret
   exact ⟨y0_7, bI HB.out⟩
  replace c6 := Bool.eq_false_iff.mpr c6; subst c6
  rw [if_neg (show ¬ (false = true) by decide)] at H
  obtain rfl := Option.some.inj H
  go_enter Tryz.func66, Tryz.ntmps66
  go_wp2_with (first | ((with_reducible refine gd 2 ?_); refine bA 2 #[.int .i64 a0_0, .int .i64 a0_1] 38 ?_; intro gb221 hg w24 hbox hb; have BK221 := Aside0.mk (hbox); have GW221 := bg hg HB; have GJ221 := gi GW221; have GE221 := GW221; replace HB := bs HB hb; clear hb hbox hg) | ((with_reducible refine gd 3 ?_); refine bA 3 #[.int .i64 a1_0, .int .i64 a1_1, .int .i64 a1_2, .string a1_3, .slice A1_4 l1_4.length c1_4, .string a1_5] 35 ?_; intro gb222 hg w25 hbox hb; have BK222 := Aside0.mk (hbox); have GW222 := bg hg HB; have GJ222 := gi GW222; have GE222 := GW222; replace HB := bs HB hb; have NB221_222 := b1 BK221 hg; have NI221_222 := ni NB221_222; have NB222_221 := b2 BK221 hg; have NI222_221 := ni NB222_221; replace BK221 := bk BK221 hb; clear hb hbox hg; have hnb26 := NB222_221.out; have hnc26 := NB221_222.out; have hcz27_0 := bc0 BK222.out; have hcz27_1 := bc1 BK222.out; have hcz27_2 := bc2 BK222.out; have hcz27_3 := bc3 BK222.out; have hcz27_4 := bc4 BK222.out; have hcz27_5 := bc5 BK222.out; have hfz27_0 := blk_frozen BK222.out 0; have hfz27_1 := blk_frozen BK222.out 1; have hfz27_2 := blk_frozen BK222.out 2; have hfz27_3 := blk_frozen BK222.out 3; have hfz27_4 := blk_frozen BK222.out 4; have hfz27_5 := blk_frozen BK222.out 5) | ((with_reducible refine gate_callee (f := 100) rfl ?_); refine gB (some 7) Tryz.func100 #[.int .i64 a1_0, .int .i64 0, .int .i64 60] ?_; (with_reducible refine (spec_l1In.calls a1_0 0 60 true _ A3.out).mono ?_); rintro e w' ⟨rfl, ⟨nd, rfl⟩⟩; refine ⟨_, rfl, ?_⟩) | (go_at_call 100; (with_reducible refine (spec_l1In.calls a1_1 0 60 false _ A5.out).mono ?_); rintro e w' ⟨rfl, ⟨nd, rfl⟩⟩))
  go_ret
  exact ⟨y0_7, bI HB.out⟩
 replace c4 := Bool.eq_false_iff.mpr c4; subst c4
 rw [if_neg (show ¬ (false = true) by decide)] at H
 obtain rfl := Option.some.inj H
 go_enter Tryz.func66, Tryz.ntmps66
 go_wp2_with (first | ((with_reducible refine gd 2 ?_); refine bA 2 #[.int .i64 a0_0, .int .i64 a0_1] 38 ?_; intro gb221 hg w28 hbox hb; have BK221 := Aside0.mk (hbox); have GW221 := bg hg HB; have GJ221 := gi GW221; have GE221 := GW221; replace HB := bs HB hb; clear hb hbox hg) | ((with_reducible refine gd 3 ?_); refine bA 3 #[.int .i64 a1_0, .int .i64 a1_1, .int .i64 a1_2, .string a1_3, .slice A1_4 l1_4.length c1_4, .string a1_5] 35 ?_; intro gb222 hg w29 hbox hb; have BK222 := Aside0.mk (hbox); have GW222 := bg hg HB; have GJ222 := gi GW222; have GE222 := GW222; replace HB := bs HB hb; have NB221_222 := b1 BK221 hg; have NI221_222 := ni NB221_222; have NB222_221 := b2 BK221 hg; have NI222_221 := ni NB222_221; replace BK221 := bk BK221 hb; clear hb hbox hg; have hnb30 := NB222_221.out; have hnc30 := NB221_222.out; have hcz31_0 := bc0 BK222.out; have hcz31_1 := bc1 BK222.out; have hcz31_2 := bc2 BK222.out; have hcz31_3 := bc3 BK222.out; have hcz31_4 := bc4 BK222.out; have hcz31_5 := bc5 BK222.out; have hfz31_0 := blk_frozen BK222.out 0; have hfz31_1 := blk_frozen BK222.out 1; have hfz31_2 := blk_frozen BK222.out 2; have hfz31_3 := blk_frozen BK222.out 3; have hfz31_4 := blk_frozen BK222.out 4; have hfz31_5 := blk_frozen BK222.out 5) | ((with_reducible refine gate_callee (f := 100) rfl ?_); refine gB (some 7) Tryz.func100 #[.int .i64 a1_0, .int .i64 0, .int .i64 60] ?_; (with_reducible refine (spec_l1In.calls a1_0 0 60 false _ A3.out).mono ?_); rintro e w' ⟨rfl, ⟨nd, rfl⟩⟩; refine ⟨_, rfl, ?_⟩))
 go_ret
 exact ⟨y0_7, bI HB.out⟩

/-! ### spec_l1Max: function 67 -/
def spec_l1Max.f (a0 : Int) (a1 : Int) : Option (Int) := if a0 > a1 then (some a0) else (some a1)
set_option maxHeartbeats 8000000 in
set_option maxRecDepth 100000 in
theorem spec_l1Max.calls (a0 : Int) (a1 : Int) (r : Int) (w : World) (h : spec_l1Max.f a0 a1 = some r) :
  Calls Tryz.prog 67 #[.int .i64 a0, .int .i64 a1] w fun e w' => e = .returned (.int .i64 r) ∧ Drawn0 w w' := by
 have H : (if a0 > a1 then (some a0) else (some a1)) = some r := h; clear h
 by_cases c3 : a0 > a1
 ·
  rw [if_pos c3] at H
  have c3b0 : decide (a1 < a0) = true := decide_eq_true c3; clear c3; obtain rfl := Option.some.inj H
  go_enter Tryz.func67, Tryz.ntmps67
  go_wp2
  go_ret
  exact ⟨y0_10, y0_8⟩
 rw [if_neg c3] at H
 have c3b0 : decide (a1 < a0) = false := decide_eq_false c3; clear c3; obtain rfl := Option.some.inj H
 go_enter Tryz.func67, Tryz.ntmps67
 go_wp2
 go_ret
 exact ⟨y0_10, y0_8⟩

/-! ### spec_UpOf: function 68 -/
def spec_UpOf.l0 : Nat → ByteArray → Int → Option (ByteArray)
 | 0, _, _ => none
 | k + 1, x0, x3 => if x3 > 0 then (if 0 ≤ (wrap64 (x3 - 1)) then (if (wrap64 (x3 - 1)) < (x0.size : Int) then (if (bt x0 (wrap64 (x3 - 1))) = 47 then ((spec_l1Max.f (wrap64 (x3 - 1)) 0).bind fun t228 => (if 0 ≤ t228 then (if t228 ≤ (x0.size : Int) then (some (x0.extract 0 (t228 : Int).toNat)) else (none)) else (none))) else (spec_UpOf.l0 k x0 (wrap64 (x3 - 1)))) else (none)) else (none)) else ((spec_l1Max.f (wrap64 (x3 - 1)) 0).bind fun t229 => (if 0 ≤ t229 then (if t229 ≤ (x0.size : Int) then (some (x0.extract 0 (t229 : Int).toNat)) else (none)) else (none)))
def spec_UpOf.f (k : Nat) (a0 : ByteArray) : Option (ByteArray) := (spec_NameOk.f k a0).bind fun t227 => (if t227 = true then (spec_UpOf.l0 k a0 (a0.size : Int)) else (some (⟨#[]⟩ : ByteArray)))
theorem spec_UpOf.mono_l : ∀ k, (∀ y0 y1, LeO (spec_UpOf.l0 k y0 y1) (spec_UpOf.l0 (k + 1) y0 y1))
 | 0 => fun _ _ r h => by simp [spec_UpOf.l0] at h
 | k + 1 => by
  have ih0 := spec_UpOf.mono_l k
  intro y0 y1
  unfold spec_UpOf.l0
  repeat' first | (with_reducible exact ih0 _ _) | (with_reducible exact spec_NameOk.mono _ _) | (with_reducible exact LeO.refl _) | (with_reducible exact LeO.none _) | (with_reducible refine LeO.ite ?_ ?_) | (with_reducible refine LeO.bind ?_ (fun _ => ?_))
theorem spec_UpOf.mono : ∀ a0 k, LeO (spec_UpOf.f k a0) (spec_UpOf.f (k + 1) a0) := by
 intro a0 k
 have ih0 := spec_UpOf.mono_l k
 unfold spec_UpOf.f
 repeat' first | (with_reducible exact ih0 _ _) | (with_reducible exact spec_NameOk.mono _ _) | (with_reducible exact LeO.refl _) | (with_reducible exact LeO.none _) | (with_reducible refine LeO.ite ?_ ?_) | (with_reducible refine LeO.bind ?_ (fun _ => ?_))
set_option maxHeartbeats 8000000 in
set_option maxRecDepth 100000 in
theorem spec_UpOf.calls (k : Nat) (a0 : ByteArray) (r : ByteArray) (w : World) (h : spec_UpOf.f k a0 = some r) :
  Calls Tryz.prog 68 #[.string a0] w fun e w' => e = .returned (.string r) ∧ Below w.heap.size w w' := by
 have HB := Aside0.mk (Below.refl w.heap.size w)
 have H : ((spec_NameOk.f k a0).bind fun t227 => (if t227 = true then (spec_UpOf.l0 k a0 (a0.size : Int)) else (some (⟨#[]⟩ : ByteArray)))) = some r := h
 clear h; obtain ⟨t227, A20, H⟩ := Option.bind_eq_some_iff.mp H
 try dsimp only at H
 have A2 := Aside0.mk A20; clear A20
 by_cases c3 : t227 = true
 ·
  subst c3
  rw [if_pos rfl] at H
  have H' := Aside0.mk H; clear H
  go_enter Tryz.func68, Tryz.ntmps68
  go_wp2_with (first | ((with_reducible refine gate_callee (f := 97) rfl ?_); refine gB (some 5) Tryz.func97 #[.string a0] ?_; (with_reducible refine (spec_NameOk.calls k a0 true _ A2.out).mono ?_); rintro e w4 ⟨rfl, hb⟩; refine ⟨_, rfl, ?_⟩; replace HB := bs HB hb; (try clear hb); (try clear hb2); (try clear hk); (try clear hi)))
  go_loopg [3] k (fun kq v3 w' => ∃ (x3_1 : Int), v3 = .int .i64 x3_1 ∧ Aside0 (spec_UpOf.l0 kq a0 x3_1 = some r) ∧ Aside0 (kq ≤ k) ∧ Aside0 (Below w.heap.size w w'))
  case atStart => exact ⟨((a0.size : Int)), y0_10, H', ⟨Nat.le_refl _⟩, ⟨bI HB.out⟩⟩
  case round =>
   clear H'
   try clear p2
   try clear c3
   obtain ⟨x3_1, rfl, HA, HK1, HB⟩ := hrel; cases gk with
   | zero => exact absurd HA.out (by simp [spec_UpOf.l0])
   | succ k1 =>
    have H := HA.out; clear HA
    simp only [spec_UpOf.l0] at H
    by_cases c5 : x3_1 > 0
    ·
     rw [if_pos c5] at H
     have c5b0 : decide (0 < x3_1) = true := decide_eq_true c5; clear c5; obtain ⟨ji6, hji6⟩ : ∃ j_ : Int, (wrap64 (x3_1 - 1)) = j_ := ⟨_, rfl⟩
     replace H : (if 0 ≤ (ji6) then (if (ji6) < (a0.size : Int) then (if (bt a0 (ji6)) = 47 then ((spec_l1Max.f (ji6) 0).bind fun t228 => (if 0 ≤ t228 then (if t228 ≤ (a0.size : Int) then (some (a0.extract 0 (t228 : Int).toNat)) else (none)) else (none))) else (spec_UpOf.l0 k1 a0 ji6)) else (none)) else (none)) = some r := by first | (rw [hji6] at H; exact H) | (simp only [hji6] at H ⊢; exact H)
     have hji6w : (IntKind.i64.wrap (x3_1 - 1)) = ji6 := (i64_w _).trans hji6
     by_cases c7 : 0 ≤ (ji6)
     rotate_left
     ·
      rw [if_neg c7] at H
      exact absurd H (by simp)
     rw [if_pos c7] at H
     have c7b0 : decide (0 ≤ (ji6)) = true := decide_eq_true c7; clear c7
     by_cases c8 : (ji6) < (a0.size : Int)
     rotate_left
     ·
      rw [if_neg c8] at H
      exact absurd H (by simp)
     rw [if_pos c8] at H
     have c8b0 : decide ((ji6) < (a0.size : Int)) = true := decide_eq_true c8; clear c8
     by_cases c10 : (bt a0 (ji6)) = 47
     ·
      rw [if_pos c10] at H
      have c10b0 : ((bt a0 (ji6)) == 47) = true := beq_iff_eq.mpr c10; have c10b1 : ((bt a0 (ji6)) != 47) = false := bne_eq_false_iff_eq.mpr c10; clear c10; obtain ⟨t228, A110, H⟩ := Option.bind_eq_some_iff.mp H
      try dsimp only at H
      have A11 := Aside0.mk A110; clear A110
      by_cases c12 : 0 ≤ t228
      rotate_left
      ·
       rw [if_neg c12] at H
       exact absurd H (by simp)
      rw [if_pos c12] at H
      have c12b0 := eq_true c12; have c12b1 : decide (0 ≤ t228) = true := decide_eq_true c12; clear c12
      by_cases c13 : t228 ≤ (a0.size : Int)
      rotate_left
      ·
       rw [if_neg c13] at H
       exact absurd H (by simp)
      rw [if_pos c13] at H
      have c13b0 := eq_true c13; have c13b1 : decide (t228 ≤ (a0.size : Int)) = true := decide_eq_true c13; clear c13; obtain rfl := Option.some.inj H; have p9 : 0 ≤ ((ji6) : Int) := of_decide_eq_true y0_9; have q9 : (ji6) < (a0.size : Int) := of_decide_eq_true y0_9; have hx9 := bt_at a0 (ji6); replace p9 := eq_true p9; replace q9 := eq_true q9
      go_wp2_with (first | ((with_reducible refine gate_callee (f := 67) rfl ?_); refine goesL_ (some 23) rfl rfl Tryz.func67 (by kernel_rfl) rfl #[.int .i64 ji6, .int .i64 0] rfl (by (try simp only [List.map_toArray, List.map_cons, List.map_nil]); first | done | (simp only [hji6]; rfl) | rfl | (simp only [List.length_drop, List.length_take]; rfl)) ?_; (with_reducible refine (spec_l1Max.calls ji6 0 t228 _ A11.out).mono ?_); rintro e w' ⟨rfl, ⟨nd, rfl⟩⟩; refine ⟨_, rfl, ?_⟩))
      go_ret
      exact ⟨by first | rfl | (simp [errW_none, errW_some] <;> rfl) | (simp only [← hji6]; first | rfl | (simp [errW_none, errW_some] <;> rfl)) | (simp [*, errW_none, errW_some] <;> rfl), bI HB.out⟩
     rw [if_neg c10] at H
     have c10b0 : ((bt a0 (ji6)) == 47) = false := beq_eq_false_iff_ne.mpr c10; have c10b1 : ((bt a0 (ji6)) != 47) = true := bne_iff_ne.mpr c10; have H' := Aside0.mk H; clear H; have p9 : 0 ≤ ((ji6) : Int) := of_decide_eq_true y0_9; have q9 : (ji6) < (a0.size : Int) := of_decide_eq_true y0_9; have hx9 := bt_at a0 (ji6); replace p9 := eq_true p9; replace q9 := eq_true q9
     go_wp2
     go_roundg k1
     case measure => have := HK1.out; omega
     case rel => exact ⟨(ji6), (by first | rfl | (simp; done) | (simp only [← hji6] <;> (first | rfl | simp)) | (simp [*]; done)), H', ⟨y0_14⟩, ⟨bI HB.out⟩⟩
    rw [if_neg c5] at H
    have c5b0 : decide (0 < x3_1) = false := decide_eq_false c5; clear c5; obtain ⟨t229, A140, H⟩ := Option.bind_eq_some_iff.mp H
    try dsimp only at H
    have A14 := Aside0.mk A140; clear A140
    by_cases c15 : 0 ≤ t229
    rotate_left
    ·
     rw [if_neg c15] at H
     exact absurd H (by simp)
    rw [if_pos c15] at H
    have c15b0 := eq_true c15; have c15b1 : decide (0 ≤ t229) = true := decide_eq_true c15; clear c15
    by_cases c16 : t229 ≤ (a0.size : Int)
    rotate_left
    ·
     rw [if_neg c16] at H
     exact absurd H (by simp)
    rw [if_pos c16] at H
    have c16b0 := eq_true c16; have c16b1 : decide (t229 ≤ (a0.size : Int)) = true := decide_eq_true c16; clear c16; obtain rfl := Option.some.inj H
    go_wp2_with (first | ((with_reducible refine gate_callee (f := 67) rfl ?_); refine gB (some 23) Tryz.func67 #[.int .i64 (wrap64 (x3_1 - 1)), .int .i64 0] ?_; (with_reducible refine (spec_l1Max.calls (wrap64 (x3_1 - 1)) 0 t229 _ A14.out).mono ?_); rintro e w' ⟨rfl, ⟨nd, rfl⟩⟩; refine ⟨_, rfl, ?_⟩))
    go_ret
    exact ⟨y0_7, bI HB.out⟩
 replace c3 := Bool.eq_false_iff.mpr c3; subst c3
 rw [if_neg (show ¬ (false = true) by decide)] at H
 obtain rfl := Option.some.inj H
 go_enter Tryz.func68, Tryz.ntmps68
 go_wp2_with (first | ((with_reducible refine gate_callee (f := 97) rfl ?_); refine gB (some 5) Tryz.func97 #[.string a0] ?_; (with_reducible refine (spec_NameOk.calls k a0 false _ A2.out).mono ?_); rintro e w17 ⟨rfl, hb⟩; refine ⟨_, rfl, ?_⟩; replace HB := bs HB hb; (try clear hb); (try clear hb2); (try clear hk); (try clear hi)))
 go_ret
 exact ⟨y0_7, bI HB.out⟩

end Go.Proofs.YtemjmefacifdeaaGreatDoor.PFnExactVote
