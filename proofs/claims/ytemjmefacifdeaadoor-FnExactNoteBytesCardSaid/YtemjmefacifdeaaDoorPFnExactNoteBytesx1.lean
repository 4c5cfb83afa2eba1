-- By a program of this session, out of the translation (the print of the kit, with turns of its own). Lean checks it.
import Derived.Test.YtemjmefacifdeaaDoorPFnExactNoteBytesx0
namespace Go.Proofs.YtemjmefacifdeaaDoor.PFnExactNoteBytes
open Go.RowKit Go.Proofs.YtemjmefacifdeaaDoorW.PrintWords Go.Proofs.YtemjmefacifdeaaDoorW.PrintLast Go.Proofs.YtemjmefacifdeaaDoorW.PrintMore
attribute [local go_sem] max2_int min2_int max_two min_two max_three min_three max_four min_four   -- for this text's walks alone
set_option linter.unusedVariables false
set_option linter.unusedSimpArgs false

/-! ### laws_szIntS: function 22 -/
def laws_szIntS.f (l0 : List Int) (a1 : Int) : Option (Int) := if (wrap64 (a1 - (l0.length : Int))) < 0 then (some (-1)) else (some (wrap64 (a1 - (l0.length : Int))))
set_option maxHeartbeats 8000000 in
set_option maxRecDepth 100000 in
theorem laws_szIntS.calls (A0 : Option Addr) (c0 : Nat) (l0 : List Int) (a1 : Int) (r : Int) (w : World) (hr0 : Kd.C (Kd.int .i64) w A0 l0.length l0) (hc0 : l0.length ≤ c0) (h : laws_szIntS.f l0 a1 = some r) :
  Calls Tryd.prog 22 #[.slice A0 l0.length c0, .int .i64 a1] w fun e w' => e = .returned (.int .i64 r) ∧ Drawn0 w w' := by
 have HR0 := Aside0.mk hr0; have HC0 := Aside0.mk hc0; clear hr0 hc0; have H : (if (wrap64 (a1 - (l0.length : Int))) < 0 then (some (-1)) else (some (wrap64 (a1 - (l0.length : Int))))) = some r := h; clear h
 by_cases c3 : (wrap64 (a1 - (l0.length : Int))) < 0
 ·
  rw [if_pos c3] at H
  have c3b0 : decide ((wrap64 (a1 - (l0.length : Int))) < 0) = true := decide_eq_true c3; clear c3; obtain rfl := Option.some.inj H
  go_enter Tryd.func22, Tryd.ntmps22
  go_wp2
  go_ret
  exact ⟨y0_10, y0_8⟩
 rw [if_neg c3] at H
 have c3b0 : decide ((wrap64 (a1 - (l0.length : Int))) < 0) = false := decide_eq_false c3; clear c3; obtain rfl := Option.some.inj H
 go_enter Tryd.func22, Tryd.ntmps22
 go_wp2
 go_ret
 exact ⟨y0_10, y0_8⟩

/-! ### laws_szQc: function 14 -/
def laws_szQc.f (a0_0 : Int) (a0_1 : ByteArray) (l0_2 : List Int) (a1 : Int) : Option (Int) := if (wrap64 (a1 - (a0_1.size : Int))) < 0 then (some (-1)) else ((laws_szIntS.f l0_2 (wrap64 (a1 - (a0_1.size : Int)))).bind fun t102 => (if t102 < 0 then (some (-1)) else (some t102)))
set_option maxHeartbeats 8000000 in
set_option maxRecDepth 100000 in
theorem laws_szQc.calls (a0_0 : Int) (a0_1 : ByteArray) (A0_2 : Option Addr) (c0_2 : Nat) (l0_2 : List Int) (a1 : Int) (r : Int) (w : World) (hr0_2 : Kd.C (Kd.int .i64) w A0_2 l0_2.length l0_2) (hc0_2 : l0_2.length ≤ c0_2) (h : laws_szQc.f a0_0 a0_1 l0_2 a1 = some r) :
  Calls Tryd.prog 14 #[.agg #[.int .i64 a0_0, .string a0_1, .slice A0_2 l0_2.length c0_2], .int .i64 a1] w fun e w' => e = .returned (.int .i64 r) ∧ Below w.heap.size w w' := by
 have hu26 := Tryd.underlying26; have HR0_2 := Aside0.mk hr0_2; have HC0_2 := Aside0.mk hc0_2; clear hr0_2 hc0_2; have HB := Aside0.mk (Below.refl w.heap.size w)
 have H : (if (wrap64 (a1 - (a0_1.size : Int))) < 0 then (some (-1)) else ((laws_szIntS.f l0_2 (wrap64 (a1 - (a0_1.size : Int)))).bind fun t102 => (if t102 < 0 then (some (-1)) else (some t102)))) = some r := h
 clear h
 by_cases c3 : (wrap64 (a1 - (a0_1.size : Int))) < 0
 ·
  rw [if_pos c3] at H
  have c3b0 : decide ((wrap64 (a1 - (a0_1.size : Int))) < 0) = true := decide_eq_true c3; clear c3; obtain rfl := Option.some.inj H
  go_enter Tryd.func14, Tryd.ntmps14
  go_wp2_with (first | ((with_reducible refine gd 2 ?_); refine bA 2 #[.int .i64 a0_0, .string a0_1, .slice A0_2 l0_2.length c0_2] 26 ?_; intro gb101 hg w4 hbox hb; have BK101 := Aside0.mk (hbox); have GW101 := bg hg HB; have GJ101 := gi GW101; have GE101 := GW101; replace HB := bs HB hb; clear hb hbox hg; obtain ⟨hcz5_0, hcz5_1, hcz5_2, hfz5_0, hfz5_1, hfz5_2⟩ := cs3 BK101))
  go_ret
  exact ⟨y0_7, bI HB.out⟩
 rw [if_neg c3] at H
 have c3b0 : decide ((wrap64 (a1 - (a0_1.size : Int))) < 0) = false := decide_eq_false c3; clear c3; obtain ⟨t102, A60, H⟩ := Option.bind_eq_some_iff.mp H
 try dsimp only at H
 have A6 := Aside0.mk A60; clear A60
 by_cases c7 : t102 < 0
 ·
  rw [if_pos c7] at H
  have c7b0 : decide (t102 < 0) = true := decide_eq_true c7; clear c7; obtain rfl := Option.some.inj H
  go_enter Tryd.func14, Tryd.ntmps14
  go_wp2_with (first | ((with_reducible refine gd 2 ?_); refine bA 2 #[.int .i64 a0_0, .string a0_1, .slice A0_2 l0_2.length c0_2] 26 ?_; intro gb101 hg w8 hbox hb; have BK101 := Aside0.mk (hbox); have GW101 := bg hg HB; have GJ101 := gi GW101; have GE101 := GW101; replace HB := bs HB hb; clear hb hbox hg; obtain ⟨hcz9_0, hcz9_1, hcz9_2, hfz9_0, hfz9_1, hfz9_2⟩ := cs3 BK101) | ((with_reducible refine gate_callee (f := 22) rfl ?_); refine gB (some 15) Tryd.func22 #[.slice A0_2 l0_2.length c0_2, .int .i64 (wrap64 (a1 - (a0_1.size : Int)))] ?_; (with_reducible refine (laws_szIntS.calls _ _ l0_2 (wrap64 (a1 - (a0_1.size : Int))) t102 _ ?side1 ?side2 A6.out).mono ?_); (case side1 => exact ch HR0_2 HB); (case side2 => exact HC0_2.out); rintro e w' ⟨rfl, ⟨nd, rfl⟩⟩; refine ⟨_, rfl, ?_⟩))
  go_ret
  exact ⟨y0_7, bI HB.out⟩
 rw [if_neg c7] at H
 have c7b0 : decide (t102 < 0) = false := decide_eq_false c7; clear c7; obtain rfl := Option.some.inj H
 go_enter Tryd.func14, Tryd.ntmps14
 go_wp2_with (first | ((with_reducible refine gd 2 ?_); refine bA 2 #[.int .i64 a0_0, .string a0_1, .slice A0_2 l0_2.length c0_2] 26 ?_; intro gb101 hg w10 hbox hb; have BK101 := Aside0.mk (hbox); have GW101 := bg hg HB; have GJ101 := gi GW101; have GE101 := GW101; replace HB := bs HB hb; clear hb hbox hg; obtain ⟨hcz11_0, hcz11_1, hcz11_2, hfz11_0, hfz11_1, hfz11_2⟩ := cs3 BK101) | ((with_reducible refine gate_callee (f := 22) rfl ?_); refine gB (some 15) Tryd.func22 #[.slice A0_2 l0_2.length c0_2, .int .i64 (wrap64 (a1 - (a0_1.size : Int)))] ?_; (with_reducible refine (laws_szIntS.calls _ _ l0_2 (wrap64 (a1 - (a0_1.size : Int))) t102 _ ?side1 ?side2 A6.out).mono ?_); (case side1 => exact ch HR0_2 HB); (case side2 => exact HC0_2.out); rintro e w' ⟨rfl, ⟨nd, rfl⟩⟩; refine ⟨_, rfl, ?_⟩))
 go_ret
 exact ⟨y0_7, bI HB.out⟩

/-! ### laws_szSafe: function 4 -/
def laws_szSafe.f (a0_0 : Int) (a0_1 : Int) (a0_2 : Int) (a0_3 : ByteArray) (l0_4 : List Int) (a0_5 : ByteArray) (a1 : Int) : Option (Int) := (laws_szQc.f a0_2 a0_3 l0_4 a1).bind fun t104 => (if t104 < 0 then (some (-1)) else (if (wrap64 (t104 - (a0_5.size : Int))) < 0 then (some (-1)) else (some (wrap64 (t104 - (a0_5.size : Int))))))
set_option maxHeartbeats 8000000 in
set_option maxRecDepth 100000 in
theorem laws_szSafe.calls (a0_0 : Int) (a0_1 : Int) (a0_2 : Int) (a0_3 : ByteArray) (A0_4 : Option Addr) (c0_4 : Nat) (l0_4 : List Int) (a0_5 : ByteArray) (a1 : Int) (r : Int) (w : World) (hr0_4 : Kd.C (Kd.int .i64) w A0_4 l0_4.length l0_4) (hc0_4 : l0_4.length ≤ c0_4) (h : laws_szSafe.f a0_0 a0_1 a0_2 a0_3 l0_4 a0_5 a1 = some r) :
  Calls Tryd.prog 4 #[.agg #[.int .i64 a0_0, .int .i64 a0_1, .int .i64 a0_2, .string a0_3, .slice A0_4 l0_4.length c0_4, .string a0_5], .int .i64 a1] w fun e w' => e = .returned (.int .i64 r) ∧ Below w.heap.size w w' := by
 have hu28 := Tryd.underlying28; have hu26 := Tryd.underlying26; have HR0_4 := Aside0.mk hr0_4; have HC0_4 := Aside0.mk hc0_4; clear hr0_4 hc0_4; have HB := Aside0.mk (Below.refl w.heap.size w)
 have H : ((laws_szQc.f a0_2 a0_3 l0_4 a1).bind fun t104 => (if t104 < 0 then (some (-1)) else (if (wrap64 (t104 - (a0_5.size : Int))) < 0 then (some (-1)) else (some (wrap64 (t104 - (a0_5.size : Int))))))) = some r := h
 clear h; obtain ⟨t104, A30, H⟩ := Option.bind_eq_some_iff.mp H
 try dsimp only at H
 have A3 := Aside0.mk A30; clear A30
 by_cases c4 : t104 < 0
 ·
  rw [if_pos c4] at H
  have c4b0 : decide (t104 < 0) = true := decide_eq_true c4; clear c4; obtain rfl := Option.some.inj H
  go_enter Tryd.func4, Tryd.ntmps4
  go_wp2_with (first | ((with_reducible refine gd 2 ?_); refine bA 2 #[.int .i64 a0_0, .int .i64 a0_1, .int .i64 a0_2, .string a0_3, .slice A0_4 l0_4.length c0_4, .string a0_5] 28 ?_; intro gb103 hg w5 hbox hb; have BK103 := Aside0.mk (hbox); have GW103 := bg hg HB; have GJ103 := gi GW103; have GE103 := GW103; replace HB := bs HB hb; clear hb hbox hg; have hcz6_0 := bc0 BK103.out; have hcz6_1 := bc1 BK103.out; have hcz6_2 := bc2 BK103.out; have hcz6_3 := bc3 BK103.out; have hcz6_4 := bc4 BK103.out; have hcz6_5 := bc5 BK103.out; have hfz6_0 := blk_frozen BK103.out 0; have hfz6_1 := blk_frozen BK103.out 1; have hfz6_2 := blk_frozen BK103.out 2; have hfz6_3 := blk_frozen BK103.out 3; have hfz6_4 := blk_frozen BK103.out 4; have hfz6_5 := blk_frozen BK103.out 5) | ((with_reducible refine gate_callee (f := 14) rfl ?_); refine gB (some 8) Tryd.func14 #[.agg #[.int .i64 a0_2, .string a0_3, .slice A0_4 l0_4.length c0_4], .int .i64 a1] ?_; (with_reducible refine (laws_szQc.calls a0_2 a0_3 _ _ l0_4 a1 t104 _ ?side1 ?side2 A3.out).mono ?_); (case side1 => exact ch HR0_4 HB); (case side2 => exact HC0_4.out); rintro e w7 ⟨rfl, hb⟩; refine ⟨_, rfl, ?_⟩; replace BK103 := bk BK103 hb; replace HB := bs HB hb; (try clear hb); (try clear hb2); (try clear hk); (try clear hi)))
  go_ret
  exact ⟨y0_7, bI HB.out⟩
 rw [if_neg c4] at H
 have c4b0 : decide (t104 < 0) = false := decide_eq_false c4; clear c4
 by_cases c8 : (wrap64 (t104 - (a0_5.size : Int))) < 0
 ·
  rw [if_pos c8] at H
  have c8b0 : decide ((wrap64 (t104 - (a0_5.size : Int))) < 0) = true := decide_eq_true c8; clear c8; obtain rfl := Option.some.inj H
  go_enter Tryd.func4, Tryd.ntmps4
  go_wp2_with (first | ((with_reducible refine gd 2 ?_); refine bA 2 #[.int .i64 a0_0, .int .i64 a0_1, .int .i64 a0_2, .string a0_3, .slice A0_4 l0_4.length c0_4, .string a0_5] 28 ?_; intro gb103 hg w9 hbox hb; have BK103 := Aside0.mk (hbox); have GW103 := bg hg HB; have GJ103 := gi GW103; have GE103 := GW103; replace HB := bs HB hb; clear hb hbox hg; have hcz10_0 := bc0 BK103.out; have hcz10_1 := bc1 BK103.out; have hcz10_2 := bc2 BK103.out; have hcz10_3 := bc3 BK103.out; have hcz10_4 := bc4 BK103.out; have hcz10_5 := bc5 BK103.out; have hfz10_0 := blk_frozen BK103.out 0; have hfz10_1 := blk_frozen BK103.out 1; have hfz10_2 := blk_frozen BK103.out 2; have hfz10_3 := blk_frozen BK103.out 3; have hfz10_4 := blk_frozen BK103.out 4; have hfz10_5 := blk_frozen BK103.out 5) | ((with_reducible refine gate_callee (f := 14) rfl ?_); refine gB (some 8) Tryd.func14 #[.agg #[.int .i64 a0_2, .string a0_3, .slice A0_4 l0_4.length c0_4], .int .i64 a1] ?_; (with_reducible refine (laws_szQc.calls a0_2 a0_3 _ _ l0_4 a1 t104 _ ?side1 ?side2 A3.out).mono ?_); (case side1 => exact ch HR0_4 HB); (case side2 => exact HC0_4.out); rintro e w11 ⟨rfl, hb⟩; refine ⟨_, rfl, ?_⟩; replace BK103 := bk BK103 hb; replace HB := bs HB hb; (try clear hb); (try clear hb2); (try clear hk); (try clear hi); have hcz12_0 := bc0 BK103.out; have hcz12_1 := bc1 BK103.out; have hcz12_2 := bc2 BK103.out; have hcz12_3 := bc3 BK103.out; have hcz12_4 := bc4 BK103.out; have hcz12_5 := bc5 BK103.out; have hfz12_0 := blk_frozen BK103.out 0; have hfz12_1 := blk_frozen BK103.out 1; have hfz12_2 := blk_frozen BK103.out 2; have hfz12_3 := blk_frozen BK103.out 3; have hfz12_4 := blk_frozen BK103.out 4; have hfz12_5 := blk_frozen BK103.out 5))
  go_ret
  exact ⟨y0_7, bI HB.out⟩
 rw [if_neg c8] at H
 have c8b0 : decide ((wrap64 (t104 - (a0_5.size : Int))) < 0) = false := decide_eq_false c8; clear c8; obtain rfl := Option.some.inj H
 go_enter Tryd.func4, Tryd.ntmps4
 go_wp2_with (first | ((with_reducible refine gd 2 ?_); refine bA 2 #[.int .i64 a0_0, .int .i64 a0_1, .int .i64 a0_2, .string a0_3, .slice A0_4 l0_4.length c0_4, .string a0_5] 28 ?_; intro gb103 hg w13 hbox hb; have BK103 := Aside0.mk (hbox); have GW103 := bg hg HB; have GJ103 := gi GW103; have GE103 := GW103; replace HB := bs HB hb; clear hb hbox hg; have hcz14_0 := bc0 BK103.out; have hcz14_1 := bc1 BK103.out; have hcz14_2 := bc2 BK103.out; have hcz14_3 := bc3 BK103.out; have hcz14_4 := bc4 BK103.out; have hcz14_5 := bc5 BK103.out; have hfz14_0 := blk_frozen BK103.out 0; have hfz14_1 := blk_frozen BK103.out 1; have hfz14_2 := blk_frozen BK103.out 2; have hfz14_3 := blk_frozen BK103.out 3; have hfz14_4 := blk_frozen BK103.out 4; have hfz14_5 := blk_frozen BK103.out 5) | ((with_reducible refine gate_callee (f := 14) rfl ?_); refine gB (some 8) Tryd.func14 #[.agg #[.int .i64 a0_2, .string a0_3, .slice A0_4 l0_4.length c0_4], .int .i64 a1] ?_; (with_reducible refine (laws_szQc.calls a0_2 a0_3 _ _ l0_4 a1 t104 _ ?side1 ?side2 A3.out).mono ?_); (case side1 => exact ch HR0_4 HB); (case side2 => exact HC0_4.out); rintro e w15 ⟨rfl, hb⟩; refine ⟨_, rfl, ?_⟩; replace BK103 := bk BK103 hb; replace HB := bs HB hb; (try clear hb); (try clear hb2); (try clear hk); (try clear hi); have hcz16_0 := bc0 BK103.out; have hcz16_1 := bc1 BK103.out; have hcz16_2 := bc2 BK103.out; have hcz16_3 := bc3 BK103.out; have hcz16_4 := bc4 BK103.out; have hcz16_5 := bc5 BK103.out; have hfz16_0 := blk_frozen BK103.out 0; have hfz16_1 := blk_frozen BK103.out 1; have hfz16_2 := blk_frozen BK103.out 2; have hfz16_3 := blk_frozen BK103.out 3; have hfz16_4 := blk_frozen BK103.out 4; have hfz16_5 := blk_frozen BK103.out 5))
 go_ret
 exact ⟨y0_7, bI HB.out⟩

/-! ### spec_l1In: function 26 -/
def spec_l1In.f (a0 : Int) (a1 : Int) (a2 : Int) : Option (Bool) := if a0 ≥ a1 then (some (decide (a0 ≤ a2))) else (some false)
set_option maxHeartbeats 8000000 in
set_option maxRecDepth 100000 in
theorem spec_l1In.calls (a0 : Int) (a1 : Int) (a2 : Int) (r : Bool) (w : World) (h : spec_l1In.f a0 a1 a2 = some r) :
  Calls Tryd.prog 26 #[.int .i64 a0, .int .i64 a1, .int .i64 a2] w fun e w' => e = .returned (.bool r) ∧ Drawn0 w w' := by
 have H : (if a0 ≥ a1 then (some (decide (a0 ≤ a2))) else (some false)) = some r := h; clear h
 by_cases c4 : a0 ≥ a1
 ·
  rw [if_pos c4] at H
  have c4b0 : decide (a1 ≤ a0) = true := decide_eq_true c4; clear c4; obtain rfl := Option.some.inj H
  go_enter Tryd.func26, Tryd.ntmps26
  go_wp2
  go_ret
  exact ⟨y0_10, y0_8⟩
 rw [if_neg c4] at H
 have c4b0 : decide (a1 ≤ a0) = false := decide_eq_false c4; clear c4; obtain rfl := Option.some.inj H
 go_enter Tryd.func26, Tryd.ntmps26
 go_wp2
 go_ret
 exact ⟨y0_10, y0_8⟩

/-! ### spec_PutNum: function 16 -/
def spec_PutNum.l0 : Nat → Int → List Int → Option (List Int)
 | 0, _, _ => none
 | k + 1, x0, x3 => if x0 > 127 then (if x3.length < 140737488355328 then (spec_PutNum.l0 k (wrap64 (Int.tdiv x0 128)) (x3 ++ [(wrap64 ((Int.tmod x0 128) + 128)) % 256])) else (none)) else (if x3.length < 140737488355328 then (some (x3 ++ [(x0) % 256])) else (none))
def spec_PutNum.f (k : Nat) (a0 : Int) : Option (List Int) := (some (([] : List Int) : List Int)).bind fun y105 => ((spec_l1In.f a0 0 2147483647).bind fun t108 => (if t108 = true then (spec_PutNum.l0 k a0 y105) else (some y105)))
theorem spec_PutNum.mono_l : ∀ k, (∀ y0 y1, LeO (spec_PutNum.l0 k y0 y1) (spec_PutNum.l0 (k + 1) y0 y1))
 | 0 => fun _ _ r h => by simp [spec_PutNum.l0] at h
 | k + 1 => by
  have ih0 := spec_PutNum.mono_l k
  intro y0 y1
  unfold spec_PutNum.l0
  repeat' first | (with_reducible exact ih0 _ _) | (with_reducible exact LeO.refl _) | (with_reducible exact LeO.none _) | (with_reducible refine LeO.ite ?_ ?_) | (with_reducible refine LeO.bind ?_ (fun _ => ?_))
theorem spec_PutNum.mono : ∀ a0 k, LeO (spec_PutNum.f k a0) (spec_PutNum.f (k + 1) a0) := by
 intro a0 k
 have ih0 := spec_PutNum.mono_l k
 unfold spec_PutNum.f
 repeat' first | (with_reducible exact ih0 _ _) | (with_reducible exact LeO.refl _) | (with_reducible exact LeO.none _) | (with_reducible refine LeO.ite ?_ ?_) | (with_reducible refine LeO.bind ?_ (fun _ => ?_))
set_option maxHeartbeats 8000000 in
set_option maxRecDepth 100000 in
theorem spec_PutNum.calls (k : Nat) (a0 : Int) (r : List Int) (w : World) (h : spec_PutNum.f k a0 = some r) :
  Calls Tryd.prog 16 #[.int .i64 a0] w fun e w' => ∃ v0_ : Value, e = .returned (v0_) ∧ Kd.R (Kd.int .u8) 5 w' w.heap.size (fun _ => True) v0_ r ∧ Below w.heap.size w w' := by
 have HB := Aside0.mk (Below.refl w.heap.size w)
 have H : ((some (([] : List Int) : List Int)).bind fun y105 => ((spec_l1In.f a0 0 2147483647).bind fun t108 => (if t108 = true then (spec_PutNum.l0 k a0 y105) else (some y105)))) = some r := h
 clear h; obtain ⟨y105, hy105⟩ : ∃ y_ : List Int, y_ = (([] : List Int)) := ⟨_, rfl⟩
 replace H : ((spec_l1In.f a0 0 2147483647).bind fun t108 => (if t108 = true then (spec_PutNum.l0 k a0 y105) else (some y105))) = some r := by first | (rw [hy105]; with_reducible exact H) | (have H2_ := (Option.bind_some _ _).symm.trans H; rw [hy105]; with_reducible exact H2_) | (have H2_ := (Option.bind_some _ _).symm.trans H; with_reducible exact H2_) | with_reducible exact H | (rw [hy105]; exact H) | exact H
 have Ny105 := Aside0.mk hy105; clear hy105; obtain ⟨t108, A20, H⟩ := Option.bind_eq_some_iff.mp H
 try dsimp only at H
 have A2 := Aside0.mk A20; clear A20
 by_cases c3 : t108 = true
 ·
  subst c3
  rw [if_pos rfl] at H
  have H' := Aside0.mk H; clear H
  go_enter Tryd.func16, Tryd.ntmps16
  go_wp2_with (first | ((with_reducible refine gate_dst (N := 4) rfl ?_); refine Kd.R_lit (Kd.int .u8) _ 5 ?hg (N := 4) ?hd (xs := ([] : List Int)) (inner := []) (ok := fun _ => True) (okp := fun _ => True) ?hr ?hp (fun _ hk => hk) trivial (Below.refl _ _) (Nat.le_refl _) (by simp) ?_; (case hd => rfl); (case hg => rfl); (case hr => first | (go_simp; done) | (go_simp; rfl)); (case hp => exact (Reps.none _ _)); intro v106 w4 ho5 hb hg_ hnew_; clear hg_ hnew_; (first | rw [← Ny105.out] at ho5 | (simp only [Int.reduceToNat] at ho5; rw [← Ny105.out] at ho5)); have HO107 := Aside0.mk (Kd.R_lower ho5 (below_size (bI HB.out))); replace HB := bs HB hb; clear hb ho5) | ((with_reducible refine gate_callee (f := 26) rfl ?_); refine gB (some 6) Tryd.func26 #[.int .i64 a0, .int .i64 0, .int .i64 2147483647] ?_; (with_reducible refine (spec_l1In.calls a0 0 2147483647 true _ A2.out).mono ?_); rintro e w' ⟨rfl, ⟨nd, rfl⟩⟩; refine ⟨_, rfl, ?_⟩))
  go_loopg [0, 3] k (fun kq v0 v3 w' => ∃ (x0_1 : Int) (x3_1 : List Int), v0 = .int .i64 x0_1 ∧ Aside0 (spec_PutNum.l0 kq x0_1 x3_1 = some r) ∧ Aside0 (kq ≤ k) ∧ Aside0 (Kd.R (Kd.int .u8) 5 w' w.heap.size (fun _ => True) v3 x3_1) ∧ Aside0 (Below w.heap.size w w'))
  case atStart => exact ⟨(a0), (y105), y0_10, H', ⟨Nat.le_refl _⟩, ⟨by (with_reducible repeat (first | apply Kd.R_alloc | apply Kd.R_drewN | apply Kd.R_drew)); exact HO107.out⟩, ⟨bI HB.out⟩⟩
  case round =>
   clear H'
   try clear c1
   try clear c2
   try clear p2
   try clear c3
   obtain ⟨x0_1, x3_1, rfl, HA, HK1, HO_3, HB⟩ := hrel; cases gk with
   | zero => exact absurd HA.out (by simp [spec_PutNum.l0])
   | succ k1 =>
    have H := HA.out; clear HA
    simp only [spec_PutNum.l0] at H
    by_cases c6 : x0_1 > 127
    ·
     rw [if_pos c6] at H
     have c6b0 : decide (127 < x0_1) = true := decide_eq_true c6; clear c6
     by_cases c7 : x3_1.length < 140737488355328
     rotate_left
     ·
      rw [if_neg c7] at H
      exact absurd H (by simp)
     rw [if_pos c7] at H
     have LMc7 := Aside0.mk c7; clear c7; obtain ⟨y109, hy109⟩ : ∃ y_ : List Int, y_ = (x3_1 ++ [(wrap64 ((Int.tmod x0_1 128) + 128)) % 256]) := ⟨_, rfl⟩
     replace H : (spec_PutNum.l0 k1 (wrap64 (Int.tdiv x0_1 128)) y109) = some r := by first | (rw [hy109]; with_reducible exact H) | (have H2_ := (Option.bind_some _ _).symm.trans H; rw [hy109]; with_reducible exact H2_) | (have H2_ := (Option.bind_some _ _).symm.trans H; with_reducible exact H2_) | with_reducible exact H | (rw [hy109]; exact H) | exact H
     have Ny109 := Aside0.mk hy109; clear hy109; have H' := Aside0.mk H; clear H
     go_wp2_with (first | ((with_reducible refine gate_builtin (b := .append) (xs := #[.tmp 11, .tmp 16]) rfl ?_); at_builtin; refine Kd.R_append (Kd.int .u8) (w0 := w) w.heap.size rfl (.tmp 11) (.tmp 16) 30 5 (.int .u8 0) 1 rfl Tryd.underlying30 info5 rfl (by decide) (by omega) u3 x3_1 ((wrap64 ((Int.tmod x0_1 128) + 128)) % 256) [.int .u8 ((wrap64 ((Int.tmod x0_1 128) + 128)) % 256)] (fun _ => True) (fun _ => False) rfl rfl ?aP (fun _ hk => hk.elim) ?aF ?aO ?aB ?aS ?aL ?_; (case aP => exact rfl); (case aB => exact (bI HB.out)); (case aF => exact (fun _ _ => trivial)); (case aO => exact (rI HO_3.out)); (case aS => exact (below_size (bI HB.out))); (case aL => have := LMc7.out; omega); intro v110 w8 ho hb hg hat; rw [← Ny109.out] at ho; have n0_ := Aside0.mk (hb); have n1_ := Aside0.mk (ho); clear HB; clear HO_3; have HB := n0_; have HO111 := n1_; clear n0_ n1_; clear ho hb hg hat))
     go_roundg k1
     case measure => have := HK1.out; omega
     case rel => exact ⟨(wrap64 (Int.tdiv x0_1 128)), (y109), y0_10, H', ⟨y0_14⟩, ⟨by (with_reducible repeat (first | apply Kd.R_alloc | apply Kd.R_drewN | apply Kd.R_drew)); exact HO111.out⟩, ⟨bI HB.out⟩⟩
    rw [if_neg c6] at H
    have c6b0 : decide (127 < x0_1) = false := decide_eq_false c6; clear c6
    by_cases c9 : x3_1.length < 140737488355328
    rotate_left
    ·
     rw [if_neg c9] at H
     exact absurd H (by simp)
    rw [if_pos c9] at H
    have LMc9 := Aside0.mk c9; clear c9; obtain ⟨y112, hy112⟩ : ∃ y_ : List Int, y_ = (x3_1 ++ [(x0_1) % 256]) := ⟨_, rfl⟩
    replace H : (some y112) = some r := by first | (rw [hy112]; with_reducible exact H) | (have H2_ := (Option.bind_some _ _).symm.trans H; rw [hy112]; with_reducible exact H2_) | (have H2_ := (Option.bind_some _ _).symm.trans H; with_reducible exact H2_) | with_reducible exact H | (rw [hy112]; exact H) | exact H
    have Ny112 := Aside0.mk hy112; clear hy112; obtain rfl := Option.some.inj H
    go_wp2_with (first | ((with_reducible refine gate_builtin (b := .append) (xs := #[.tmp 20, .tmp 23]) rfl ?_); at_builtin; refine Kd.R_append (Kd.int .u8) (w0 := w) w.heap.size rfl (.tmp 20) (.tmp 23) 30 5 (.int .u8 0) 1 rfl Tryd.underlying30 info5 rfl (by decide) (by omega) u3 x3_1 ((x0_1) % 256) [.int .u8 ((x0_1) % 256)] (fun _ => True) (fun _ => False) rfl rfl ?aP (fun _ hk => hk.elim) ?aF ?aO ?aB ?aS ?aL ?_; (case aP => exact rfl); (case aB => exact (bI HB.out)); (case aF => exact (fun _ _ => trivial)); (case aO => exact (rI HO_3.out)); (case aS => exact (below_size (bI HB.out))); (case aL => have := LMc9.out; omega); intro v113 w10 ho hb hg hat; rw [← Ny112.out] at ho; have n0_ := Aside0.mk (hb); have n1_ := Aside0.mk (ho); clear HB; clear HO_3; have HB := n0_; have HO114 := n1_; clear n0_ n1_; clear ho hb hg hat))
    go_ret
    exact ⟨_, y0_7, by (with_reducible repeat (first | apply Kd.R_alloc | apply Kd.R_drewN | apply Kd.R_drew)); exact HO114.out, bI HB.out⟩
 replace c3 := Bool.eq_false_iff.mpr c3; subst c3
 rw [if_neg (show ¬ (false = true) by decide)] at H
 obtain rfl := Option.some.inj H
 go_enter Tryd.func16, Tryd.ntmps16
 go_wp2_with (first | ((with_reducible refine gate_dst (N := 4) rfl ?_); refine Kd.R_lit (Kd.int .u8) _ 5 ?hg (N := 4) ?hd (xs := ([] : List Int)) (inner := []) (ok := fun _ => True) (okp := fun _ => True) ?hr ?hp (fun _ hk => hk) trivial (Below.refl _ _) (Nat.le_refl _) (by simp) ?_; (case hd => rfl); (case hg => rfl); (case hr => first | (go_simp; done) | (go_simp; rfl)); (case hp => exact (Reps.none _ _)); intro v106 w11 ho12 hb hg_ hnew_; clear hg_ hnew_; (first | rw [← Ny105.out] at ho12 | (simp only [Int.reduceToNat] at ho12; rw [← Ny105.out] at ho12)); have HO107 := Aside0.mk (Kd.R_lower ho12 (below_size (bI HB.out))); replace HB := bs HB hb; clear hb ho12) | ((with_reducible refine gate_callee (f := 26) rfl ?_); refine gB (some 6) Tryd.func26 #[.int .i64 a0, .int .i64 0, .int .i64 2147483647] ?_; (with_reducible refine (spec_l1In.calls a0 0 2147483647 false _ A2.out).mono ?_); rintro e w' ⟨rfl, ⟨nd, rfl⟩⟩; refine ⟨_, rfl, ?_⟩))
 go_ret
 exact ⟨_, y0_7, by (with_reducible repeat (first | apply Kd.R_alloc | apply Kd.R_drewN | apply Kd.R_drew)); exact HO107.out, bI HB.out⟩

/-! ### spec_Split: function 51 -/
def spec_Split.l0 : Nat → ByteArray → Int → List ByteArray → Int → Int → Option (List ByteArray)
 | 0, _, _, _, _, _ => none
 | k + 1, x0, x1, x5, x6, x7 => if x7 ≤ (x0.size : Int) then (if x7 = (x0.size : Int) then (if 0 ≤ x6 then (if x6 ≤ x7 then (if x5.length < 8796093022208 then (spec_Split.l0 k x0 x1 (x5 ++ [x0.extract (x6 : Int).toNat (x7 : Int).toNat]) (wrap64 (x7 + 1)) (wrap64 (x7 + 1))) else (none)) else (none)) else (none)) else (if 0 ≤ x7 then (if x7 < (x0.size : Int) then (if (bt x0 x7) = x1 then (if 0 ≤ x6 then (if x6 ≤ x7 then (if x5.length < 8796093022208 then (spec_Split.l0 k x0 x1 (x5 ++ [x0.extract (x6 : Int).toNat (x7 : Int).toNat]) (wrap64 (x7 + 1)) (wrap64 (x7 + 1))) else (none)) else (none)) else (none)) else (spec_Split.l0 k x0 x1 x5 x6 (wrap64 (x7 + 1)))) else (none)) else (none))) else (some x5)
def spec_Split.f (k : Nat) (a0 : ByteArray) (a1 : Int) : Option (List ByteArray) := spec_Split.l0 k a0 a1 (([] : List ByteArray)) 0 0
theorem spec_Split.mono_l : ∀ k, (∀ y0 y1 y2 y3 y4, LeO (spec_Split.l0 k y0 y1 y2 y3 y4) (spec_Split.l0 (k + 1) y0 y1 y2 y3 y4))
 | 0 => fun _ _ _ _ _ r h => by simp [spec_Split.l0] at h
 | k + 1 => by
  have ih0 := spec_Split.mono_l k
  intro y0 y1 y2 y3 y4
  unfold spec_Split.l0
  repeat' first | (with_reducible exact ih0 _ _ _ _ _) | (with_reducible exact LeO.refl _) | (with_reducible exact LeO.none _) | (with_reducible refine LeO.ite ?_ ?_) | (with_reducible refine LeO.bind ?_ (fun _ => ?_))
theorem spec_Split.mono : ∀ a0 a1 k, LeO (spec_Split.f k a0 a1) (spec_Split.f (k + 1) a0 a1) := by
 intro a0 a1 k
 have ih0 := spec_Split.mono_l k
 unfold spec_Split.f
 repeat' first | (with_reducible exact ih0 _ _ _ _ _) | (with_reducible exact LeO.refl _) | (with_reducible exact LeO.none _) | (with_reducible refine LeO.ite ?_ ?_) | (with_reducible refine LeO.bind ?_ (fun _ => ?_))
set_option maxHeartbeats 8000000 in
set_option maxRecDepth 100000 in
theorem spec_Split.calls (k : Nat) (a0 : ByteArray) (a1 : Int) (r : List ByteArray) (w : World) (h : spec_Split.f k a0 a1 = some r) :
  Calls Tryd.prog 51 #[.string a0, .int .u8 a1] w fun e w' => ∃ v0_ : Value, e = .returned (v0_) ∧ Kd.R Kd.string 9 w' w.heap.size (fun _ => True) v0_ r ∧ Below w.heap.size w w' := by
 have HB := Aside0.mk (Below.refl w.heap.size w); have H : (spec_Split.l0 k a0 a1 (([] : List ByteArray)) 0 0) = some r := h; clear h; obtain ⟨y115, hy115⟩ : ∃ y_ : List ByteArray, y_ = (([] : List ByteArray)) := ⟨_, rfl⟩
 replace H : (spec_Split.l0 k a0 a1 y115 0 0) = some r := by first | (rw [hy115]; with_reducible exact H) | (have H2_ := (Option.bind_some _ _).symm.trans H; rw [hy115]; with_reducible exact H2_) | (have H2_ := (Option.bind_some _ _).symm.trans H; with_reducible exact H2_) | with_reducible exact H | (rw [hy115]; exact H) | exact H
 have Ny115 := Aside0.mk hy115; clear hy115; have H' := Aside0.mk H; clear H
 go_enter Tryd.func51, Tryd.ntmps51
 go_wp2_with (first | ((with_reducible refine gate_dst (N := 8) rfl ?_); refine Kd.R_lit Kd.string _ 9 ?hg (N := 8) ?hd (xs := ([] : List ByteArray)) (inner := []) (ok := fun _ => True) (okp := fun _ => True) ?hr ?hp (fun _ hk => hk) trivial (Below.refl _ _) (Nat.le_refl _) (by simp) ?_; (case hd => rfl); (case hg => rfl); (case hr => first | (go_simp; done) | (go_simp; rfl)); (case hp => exact (Reps.none _ _)); intro v116 w3 ho4 hb hg_ hnew_; clear hg_ hnew_; (first | rw [← Ny115.out] at ho4 | (simp only [Int.reduceToNat] at ho4; rw [← Ny115.out] at ho4)); have HO117 := Aside0.mk (Kd.R_lower ho4 (below_size (bI HB.out))); replace HB := bs HB hb; clear hb ho4))
 go_loopg [5, 6, 7] k (fun kq v5 v6 v7 w' => ∃ (x5_1 : List ByteArray) (x6_1 : Int) (x7_1 : Int), v6 = .int .i64 x6_1 ∧ v7 = .int .i64 x7_1 ∧ Aside0 (spec_Split.l0 kq a0 a1 x5_1 x6_1 x7_1 = some r) ∧ Aside0 (kq ≤ k) ∧ Aside0 (Kd.R Kd.string 9 w' w.heap.size (fun _ => True) v5 x5_1) ∧ Aside0 (Below w.heap.size w w'))
 case atStart => exact ⟨(y115), (0), (0), y0_10, y0_10, H', ⟨Nat.le_refl _⟩, ⟨by (with_reducible repeat (first | apply Kd.R_alloc | apply Kd.R_drewN | apply Kd.R_drew)); exact HO117.out⟩, ⟨bI HB.out⟩⟩
 case round =>
  clear H'
  try clear p2
  obtain ⟨x5_1, x6_1, x7_1, rfl, rfl, HA, HK1, HO_5, HB⟩ := hrel; cases gk with
  | zero => exact absurd HA.out (by simp [spec_Split.l0])
  | succ k1 =>
   have H := HA.out; clear HA
   simp only [spec_Split.l0] at H
   by_cases c5 : x7_1 ≤ (a0.size : Int)
   ·
    rw [if_pos c5] at H
    have c5b0 : decide (x7_1 ≤ (a0.size : Int)) = true := decide_eq_true c5; clear c5
    by_cases c6 : x7_1 = (a0.size : Int)
    ·
     rw [if_pos c6] at H
     have c6b0 : (x7_1 == (a0.size : Int)) = true := beq_iff_eq.mpr c6; have c6b1 : (x7_1 != (a0.size : Int)) = false := bne_eq_false_iff_eq.mpr c6; clear c6
     by_cases c7 : 0 ≤ x6_1
     rotate_left
     ·
      rw [if_neg c7] at H
      exact absurd H (by simp)
     rw [if_pos c7] at H
     have c7b0 := eq_true c7; have c7b1 : decide (0 ≤ x6_1) = true := decide_eq_true c7; clear c7
     by_cases c8 : x6_1 ≤ x7_1
     rotate_left
     ·
      rw [if_neg c8] at H
      exact absurd H (by simp)
     rw [if_pos c8] at H
     have c8b0 := eq_true c8; have c8b1 : decide (x6_1 ≤ x7_1) = true := decide_eq_true c8; clear c8; have c9b0 := eq_true (of_decide_eq_true y0_9 : x7_1 ≤ (a0.size : Int))
     by_cases c10 : x5_1.length < 8796093022208
     rotate_left
     ·
      rw [if_neg c10] at H
      exact absurd H (by simp)
     rw [if_pos c10] at H
     have LMc10 := Aside0.mk c10; clear c10; obtain ⟨y118, hy118⟩ : ∃ y_ : List ByteArray, y_ = (x5_1 ++ [a0.extract (x6_1 : Int).toNat (x7_1 : Int).toNat]) := ⟨_, rfl⟩
     replace H : (spec_Split.l0 k1 a0 a1 y118 (wrap64 (x7_1 + 1)) (wrap64 (x7_1 + 1))) = some r := by first | (rw [hy118]; with_reducible exact H) | (have H2_ := (Option.bind_some _ _).symm.trans H; rw [hy118]; with_reducible exact H2_) | (have H2_ := (Option.bind_some _ _).symm.trans H; with_reducible exact H2_) | with_reducible exact H | (rw [hy118]; exact H) | exact H
     have Ny118 := Aside0.mk hy118; clear hy118; have H' := Aside0.mk H; clear H
     go_wp2_with (first | ((with_reducible refine gate_builtin (b := .append) (xs := #[.tmp 26, .tmp 31]) rfl ?_); at_builtin; refine Kd.R_append Kd.string (w0 := w) w.heap.size rfl (.tmp 26) (.tmp 31) 69 9 (.string ⟨#[]⟩) 16 rfl Tryd.underlying69 info9 rfl (by decide) (by omega) u5 x5_1 (a0.extract (x6_1 : Int).toNat (x7_1 : Int).toNat) [.string (a0.extract (x6_1 : Int).toNat (x7_1 : Int).toNat)] (fun _ => True) (fun _ => False) rfl rfl ?aP (fun _ hk => hk.elim) ?aF ?aO ?aB ?aS ?aL ?_; (case aP => exact rfl); (case aB => exact (bI HB.out)); (case aF => exact (fun _ _ => trivial)); (case aO => exact (rI HO_5.out)); (case aS => exact (below_size (bI HB.out))); (case aL => have := LMc10.out; omega); intro v119 w11 ho hb hg hat; rw [← Ny118.out] at ho; have n0_ := Aside0.mk (hb); have n1_ := Aside0.mk (ho); clear HB; clear HO_5; have HB := n0_; have HO120 := n1_; clear n0_ n1_; clear ho hb hg hat))
     go_roundg k1
     case measure => have := HK1.out; omega
     case rel => exact ⟨(y118), (wrap64 (x7_1 + 1)), (wrap64 (x7_1 + 1)), y0_10, y0_10, H', ⟨y0_14⟩, ⟨by (with_reducible repeat (first | apply Kd.R_alloc | apply Kd.R_drewN | apply Kd.R_drew)); exact HO120.out⟩, ⟨bI HB.out⟩⟩
    rw [if_neg c6] at H
    have c6b0 : (x7_1 == (a0.size : Int)) = false := beq_eq_false_iff_ne.mpr c6; have c6b1 : (x7_1 != (a0.size : Int)) = true := bne_iff_ne.mpr c6
    by_cases c12 : 0 ≤ x7_1
    rotate_left
    ·
     rw [if_neg c12] at H
     exact absurd H (by simp)
    rw [if_pos c12] at H
    have c12b0 : decide (0 ≤ x7_1) = true := decide_eq_true c12; clear c12
    by_cases c13 : x7_1 < (a0.size : Int)
    rotate_left
    ·
     rw [if_neg c13] at H
     exact absurd H (by simp)
    rw [if_pos c13] at H
    have c13b0 : decide (x7_1 < (a0.size : Int)) = true := decide_eq_true c13; clear c13
    by_cases c15 : (bt a0 x7_1) = a1
    ·
     rw [if_pos c15] at H
     have c15b0 : ((bt a0 x7_1) == a1) = true := beq_iff_eq.mpr c15; have c15b1 : ((bt a0 x7_1) != a1) = false := bne_eq_false_iff_eq.mpr c15; clear c15
     by_cases c16 : 0 ≤ x6_1
     rotate_left
     ·
      rw [if_neg c16] at H
      exact absurd H (by simp)
     rw [if_pos c16] at H
     have c16b0 := eq_true c16; have c16b1 : decide (0 ≤ x6_1) = true := decide_eq_true c16; clear c16
     by_cases c17 : x6_1 ≤ x7_1
     rotate_left
     ·
      rw [if_neg c17] at H
      exact absurd H (by simp)
     rw [if_pos c17] at H
     have c17b0 := eq_true c17; have c17b1 : decide (x6_1 ≤ x7_1) = true := decide_eq_true c17; clear c17; have c18b0 := eq_true (of_decide_eq_true y0_9 : x7_1 ≤ (a0.size : Int))
     by_cases c19 : x5_1.length < 8796093022208
     rotate_left
     ·
      rw [if_neg c19] at H
      exact absurd H (by simp)
     rw [if_pos c19] at H
     have LMc19 := Aside0.mk c19; clear c19; obtain ⟨y121, hy121⟩ : ∃ y_ : List ByteArray, y_ = (x5_1 ++ [a0.extract (x6_1 : Int).toNat (x7_1 : Int).toNat]) := ⟨_, rfl⟩
     replace H : (spec_Split.l0 k1 a0 a1 y121 (wrap64 (x7_1 + 1)) (wrap64 (x7_1 + 1))) = some r := by first | (rw [hy121]; with_reducible exact H) | (have H2_ := (Option.bind_some _ _).symm.trans H; rw [hy121]; with_reducible exact H2_) | (have H2_ := (Option.bind_some _ _).symm.trans H; with_reducible exact H2_) | with_reducible exact H | (rw [hy121]; exact H) | exact H
     have Ny121 := Aside0.mk hy121; clear hy121; have H' := Aside0.mk H; clear H; have p14 : 0 ≤ (x7_1 : Int) := of_decide_eq_true y0_9; have q14 : x7_1 < (a0.size : Int) := of_decide_eq_true y0_9; have hx14 := bt_at a0 x7_1; replace p14 := eq_true p14; replace q14 := eq_true q14
     go_wp2_with (first | ((with_reducible refine gate_builtin (b := .append) (xs := #[.tmp 26, .tmp 31]) rfl ?_); at_builtin; refine Kd.R_append Kd.string (w0 := w) w.heap.size rfl (.tmp 26) (.tmp 31) 69 9 (.string ⟨#[]⟩) 16 rfl Tryd.underlying69 info9 rfl (by decide) (by omega) u5 x5_1 (a0.extract (x6_1 : Int).toNat (x7_1 : Int).toNat) [.string (a0.extract (x6_1 : Int).toNat (x7_1 : Int).toNat)] (fun _ => True) (fun _ => False) rfl rfl ?aP (fun _ hk => hk.elim) ?aF ?aO ?aB ?aS ?aL ?_; (case aP => exact rfl); (case aB => exact (bI HB.out)); (case aF => exact (fun _ _ => trivial)); (case aO => exact (rI HO_5.out)); (case aS => exact (below_size (bI HB.out))); (case aL => have := LMc19.out; omega); intro v122 w20 ho hb hg hat; rw [← Ny121.out] at ho; have n0_ := Aside0.mk (hb); have n1_ := Aside0.mk (ho); clear HB; clear HO_5; have HB := n0_; have HO123 := n1_; clear n0_ n1_; clear ho hb hg hat))
     go_roundg k1
     case measure => have := HK1.out; omega
     case rel => exact ⟨(y121), (wrap64 (x7_1 + 1)), (wrap64 (x7_1 + 1)), y0_10, y0_10, H', ⟨y0_14⟩, ⟨by (with_reducible repeat (first | apply Kd.R_alloc | apply Kd.R_drewN | apply Kd.R_drew)); exact HO123.out⟩, ⟨bI HB.out⟩⟩
    rw [if_neg c15] at H
    have c15b0 : ((bt a0 x7_1) == a1) = false := beq_eq_false_iff_ne.mpr c15; have c15b1 : ((bt a0 x7_1) != a1) = true := bne_iff_ne.mpr c15; have H' := Aside0.mk H; clear H; have p14 : 0 ≤ (x7_1 : Int) := of_decide_eq_true y0_9; have q14 : x7_1 < (a0.size : Int) := of_decide_eq_true y0_9; have hx14 := bt_at a0 x7_1; replace p14 := eq_true p14; replace q14 := eq_true q14
    go_wp2
    go_roundg k1
    case measure => have := HK1.out; omega
    case rel => exact ⟨(x5_1), (x6_1), (wrap64 (x7_1 + 1)), y0_10, y0_10, H', ⟨y0_14⟩, ⟨y0_4⟩, ⟨bI HB.out⟩⟩
   rw [if_neg c5] at H
   have c5b0 : decide (x7_1 ≤ (a0.size : Int)) = false := decide_eq_false c5; clear c5; obtain rfl := Option.some.inj H
   go_wp2
   go_ret
   exact ⟨_, y0_7, y0_4, bI HB.out⟩

/-! ### spec_l2Cut: function 52 -/
def spec_l2Cut.l0 : Nat → ByteArray → Int → Int → Option (ByteArray × ByteArray × Bool)
 | 0, _, _, _ => none
 | k + 1, x0, x1, x7 => if x7 < (x0.size : Int) then (if 0 ≤ x7 then (if (bt x0 x7) = x1 then (if x7 ≤ (x0.size : Int) then (if 0 ≤ (wrap64 (x7 + 1)) then (if (wrap64 (x7 + 1)) ≤ (x0.size : Int) then (some (x0.extract 0 (x7 : Int).toNat, x0.extract ((wrap64 (x7 + 1)) : Int).toNat x0.size, true)) else (none)) else (none)) else (none)) else (spec_l2Cut.l0 k x0 x1 (wrap64 (x7 + 1)))) else (none)) else (some ((⟨#[]⟩ : ByteArray), (⟨#[]⟩ : ByteArray), false))
def spec_l2Cut.f (k : Nat) (a0 : ByteArray) (a1 : Int) : Option (ByteArray × ByteArray × Bool) := spec_l2Cut.l0 k a0 a1 0
theorem spec_l2Cut.mono_l : ∀ k, (∀ y0 y1 y2, LeO (spec_l2Cut.l0 k y0 y1 y2) (spec_l2Cut.l0 (k + 1) y0 y1 y2))
 | 0 => fun _ _ _ r h => by simp [spec_l2Cut.l0] at h
 | k + 1 => by
  have ih0 := spec_l2Cut.mono_l k
  intro y0 y1 y2
  unfold spec_l2Cut.l0
  repeat' first | (with_reducible exact ih0 _ _ _) | (with_reducible exact LeO.refl _) | (with_reducible exact LeO.none _) | (with_reducible refine LeO.ite ?_ ?_) | (with_reducible refine LeO.bind ?_ (fun _ => ?_))
theorem spec_l2Cut.mono : ∀ a0 a1 k, LeO (spec_l2Cut.f k a0 a1) (spec_l2Cut.f (k + 1) a0 a1) := by
 intro a0 a1 k
 have ih0 := spec_l2Cut.mono_l k
 unfold spec_l2Cut.f
 repeat' first | (with_reducible exact ih0 _ _ _) | (with_reducible exact LeO.refl _) | (with_reducible exact LeO.none _) | (with_reducible refine LeO.ite ?_ ?_) | (with_reducible refine LeO.bind ?_ (fun _ => ?_))
set_option maxHeartbeats 8000000 in
set_option maxRecDepth 100000 in
theorem spec_l2Cut.calls (k : Nat) (a0 : ByteArray) (a1 : Int) (r1 : ByteArray) (r2 : ByteArray) (r3 : Bool) (w : World) (h : spec_l2Cut.f k a0 a1 = some (r1, r2, r3)) :
  Calls Tryd.prog 52 #[.string a0, .int .u8 a1] w fun e w' => e = .returned (.tuple #[.string r1, .string r2, .bool r3]) ∧ Drawn0 w w' := by
 have H : (spec_l2Cut.l0 k a0 a1 0) = some (r1, r2, r3) := h; clear h; have H' := Aside0.mk H; clear H
 go_enter Tryd.func52, Tryd.ntmps52
 go_wp2
 repeat (go_quiet (fail); try go_wp2)
 go_loopg [7] k (fun kq v7 w' => ∃ (x7_1 : Int), v7 = .int .i64 x7_1 ∧ Aside0 (spec_l2Cut.l0 kq a0 a1 x7_1 = some (r1, r2, r3)) ∧ Aside0 (kq ≤ k) ∧ Drawn0 w w')
 case atStart => exact ⟨(0), y0_10, H', ⟨Nat.le_refl _⟩, y0_8⟩
 case round =>
  clear H'
  try clear p2
  obtain ⟨x7_1, rfl, HA, HK1, ⟨m1, rfl⟩⟩ := hrel; cases gk with
  | zero => exact absurd HA.out (by simp [spec_l2Cut.l0])
  | succ k1 =>
   have H := HA.out; clear HA
   simp only [spec_l2Cut.l0] at H
   by_cases c3 : x7_1 < (a0.size : Int)
   ·
    rw [if_pos c3] at H
    have c3b0 : decide (x7_1 < (a0.size : Int)) = true := decide_eq_true c3; clear c3
    by_cases c4 : 0 ≤ x7_1
    rotate_left
    ·
     rw [if_neg c4] at H
     exact absurd H (by simp)
    rw [if_pos c4] at H
    have c4b0 : decide (0 ≤ x7_1) = true := decide_eq_true c4; clear c4
    by_cases c6 : (bt a0 x7_1) = a1
    ·
     rw [if_pos c6] at H
     have c6b0 : ((bt a0 x7_1) == a1) = true := beq_iff_eq.mpr c6; have c6b1 : ((bt a0 x7_1) != a1) = false := bne_eq_false_iff_eq.mpr c6; clear c6; have c7b0 := eq_true (of_decide_eq_true y0_9 : 0 ≤ x7_1)
     by_cases c8 : x7_1 ≤ (a0.size : Int)
     rotate_left
     ·
      rw [if_neg c8] at H
      exact absurd H (by simp)
     rw [if_pos c8] at H
     have c8b0 := eq_true c8; have c8b1 : decide (x7_1 ≤ (a0.size : Int)) = true := decide_eq_true c8; clear c8; obtain ⟨ji9, hji9⟩ : ∃ j_ : Int, (wrap64 (x7_1 + 1)) = j_ := ⟨_, rfl⟩
     replace H : (if 0 ≤ (ji9) then (if (ji9) ≤ (a0.size : Int) then (some (a0.extract 0 (x7_1 : Int).toNat, a0.extract ((ji9) : Int).toNat a0.size, true)) else (none)) else (none)) = some (r1, r2, r3) := by first | (rw [hji9] at H; exact H) | (simp only [hji9] at H ⊢; exact H)
     have hji9w : (IntKind.i64.wrap (x7_1 + 1)) = ji9 := (i64_w _).trans hji9
     by_cases c10 : 0 ≤ (ji9)
     rotate_left
     ·
      rw [if_neg c10] at H
      exact absurd H (by simp)
     rw [if_pos c10] at H
     have c10b0 := eq_true c10; have c10b1 : decide (0 ≤ (ji9)) = true := decide_eq_true c10; clear c10
     by_cases c11 : (ji9) ≤ (a0.size : Int)
     rotate_left
     ·
      rw [if_neg c11] at H
      exact absurd H (by simp)
     rw [if_pos c11] at H
     have c11b0 := eq_true c11; have c11b1 : decide ((ji9) ≤ (a0.size : Int)) = true := decide_eq_true c11; clear c11
     simp only [Option.some.injEq, Prod.mk.injEq] at H
     obtain ⟨rfl, rfl, rfl⟩ := H; have p5 : 0 ≤ (x7_1 : Int) := of_decide_eq_true y0_9; have q5 : x7_1 < (a0.size : Int) := of_decide_eq_true y0_9; have hx5 := bt_at a0 x7_1; replace p5 := eq_true p5; replace q5 := eq_true q5
     go_wp2
     repeat (go_quiet (fail); try go_wp2)
     go_ret3
     exact ⟨by first | rfl | (simp; done) | (simp only [← hji9] <;> (first | rfl | simp)) | (simp [*]; done), y0_8⟩
    rw [if_neg c6] at H
    have c6b0 : ((bt a0 x7_1) == a1) = false := beq_eq_false_iff_ne.mpr c6; have c6b1 : ((bt a0 x7_1) != a1) = true := bne_iff_ne.mpr c6; have H' := Aside0.mk H; clear H; have p5 : 0 ≤ (x7_1 : Int) := of_decide_eq_true y0_9; have q5 : x7_1 < (a0.size : Int) := of_decide_eq_true y0_9; have hx5 := bt_at a0 x7_1; replace p5 := eq_true p5; replace q5 := eq_true q5
    go_wp2
    repeat (go_quiet (fail); try go_wp2)
    go_roundg k1
    case measure => have := HK1.out; omega
    case rel => exact ⟨(wrap64 (x7_1 + 1)), y0_10, H', ⟨y0_14⟩, y0_8⟩
   rw [if_neg c3] at H
   have c3b0 : decide (x7_1 < (a0.size : Int)) = false := decide_eq_false c3; clear c3
   simp only [Option.some.injEq, Prod.mk.injEq] at H
   obtain ⟨rfl, rfl, rfl⟩ := H
   go_wp2
   repeat (go_quiet (fail); try go_wp2)
   go_ret3
   exact ⟨y0_10, y0_8⟩

/-! ### spec_Digits: function 61 -/
def spec_Digits.l0 : Nat → Int → Bool → ByteArray → Option (ByteArray)
 | 0, _, _, _ => none
 | k + 1, x0, x3, x4 => if x0 = 0 then (if x3 = true then (if 1 + x4.size ≤ 9223372036854775807 then (some ((⟨#[45]⟩ : ByteArray) ++ x4)) else (none)) else (some x4)) else (if (Int.tmod x0 10) < 0 then ((some (([(wrap64 (48 + (wrap64 (-(Int.tmod x0 10))))) % 256] : List Int) : List Int)).bind fun y124 => (if (strOfNums y124).size + x4.size ≤ 9223372036854775807 then (spec_Digits.l0 k (wrap64 (Int.tdiv x0 10)) x3 ((strOfNums y124) ++ x4)) else (none))) else ((some (([(wrap64 (48 + (Int.tmod x0 10))) % 256] : List Int) : List Int)).bind fun y127 => (if (strOfNums y127).size + x4.size ≤ 9223372036854775807 then (spec_Digits.l0 k (wrap64 (Int.tdiv x0 10)) x3 ((strOfNums y127) ++ x4)) else (none))))
def spec_Digits.f (k : Nat) (a0 : Int) : Option (ByteArray) := if a0 = 0 then (some (⟨#[48]⟩ : ByteArray)) else (spec_Digits.l0 k a0 (decide (a0 < 0)) (⟨#[]⟩ : ByteArray))
theorem spec_Digits.mono_l : ∀ k, (∀ y0 y1 y2, LeO (spec_Digits.l0 k y0 y1 y2) (spec_Digits.l0 (k + 1) y0 y1 y2))
 | 0 => fun _ _ _ r h => by simp [spec_Digits.l0] at h
 | k + 1 => by
  have ih0 := spec_Digits.mono_l k
  intro y0 y1 y2
  unfold spec_Digits.l0
  repeat' first | (with_reducible exact ih0 _ _ _) | (with_reducible exact LeO.refl _) | (with_reducible exact LeO.none _) | (with_reducible refine LeO.ite ?_ ?_) | (with_reducible refine LeO.bind ?_ (fun _ => ?_))
theorem spec_Digits.mono : ∀ a0 k, LeO (spec_Digits.f k a0) (spec_Digits.f (k + 1) a0) := by
 intro a0 k
 have ih0 := spec_Digits.mono_l k
 unfold spec_Digits.f
 repeat' first | (with_reducible exact ih0 _ _ _) | (with_reducible exact LeO.refl _) | (with_reducible exact LeO.none _) | (with_reducible refine LeO.ite ?_ ?_) | (with_reducible refine LeO.bind ?_ (fun _ => ?_))
set_option maxHeartbeats 8000000 in
set_option maxRecDepth 100000 in
theorem spec_Digits.calls (k : Nat) (a0 : Int) (r : ByteArray) (w : World) (h : spec_Digits.f k a0 = some r) :
  Calls Tryd.prog 61 #[.int .i64 a0] w fun e w' => e = .returned (.string r) ∧ Below w.heap.size w w' := by
 have HB := Aside0.mk (Below.refl w.heap.size w); have H : (if a0 = 0 then (some (⟨#[48]⟩ : ByteArray)) else (spec_Digits.l0 k a0 (decide (a0 < 0)) (⟨#[]⟩ : ByteArray))) = some r := h; clear h
 by_cases c2 : a0 = 0
 ·
  rw [if_pos c2] at H
  have c2b0 : (a0 == 0) = true := beq_iff_eq.mpr c2; have c2b1 : (a0 != 0) = false := bne_eq_false_iff_eq.mpr c2; clear c2; obtain rfl := Option.some.inj H
  go_enter Tryd.func61, Tryd.ntmps61
  go_wp2
  go_ret
  exact ⟨y0_7, bI HB.out⟩
 rw [if_neg c2] at H
 have c2b0 : (a0 == 0) = false := beq_eq_false_iff_ne.mpr c2; have c2b1 : (a0 != 0) = true := bne_iff_ne.mpr c2; have H' := Aside0.mk H; clear H
 go_enter Tryd.func61, Tryd.ntmps61
 go_wp2
 go_loopg [0, 4] k (fun kq v0 v4 w' => ∃ (x0_1 : Int) (x4_1 : ByteArray), v0 = .int .i64 x0_1 ∧ v4 = .string x4_1 ∧ Aside0 (spec_Digits.l0 kq x0_1 (decide (a0 < 0)) x4_1 = some r) ∧ Aside0 (kq ≤ k) ∧ Aside0 (Below w.heap.size w w'))
 case atStart => exact ⟨(a0), ((⟨#[]⟩ : ByteArray)), y0_10, y0_10, H', ⟨Nat.le_refl _⟩, ⟨bI HB.out⟩⟩
 case round =>
  clear H'
  try clear c2
  try clear c2b0
  try clear c2b1
  try clear p2
  obtain ⟨x0_1, x4_1, rfl, rfl, HA, HK1, HB⟩ := hrel; cases gk with
  | zero => exact absurd HA.out (by simp [spec_Digits.l0])
  | succ k1 =>
   have H := HA.out; clear HA
   simp only [spec_Digits.l0] at H
   by_cases c3 : x0_1 = 0
   ·
    rw [if_pos c3] at H
    have c3b0 : (x0_1 == 0) = true := beq_iff_eq.mpr c3; have c3b1 : (x0_1 != 0) = false := bne_eq_false_iff_eq.mpr c3; clear c3
    by_cases c4 : (decide (a0 < 0)) = true
    ·
     rw [if_pos c4] at H
     have c4b0 : (decide (a0 < 0)) = true := c4
     (try simp only [c4b0])
     clear c4
     by_cases c5 : 1 + x4_1.size ≤ 9223372036854775807
     rotate_left
     ·
      rw [if_neg c5] at H
      exact absurd H (by simp)
     rw [if_pos c5] at H
     have c5b0 := eq_true c5; have c5b1 : decide (1 + x4_1.size ≤ 9223372036854775807) = true := decide_eq_true c5
     try have c5b2 : (9223372036854775807 < 1 + x4_1.size) = False := eq_false (Nat.not_lt.2 c5)
     obtain rfl := Option.some.inj H
     go_wp2
     go_ret
     exact ⟨y0_7, bI HB.out⟩
    rw [if_neg c4] at H
    have c4b0 : (decide (a0 < 0)) = false := by simpa using c4
    (try simp only [c4b0])
    clear c4; obtain rfl := Option.some.inj H
    go_wp2
    go_ret
    exact ⟨y0_7, bI HB.out⟩
   rw [if_neg c3] at H
   have c3b0 : (x0_1 == 0) = false := beq_eq_false_iff_ne.mpr c3; have c3b1 : (x0_1 != 0) = true := bne_iff_ne.mpr c3
   by_cases c6 : (Int.tmod x0_1 10) < 0
   ·
    rw [if_pos c6] at H
    have c6b0 : decide ((Int.tmod x0_1 10) < 0) = true := decide_eq_true c6; clear c6; obtain ⟨y124, hy124⟩ : ∃ y_ : List Int, y_ = (([(wrap64 (48 + (wrap64 (-(Int.tmod x0_1 10))))) % 256] : List Int)) := ⟨_, rfl⟩
    replace H : (if (strOfNums y124).size + x4_1.size ≤ 9223372036854775807 then (spec_Digits.l0 k1 (wrap64 (Int.tdiv x0_1 10)) (decide (a0 < 0)) ((strOfNums y124) ++ x4_1)) else (none)) = some r := by first | (rw [hy124]; with_reducible exact H) | (have H2_ := (Option.bind_some _ _).symm.trans H; rw [hy124]; with_reducible exact H2_) | (have H2_ := (Option.bind_some _ _).symm.trans H; with_reducible exact H2_) | with_reducible exact H | (rw [hy124]; exact H) | exact H
    have Ny124 := Aside0.mk hy124; clear hy124
    by_cases c7 : (strOfNums y124).size + x4_1.size ≤ 9223372036854775807
    rotate_left
    ·
     rw [if_neg c7] at H
     exact absurd H (by simp)
    rw [if_pos c7] at H
    have c7b0 := eq_true c7; have c7b1 : decide ((strOfNums y124).size + x4_1.size ≤ 9223372036854775807) = true := decide_eq_true c7
    try have c7b2 : (9223372036854775807 < (strOfNums y124).size + x4_1.size) = False := eq_false (Nat.not_lt.2 c7)
    have H' := Aside0.mk H; clear H
    go_wp2_with (first | ((with_reducible refine gate_dst (N := 21) rfl ?_); refine Kd.R_lit (Kd.int .u8) _ 5 ?hg (N := 21) ?hd (xs := ([(wrap64 (48 + (wrap64 (-(Int.tmod x0_1 10))))) % 256] : List Int)) (inner := [.int .u8 ((wrap64 (48 + (wrap64 (-(Int.tmod x0_1 10))))) % 256)]) (ok := fun _ => True) (okp := fun _ => True) ?hr ?hp (fun _ hk => hk) trivial (Below.refl _ _) (Nat.le_refl _) (by simp) ?_; (case hd => rfl); (case hg => rfl); (case hr => first | (go_simp; done) | (go_simp; rfl)); (case hp => exact (Reps.one (show Kd.M (Kd.int .u8) _ _ _ ((wrap64 (48 + (wrap64 (-(Int.tmod x0_1 10))))) % 256) [.int .u8 ((wrap64 (48 + (wrap64 (-(Int.tmod x0_1 10))))) % 256)] from rfl) (Reps.none _ _))); intro v125 w8 ho9 hb hg_ hnew_; clear hg_ hnew_; (first | rw [← Ny124.out] at ho9 | (simp only [Int.reduceToNat] at ho9; rw [← Ny124.out] at ho9)); have HO126 := Aside0.mk (Kd.R_lower ho9 (below_size (bI HB.out))); replace HB := bs HB hb; clear hb ho9; have hcv10 := own_string (P := Tryd.prog) Tryd.underlying30 Tryd.underlying5 Tryd.underlying9 (Kd.own_of_R HO126.out)))
    go_roundg k1
    case measure => have := HK1.out; omega
    case rel => exact ⟨(wrap64 (Int.tdiv x0_1 10)), ((strOfNums y124) ++ x4_1), y0_10, y0_10, H', ⟨y0_14⟩, ⟨bI HB.out⟩⟩
   rw [if_neg c6] at H
   have c6b0 : decide ((Int.tmod x0_1 10) < 0) = false := decide_eq_false c6; clear c6; obtain ⟨y127, hy127⟩ : ∃ y_ : List Int, y_ = (([(wrap64 (48 + (Int.tmod x0_1 10))) % 256] : List Int)) := ⟨_, rfl⟩
   replace H : (if (strOfNums y127).size + x4_1.size ≤ 9223372036854775807 then (spec_Digits.l0 k1 (wrap64 (Int.tdiv x0_1 10)) (decide (a0 < 0)) ((strOfNums y127) ++ x4_1)) else (none)) = some r := by first | (rw [hy127]; with_reducible exact H) | (have H2_ := (Option.bind_some _ _).symm.trans H; rw [hy127]; with_reducible exact H2_) | (have H2_ := (Option.bind_some _ _).symm.trans H; with_reducible exact H2_) | with_reducible exact H | (rw [hy127]; exact H) | exact H
   have Ny127 := Aside0.mk hy127; clear hy127
   by_cases c11 : (strOfNums y127).size + x4_1.size ≤ 9223372036854775807
   ·
    rw [if_pos c11] at H
    have c11b0 := eq_true c11; have c11b1 : decide ((strOfNums y127).size + x4_1.size ≤ 9223372036854775807) = true := decide_eq_true c11
    try have c11b2 : (9223372036854775807 < (strOfNums y127).size + x4_1.size) = False := eq_false (Nat.not_lt.2 c11)
    have H' := Aside0.mk H; clear H
    go_wp2_with (first | ((with_reducible refine gate_dst (N := 21) rfl ?_); refine Kd.R_lit (Kd.int .u8) _ 5 ?hg (N := 21) ?hd (xs := ([(wrap64 (48 + (Int.tmod x0_1 10))) % 256] : List Int)) (inner := [.int .u8 ((wrap64 (48 + (Int.tmod x0_1 10))) % 256)]) (ok := fun _ => True) (okp := fun _ => True) ?hr ?hp (fun _ hk => hk) trivial (Below.refl _ _) (Nat.le_refl _) (by simp) ?_; (case hd => rfl); (case hg => rfl); (case hr => first | (go_simp; done) | (go_simp; rfl)); (case hp => exact (Reps.one (show Kd.M (Kd.int .u8) _ _ _ ((wrap64 (48 + (Int.tmod x0_1 10))) % 256) [.int .u8 ((wrap64 (48 + (Int.tmod x0_1 10))) % 256)] from rfl) (Reps.none _ _))); intro v128 w12 ho13 hb hg_ hnew_; clear hg_ hnew_; (first | rw [← Ny127.out] at ho13 | (simp only [Int.reduceToNat] at ho13; rw [← Ny127.out] at ho13)); have HO129 := Aside0.mk (Kd.R_lower ho13 (below_size (bI HB.out))); replace HB := bs HB hb; clear hb ho13; have hcv14 := own_string (P := Tryd.prog) Tryd.underlying30 Tryd.underlying5 Tryd.underlying9 (Kd.own_of_R HO129.out)))
    go_roundg k1
    case measure => have := HK1.out; omega
    case rel => exact ⟨(wrap64 (Int.tdiv x0_1 10)), ((strOfNums y127) ++ x4_1), y0_10, y0_10, H', ⟨y0_14⟩, ⟨bI HB.out⟩⟩
   rw [if_neg c11] at H
   exact absurd H (by simp)

end Go.Proofs.YtemjmefacifdeaaDoor.PFnExactNoteBytes
