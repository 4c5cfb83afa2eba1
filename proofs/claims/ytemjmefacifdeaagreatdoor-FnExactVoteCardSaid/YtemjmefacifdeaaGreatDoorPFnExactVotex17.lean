-- By a program of this session, out of the translation (the print of the kit, with turns of its own). Lean checks it.
import Derived.Test.YtemjmefacifdeaaGreatDoorPFnExactVotex0
import Derived.Test.YtemjmefacifdeaaGreatDoorPFnExactVotex16
namespace Go.Proofs.YtemjmefacifdeaaGreatDoor.PFnExactVote
open Go.RowKit Go.Proofs.YtemjmefacifdeaaGreatDoorW.PrintWords Go.Proofs.YtemjmefacifdeaaGreatDoorW.PrintLast Go.Proofs.YtemjmefacifdeaaGreatDoorW.PrintMore
attribute [local go_sem] max2_int min2_int max_two min_two max_three min_three max_four min_four   -- for this text's walks alone
set_option linter.unusedVariables false
set_option linter.unusedSimpArgs false

/-! ### laws_heldQc: function 64 -/
def laws_heldQc.f (k : Nat) (a0_0 : Int) (a0_1 : ByteArray) (l0_2 : List Int) (a1 : Int) : Option (Int) := (laws_heldIntS.f k l0_2 a1).bind fun t466 => (if t466 < 0 then (some (-1)) else (some t466))
theorem laws_heldQc.mono : ∀ a0 a1 a2 a3 k, LeO (laws_heldQc.f k a0 a1 a2 a3) (laws_heldQc.f (k + 1) a0 a1 a2 a3) := by
 intro a0 a1 a2 a3 k
 unfold laws_heldQc.f
 repeat' first | (with_reducible exact laws_heldIntS.mono _ _ _) | (with_reducible exact LeO.refl _) | (with_reducible exact LeO.none _) | (with_reducible refine LeO.ite ?_ ?_) | (with_reducible refine LeO.bind ?_ (fun _ => ?_))
set_option maxHeartbeats 8000000 in
set_option maxRecDepth 100000 in
theorem laws_heldQc.calls (k : Nat) (a0_0 : Int) (a0_1 : ByteArray) (A0_2 : Option Addr) (c0_2 : Nat) (l0_2 : List Int) (a1 : Int) (r : Int) (w : World) (hr0_2 : Kd.C (Kd.int .i64) w A0_2 l0_2.length l0_2) (hc0_2 : l0_2.length ≤ c0_2) (h : laws_heldQc.f k a0_0 a0_1 l0_2 a1 = some r) :
  Calls Tryz.prog 64 #[.agg #[.int .i64 a0_0, .string a0_1, .slice A0_2 l0_2.length c0_2], .int .i64 a1] w fun e w' => e = .returned (.int .i64 r) ∧ Below w.heap.size w w' := by
 have hu33 := Tryz.underlying33; have HR0_2 := Aside0.mk hr0_2; have HC0_2 := Aside0.mk hc0_2; clear hr0_2 hc0_2; have HB := Aside0.mk (Below.refl w.heap.size w)
 have H : ((laws_heldIntS.f k l0_2 a1).bind fun t466 => (if t466 < 0 then (some (-1)) else (some t466))) = some r := h
 clear h; obtain ⟨t466, A30, H⟩ := Option.bind_eq_some_iff.mp H
 try dsimp only at H
 have A3 := Aside0.mk A30; clear A30
 by_cases c4 : t466 < 0
 ·
  rw [if_pos c4] at H
  have c4b0 : decide (t466 < 0) = true := decide_eq_true c4; clear c4; obtain rfl := Option.some.inj H
  go_enter Tryz.func64, Tryz.ntmps64
  go_wp2_with (first | ((with_reducible refine gd 2 ?_); refine bA 2 #[.int .i64 a0_0, .string a0_1, .slice A0_2 l0_2.length c0_2] 33 ?_; intro gb465 hg w5 hbox hb; have BK465 := Aside0.mk (hbox); have GW465 := bg hg HB; have GJ465 := gi GW465; have GE465 := GW465; replace HB := bs HB hb; clear hb hbox hg; obtain ⟨hcz6_0, hcz6_1, hcz6_2, hfz6_0, hfz6_1, hfz6_2⟩ := cs3 BK465) | ((with_reducible refine gate_callee (f := 104) rfl ?_); refine gB (some 8) Tryz.func104 #[.slice A0_2 l0_2.length c0_2, .int .i64 a1] ?_; (with_reducible refine (laws_heldIntS.calls k _ _ l0_2 a1 t466 _ ?side1 ?side2 A3.out).mono ?_); (case side1 => exact ch HR0_2 HB); (case side2 => exact HC0_2.out); rintro e w' ⟨rfl, ⟨nd, rfl⟩⟩; refine ⟨_, rfl, ?_⟩))
  go_ret
  exact ⟨y0_7, bI HB.out⟩
 rw [if_neg c4] at H
 have c4b0 : decide (t466 < 0) = false := decide_eq_false c4; clear c4; obtain rfl := Option.some.inj H
 go_enter Tryz.func64, Tryz.ntmps64
 go_wp2_with (first | ((with_reducible refine gd 2 ?_); refine bA 2 #[.int .i64 a0_0, .string a0_1, .slice A0_2 l0_2.length c0_2] 33 ?_; intro gb465 hg w7 hbox hb; have BK465 := Aside0.mk (hbox); have GW465 := bg hg HB; have GJ465 := gi GW465; have GE465 := GW465; replace HB := bs HB hb; clear hb hbox hg; obtain ⟨hcz8_0, hcz8_1, hcz8_2, hfz8_0, hfz8_1, hfz8_2⟩ := cs3 BK465) | ((with_reducible refine gate_callee (f := 104) rfl ?_); refine gB (some 8) Tryz.func104 #[.slice A0_2 l0_2.length c0_2, .int .i64 a1] ?_; (with_reducible refine (laws_heldIntS.calls k _ _ l0_2 a1 t466 _ ?side1 ?side2 A3.out).mono ?_); (case side1 => exact ch HR0_2 HB); (case side2 => exact HC0_2.out); rintro e w' ⟨rfl, ⟨nd, rfl⟩⟩; refine ⟨_, rfl, ?_⟩))
 go_ret
 exact ⟨y0_7, bI HB.out⟩

/-! ### laws_heldSafe: function 22 -/
def laws_heldSafe.f (k : Nat) (a0_0 : Int) (a0_1 : Int) (a0_2 : Int) (a0_3 : ByteArray) (l0_4 : List Int) (a0_5 : ByteArray) (a1 : Int) : Option (Int) := (laws_heldQc.f k a0_2 a0_3 l0_4 a1).bind fun t468 => (if t468 < 0 then (some (-1)) else (some t468))
theorem laws_heldSafe.mono : ∀ a0 a1 a2 a3 a4 a5 a6 k, LeO (laws_heldSafe.f k a0 a1 a2 a3 a4 a5 a6) (laws_heldSafe.f (k + 1) a0 a1 a2 a3 a4 a5 a6) := by
 intro a0 a1 a2 a3 a4 a5 a6 k
 unfold laws_heldSafe.f
 repeat' first | (with_reducible exact laws_heldQc.mono _ _ _ _ _) | (with_reducible exact LeO.refl _) | (with_reducible exact LeO.none _) | (with_reducible refine LeO.ite ?_ ?_) | (with_reducible refine LeO.bind ?_ (fun _ => ?_))
set_option maxHeartbeats 8000000 in
set_option maxRecDepth 100000 in
theorem laws_heldSafe.calls (k : Nat) (a0_0 : Int) (a0_1 : Int) (a0_2 : Int) (a0_3 : ByteArray) (A0_4 : Option Addr) (c0_4 : Nat) (l0_4 : List Int) (a0_5 : ByteArray) (a1 : Int) (r : Int) (w : World) (hr0_4 : Kd.C (Kd.int .i64) w A0_4 l0_4.length l0_4) (hc0_4 : l0_4.length ≤ c0_4) (h : laws_heldSafe.f k a0_0 a0_1 a0_2 a0_3 l0_4 a0_5 a1 = some r) :
  Calls Tryz.prog 22 #[.agg #[.int .i64 a0_0, .int .i64 a0_1, .int .i64 a0_2, .string a0_3, .slice A0_4 l0_4.length c0_4, .string a0_5], .int .i64 a1] w fun e w' => e = .returned (.int .i64 r) ∧ Below w.heap.size w w' := by
 have hu35 := Tryz.underlying35; have hu33 := Tryz.underlying33; have HR0_4 := Aside0.mk hr0_4; have HC0_4 := Aside0.mk hc0_4; clear hr0_4 hc0_4; have HB := Aside0.mk (Below.refl w.heap.size w)
 have H : ((laws_heldQc.f k a0_2 a0_3 l0_4 a1).bind fun t468 => (if t468 < 0 then (some (-1)) else (some t468))) = some r := h
 clear h; obtain ⟨t468, A30, H⟩ := Option.bind_eq_some_iff.mp H
 try dsimp only at H
 have A3 := Aside0.mk A30; clear A30
 by_cases c4 : t468 < 0
 ·
  rw [if_pos c4] at H
  have c4b0 : decide (t468 < 0) = true := decide_eq_true c4; clear c4; obtain rfl := Option.some.inj H
  go_enter Tryz.func22, Tryz.ntmps22
  go_wp2_with (first | ((with_reducible refine gd 2 ?_); refine bA 2 #[.int .i64 a0_0, .int .i64 a0_1, .int .i64 a0_2, .string a0_3, .slice A0_4 l0_4.length c0_4, .string a0_5] 35 ?_; intro gb467 hg w5 hbox hb; have BK467 := Aside0.mk (hbox); have GW467 := bg hg HB; have GJ467 := gi GW467; have GE467 := GW467; replace HB := bs HB hb; clear hb hbox hg; have hcz6_0 := bc0 BK467.out; have hcz6_1 := bc1 BK467.out; have hcz6_2 := bc2 BK467.out; have hcz6_3 := bc3 BK467.out; have hcz6_4 := bc4 BK467.out; have hcz6_5 := bc5 BK467.out; have hfz6_0 := blk_frozen BK467.out 0; have hfz6_1 := blk_frozen BK467.out 1; have hfz6_2 := blk_frozen BK467.out 2; have hfz6_3 := blk_frozen BK467.out 3; have hfz6_4 := blk_frozen BK467.out 4; have hfz6_5 := blk_frozen BK467.out 5) | ((with_reducible refine gate_callee (f := 64) rfl ?_); refine gB (some 8) Tryz.func64 #[.agg #[.int .i64 a0_2, .string a0_3, .slice A0_4 l0_4.length c0_4], .int .i64 a1] ?_; (with_reducible refine (laws_heldQc.calls k a0_2 a0_3 _ _ l0_4 a1 t468 _ ?side1 ?side2 A3.out).mono ?_); (case side1 => exact ch HR0_4 HB); (case side2 => exact HC0_4.out); rintro e w7 ⟨rfl, hb⟩; refine ⟨_, rfl, ?_⟩; replace BK467 := bk BK467 hb; replace HB := bs HB hb; (try clear hb); (try clear hb2); (try clear hk); (try clear hi)))
  go_ret
  exact ⟨y0_7, bI HB.out⟩
 rw [if_neg c4] at H
 have c4b0 : decide (t468 < 0) = false := decide_eq_false c4; clear c4; obtain rfl := Option.some.inj H
 go_enter Tryz.func22, Tryz.ntmps22
 go_wp2_with (first | ((with_reducible refine gd 2 ?_); refine bA 2 #[.int .i64 a0_0, .int .i64 a0_1, .int .i64 a0_2, .string a0_3, .slice A0_4 l0_4.length c0_4, .string a0_5] 35 ?_; intro gb467 hg w8 hbox hb; have BK467 := Aside0.mk (hbox); have GW467 := bg hg HB; have GJ467 := gi GW467; have GE467 := GW467; replace HB := bs HB hb; clear hb hbox hg; have hcz9_0 := bc0 BK467.out; have hcz9_1 := bc1 BK467.out; have hcz9_2 := bc2 BK467.out; have hcz9_3 := bc3 BK467.out; have hcz9_4 := bc4 BK467.out; have hcz9_5 := bc5 BK467.out; have hfz9_0 := blk_frozen BK467.out 0; have hfz9_1 := blk_frozen BK467.out 1; have hfz9_2 := blk_frozen BK467.out 2; have hfz9_3 := blk_frozen BK467.out 3; have hfz9_4 := blk_frozen BK467.out 4; have hfz9_5 := blk_frozen BK467.out 5) | ((with_reducible refine gate_callee (f := 64) rfl ?_); refine gB (some 8) Tryz.func64 #[.agg #[.int .i64 a0_2, .string a0_3, .slice A0_4 l0_4.length c0_4], .int .i64 a1] ?_; (with_reducible refine (laws_heldQc.calls k a0_2 a0_3 _ _ l0_4 a1 t468 _ ?side1 ?side2 A3.out).mono ?_); (case side1 => exact ch HR0_4 HB); (case side2 => exact HC0_4.out); rintro e w10 ⟨rfl, hb⟩; refine ⟨_, rfl, ?_⟩; replace BK467 := bk BK467 hb; replace HB := bs HB hb; (try clear hb); (try clear hb2); (try clear hk); (try clear hi)))
 go_ret
 exact ⟨y0_7, bI HB.out⟩

end Go.Proofs.YtemjmefacifdeaaGreatDoor.PFnExactVote
