-- By a program of this session, out of the translation (the print of the kit, with turns of its own). Lean checks it.
import Derived.Test.YtemjmefacifdeaaPFnExactPartJoinx0
import Derived.Test.YtemjmefacifdeaaPFnExactPartJoinx1
import Derived.Test.YtemjmefacifdeaaPFnExactPartJoinx2
import Derived.Test.YtemjmefacifdeaaPFnExactPartJoinx3
import Derived.Test.YtemjmefacifdeaaPFnExactPartJoinx4
namespace Go.Proofs.Ytemjmefacifdeaa.PFnExactPartJoin
open Go.RowKit Go.Proofs.YtemjmefacifdeaaW.PrintWords Go.Proofs.YtemjmefacifdeaaW.PrintLast Go.Proofs.YtemjmefacifdeaaW.PrintMore
attribute [local go_sem] max2_int min2_int max_two min_two max_three min_three max_four min_four   -- for this text's walks alone
set_option linter.unusedVariables false
set_option linter.unusedSimpArgs false

/-! ### laws_FnExactPartJoin: function 3 -/
def laws_FnExactPartJoin.f (k : Nat) (a0_0 : Int) (a0_1 : ByteArray) (l0_2 : List Int) (a1_0 : Int) (a1_1 : ByteArray) (l1_2 : List Int) : Option (Bool) := (laws_szPart.f a0_0 a0_1 l0_2 1048576).bind fun t217 => (if t217 < 0 then (some true) else ((laws_szPart.f a1_0 a1_1 l1_2 t217).bind fun t218 => (if t218 < 0 then (some true) else ((laws_toPart.f k a0_0 a0_1 l0_2).bind fun bt219 => ((laws_toPart.f k a1_0 a1_1 l1_2).bind fun bt224 => ((spec_PartJoin.f k bt219.1 bt219.2.1 bt219.2.2 bt224.1 bt224.2.1 bt224.2.2).bind fun bt229 => ((laws_toPart.f k a0_0 a0_1 l0_2).bind fun bt236 => ((laws_toPart.f k a1_0 a1_1 l1_2).bind fun bt242 => ((impl_PartJoin.f k bt236.1 bt236.2.1 bt236.2.2 bt242.1 bt242.2.1 bt242.2.2).bind fun bt248 => ((laws_eqPart.f k bt248.1 bt248.2.1 bt248.2.2.1 bt229.1 bt229.2.1 bt229.2.2.1).bind fun t255 => (if t255 = true then (if (bt248.2.2.2 != bt229.2.2.2) = true then (some false) else ((laws_toPart.f k a0_0 a0_1 l0_2).bind fun bt256 => ((laws_eqPart.f k bt236.1 bt236.2.1 bt236.2.2 bt256.1 bt256.2.1 bt256.2.2).bind fun t261 => (if t261 = true then ((laws_toPart.f k a1_0 a1_1 l1_2).bind fun bt262 => ((laws_eqPart.f k bt242.1 bt242.2.1 bt242.2.2 bt262.1 bt262.2.1 bt262.2.2).bind fun t267 => (if t267 = true then ((laws_markPart.f k bt236.1 bt236.2.1 bt236.2.2 1).bind fun bt268 => ((laws_markPart.f k bt242.1 bt242.2.1 bt242.2.2 bt268.1).bind fun bt270 => (if bt270.1 < 0 then (some false) else ((laws_eqPart.f k bt248.1 bt248.2.1 bt248.2.2.1 bt229.1 bt229.2.1 bt229.2.2.1).bind fun t272 => (if t272 = true then ((laws_markPart.f k bt248.1 bt248.2.1 bt248.2.2.1 1).bind fun bt273 => ((laws_heldPart.f k bt248.1 bt248.2.1 bt273.2 1).bind fun t275 => (if t275 < 0 then (some false) else (if t275 = bt273.1 then ((laws_toPart.f k a0_0 a0_1 l0_2).bind fun bt276 => ((laws_toPart.f k a1_0 a1_1 l1_2).bind fun bt281 => ((impl_PartJoin.f k bt276.1 bt276.2.1 bt276.2.2 bt281.1 bt281.2.1 bt281.2.2).bind fun bt286 => ((laws_eqPart.f k bt286.1 bt286.2.1 bt286.2.2.1 bt229.1 bt229.2.1 bt229.2.2.1).bind fun t293 => (if t293 = true then (if (bt286.2.2.2 != bt229.2.2.2) = true then (some false) else ((laws_heldPart.f k bt248.1 bt248.2.1 bt273.2 1).bind fun t294 => (if t294 < 0 then (some false) else (if t294 = bt273.1 then (some true) else (some false))))) else (some false)))))) else (some false))))) else (some false)))))) else (some false)))) else (some false))))) else (some false))))))))))))
theorem laws_FnExactPartJoin.mono : ∀ a0 a1 a2 a3 a4 a5 k, LeO (laws_FnExactPartJoin.f k a0 a1 a2 a3 a4 a5) (laws_FnExactPartJoin.f (k + 1) a0 a1 a2 a3 a4 a5) := by
 intro a0 a1 a2 a3 a4 a5 k
 unfold laws_FnExactPartJoin.f
 repeat' first | (with_reducible exact impl_PartJoin.mono _ _ _ _ _ _ _) | (with_reducible exact laws_eqPart.mono _ _ _ _ _ _ _) | (with_reducible exact laws_heldPart.mono _ _ _ _ _) | (with_reducible exact laws_markPart.mono _ _ _ _ _) | (with_reducible exact laws_toPart.mono _ _ _ _) | (with_reducible exact spec_PartJoin.mono _ _ _ _ _ _ _) | (with_reducible exact LeO.refl _) | (with_reducible exact LeO.none _) | (with_reducible refine LeO.ite ?_ ?_) | (with_reducible refine LeO.bind ?_ (fun _ => ?_))
def laws_FnExactPartJoin.T8 : Bool × List (List Nat × List Nat) := (true, [([], []), ([0], [0]), ([], []), ([2, 1], [2]), ([1, 3, 3], [1, 3]), ([4], [4]), ([5], [5]), ([5], [5]), ([], []), ([8, 6, 4, 0, 1, 2, 3, 4, 5, 6, 8], [6, 8]), ([7, 9, 0, 1, 2, 3, 4, 5, 6, 7, 8, 9], [7])])
def laws_FnExactPartJoin.B8 : List Nat := [0, 1, 0, 7, 15, 31, 63, 63, 0, 383, 1023]
theorem laws_FnExactPartJoin.tab8 : rtab .any (opsOf Try.f3 8) = laws_FnExactPartJoin.T8 := by kernel_rfl
theorem laws_FnExactPartJoin.bits8 : waitsOk laws_FnExactPartJoin.T8.2 laws_FnExactPartJoin.B8 = true := by kernel_rfl
def laws_FnExactPartJoin.T31 : Bool × List (List Nat × List Nat) := (true, [([], []), ([0], [0]), ([], []), ([2, 1], [2]), ([1, 3, 3], [1, 3]), ([4], [4]), ([5], [5]), ([5], [5]), ([], []), ([8, 6, 4, 0, 1, 2, 3, 4, 5, 6, 8], [6, 8]), ([7, 9, 0, 1, 2, 3, 4, 5, 6, 7, 8, 9], [7])])
def laws_FnExactPartJoin.B31 : List Nat := [0, 1, 0, 7, 15, 31, 63, 63, 0, 383, 1023]
theorem laws_FnExactPartJoin.tab31 : rtab .any (opsOf Try.f3 31) = laws_FnExactPartJoin.T31 := by kernel_rfl
theorem laws_FnExactPartJoin.bits31 : waitsOk laws_FnExactPartJoin.T31.2 laws_FnExactPartJoin.B31 = true := by kernel_rfl
set_option maxHeartbeats 8000000 in
set_option maxRecDepth 100000 in
theorem laws_FnExactPartJoin.calls (k : Nat) (a0_0 : Int) (a0_1 : ByteArray) (A0_2 : Option Addr) (c0_2 : Nat) (l0_2 : List Int) (a1_0 : Int) (a1_1 : ByteArray) (A1_2 : Option Addr) (c1_2 : Nat) (l1_2 : List Int) (r : Bool) (hrt : Aside0 (r = true)) (w : World) (hr0_2 : Kd.C (Kd.int .i64) w A0_2 l0_2.length l0_2) (hc0_2 : l0_2.length ≤ c0_2) (hr1_2 : Kd.C (Kd.int .i64) w A1_2 l1_2.length l1_2) (hc1_2 : l1_2.length ≤ c1_2) (h : laws_FnExactPartJoin.f k a0_0 a0_1 l0_2 a1_0 a1_1 l1_2 = some r) :
  Calls Try.prog 3 #[.agg #[.int .i64 a0_0, .string a0_1, .slice A0_2 l0_2.length c0_2], .agg #[.int .i64 a1_0, .string a1_1, .slice A1_2 l1_2.length c1_2]] w fun e w' => e = .returned (.bool r) ∧ Below w.heap.size w w' := by
 have hu24 := Try.underlying24; have hu26 := Try.underlying26; have HR0_2 := Aside0.mk hr0_2; have HC0_2 := Aside0.mk hc0_2; clear hr0_2 hc0_2; have HR1_2 := Aside0.mk hr1_2; have HC1_2 := Aside0.mk hc1_2; clear hr1_2 hc1_2; have HB := Aside0.mk (Below.refl w.heap.size w)
 have H : ((laws_szPart.f a0_0 a0_1 l0_2 1048576).bind fun t217 => (if t217 < 0 then (some true) else ((laws_szPart.f a1_0 a1_1 l1_2 t217).bind fun t218 => (if t218 < 0 then (some true) else ((laws_toPart.f k a0_0 a0_1 l0_2).bind fun bt219 => ((laws_toPart.f k a1_0 a1_1 l1_2).bind fun bt224 => ((spec_PartJoin.f k bt219.1 bt219.2.1 bt219.2.2 bt224.1 bt224.2.1 bt224.2.2).bind fun bt229 => ((laws_toPart.f k a0_0 a0_1 l0_2).bind fun bt236 => ((laws_toPart.f k a1_0 a1_1 l1_2).bind fun bt242 => ((impl_PartJoin.f k bt236.1 bt236.2.1 bt236.2.2 bt242.1 bt242.2.1 bt242.2.2).bind fun bt248 => ((laws_eqPart.f k bt248.1 bt248.2.1 bt248.2.2.1 bt229.1 bt229.2.1 bt229.2.2.1).bind fun t255 => (if t255 = true then (if (bt248.2.2.2 != bt229.2.2.2) = true then (some false) else ((laws_toPart.f k a0_0 a0_1 l0_2).bind fun bt256 => ((laws_eqPart.f k bt236.1 bt236.2.1 bt236.2.2 bt256.1 bt256.2.1 bt256.2.2).bind fun t261 => (if t261 = true then ((laws_toPart.f k a1_0 a1_1 l1_2).bind fun bt262 => ((laws_eqPart.f k bt242.1 bt242.2.1 bt242.2.2 bt262.1 bt262.2.1 bt262.2.2).bind fun t267 => (if t267 = true then ((laws_markPart.f k bt236.1 bt236.2.1 bt236.2.2 1).bind fun bt268 => ((laws_markPart.f k bt242.1 bt242.2.1 bt242.2.2 bt268.1).bind fun bt270 => (if bt270.1 < 0 then (some false) else ((laws_eqPart.f k bt248.1 bt248.2.1 bt248.2.2.1 bt229.1 bt229.2.1 bt229.2.2.1).bind fun t272 => (if t272 = true then ((laws_markPart.f k bt248.1 bt248.2.1 bt248.2.2.1 1).bind fun bt273 => ((laws_heldPart.f k bt248.1 bt248.2.1 bt273.2 1).bind fun t275 => (if t275 < 0 then (some false) else (if t275 = bt273.1 then ((laws_toPart.f k a0_0 a0_1 l0_2).bind fun bt276 => ((laws_toPart.f k a1_0 a1_1 l1_2).bind fun bt281 => ((impl_PartJoin.f k bt276.1 bt276.2.1 bt276.2.2 bt281.1 bt281.2.1 bt281.2.2).bind fun bt286 => ((laws_eqPart.f k bt286.1 bt286.2.1 bt286.2.2.1 bt229.1 bt229.2.1 bt229.2.2.1).bind fun t293 => (if t293 = true then (if (bt286.2.2.2 != bt229.2.2.2) = true then (some false) else ((laws_heldPart.f k bt248.1 bt248.2.1 bt273.2 1).bind fun t294 => (if t294 < 0 then (some false) else (if t294 = bt273.1 then (some true) else (some false))))) else (some false)))))) else (some false))))) else (some false)))))) else (some false)))) else (some false))))) else (some false))))))))))))) = some r := h
 clear h; obtain ⟨t217, A30, H⟩ := Option.bind_eq_some_iff.mp H
 try dsimp only at H
 have A3 := Aside0.mk A30; clear A30
 by_cases c4 : t217 < 0
 ·
  rw [if_pos c4] at H
  have c4b0 : decide (t217 < 0) = true := decide_eq_true c4; clear c4; obtain rfl := Option.some.inj H
  go_enter Try.func3, Try.ntmps3
  go_wp2_with (first | ((with_reducible refine gd 2 ?_); refine bA 2 #[.int .i64 a0_0, .string a0_1, .slice A0_2 l0_2.length c0_2] 24 ?_; intro gb215 hg w5 hbox hb; have BK215 := Aside0.mk (hbox); have GW215 := bg hg HB; have GJ215 := gi GW215; have GE215 := GW215; replace HB := bs HB hb; clear hb hbox hg) | ((with_reducible refine gd 3 ?_); refine bA 3 #[.int .i64 a1_0, .string a1_1, .slice A1_2 l1_2.length c1_2] 24 ?_; intro gb216 hg w6 hbox hb; have BK216 := Aside0.mk (hbox); have GW216 := bg hg HB; have GJ216 := gi GW216; have GE216 := GW216; replace HB := bs HB hb; have NB215_216 := b1 BK215 hg; have NI215_216 := ni NB215_216; have NB216_215 := b2 BK215 hg; have NI216_215 := ni NB216_215; replace BK215 := bk BK215 hb; clear hb hbox hg; have hnb7 := NB215_216.out; have hnc7 := NB216_215.out; obtain ⟨hcz8_0, hcz8_1, hcz8_2, hfz8_0, hfz8_1, hfz8_2⟩ := cs3 BK215) | ((with_reducible refine gate_callee (f := 6) rfl ?_); refine gB (some 19) Try.func6 #[.agg #[.int .i64 a0_0, .string a0_1, .slice A0_2 l0_2.length c0_2], .int .i64 1048576] ?_; (with_reducible refine (laws_szPart.calls a0_0 a0_1 _ _ l0_2 1048576 t217 _ ?side1 ?side2 A3.out).mono ?_); (case side1 => exact ch HR0_2 HB); (case side2 => exact HC0_2.out); rintro e w9 ⟨rfl, hb⟩; refine ⟨_, rfl, ?_⟩; replace BK215 := bk BK215 hb; replace BK216 := bk BK216 hb; replace HB := bs HB hb; (try clear hb); (try clear hb2); (try clear hk); (try clear hi)))
  go_ret
  exact ⟨y0_5, bI HB.out⟩
 rw [if_neg c4] at H
 have c4b0 : decide (t217 < 0) = false := decide_eq_false c4; clear c4; obtain ⟨t218, A100, H⟩ := Option.bind_eq_some_iff.mp H
 try dsimp only at H
 have A10 := Aside0.mk A100; clear A100
 by_cases c11 : t218 < 0
 ·
  rw [if_pos c11] at H
  have c11b0 : decide (t218 < 0) = true := decide_eq_true c11; clear c11; obtain rfl := Option.some.inj H
  go_enter Try.func3, Try.ntmps3
  go_wp2_with (first | ((with_reducible refine gd 2 ?_); refine bA 2 #[.int .i64 a0_0, .string a0_1, .slice A0_2 l0_2.length c0_2] 24 ?_; intro gb215 hg w12 hbox hb; have BK215 := Aside0.mk (hbox); have GW215 := bg hg HB; have GJ215 := gi GW215; have GE215 := GW215; replace HB := bs HB hb; clear hb hbox hg) | ((with_reducible refine gd 3 ?_); refine bA 3 #[.int .i64 a1_0, .string a1_1, .slice A1_2 l1_2.length c1_2] 24 ?_; intro gb216 hg w13 hbox hb; have BK216 := Aside0.mk (hbox); have GW216 := bg hg HB; have GJ216 := gi GW216; have GE216 := GW216; replace HB := bs HB hb; have NB215_216 := b1 BK215 hg; have NI215_216 := ni NB215_216; have NB216_215 := b2 BK215 hg; have NI216_215 := ni NB216_215; replace BK215 := bk BK215 hb; clear hb hbox hg; have hnb14 := NB215_216.out; have hnc14 := NB216_215.out; obtain ⟨hcz15_0, hcz15_1, hcz15_2, hfz15_0, hfz15_1, hfz15_2⟩ := cs3 BK215) | ((with_reducible refine gate_callee (f := 6) rfl ?_); refine gB (some 19) Try.func6 #[.agg #[.int .i64 a0_0, .string a0_1, .slice A0_2 l0_2.length c0_2], .int .i64 1048576] ?_; (with_reducible refine (laws_szPart.calls a0_0 a0_1 _ _ l0_2 1048576 t217 _ ?side1 ?side2 A3.out).mono ?_); (case side1 => exact ch HR0_2 HB); (case side2 => exact HC0_2.out); rintro e w16 ⟨rfl, hb⟩; refine ⟨_, rfl, ?_⟩; replace BK215 := bk BK215 hb; replace BK216 := bk BK216 hb; replace HB := bs HB hb; (try clear hb); (try clear hb2); (try clear hk); (try clear hi); obtain ⟨hcz17_0, hcz17_1, hcz17_2, hfz17_0, hfz17_1, hfz17_2⟩ := cs3 BK216) | ((with_reducible refine gate_callee (f := 6) rfl ?_); refine gB (some 24) Try.func6 #[.agg #[.int .i64 a1_0, .string a1_1, .slice A1_2 l1_2.length c1_2], .int .i64 t217] ?_; (with_reducible refine (laws_szPart.calls a1_0 a1_1 _ _ l1_2 t217 t218 _ ?side1 ?side2 A10.out).mono ?_); (case side1 => exact ch HR1_2 HB); (case side2 => exact HC1_2.out); rintro e w18 ⟨rfl, hb⟩; refine ⟨_, rfl, ?_⟩; replace BK215 := bk BK215 hb; replace BK216 := bk BK216 hb; replace HB := bs HB hb; (try clear hb); (try clear hb2); (try clear hk); (try clear hi)))
  go_ret
  exact ⟨y0_5, bI HB.out⟩
 rw [if_neg c11] at H
 have c11b0 : decide (t218 < 0) = false := decide_eq_false c11; clear c11; obtain ⟨⟨t219, t220, t221⟩, A190, H⟩ := Option.bind_eq_some_iff.mp H
 try dsimp only at H
 have A19 := Aside0.mk A190; clear A190; obtain ⟨⟨t224, t225, t226⟩, A200, H⟩ := Option.bind_eq_some_iff.mp H
 try dsimp only at H
 have A20 := Aside0.mk A200; clear A200; obtain ⟨⟨t229, t230, t231, t234⟩, A210, H⟩ := Option.bind_eq_some_iff.mp H
 try dsimp only at H
 have A21 := Aside0.mk A210; clear A210; obtain ⟨⟨t236, t237, t238⟩, A220, H⟩ := Option.bind_eq_some_iff.mp H
 try dsimp only at H
 have A22 := Aside0.mk A220; clear A220; obtain ⟨⟨t242, t243, t244⟩, A230, H⟩ := Option.bind_eq_some_iff.mp H
 try dsimp only at H
 have A23 := Aside0.mk A230; clear A230; obtain ⟨⟨t248, t249, t250, t253⟩, A240, H⟩ := Option.bind_eq_some_iff.mp H
 try dsimp only at H
 have A24 := Aside0.mk A240; clear A240; obtain ⟨t255, A250, H⟩ := Option.bind_eq_some_iff.mp H
 try dsimp only at H
 have A25 := Aside0.mk A250; clear A250
 by_cases c26 : t255 = true
 ·
  subst c26
  rw [if_pos rfl] at H
  by_cases c27 : (t253 != t234) = true
  ·
   rw [if_pos c27] at H
   have c27b0 : (t253 != t234) = true := c27
   (try (have c27b1 : decide (t253 = t234) = false := by simpa using c27))
   (try (have c27b2 : (t253 == t234) = false := by simpa using c27))
   (try (have c27b3 : ¬ (t253 = t234) := by simpa using c27))
   clear c27
   exact absurd (hrt.out.symm.trans (Option.some.inj H).symm) (by decide)
  rw [if_neg c27] at H
  have c27b0 : (t253 != t234) = false := by simpa using c27
  (try (have c27b1 : decide (t253 = t234) = true := by simpa using c27))
  (try (have c27b2 : (t253 == t234) = true := by simpa using c27))
  clear c27; obtain ⟨⟨t256, t257, t258⟩, A280, H⟩ := Option.bind_eq_some_iff.mp H
  try dsimp only at H
  have A28 := Aside0.mk A280; clear A280; obtain ⟨t261, A290, H⟩ := Option.bind_eq_some_iff.mp H
  try dsimp only at H
  have A29 := Aside0.mk A290; clear A290
  by_cases c30 : t261 = true
  rotate_left
  ·
   replace c30 := Bool.eq_false_iff.mpr c30; subst c30
   rw [if_neg (show ¬ (false = true) by decide)] at H
   exact absurd (hrt.out.symm.trans (Option.some.inj H).symm) (by decide)
  subst c30
  rw [if_pos rfl] at H
  obtain ⟨⟨t262, t263, t264⟩, A310, H⟩ := Option.bind_eq_some_iff.mp H
  try dsimp only at H
  have A31 := Aside0.mk A310; clear A310; obtain ⟨t267, A320, H⟩ := Option.bind_eq_some_iff.mp H
  try dsimp only at H
  have A32 := Aside0.mk A320; clear A320
  by_cases c33 : t267 = true
  rotate_left
  ·
   replace c33 := Bool.eq_false_iff.mpr c33; subst c33
   rw [if_neg (show ¬ (false = true) by decide)] at H
   exact absurd (hrt.out.symm.trans (Option.some.inj H).symm) (by decide)
  subst c33
  rw [if_pos rfl] at H
  obtain ⟨⟨t268, t269⟩, A340, H⟩ := Option.bind_eq_some_iff.mp H
  try dsimp only at H
  have A34 := Aside0.mk A340; clear A340; obtain ⟨⟨t270, t271⟩, A350, H⟩ := Option.bind_eq_some_iff.mp H
  try dsimp only at H
  have A35 := Aside0.mk A350; clear A350
  by_cases c36 : t270 < 0
  ·
   rw [if_pos c36] at H
   have c36b0 : decide (t270 < 0) = true := decide_eq_true c36; clear c36
   exact absurd (hrt.out.symm.trans (Option.some.inj H).symm) (by decide)
  rw [if_neg c36] at H
  have c36b0 : decide (t270 < 0) = false := decide_eq_false c36; clear c36; obtain ⟨t272, A370, H⟩ := Option.bind_eq_some_iff.mp H
  try dsimp only at H
  have A37 := Aside0.mk A370; clear A370
  by_cases c38 : t272 = true
  rotate_left
  ·
   replace c38 := Bool.eq_false_iff.mpr c38; subst c38
   rw [if_neg (show ¬ (false = true) by decide)] at H
   exact absurd (hrt.out.symm.trans (Option.some.inj H).symm) (by decide)
  subst c38
  rw [if_pos rfl] at H
  obtain ⟨⟨t273, t274⟩, A390, H⟩ := Option.bind_eq_some_iff.mp H
  try dsimp only at H
  have A39 := Aside0.mk A390; clear A390; obtain ⟨t275, A400, H⟩ := Option.bind_eq_some_iff.mp H
  try dsimp only at H
  have A40 := Aside0.mk A400; clear A400
  by_cases c41 : t275 < 0
  ·
   rw [if_pos c41] at H
   have c41b0 : decide (t275 < 0) = true := decide_eq_true c41; clear c41
   exact absurd (hrt.out.symm.trans (Option.some.inj H).symm) (by decide)
  rw [if_neg c41] at H
  have c41b0 : decide (t275 < 0) = false := decide_eq_false c41; clear c41
  by_cases c42 : t275 = t273
  rotate_left
  ·
   rw [if_neg c42] at H
   have c42b0 : (t275 == t273) = false := beq_eq_false_iff_ne.mpr c42; have c42b1 : (t275 != t273) = true := bne_iff_ne.mpr c42
   exact absurd (hrt.out.symm.trans (Option.some.inj H).symm) (by decide)
  rw [if_pos c42] at H
  have c42b0 : (t275 == t273) = true := beq_iff_eq.mpr c42; have c42b1 : (t275 != t273) = false := bne_eq_false_iff_eq.mpr c42; clear c42; obtain ⟨⟨t276, t277, t278⟩, A430, H⟩ := Option.bind_eq_some_iff.mp H
  try dsimp only at H
  have A43 := Aside0.mk A430; clear A430; obtain ⟨⟨t281, t282, t283⟩, A440, H⟩ := Option.bind_eq_some_iff.mp H
  try dsimp only at H
  have A44 := Aside0.mk A440; clear A440; obtain ⟨⟨t286, t287, t288, t291⟩, A450, H⟩ := Option.bind_eq_some_iff.mp H
  try dsimp only at H
  have A45 := Aside0.mk A450; clear A450; obtain ⟨t293, A460, H⟩ := Option.bind_eq_some_iff.mp H
  try dsimp only at H
  have A46 := Aside0.mk A460; clear A460
  by_cases c47 : t293 = true
  rotate_left
  ·
   replace c47 := Bool.eq_false_iff.mpr c47; subst c47
   rw [if_neg (show ¬ (false = true) by decide)] at H
   exact absurd (hrt.out.symm.trans (Option.some.inj H).symm) (by decide)
  subst c47
  rw [if_pos rfl] at H
  by_cases c48 : (t291 != t234) = true
  ·
   rw [if_pos c48] at H
   have c48b0 : (t291 != t234) = true := c48
   (try (have c48b1 : decide (t291 = t234) = false := by simpa using c48))
   (try (have c48b2 : (t291 == t234) = false := by simpa using c48))
   (try (have c48b3 : ¬ (t291 = t234) := by simpa using c48))
   clear c48
   exact absurd (hrt.out.symm.trans (Option.some.inj H).symm) (by decide)
  rw [if_neg c48] at H
  have c48b0 : (t291 != t234) = false := by simpa using c48
  (try (have c48b1 : decide (t291 = t234) = true := by simpa using c48))
  (try (have c48b2 : (t291 == t234) = true := by simpa using c48))
  clear c48; obtain ⟨t294, A490, H⟩ := Option.bind_eq_some_iff.mp H
  try dsimp only at H
  have A49 := Aside0.mk A490; clear A490
  by_cases c50 : t294 < 0
  ·
   rw [if_pos c50] at H
   have c50b0 : decide (t294 < 0) = true := decide_eq_true c50; clear c50
   exact absurd (hrt.out.symm.trans (Option.some.inj H).symm) (by decide)
  rw [if_neg c50] at H
  have c50b0 : decide (t294 < 0) = false := decide_eq_false c50; clear c50
  by_cases c51 : t294 = t273
  rotate_left
  ·
   rw [if_neg c51] at H
   have c51b0 : (t294 == t273) = false := beq_eq_false_iff_ne.mpr c51; have c51b1 : (t294 != t273) = true := bne_iff_ne.mpr c51
   exact absurd (hrt.out.symm.trans (Option.some.inj H).symm) (by decide)
  rw [if_pos c51] at H
  have c51b0 : (t294 == t273) = true := beq_iff_eq.mpr c51; have c51b1 : (t294 != t273) = false := bne_eq_false_iff_eq.mpr c51; clear c51; obtain rfl := Option.some.inj H
  go_enter Try.func3, Try.ntmps3
  try go_wp2_with (first | ((with_reducible refine gd 2 ?_); refine bA 2 #[.int .i64 a0_0, .string a0_1, .slice A0_2 l0_2.length c0_2] 24 ?_; intro gb215 hg w52 hbox hb; have BK215 := Aside0.mk (hbox); have GW215 := bg hg HB; have GJ215 := gi GW215; have GE215 := GW215; replace HB := bs HB hb; clear hb hbox hg) | ((with_reducible refine gd 3 ?_); refine bA 3 #[.int .i64 a1_0, .string a1_1, .slice A1_2 l1_2.length c1_2] 24 ?_; intro gb216 hg w53 hbox hb; have BK216 := Aside0.mk (hbox); have GW216 := bg hg HB; have GJ216 := gi GW216; have GE216 := GW216; replace HB := bs HB hb; have NB215_216 := b1 BK215 hg; have NI215_216 := ni NB215_216; have NB216_215 := b2 BK215 hg; have NI216_215 := ni NB216_215; replace BK215 := bk BK215 hb; clear hb hbox hg; have hnb54 := NB215_216.out; have hnc54 := NB216_215.out; obtain ⟨hcz55_0, hcz55_1, hcz55_2, hfz55_0, hfz55_1, hfz55_2⟩ := cs3 BK215) | ((with_reducible refine gate_callee (f := 6) rfl ?_); refine gB (some 19) Try.func6 #[.agg #[.int .i64 a0_0, .string a0_1, .slice A0_2 l0_2.length c0_2], .int .i64 1048576] ?_; (with_reducible refine (laws_szPart.calls a0_0 a0_1 _ _ l0_2 1048576 t217 _ ?side1 ?side2 A3.out).mono ?_); (case side1 => exact ch HR0_2 HB); (case side2 => exact HC0_2.out); rintro e w56 ⟨rfl, hb⟩; refine ⟨_, rfl, ?_⟩; replace BK215 := bk BK215 hb; replace BK216 := bk BK216 hb; replace HB := bs HB hb; (try clear hb); (try clear hb2); (try clear hk); (try clear hi); obtain ⟨hcz57_0, hcz57_1, hcz57_2, hfz57_0, hfz57_1, hfz57_2⟩ := cs3 BK216) | ((with_reducible refine gate_callee (f := 6) rfl ?_); refine gB (some 24) Try.func6 #[.agg #[.int .i64 a1_0, .string a1_1, .slice A1_2 l1_2.length c1_2], .int .i64 t217] ?_; (with_reducible refine (laws_szPart.calls a1_0 a1_1 _ _ l1_2 t217 t218 _ ?side1 ?side2 A10.out).mono ?_); (case side1 => exact ch HR1_2 HB); (case side2 => exact HC1_2.out); rintro e w58 ⟨rfl, hb⟩; refine ⟨_, rfl, ?_⟩; replace BK215 := bk BK215 hb; replace BK216 := bk BK216 hb; replace HB := bs HB hb; (try clear hb); (try clear hb2); (try clear hk); (try clear hi)))
  replace BK215 := Aside0.mk (blk_drew BK215.out); replace BK216 := Aside0.mk (blk_drew BK216.out); replace HB := Aside0.mk (below_drew1 HB.out)
  refine start_ (n := 11) (S := fun w' => w'.cell? ⟨gb215, 0, none⟩ = some (.int .i64 a0_0) ∧ w'.cell? ⟨gb215, 1, none⟩ = some (.string a0_1) ∧ w'.cell? ⟨gb215, 2, none⟩ = some (.slice A0_2 l0_2.length c0_2) ∧ w'.cell? ⟨gb216, 0, none⟩ = some (.int .i64 a1_0) ∧ w'.cell? ⟨gb216, 1, none⟩ = some (.string a1_1) ∧ w'.cell? ⟨gb216, 2, none⟩ = some (.slice A1_2 l1_2.length c1_2)) (ds := []) #[false, false, false, false, false, false, false, false, false, false, false] (by kernel_rfl) rfl rfl ⟨bc0 BK215.out, bc1 BK215.out, bc2 BK215.out, bc0 BK216.out, bc1 BK216.out, bc2 BK216.out⟩ (fun hHeld => ?_); refine with_tabW laws_FnExactPartJoin.tab8 laws_FnExactPartJoin.bits8 (fun HT_ HW_ => ?_)
  generalize w58.drew = w59 at BK215 BK216 HB hHeld ⊢
  refine tA 0 (some 28) (bz 11 1) HT_ HW_ hHeld ?_
  refine tA 2 (some 30) (bz 11 5) HT_ HW_ hHeld ?_
  refine join_ (σ := Value × Value × Value × Nat) 2 #[true, true, true, true, true, true, true, true, true, false, false] (fun s_ => [(29, .agg #[.int .i64 t219, .string t220, s_.1]), (31, .agg #[.int .i64 t224, .string t225, s_.2.1]), (32, .tuple #[.agg #[.int .i64 t229, .string t230, s_.2.2.1], .bool t234]), (6, .pointer (some ⟨s_.2.2.2, 0, none⟩)), (27, .tuple #[.agg #[.int .i64 t229, .string t230, s_.2.2.1], .bool t234]), (33, .agg #[.int .i64 t229, .string t230, s_.2.2.1]), (34, .bool t234)]) (fun s_ w' => (w'.cell? ⟨gb215, 0, none⟩ = some (.int .i64 a0_0) ∧ w'.cell? ⟨gb215, 1, none⟩ = some (.string a0_1) ∧ w'.cell? ⟨gb215, 2, none⟩ = some (.slice A0_2 l0_2.length c0_2) ∧ w'.cell? ⟨gb216, 0, none⟩ = some (.int .i64 a1_0) ∧ w'.cell? ⟨gb216, 1, none⟩ = some (.string a1_1) ∧ w'.cell? ⟨gb216, 2, none⟩ = some (.slice A1_2 l1_2.length c1_2)) ∧ (Kd.R (Kd.int .i64) 3 w' w.heap.size (fun k_ => some k_ ≠ (s_.2.1 : Value).ownBlock ∧ some k_ ≠ (s_.2.2.1 : Value).ownBlock) s_.1 t221) ∧ (Kd.R (Kd.int .i64) 3 w' w.heap.size (fun k_ => some k_ ≠ (s_.1 : Value).ownBlock ∧ some k_ ≠ (s_.2.2.1 : Value).ownBlock) s_.2.1 t226) ∧ (Kd.R (Kd.int .i64) 3 w' w.heap.size (fun k_ => some k_ ≠ (s_.1 : Value).ownBlock ∧ some k_ ≠ (s_.2.1 : Value).ownBlock) s_.2.2.1 t231) ∧ (w'.heap[gb215]? = some (.cells #[.int .i64 a0_0, .string a0_1, .slice A0_2 l0_2.length c0_2] 24 (0, 0))) ∧ (w'.heap[gb216]? = some (.cells #[.int .i64 a1_0, .string a1_1, .slice A1_2 l1_2.length c1_2] 24 (0, 0))) ∧ (w'.heap[s_.2.2.2]? = some (.cells #[.int .i64 0, .string (⟨#[]⟩ : ByteArray), .slice none 0 0] 26 (0, 0))) ∧ (w.heap.size ≤ s_.2.2.2) ∧ (w.heap.size ≤ s_.2.2.2) ∧ (gb215 ≠ s_.2.2.2) ∧ (s_.2.2.2 ≠ gb215) ∧ (gb216 ≠ s_.2.2.2) ∧ (s_.2.2.2 ≠ gb216) ∧ (Below w.heap.size w w')) ?_ ?_
  rotate_left
  ·
   intro hCont
   refine two_ (i := 1) (j := 8) (Ni := some 29) (Nj := some 6) #[true, true, true, false, false, false, false, false, false, false, false] #[true, false, true, false, false, false, false, false, true, false, false] rfl rfl rfl rfl (two_of HT_.out (by kernel_rfl)) (by decide) (by decide) (fun K hK => ?_) (fun K hK => ?_)
   ·
    skip
    refine gA Try.func8 #[.agg #[.int .i64 a0_0, .string a0_1, .slice A0_2 l0_2.length c0_2]] ?_
    with_reducible refine (laws_toPart.calls k a0_0 a0_1 _ _ l0_2 t219 t220 t221 _ ?side1 ?side2 A19.out).mono ?_
    (case side1 => exact ch HR0_2 HB)
    (case side2 => exact HC0_2.out)
    rintro e w60 ⟨v222, rfl, ho0, hb⟩
    refine ⟨_, rfl, ?_⟩
    have HO223 := Aside0.mk (Kd.R_lower ho0 (below_size (bI HB.out))); replace BK215 := bk BK215 hb; replace BK216 := bk BK216 hb; replace HB := bs HB hb
    (try clear hb)
    (try clear hb2)
    (try clear hk)
    (try clear hi)
    (try clear ho0)
    refine hK.out _ _ ⟨bc0 BK215.out, bc1 BK215.out, bc2 BK215.out, bc0 BK216.out, bc1 BK216.out, bc2 BK216.out⟩ (fun hHeld => ?_)
    clear hK K
    refine nA (some 29) ?_
    refine two_ (i := 3) (j := 8) (Ni := some 31) (Nj := some 6) #[true, true, true, true, false, false, false, false, false, false, false] #[true, true, true, false, false, false, false, false, true, false, false] rfl rfl rfl rfl (two_of HT_.out (by kernel_rfl)) (by decide) (by decide) (fun K hK => ?_) (fun K hK => ?_)
    ·
     skip
     refine gA Try.func8 #[.agg #[.int .i64 a1_0, .string a1_1, .slice A1_2 l1_2.length c1_2]] ?_
     with_reducible refine (laws_toPart.calls k a1_0 a1_1 _ _ l1_2 t224 t225 t226 _ ?side1 ?side2 A20.out).mono ?_
     (case side1 => exact ch HR1_2 HB)
     (case side2 => exact HC1_2.out)
     rintro e w61 ⟨v227, rfl, ho0, hb⟩
     refine ⟨_, rfl, ?_⟩
     have HO228 := Aside0.mk (Kd.R_lower (Kd.R_new' ho0 (Kd.R_lt (rI HO223.out))) (below_size (bI HB.out))); replace HO223 := Aside0.mk (Kd.R_elder' (rI HO223.out) (Kd.R_base ho0) hb); replace BK215 := bk BK215 hb; replace BK216 := bk BK216 hb; replace HB := bs HB hb
     (try clear hb)
     (try clear hb2)
     (try clear hk)
     (try clear hi)
     (try clear ho0)
     obtain ⟨Ao62, co62, eo62⟩ := Kd.R_slice HO223.out
     (first | subst eo62 | (injection eo62 with f1_ f2_ f3_; have f4_ := f1_.symm; have f5_ := f3_.symm; clear f1_ f2_ f3_; subst f4_; subst f5_))
     obtain ⟨Ao63, co63, eo63⟩ := Kd.R_slice HO228.out
     (first | subst eo63 | (injection eo63 with f1_ f2_ f3_; have f4_ := f1_.symm; have f5_ := f3_.symm; clear f1_ f2_ f3_; subst f4_; subst f5_))
     refine hK.out _ _ ⟨bc0 BK215.out, bc1 BK215.out, bc2 BK215.out, bc0 BK216.out, bc1 BK216.out, bc2 BK216.out⟩ (fun hHeld => ?_)
     clear hK K
     refine nA (some 31) ?_
     refine two_ (i := 4) (j := 8) (Ni := some 32) (Nj := some 6) #[true, true, true, true, true, false, false, false, false, false, false] #[true, true, true, true, false, false, false, false, true, false, false] rfl rfl rfl rfl (two_of HT_.out (by kernel_rfl)) (by decide) (by decide) (fun K hK => ?_) (fun K hK => ?_)
     ·
      skip
      refine gA Try.func7 #[.agg #[.int .i64 t219, .string t220, .slice Ao62 t221.length co62], .agg #[.int .i64 t224, .string t225, .slice Ao63 t226.length co63]] ?_
      with_reducible refine (spec_PartJoin.calls k t219 t220 _ _ t221 t224 t225 _ _ t226 t229 t230 t231 t234 _ ?side1 ?side2 ?side3 ?side4 A21.out).mono ?_
      (case side1 => repeat (first | exact (Kd.R_reads' HO223.out).2.2 | (with_reducible refine Kd.C_alloc ?_ _) | (with_reducible refine Kd.C_drewN ?_ _) | (with_reducible refine Kd.C_drew ?_)))
      (case side2 => exact (Kd.R_reads' HO223.out).2.1)
      (case side3 => repeat (first | exact (Kd.R_reads' HO228.out).2.2 | (with_reducible refine Kd.C_alloc ?_ _) | (with_reducible refine Kd.C_drewN ?_ _) | (with_reducible refine Kd.C_drew ?_)))
      (case side4 => exact (Kd.R_reads' HO228.out).2.1)
      rintro e w64 ⟨v232, rfl, ho0, hb⟩
      refine ⟨_, rfl, ?_⟩
      have HO233 := Aside0.mk (Kd.R_lower (Kd.R_new' (Kd.R_new' ho0 (Kd.R_lt (rI HO223.out))) (Kd.R_lt (rI HO228.out))) (below_size (bI HB.out))); replace HO223 := Aside0.mk (Kd.R_elder' (rI HO223.out) (Kd.R_base ho0) hb); replace HO228 := Aside0.mk (Kd.R_elder' (rI HO228.out) (Kd.R_base ho0) hb); replace BK215 := bk BK215 hb; replace BK216 := bk BK216 hb; replace HB := bs HB hb
      (try clear hb)
      (try clear hb2)
      (try clear hk)
      (try clear hi)
      (try clear ho0)
      refine hK.out _ _ ⟨bc0 BK215.out, bc1 BK215.out, bc2 BK215.out, bc0 BK216.out, bc1 BK216.out, bc2 BK216.out⟩ (fun hHeld => ?_)
      clear hK K
      refine nA (some 32) ?_
      refine pA 5 (some 27) (bz 11 63) HT_ ?_
      refine pA 6 (some 33) (bz 11 127) HT_ ?_
      refine pA 7 (some 34) (bz 11 255) HT_ ?_
      refine oA 8 (some 6) (bz 11 511) HT_ (fun K hK => ?_)
      refine box_step ?hg (N := 6) ?hd (cs := #[.int .i64 0, .string (⟨#[]⟩ : ByteArray), .slice none 0 0]) (t := 26) ?hr ?_; (case hd => rfl); (case hg => rfl); (case hr => first | (go_simp; done) | (go_simp; rfl))
      intro gb235 hg w65 hbox hb
      replace HO223 := rb HO223 hb; replace HO228 := rb HO228 hb; replace HO233 := rb HO233 hb; have BK235 := Aside0.mk (hbox); have GW235 := bg hg HB; have GJ235 := gi GW235; have GE235 := bg hg HB; have GI235 := gi GE235; replace HB := bs HB hb; have NB215_235 := b1 BK215 hg; have NI215_235 := ni NB215_235; have NB235_215 := b2 BK215 hg; have NI235_215 := ni NB235_215; replace BK215 := bk BK215 hb; have NB216_235 := b1 BK216 hg; have NI216_235 := ni NB216_235; have NB235_216 := b2 BK216 hg; have NI235_216 := ni NB235_216; replace BK216 := bk BK216 hb; clear hb hbox hg
      refine hK.out _ _ ⟨bc0 BK215.out, bc1 BK215.out, bc2 BK215.out, bc0 BK216.out, bc1 BK216.out, bc2 BK216.out⟩ (fun hHeld => ?_)
      clear hK K
      refine nA (some 6) ?_
      exact norm_ y0_4 (hCont (.slice Ao62 t221.length co62, .slice Ao63 t226.length co63, v232, gb235) _ ⟨hHeld, (rI (Kd.R_mono HO223.out (fun _ hk => ⟨hk.1.2, hk.2⟩))), (rI (Kd.R_mono HO228.out (fun _ hk => ⟨hk.1.2, hk.2⟩))), (rI (Kd.R_mono HO233.out (fun _ hk => ⟨hk.1.2, hk.2⟩))), (kI BK215.out), (kI BK216.out), (kI BK235.out), GW235.out, GE235.out, NB215_235.out, NB235_215.out, NB216_235.out, NB235_216.out, (bI HB.out)⟩)
     skip
     refine box_step ?hg (N := 6) ?hd (cs := #[.int .i64 0, .string (⟨#[]⟩ : ByteArray), .slice none 0 0]) (t := 26) ?hr ?_; (case hd => rfl); (case hg => rfl); (case hr => first | (go_simp; done) | (go_simp; rfl))
     intro gb235 hg w62 hbox hb
     replace HO223 := rb HO223 hb; replace HO228 := rb HO228 hb; have BK235 := Aside0.mk (hbox); have GW235 := bg hg HB; have GJ235 := gi GW235; have GE235 := bg hg HB; have GI235 := gi GE235; replace HB := bs HB hb; have NB215_235 := b1 BK215 hg; have NI215_235 := ni NB215_235; have NB235_215 := b2 BK215 hg; have NI235_215 := ni NB235_215; replace BK215 := bk BK215 hb; have NB216_235 := b1 BK216 hg; have NI216_235 := ni NB216_235; have NB235_216 := b2 BK216 hg; have NI235_216 := ni NB235_216; replace BK216 := bk BK216 hb; clear hb hbox hg; obtain ⟨Ao63, co63, eo63⟩ := Kd.R_slice HO223.out
     (first | subst eo63 | (injection eo63 with f1_ f2_ f3_; have f4_ := f1_.symm; have f5_ := f3_.symm; clear f1_ f2_ f3_; subst f4_; subst f5_))
     obtain ⟨Ao64, co64, eo64⟩ := Kd.R_slice HO228.out
     (first | subst eo64 | (injection eo64 with f1_ f2_ f3_; have f4_ := f1_.symm; have f5_ := f3_.symm; clear f1_ f2_ f3_; subst f4_; subst f5_))
     refine hK.out _ _ ⟨bc0 BK215.out, bc1 BK215.out, bc2 BK215.out, bc0 BK216.out, bc1 BK216.out, bc2 BK216.out⟩ (fun hHeld => ?_)
     clear hK K
     refine nA (some 6) ?_
     refine oA 4 (some 32) (bz 11 287) HT_ (fun K hK => ?_)
     refine gA Try.func7 #[.agg #[.int .i64 t219, .string t220, .slice Ao63 t221.length co63], .agg #[.int .i64 t224, .string t225, .slice Ao64 t226.length co64]] ?_
     with_reducible refine (spec_PartJoin.calls k t219 t220 _ _ t221 t224 t225 _ _ t226 t229 t230 t231 t234 _ ?side1 ?side2 ?side3 ?side4 A21.out).mono ?_
     (case side1 => repeat (first | exact (Kd.R_reads' HO223.out).2.2 | (with_reducible refine Kd.C_alloc ?_ _) | (with_reducible refine Kd.C_drewN ?_ _) | (with_reducible refine Kd.C_drew ?_)))
     (case side2 => exact (Kd.R_reads' HO223.out).2.1)
     (case side3 => repeat (first | exact (Kd.R_reads' HO228.out).2.2 | (with_reducible refine Kd.C_alloc ?_ _) | (with_reducible refine Kd.C_drewN ?_ _) | (with_reducible refine Kd.C_drew ?_)))
     (case side4 => exact (Kd.R_reads' HO228.out).2.1)
     rintro e w65 ⟨v232, rfl, ho0, hb⟩
     refine ⟨_, rfl, ?_⟩
     have HO233 := Aside0.mk (Kd.R_lower (Kd.R_new' (Kd.R_new' ho0 (Kd.R_lt (rI HO223.out))) (Kd.R_lt (rI HO228.out))) (below_size (bI HB.out))); replace HO223 := Aside0.mk (Kd.R_elder' (rI HO223.out) (Kd.R_base ho0) hb); replace HO228 := Aside0.mk (Kd.R_elder' (rI HO228.out) (Kd.R_base ho0) hb); replace BK215 := bk BK215 hb; replace BK216 := bk BK216 hb; replace BK235 := bk BK235 hb; replace HB := bs HB hb
     (try clear hb)
     (try clear hb2)
     (try clear hk)
     (try clear hi)
     (try clear ho0)
     refine hK.out _ _ ⟨bc0 BK215.out, bc1 BK215.out, bc2 BK215.out, bc0 BK216.out, bc1 BK216.out, bc2 BK216.out⟩ (fun hHeld => ?_)
     clear hK K
     refine nA (some 32) ?_
     refine pA 5 (some 27) (bz 11 319) HT_ ?_
     refine pA 6 (some 33) (bz 11 383) HT_ ?_
     refine pA 7 (some 34) (bz 11 511) HT_ ?_
     exact norm_ y0_4 (hCont (.slice Ao63 t221.length co63, .slice Ao64 t226.length co64, v232, gb235) _ ⟨hHeld, (rI (Kd.R_mono HO223.out (fun _ hk => ⟨hk.1.2, hk.2⟩))), (rI (Kd.R_mono HO228.out (fun _ hk => ⟨hk.1.2, hk.2⟩))), (rI (Kd.R_mono HO233.out (fun _ hk => ⟨hk.1.2, hk.2⟩))), (kI BK215.out), (kI BK216.out), (kI BK235.out), GW235.out, GE235.out, NB215_235.out, NB235_215.out, NB216_235.out, NB235_216.out, (bI HB.out)⟩)
    skip
    refine box_step ?hg (N := 6) ?hd (cs := #[.int .i64 0, .string (⟨#[]⟩ : ByteArray), .slice none 0 0]) (t := 26) ?hr ?_; (case hd => rfl); (case hg => rfl); (case hr => first | (go_simp; done) | (go_simp; rfl))
    intro gb235 hg w61 hbox hb
    replace HO223 := rb HO223 hb; have BK235 := Aside0.mk (hbox); have GW235 := bg hg HB; have GJ235 := gi GW235; have GE235 := bg hg HB; have GI235 := gi GE235; replace HB := bs HB hb; have NB215_235 := b1 BK215 hg; have NI215_235 := ni NB215_235; have NB235_215 := b2 BK215 hg; have NI235_215 := ni NB235_215; replace BK215 := bk BK215 hb; have NB216_235 := b1 BK216 hg; have NI216_235 := ni NB216_235; have NB235_216 := b2 BK216 hg; have NI235_216 := ni NB235_216; replace BK216 := bk BK216 hb; clear hb hbox hg
    refine hK.out _ _ ⟨bc0 BK215.out, bc1 BK215.out, bc2 BK215.out, bc0 BK216.out, bc1 BK216.out, bc2 BK216.out⟩ (fun hHeld => ?_)
    clear hK K
    refine nA (some 6) ?_
    refine oA 3 (some 31) (bz 11 271) HT_ (fun K hK => ?_)
    refine gA Try.func8 #[.agg #[.int .i64 a1_0, .string a1_1, .slice A1_2 l1_2.length c1_2]] ?_
    with_reducible refine (laws_toPart.calls k a1_0 a1_1 _ _ l1_2 t224 t225 t226 _ ?side1 ?side2 A20.out).mono ?_
    (case side1 => exact ch HR1_2 HB)
    (case side2 => exact HC1_2.out)
    rintro e w62 ⟨v227, rfl, ho0, hb⟩
    refine ⟨_, rfl, ?_⟩
    have HO228 := Aside0.mk (Kd.R_lower (Kd.R_new' ho0 (Kd.R_lt (rI HO223.out))) (below_size (bI HB.out))); replace HO223 := Aside0.mk (Kd.R_elder' (rI HO223.out) (Kd.R_base ho0) hb); replace BK215 := bk BK215 hb; replace BK216 := bk BK216 hb; replace BK235 := bk BK235 hb; replace HB := bs HB hb
    (try clear hb)
    (try clear hb2)
    (try clear hk)
    (try clear hi)
    (try clear ho0)
    obtain ⟨Ao63, co63, eo63⟩ := Kd.R_slice HO223.out
    (first | subst eo63 | (injection eo63 with f1_ f2_ f3_; have f4_ := f1_.symm; have f5_ := f3_.symm; clear f1_ f2_ f3_; subst f4_; subst f5_))
    obtain ⟨Ao64, co64, eo64⟩ := Kd.R_slice HO228.out
    (first | subst eo64 | (injection eo64 with f1_ f2_ f3_; have f4_ := f1_.symm; have f5_ := f3_.symm; clear f1_ f2_ f3_; subst f4_; subst f5_))
    refine hK.out _ _ ⟨bc0 BK215.out, bc1 BK215.out, bc2 BK215.out, bc0 BK216.out, bc1 BK216.out, bc2 BK216.out⟩ (fun hHeld => ?_)
    clear hK K
    refine nA (some 31) ?_
    refine oA 4 (some 32) (bz 11 287) HT_ (fun K hK => ?_)
    refine gA Try.func7 #[.agg #[.int .i64 t219, .string t220, .slice Ao63 t221.length co63], .agg #[.int .i64 t224, .string t225, .slice Ao64 t226.length co64]] ?_
    with_reducible refine (spec_PartJoin.calls k t219 t220 _ _ t221 t224 t225 _ _ t226 t229 t230 t231 t234 _ ?side1 ?side2 ?side3 ?side4 A21.out).mono ?_
    (case side1 => repeat (first | exact (Kd.R_reads' HO223.out).2.2 | (with_reducible refine Kd.C_alloc ?_ _) | (with_reducible refine Kd.C_drewN ?_ _) | (with_reducible refine Kd.C_drew ?_)))
    (case side2 => exact (Kd.R_reads' HO223.out).2.1)
    (case side3 => repeat (first | exact (Kd.R_reads' HO228.out).2.2 | (with_reducible refine Kd.C_alloc ?_ _) | (with_reducible refine Kd.C_drewN ?_ _) | (with_reducible refine Kd.C_drew ?_)))
    (case side4 => exact (Kd.R_reads' HO228.out).2.1)
    rintro e w65 ⟨v232, rfl, ho0, hb⟩
    refine ⟨_, rfl, ?_⟩
    have HO233 := Aside0.mk (Kd.R_lower (Kd.R_new' (Kd.R_new' ho0 (Kd.R_lt (rI HO223.out))) (Kd.R_lt (rI HO228.out))) (below_size (bI HB.out))); replace HO223 := Aside0.mk (Kd.R_elder' (rI HO223.out) (Kd.R_base ho0) hb); replace HO228 := Aside0.mk (Kd.R_elder' (rI HO228.out) (Kd.R_base ho0) hb); replace BK215 := bk BK215 hb; replace BK216 := bk BK216 hb; replace BK235 := bk BK235 hb; replace HB := bs HB hb
    (try clear hb)
    (try clear hb2)
    (try clear hk)
    (try clear hi)
    (try clear ho0)
    refine hK.out _ _ ⟨bc0 BK215.out, bc1 BK215.out, bc2 BK215.out, bc0 BK216.out, bc1 BK216.out, bc2 BK216.out⟩ (fun hHeld => ?_)
    clear hK K
    refine nA (some 32) ?_
    refine pA 5 (some 27) (bz 11 319) HT_ ?_
    refine pA 6 (some 33) (bz 11 383) HT_ ?_
    refine pA 7 (some 34) (bz 11 511) HT_ ?_
    exact norm_ y0_4 (hCont (.slice Ao63 t221.length co63, .slice Ao64 t226.length co64, v232, gb235) _ ⟨hHeld, (rI (Kd.R_mono HO223.out (fun _ hk => ⟨hk.1.2, hk.2⟩))), (rI (Kd.R_mono HO228.out (fun _ hk => ⟨hk.1.2, hk.2⟩))), (rI (Kd.R_mono HO233.out (fun _ hk => ⟨hk.1.2, hk.2⟩))), (kI BK215.out), (kI BK216.out), (kI BK235.out), GW235.out, GE235.out, NB215_235.out, NB235_215.out, NB216_235.out, NB235_216.out, (bI HB.out)⟩)
   skip
   refine box_step ?hg (N := 6) ?hd (cs := #[.int .i64 0, .string (⟨#[]⟩ : ByteArray), .slice none 0 0]) (t := 26) ?hr ?_; (case hd => rfl); (case hg => rfl); (case hr => first | (go_simp; done) | (go_simp; rfl))
   intro gb235 hg w60 hbox hb
   have BK235 := Aside0.mk (hbox); have GW235 := bg hg HB; have GJ235 := gi GW235; have GE235 := bg hg HB; have GI235 := gi GE235; replace HB := bs HB hb; have NB215_235 := b1 BK215 hg; have NI215_235 := ni NB215_235; have NB235_215 := b2 BK215 hg; have NI235_215 := ni NB235_215; replace BK215 := bk BK215 hb; have NB216_235 := b1 BK216 hg; have NI216_235 := ni NB216_235; have NB235_216 := b2 BK216 hg; have NI235_216 := ni NB235_216; replace BK216 := bk BK216 hb; clear hb hbox hg
   refine hK.out _ _ ⟨bc0 BK215.out, bc1 BK215.out, bc2 BK215.out, bc0 BK216.out, bc1 BK216.out, bc2 BK216.out⟩ (fun hHeld => ?_)
   clear hK K
   refine nA (some 6) ?_
   refine oA 1 (some 29) (bz 11 263) HT_ (fun K hK => ?_)
   refine gA Try.func8 #[.agg #[.int .i64 a0_0, .string a0_1, .slice A0_2 l0_2.length c0_2]] ?_
   with_reducible refine (laws_toPart.calls k a0_0 a0_1 _ _ l0_2 t219 t220 t221 _ ?side1 ?side2 A19.out).mono ?_
   (case side1 => exact ch HR0_2 HB)
   (case side2 => exact HC0_2.out)
   rintro e w61 ⟨v222, rfl, ho0, hb⟩
   refine ⟨_, rfl, ?_⟩
   have HO223 := Aside0.mk (Kd.R_lower ho0 (below_size (bI HB.out))); replace BK215 := bk BK215 hb; replace BK216 := bk BK216 hb; replace BK235 := bk BK235 hb; replace HB := bs HB hb
   (try clear hb)
   (try clear hb2)
   (try clear hk)
   (try clear hi)
   (try clear ho0)
   refine hK.out _ _ ⟨bc0 BK215.out, bc1 BK215.out, bc2 BK215.out, bc0 BK216.out, bc1 BK216.out, bc2 BK216.out⟩ (fun hHeld => ?_)
   clear hK K
   refine nA (some 29) ?_
   refine oA 3 (some 31) (bz 11 271) HT_ (fun K hK => ?_)
   refine gA Try.func8 #[.agg #[.int .i64 a1_0, .string a1_1, .slice A1_2 l1_2.length c1_2]] ?_
   with_reducible refine (laws_toPart.calls k a1_0 a1_1 _ _ l1_2 t224 t225 t226 _ ?side1 ?side2 A20.out).mono ?_
   (case side1 => exact ch HR1_2 HB)
   (case side2 => exact HC1_2.out)
   rintro e w62 ⟨v227, rfl, ho0, hb⟩
   refine ⟨_, rfl, ?_⟩
   have HO228 := Aside0.mk (Kd.R_lower (Kd.R_new' ho0 (Kd.R_lt (rI HO223.out))) (below_size (bI HB.out))); replace HO223 := Aside0.mk (Kd.R_elder' (rI HO223.out) (Kd.R_base ho0) hb); replace BK215 := bk BK215 hb; replace BK216 := bk BK216 hb; replace BK235 := bk BK235 hb; replace HB := bs HB hb
   (try clear hb)
   (try clear hb2)
   (try clear hk)
   (try clear hi)
   (try clear ho0)
   obtain ⟨Ao63, co63, eo63⟩ := Kd.R_slice HO223.out
   (first | subst eo63 | (injection eo63 with f1_ f2_ f3_; have f4_ := f1_.symm; have f5_ := f3_.symm; clear f1_ f2_ f3_; subst f4_; subst f5_))
   obtain ⟨Ao64, co64, eo64⟩ := Kd.R_slice HO228.out
   (first | subst eo64 | (injection eo64 with f1_ f2_ f3_; have f4_ := f1_.symm; have f5_ := f3_.symm; clear f1_ f2_ f3_; subst f4_; subst f5_))
   refine hK.out _ _ ⟨bc0 BK215.out, bc1 BK215.out, bc2 BK215.out, bc0 BK216.out, bc1 BK216.out, bc2 BK216.out⟩ (fun hHeld => ?_)
   clear hK K
   refine nA (some 31) ?_
   refine oA 4 (some 32) (bz 11 287) HT_ (fun K hK => ?_)
   refine gA Try.func7 #[.agg #[.int .i64 t219, .string t220, .slice Ao63 t221.length co63], .agg #[.int .i64 t224, .string t225, .slice Ao64 t226.length co64]] ?_
   with_reducible refine (spec_PartJoin.calls k t219 t220 _ _ t221 t224 t225 _ _ t226 t229 t230 t231 t234 _ ?side1 ?side2 ?side3 ?side4 A21.out).mono ?_
   (case side1 => repeat (first | exact (Kd.R_reads' HO223.out).2.2 | (with_reducible refine Kd.C_alloc ?_ _) | (with_reducible refine Kd.C_drewN ?_ _) | (with_reducible refine Kd.C_drew ?_)))
   (case side2 => exact (Kd.R_reads' HO223.out).2.1)
   (case side3 => repeat (first | exact (Kd.R_reads' HO228.out).2.2 | (with_reducible refine Kd.C_alloc ?_ _) | (with_reducible refine Kd.C_drewN ?_ _) | (with_reducible refine Kd.C_drew ?_)))
   (case side4 => exact (Kd.R_reads' HO228.out).2.1)
   rintro e w65 ⟨v232, rfl, ho0, hb⟩
   refine ⟨_, rfl, ?_⟩
   have HO233 := Aside0.mk (Kd.R_lower (Kd.R_new' (Kd.R_new' ho0 (Kd.R_lt (rI HO223.out))) (Kd.R_lt (rI HO228.out))) (below_size (bI HB.out))); replace HO223 := Aside0.mk (Kd.R_elder' (rI HO223.out) (Kd.R_base ho0) hb); replace HO228 := Aside0.mk (Kd.R_elder' (rI HO228.out) (Kd.R_base ho0) hb); replace BK215 := bk BK215 hb; replace BK216 := bk BK216 hb; replace BK235 := bk BK235 hb; replace HB := bs HB hb
   (try clear hb)
   (try clear hb2)
   (try clear hk)
   (try clear hi)
   (try clear ho0)
   refine hK.out _ _ ⟨bc0 BK215.out, bc1 BK215.out, bc2 BK215.out, bc0 BK216.out, bc1 BK216.out, bc2 BK216.out⟩ (fun hHeld => ?_)
   clear hK K
   refine nA (some 32) ?_
   refine pA 5 (some 27) (bz 11 319) HT_ ?_
   refine pA 6 (some 33) (bz 11 383) HT_ ?_
   refine pA 7 (some 34) (bz 11 511) HT_ ?_
   exact norm_ y0_4 (hCont (.slice Ao63 t221.length co63, .slice Ao64 t226.length co64, v232, gb235) _ ⟨hHeld, (rI (Kd.R_mono HO223.out (fun _ hk => ⟨hk.1.2, hk.2⟩))), (rI (Kd.R_mono HO228.out (fun _ hk => ⟨hk.1.2, hk.2⟩))), (rI (Kd.R_mono HO233.out (fun _ hk => ⟨hk.1.2, hk.2⟩))), (kI BK215.out), (kI BK216.out), (kI BK235.out), GW235.out, GE235.out, NB215_235.out, NB235_215.out, NB216_235.out, NB235_216.out, (bI HB.out)⟩)
  rintro ⟨v222, v227, v232, gb235⟩ w66 ⟨hS_, h0_, h1_, h2_, h3_, h4_, h5_, h6_, h7_, h8_, h9_, h10_, h11_, h12_⟩
  try dsimp only at h0_ h1_ h2_ h3_ h4_ h5_ h6_ h7_ h8_ h9_ h10_ h11_ h12_
  have n0_ := Aside0.mk h0_; have n1_ := Aside0.mk h1_; have n2_ := Aside0.mk h2_; have n3_ := Aside0.mk h3_; have n4_ := Aside0.mk h4_; have n5_ := Aside0.mk h5_; have n6_ := Aside0.mk h6_; have n7_ := Aside0.mk h7_; have n8_ := Aside0.mk h8_; have n9_ := Aside0.mk h9_; have n10_ := Aside0.mk h10_; have n11_ := Aside0.mk h11_; have n12_ := Aside0.mk h12_; clear BK215; clear BK216; clear HB; clear h0_ h1_ h2_ h3_ h4_ h5_ h6_ h7_ h8_ h9_ h10_ h11_ h12_; have HO223 := n0_; have HO228 := n1_; have HO233 := n2_; have BK215 := n3_; have BK216 := n4_; have BK235 := n5_; have GW235 := n6_; have GJ235 := gi GW235; have GE235 := n7_; have GI235 := gi GE235; have NB215_235 := n8_; have NI215_235 := ni NB215_235; have NB235_215 := n9_; have NI235_215 := ni NB235_215; have NB216_235 := n10_; have NI216_235 := ni NB216_235; have NB235_216 := n11_; have NI235_216 := ni NB235_216; have HB := n12_; clear n0_ n1_ n2_ n3_ n4_ n5_ n6_ n7_ n8_ n9_ n10_ n11_ n12_; have hHeld : w66.cell? ⟨gb215, 0, none⟩ = some (.int .i64 a0_0) ∧ w66.cell? ⟨gb215, 1, none⟩ = some (.string a0_1) ∧ w66.cell? ⟨gb215, 2, none⟩ = some (.slice A0_2 l0_2.length c0_2) ∧ w66.cell? ⟨gb216, 0, none⟩ = some (.int .i64 a1_0) ∧ w66.cell? ⟨gb216, 1, none⟩ = some (.string a1_1) ∧ w66.cell? ⟨gb216, 2, none⟩ = some (.slice A1_2 l1_2.length c1_2) := hS_; obtain ⟨Ao69, co69, eo69⟩ := Kd.R_slice HO233.out
  (first | subst eo69 | (injection eo69 with f1_ f2_ f3_; have f4_ := f1_.symm; have f5_ := f3_.symm; clear f1_ f2_ f3_; subst f4_; subst f5_))
  refine norm_ (a' := ?_) ?_ ?_
  rotate_left
  ·
   simp only [putAll, Act.put, List.setIfInBounds_toArray, List.set_cons_zero, List.set_cons_succ]
   rfl
  refine oA 9 none (bz 11 1023) HT_ (fun K hK => ?_)
  have hs67 : w66.cell? ⟨gb235, 0, none⟩ = some (.int .i64 0) := bc0 BK235.out; have hfs67 := blk_frozen BK235.out 0; have hns67_0 := NB215_235.out; have hns67_1 := NB216_235.out; have hms67_0 := NB235_215.out; have hms67_1 := NB235_216.out; have hs68 : w66.cell? ⟨gb235, 1, none⟩ = some (.string (⟨#[]⟩ : ByteArray)) := bc1 BK235.out; have hfs68 := blk_frozen BK235.out 1; have hns68_0 := NB215_235.out; have hns68_1 := NB216_235.out; have hms68_0 := NB235_215.out; have hms68_1 := NB235_216.out; have hs70 : w66.cell? ⟨gb235, 2, none⟩ = some (.slice none 0 0) := bc2 BK235.out; have hfs70 := blk_frozen BK235.out 2; have hns70_0 := NB215_235.out; have hns70_1 := NB216_235.out; have hms70_0 := NB235_215.out; have hms70_1 := NB235_216.out
  refine skip_ (w1 := ?_) (by rfl) rfl ?_ ?_
  rotate_left
  ·
   go_simp
   rfl
  refine hK.out _ _ ⟨((cell_far (p := ⟨gb235, _, none⟩) NB215_235.out _).trans (((cell_far (p := ⟨gb235, _, none⟩) NB215_235.out _).trans (((cell_far (p := ⟨gb235, _, none⟩) NB215_235.out _).trans (hHeld.1)))))), ((cell_far (p := ⟨gb235, _, none⟩) NB215_235.out _).trans (((cell_far (p := ⟨gb235, _, none⟩) NB215_235.out _).trans (((cell_far (p := ⟨gb235, _, none⟩) NB215_235.out _).trans (hHeld.2.1)))))), ((cell_far (p := ⟨gb235, _, none⟩) NB215_235.out _).trans (((cell_far (p := ⟨gb235, _, none⟩) NB215_235.out _).trans (((cell_far (p := ⟨gb235, _, none⟩) NB215_235.out _).trans (hHeld.2.2.1)))))), ((cell_far (p := ⟨gb235, _, none⟩) NB216_235.out _).trans (((cell_far (p := ⟨gb235, _, none⟩) NB216_235.out _).trans (((cell_far (p := ⟨gb235, _, none⟩) NB216_235.out _).trans (hHeld.2.2.2.1)))))), ((cell_far (p := ⟨gb235, _, none⟩) NB216_235.out _).trans (((cell_far (p := ⟨gb235, _, none⟩) NB216_235.out _).trans (((cell_far (p := ⟨gb235, _, none⟩) NB216_235.out _).trans (hHeld.2.2.2.2.1)))))), ((cell_far (p := ⟨gb235, _, none⟩) NB216_235.out _).trans (((cell_far (p := ⟨gb235, _, none⟩) NB216_235.out _).trans (((cell_far (p := ⟨gb235, _, none⟩) NB216_235.out _).trans (hHeld.2.2.2.2.2))))))⟩ (fun hHeld => ?_)
  clear hK K
  refine pA 10 (some 7) (bz 11 2047) HT_ ?_
  refine done_ (done_of HT_.out (by kernel_rfl)) ?_
  have hnb71 := NB215_235.out; have hnc71 := NB235_215.out; have hcz72_0 := bc0 BK215.out; have hcz72_1 := bc1 BK215.out; have hcz72_2 := bc2 BK215.out; have hfz72_0 := blk_frozen BK215.out 0; have hfz72_1 := blk_frozen BK215.out 1; have hfz72_2 := blk_frozen BK215.out 2
  try go_wp2_with (first | ((with_reducible refine gate_callee (f := 8) rfl ?_); refine gB (some 36) Try.func8 #[.agg #[.int .i64 a0_0, .string a0_1, .slice A0_2 l0_2.length c0_2]] ?_; (with_reducible refine (laws_toPart.calls k a0_0 a0_1 _ _ l0_2 t236 t237 t238 _ ?side1 ?side2 A22.out).mono ?_); (case side1 => exact Kd.C_below HR0_2.out (bI HB.out)); (case side2 => exact HC0_2.out); rintro e w73 ⟨v239, rfl, ho0, hb⟩; refine ⟨_, rfl, ?_⟩; have HO240 := Aside0.mk (Kd.R_lower (Kd.R_new' (Kd.R_new' (Kd.R_new' ho0 (Kd.R_lt (rI (Kd.R_mono (Kd.R_far (p := ⟨gb235, 2, none⟩) (Kd.R_far (p := ⟨gb235, 1, none⟩) (Kd.R_far (p := ⟨gb235, 0, none⟩) (Kd.R_types HO223.out BK235.out (by decide)) (fun _ hk => hk.2) (.int .i64 t229)) (fun _ hk => hk.2) (.string t230)) (fun _ hk => hk.2) (.slice Ao69 t231.length co69)) (fun _ h_ => h_.1))))) (Kd.R_lt (rI (Kd.R_mono (Kd.R_far (p := ⟨gb235, 2, none⟩) (Kd.R_far (p := ⟨gb235, 1, none⟩) (Kd.R_far (p := ⟨gb235, 0, none⟩) (Kd.R_types HO228.out BK235.out (by decide)) (fun _ hk => hk.2) (.int .i64 t229)) (fun _ hk => hk.2) (.string t230)) (fun _ hk => hk.2) (.slice Ao69 t231.length co69)) (fun _ h_ => h_.1))))) (Kd.R_lt (rI (Kd.R_mono (Kd.R_far (p := ⟨gb235, 2, none⟩) (Kd.R_far (p := ⟨gb235, 1, none⟩) (Kd.R_far (p := ⟨gb235, 0, none⟩) (Kd.R_types HO233.out BK235.out (by decide)) (fun _ hk => hk.2) (.int .i64 t229)) (fun _ hk => hk.2) (.string t230)) (fun _ hk => hk.2) (.slice Ao69 t231.length co69)) (fun _ h_ => h_.1))))) (below_size (bI HB.out))); replace HO223 := Aside0.mk (Kd.R_elder' (rI (Kd.R_mono (Kd.R_far (p := ⟨gb235, 2, none⟩) (Kd.R_far (p := ⟨gb235, 1, none⟩) (Kd.R_far (p := ⟨gb235, 0, none⟩) (Kd.R_types HO223.out BK235.out (by decide)) (fun _ hk => hk.2) (.int .i64 t229)) (fun _ hk => hk.2) (.string t230)) (fun _ hk => hk.2) (.slice Ao69 t231.length co69)) (fun _ h_ => h_.1))) (Kd.R_base ho0) hb); replace HO228 := Aside0.mk (Kd.R_elder' (rI (Kd.R_mono (Kd.R_far (p := ⟨gb235, 2, none⟩) (Kd.R_far (p := ⟨gb235, 1, none⟩) (Kd.R_far (p := ⟨gb235, 0, none⟩) (Kd.R_types HO228.out BK235.out (by decide)) (fun _ hk => hk.2) (.int .i64 t229)) (fun _ hk => hk.2) (.string t230)) (fun _ hk => hk.2) (.slice Ao69 t231.length co69)) (fun _ h_ => h_.1))) (Kd.R_base ho0) hb); replace HO233 := Aside0.mk (Kd.R_elder' (rI (Kd.R_mono (Kd.R_far (p := ⟨gb235, 2, none⟩) (Kd.R_far (p := ⟨gb235, 1, none⟩) (Kd.R_far (p := ⟨gb235, 0, none⟩) (Kd.R_types HO233.out BK235.out (by decide)) (fun _ hk => hk.2) (.int .i64 t229)) (fun _ hk => hk.2) (.string t230)) (fun _ hk => hk.2) (.slice Ao69 t231.length co69)) (fun _ h_ => h_.1))) (Kd.R_base ho0) hb); replace BK215 := Aside0.mk (blk_below (g := gb215) (o := .cells #[.int .i64 a0_0, .string a0_1, .slice A0_2 l0_2.length c0_2] 24 (0, 0)) (gI BK215.out) hb); replace BK216 := Aside0.mk (blk_below (g := gb216) (o := .cells #[.int .i64 a1_0, .string a1_1, .slice A1_2 l1_2.length c1_2] 24 (0, 0)) (gI BK216.out) hb); replace BK235 := bp BK235 hb #[.int .i64 t229, .string t230, .slice Ao69 t231.length co69]; replace HB := bs HB hb; (try clear hb); (try clear ho0); clear HO223; clear HO228; have n_ := Aside0.mk (Kd.R_mono (ok' := (fun k_ => some k_ ≠ (v239 : Value).ownBlock)) HO233.out (fun k_ hk => hk.2)); clear HO233; have HO233 := n_; clear n_; have n_ := Aside0.mk (Kd.R_mono (ok' := (fun k_ => some k_ ≠ (.slice Ao69 t231.length co69 : Value).ownBlock)) HO240.out (fun k_ hk => hk.2)); clear HO240; have HO240 := n_; clear n_) | ((with_reducible refine gd 8 ?_); refine bA 8 #[.int .i64 0, .string (⟨#[]⟩ : ByteArray), .slice none 0 0] 26 ?_; intro gb241 hg w74 hbox hb; replace HO233 := rb HO233 hb; replace HO240 := rb HO240 hb; have BK241 := Aside0.mk (hbox); have GW241 := bg hg HB; have GJ241 := gi GW241; have GE241 := GW241; replace HB := bs HB hb; have NB215_241 := b1 BK215 hg; have NI215_241 := ni NB215_241; have NB241_215 := b2 BK215 hg; have NI241_215 := ni NB241_215; replace BK215 := bk BK215 hb; have NB216_241 := b1 BK216 hg; have NI216_241 := ni NB216_241; have NB241_216 := b2 BK216 hg; have NI241_216 := ni NB241_216; replace BK216 := bk BK216 hb; have NB235_241 := b1 BK235 hg; have NI235_241 := ni NB235_241; have NB241_235 := b2 BK235 hg; have NI241_235 := ni NB241_235; replace BK235 := bk BK235 hb; clear hb hbox hg; have hnb75 := NB241_215.out; have hnc75 := NB215_241.out; have hnb76 := NB241_216.out; have hnc76 := NB216_241.out; have hnb77 := NB241_235.out; have hnc77 := NB235_241.out; obtain ⟨hcz78_0, hcz78_1, hcz78_2, hfz78_0, hfz78_1, hfz78_2⟩ := cs3 BK241; obtain ⟨Ao79, co79, eo79⟩ := Kd.R_slice HO240.out; subst eo79; have hnb80 := NB216_235.out; have hnc80 := NB235_216.out; obtain ⟨hcz81_0, hcz81_1, hcz81_2, hfz81_0, hfz81_1, hfz81_2⟩ := cs3 BK216) | ((with_reducible refine gate_callee (f := 8) rfl ?_); refine gB (some 38) Try.func8 #[.agg #[.int .i64 a1_0, .string a1_1, .slice A1_2 l1_2.length c1_2]] ?_; (with_reducible refine (laws_toPart.calls k a1_0 a1_1 _ _ l1_2 t242 t243 t244 _ ?side1 ?side2 A23.out).mono ?_); (case side1 => exact Kd.C_below HR1_2.out (bI HB.out)); (case side2 => exact HC1_2.out); rintro e w82 ⟨v245, rfl, ho0, hb⟩; refine ⟨_, rfl, ?_⟩; have HO246 := Aside0.mk (Kd.R_lower (Kd.R_new' (Kd.R_new' ho0 (Kd.R_lt (rI (Kd.R_mono (Kd.R_far (p := ⟨gb241, 2, none⟩) (Kd.R_far (p := ⟨gb241, 1, none⟩) (Kd.R_far (p := ⟨gb241, 0, none⟩) (Kd.R_types HO233.out BK241.out (by decide)) (fun _ hk => hk.2) (.int .i64 t236)) (fun _ hk => hk.2) (.string t237)) (fun _ hk => hk.2) (.slice Ao79 t238.length co79)) (fun _ h_ => h_.1))))) (Kd.R_lt (rI (Kd.R_mono (Kd.R_far (p := ⟨gb241, 2, none⟩) (Kd.R_far (p := ⟨gb241, 1, none⟩) (Kd.R_far (p := ⟨gb241, 0, none⟩) (Kd.R_types HO240.out BK241.out (by decide)) (fun _ hk => hk.2) (.int .i64 t236)) (fun _ hk => hk.2) (.string t237)) (fun _ hk => hk.2) (.slice Ao79 t238.length co79)) (fun _ h_ => h_.1))))) (below_size (bI HB.out))); replace HO233 := Aside0.mk (Kd.R_elder' (rI (Kd.R_mono (Kd.R_far (p := ⟨gb241, 2, none⟩) (Kd.R_far (p := ⟨gb241, 1, none⟩) (Kd.R_far (p := ⟨gb241, 0, none⟩) (Kd.R_types HO233.out BK241.out (by decide)) (fun _ hk => hk.2) (.int .i64 t236)) (fun _ hk => hk.2) (.string t237)) (fun _ hk => hk.2) (.slice Ao79 t238.length co79)) (fun _ h_ => h_.1))) (Kd.R_base ho0) hb); replace HO240 := Aside0.mk (Kd.R_elder' (rI (Kd.R_mono (Kd.R_far (p := ⟨gb241, 2, none⟩) (Kd.R_far (p := ⟨gb241, 1, none⟩) (Kd.R_far (p := ⟨gb241, 0, none⟩) (Kd.R_types HO240.out BK241.out (by decide)) (fun _ hk => hk.2) (.int .i64 t236)) (fun _ hk => hk.2) (.string t237)) (fun _ hk => hk.2) (.slice Ao79 t238.length co79)) (fun _ h_ => h_.1))) (Kd.R_base ho0) hb); replace BK215 := Aside0.mk (blk_below (g := gb215) (o := .cells #[.int .i64 a0_0, .string a0_1, .slice A0_2 l0_2.length c0_2] 24 (0, 0)) (gI BK215.out) hb); replace BK216 := Aside0.mk (blk_below (g := gb216) (o := .cells #[.int .i64 a1_0, .string a1_1, .slice A1_2 l1_2.length c1_2] 24 (0, 0)) (gI BK216.out) hb); replace BK235 := Aside0.mk (blk_below (g := gb235) (o := .cells #[.int .i64 t229, .string t230, .slice Ao69 t231.length co69] 26 (0, 0)) (gI BK235.out) hb); replace BK241 := bp BK241 hb #[.int .i64 t236, .string t237, .slice Ao79 t238.length co79]; replace HB := bs HB hb; (try clear hb); (try clear ho0)) | ((with_reducible refine gd 9 ?_); refine bA 9 #[.int .i64 0, .string (⟨#[]⟩ : ByteArray), .slice none 0 0] 26 ?_; intro gb247 hg w83 hbox hb; replace HO233 := rb HO233 hb; replace HO240 := rb HO240 hb; replace HO246 := rb HO246 hb; have BK247 := Aside0.mk (hbox); have GW247 := bg hg HB; have GJ247 := gi GW247; have GE247 := GW247; replace HB := bs HB hb; have NB215_247 := b1 BK215 hg; have NI215_247 := ni NB215_247; have NB247_215 := b2 BK215 hg; have NI247_215 := ni NB247_215; replace BK215 := bk BK215 hb; have NB216_247 := b1 BK216 hg; have NI216_247 := ni NB216_247; have NB247_216 := b2 BK216 hg; have NI247_216 := ni NB247_216; replace BK216 := bk BK216 hb; have NB235_247 := b1 BK235 hg; have NI235_247 := ni NB235_247; have NB247_235 := b2 BK235 hg; have NI247_235 := ni NB247_235; replace BK235 := bk BK235 hb; have NB241_247 := b1 BK241 hg; have NI241_247 := ni NB241_247; have NB247_241 := b2 BK241 hg; have NI247_241 := ni NB247_241; replace BK241 := bk BK241 hb; clear hb hbox hg; have hnb84 := NB247_215.out; have hnc84 := NB215_247.out; have hnb85 := NB247_216.out; have hnc85 := NB216_247.out; have hnb86 := NB247_235.out; have hnc86 := NB235_247.out; have hnb87 := NB247_241.out; have hnc87 := NB241_247.out; obtain ⟨hcz88_0, hcz88_1, hcz88_2, hfz88_0, hfz88_1, hfz88_2⟩ := cs3 BK247; obtain ⟨Ao89, co89, eo89⟩ := Kd.R_slice HO246.out; subst eo89; obtain ⟨hcz90_0, hcz90_1, hcz90_2, hfz90_0, hfz90_1, hfz90_2⟩ := cs3 BK241) | ((with_reducible refine gate_callee (f := 9) rfl ?_); refine gB (some 42) Try.func9 #[.agg #[.int .i64 t236, .string t237, .slice Ao79 t238.length co79], .agg #[.int .i64 t242, .string t243, .slice Ao89 t244.length co89]] ?_; (with_reducible refine (impl_PartJoin.calls k t236 t237 _ _ t238 t242 t243 _ _ t244 t248 t249 t250 t253 _ ?side1 ?side2 ?side3 ?side4 A24.out).mono ?_); (case side1 => refine (Kd.R_reads' (e := 3) (base := w.heap.size) (ok := fun k_ => (some k_ ≠ (.slice Ao69 t231.length co69 : Value).ownBlock ∧ some k_ ≠ (.slice Ao89 t244.length co89 : Value).ownBlock)) (n := t238.length) (c := co79) ?_).2.2; exact (rI (Kd.R_mono (Kd.R_far (p := ⟨gb247, 2, none⟩) (Kd.R_far (p := ⟨gb247, 1, none⟩) (Kd.R_far (p := ⟨gb247, 0, none⟩) (Kd.R_types HO240.out BK247.out (by decide)) (fun _ hk => hk.2) (.int .i64 t242)) (fun _ hk => hk.2) (.string t243)) (fun _ hk => hk.2) (.slice Ao89 t244.length co89)) (fun _ h_ => h_.1)))); (case side2 => exact (Kd.R_reads' HO240.out).2.1); (case side3 => refine (Kd.R_reads' (e := 3) (base := w.heap.size) (ok := fun k_ => ((True ∧ some k_ ≠ (.slice Ao69 t231.length co69 : Value).ownBlock) ∧ some k_ ≠ (.slice Ao79 t238.length co79 : Value).ownBlock)) (n := t244.length) (c := co89) ?_).2.2; exact (rI (Kd.R_mono (Kd.R_far (p := ⟨gb247, 2, none⟩) (Kd.R_far (p := ⟨gb247, 1, none⟩) (Kd.R_far (p := ⟨gb247, 0, none⟩) (Kd.R_types HO246.out BK247.out (by decide)) (fun _ hk => hk.2) (.int .i64 t242)) (fun _ hk => hk.2) (.string t243)) (fun _ hk => hk.2) (.slice Ao89 t244.length co89)) (fun _ h_ => h_.1)))); (case side4 => exact (Kd.R_reads' HO246.out).2.1); rintro e w91 ⟨v251, rfl, ho0, hb⟩; refine ⟨_, rfl, ?_⟩; have HO252 := Aside0.mk (Kd.R_lower (Kd.R_new' (Kd.R_new' (Kd.R_new' ho0 (Kd.R_lt (rI (Kd.R_mono (Kd.R_far (p := ⟨gb247, 2, none⟩) (Kd.R_far (p := ⟨gb247, 1, none⟩) (Kd.R_far (p := ⟨gb247, 0, none⟩) (Kd.R_types HO233.out BK247.out (by decide)) (fun _ hk => hk.2) (.int .i64 t242)) (fun _ hk => hk.2) (.string t243)) (fun _ hk => hk.2) (.slice Ao89 t244.length co89)) (fun _ h_ => h_.1))))) (Kd.R_lt (rI (Kd.R_mono (Kd.R_far (p := ⟨gb247, 2, none⟩) (Kd.R_far (p := ⟨gb247, 1, none⟩) (Kd.R_far (p := ⟨gb247, 0, none⟩) (Kd.R_types HO240.out BK247.out (by decide)) (fun _ hk => hk.2) (.int .i64 t242)) (fun _ hk => hk.2) (.string t243)) (fun _ hk => hk.2) (.slice Ao89 t244.length co89)) (fun _ h_ => h_.1))))) (Kd.R_lt (rI (Kd.R_mono (Kd.R_far (p := ⟨gb247, 2, none⟩) (Kd.R_far (p := ⟨gb247, 1, none⟩) (Kd.R_far (p := ⟨gb247, 0, none⟩) (Kd.R_types HO246.out BK247.out (by decide)) (fun _ hk => hk.2) (.int .i64 t242)) (fun _ hk => hk.2) (.string t243)) (fun _ hk => hk.2) (.slice Ao89 t244.length co89)) (fun _ h_ => h_.1))))) (below_size (bI HB.out))); replace HO233 := Aside0.mk (Kd.R_elder' (rI (Kd.R_mono (Kd.R_far (p := ⟨gb247, 2, none⟩) (Kd.R_far (p := ⟨gb247, 1, none⟩) (Kd.R_far (p := ⟨gb247, 0, none⟩) (Kd.R_types HO233.out BK247.out (by decide)) (fun _ hk => hk.2) (.int .i64 t242)) (fun _ hk => hk.2) (.string t243)) (fun _ hk => hk.2) (.slice Ao89 t244.length co89)) (fun _ h_ => h_.1))) (Kd.R_base ho0) hb); replace HO240 := Aside0.mk (Kd.R_elder' (rI (Kd.R_mono (Kd.R_far (p := ⟨gb247, 2, none⟩) (Kd.R_far (p := ⟨gb247, 1, none⟩) (Kd.R_far (p := ⟨gb247, 0, none⟩) (Kd.R_types HO240.out BK247.out (by decide)) (fun _ hk => hk.2) (.int .i64 t242)) (fun _ hk => hk.2) (.string t243)) (fun _ hk => hk.2) (.slice Ao89 t244.length co89)) (fun _ h_ => h_.1))) (Kd.R_base ho0) hb); replace HO246 := Aside0.mk (Kd.R_elder' (rI (Kd.R_mono (Kd.R_far (p := ⟨gb247, 2, none⟩) (Kd.R_far (p := ⟨gb247, 1, none⟩) (Kd.R_far (p := ⟨gb247, 0, none⟩) (Kd.R_types HO246.out BK247.out (by decide)) (fun _ hk => hk.2) (.int .i64 t242)) (fun _ hk => hk.2) (.string t243)) (fun _ hk => hk.2) (.slice Ao89 t244.length co89)) (fun _ h_ => h_.1))) (Kd.R_base ho0) hb); replace BK215 := Aside0.mk (blk_below (g := gb215) (o := .cells #[.int .i64 a0_0, .string a0_1, .slice A0_2 l0_2.length c0_2] 24 (0, 0)) (gI BK215.out) hb); replace BK216 := Aside0.mk (blk_below (g := gb216) (o := .cells #[.int .i64 a1_0, .string a1_1, .slice A1_2 l1_2.length c1_2] 24 (0, 0)) (gI BK216.out) hb); replace BK235 := Aside0.mk (blk_below (g := gb235) (o := .cells #[.int .i64 t229, .string t230, .slice Ao69 t231.length co69] 26 (0, 0)) (gI BK235.out) hb); replace BK241 := Aside0.mk (blk_below (g := gb241) (o := .cells #[.int .i64 t236, .string t237, .slice Ao79 t238.length co79] 26 (0, 0)) (gI BK241.out) hb); replace BK247 := bp BK247 hb #[.int .i64 t242, .string t243, .slice Ao89 t244.length co89]; replace HB := bs HB hb; (try clear hb); (try clear ho0)) | ((with_reducible refine gd 10 ?_); refine bA 10 #[.int .i64 0, .string (⟨#[]⟩ : ByteArray), .slice none 0 0] 26 ?_; intro gb254 hg w92 hbox hb; replace HO233 := rb HO233 hb; replace HO240 := rb HO240 hb; replace HO246 := rb HO246 hb; replace HO252 := rb HO252 hb; have BK254 := Aside0.mk (hbox); have GW254 := bg hg HB; have GJ254 := gi GW254; have GE254 := GW254; replace HB := bs HB hb; have NB215_254 := b1 BK215 hg; have NI215_254 := ni NB215_254; have NB254_215 := b2 BK215 hg; have NI254_215 := ni NB254_215; replace BK215 := bk BK215 hb; have NB216_254 := b1 BK216 hg; have NI216_254 := ni NB216_254; have NB254_216 := b2 BK216 hg; have NI254_216 := ni NB254_216; replace BK216 := bk BK216 hb; have NB235_254 := b1 BK235 hg; have NI235_254 := ni NB235_254; have NB254_235 := b2 BK235 hg; have NI254_235 := ni NB254_235; replace BK235 := bk BK235 hb; have NB241_254 := b1 BK241 hg; have NI241_254 := ni NB241_254; have NB254_241 := b2 BK241 hg; have NI254_241 := ni NB254_241; replace BK241 := bk BK241 hb; have NB247_254 := b1 BK247 hg; have NI247_254 := ni NB247_254; have NB254_247 := b2 BK247 hg; have NI254_247 := ni NB254_247; replace BK247 := bk BK247 hb; clear hb hbox hg; have hnb93 := NB254_215.out; have hnc93 := NB215_254.out; have hnb94 := NB254_216.out; have hnc94 := NB216_254.out; have hnb95 := NB254_235.out; have hnc95 := NB235_254.out; have hnb96 := NB254_241.out; have hnc96 := NB241_254.out; have hnb97 := NB254_247.out; have hnc97 := NB247_254.out; obtain ⟨hcz98_0, hcz98_1, hcz98_2, hfz98_0, hfz98_1, hfz98_2⟩ := cs3 BK254; obtain ⟨Ao99, co99, eo99⟩ := Kd.R_slice HO252.out; subst eo99; obtain ⟨hcz100_0, hcz100_1, hcz100_2, hfz100_0, hfz100_1, hfz100_2⟩ := cs3 BK235) | ((with_reducible refine gate_callee (f := 10) rfl ?_); refine gB (some 47) Try.func10 #[.agg #[.int .i64 t248, .string t249, .slice Ao99 t250.length co99], .agg #[.int .i64 t229, .string t230, .slice Ao69 t231.length co69]] ?_; (with_reducible refine (laws_eqPart.calls k t248 t249 _ _ t250 t229 t230 _ _ t231 true _ ?side1 ?side2 ?side3 ?side4 A25.out).mono ?_); (case side1 => refine (Kd.R_reads' (e := 3) (base := w.heap.size) (ok := fun k_ => (((True ∧ some k_ ≠ (.slice Ao69 t231.length co69 : Value).ownBlock) ∧ some k_ ≠ (.slice Ao79 t238.length co79 : Value).ownBlock) ∧ some k_ ≠ (.slice Ao89 t244.length co89 : Value).ownBlock)) (n := t250.length) (c := co99) ?_).2.2; exact (rI (Kd.R_mono (Kd.R_far (p := ⟨gb254, 2, none⟩) (Kd.R_far (p := ⟨gb254, 1, none⟩) (Kd.R_far (p := ⟨gb254, 0, none⟩) (Kd.R_types HO252.out BK254.out (by decide)) (fun _ hk => hk.2) (.int .i64 t248)) (fun _ hk => hk.2) (.string t249)) (fun _ hk => hk.2) (.slice Ao99 t250.length co99)) (fun _ h_ => h_.1)))); (case side2 => exact (Kd.R_reads' HO252.out).2.1); (case side3 => refine (Kd.R_reads' (e := 3) (base := w.heap.size) (ok := fun k_ => ((some k_ ≠ (.slice Ao79 t238.length co79 : Value).ownBlock ∧ some k_ ≠ (.slice Ao89 t244.length co89 : Value).ownBlock) ∧ some k_ ≠ (.slice Ao99 t250.length co99 : Value).ownBlock)) (n := t231.length) (c := co69) ?_).2.2; exact (rI (Kd.R_mono (Kd.R_far (p := ⟨gb254, 2, none⟩) (Kd.R_far (p := ⟨gb254, 1, none⟩) (Kd.R_far (p := ⟨gb254, 0, none⟩) (Kd.R_types HO233.out BK254.out (by decide)) (fun _ hk => hk.2) (.int .i64 t248)) (fun _ hk => hk.2) (.string t249)) (fun _ hk => hk.2) (.slice Ao99 t250.length co99)) (fun _ h_ => h_.1)))); (case side4 => exact (Kd.R_reads' HO233.out).2.1); rintro e w101 ⟨rfl, hb⟩; refine ⟨_, rfl, ?_⟩; replace HO233 := Aside0.mk (Kd.R_below (rI (Kd.R_mono (Kd.R_far (p := ⟨gb254, 2, none⟩) (Kd.R_far (p := ⟨gb254, 1, none⟩) (Kd.R_far (p := ⟨gb254, 0, none⟩) (Kd.R_types HO233.out BK254.out (by decide)) (fun _ hk => hk.2) (.int .i64 t248)) (fun _ hk => hk.2) (.string t249)) (fun _ hk => hk.2) (.slice Ao99 t250.length co99)) (fun _ h_ => h_.1))) hb); replace HO240 := Aside0.mk (Kd.R_below (rI (Kd.R_mono (Kd.R_far (p := ⟨gb254, 2, none⟩) (Kd.R_far (p := ⟨gb254, 1, none⟩) (Kd.R_far (p := ⟨gb254, 0, none⟩) (Kd.R_types HO240.out BK254.out (by decide)) (fun _ hk => hk.2) (.int .i64 t248)) (fun _ hk => hk.2) (.string t249)) (fun _ hk => hk.2) (.slice Ao99 t250.length co99)) (fun _ h_ => h_.1))) hb); replace HO246 := Aside0.mk (Kd.R_below (rI (Kd.R_mono (Kd.R_far (p := ⟨gb254, 2, none⟩) (Kd.R_far (p := ⟨gb254, 1, none⟩) (Kd.R_far (p := ⟨gb254, 0, none⟩) (Kd.R_types HO246.out BK254.out (by decide)) (fun _ hk => hk.2) (.int .i64 t248)) (fun _ hk => hk.2) (.string t249)) (fun _ hk => hk.2) (.slice Ao99 t250.length co99)) (fun _ h_ => h_.1))) hb); replace HO252 := Aside0.mk (Kd.R_below (rI (Kd.R_mono (Kd.R_far (p := ⟨gb254, 2, none⟩) (Kd.R_far (p := ⟨gb254, 1, none⟩) (Kd.R_far (p := ⟨gb254, 0, none⟩) (Kd.R_types HO252.out BK254.out (by decide)) (fun _ hk => hk.2) (.int .i64 t248)) (fun _ hk => hk.2) (.string t249)) (fun _ hk => hk.2) (.slice Ao99 t250.length co99)) (fun _ h_ => h_.1))) hb); replace BK215 := Aside0.mk (blk_below (g := gb215) (o := .cells #[.int .i64 a0_0, .string a0_1, .slice A0_2 l0_2.length c0_2] 24 (0, 0)) (gI BK215.out) hb); replace BK216 := Aside0.mk (blk_below (g := gb216) (o := .cells #[.int .i64 a1_0, .string a1_1, .slice A1_2 l1_2.length c1_2] 24 (0, 0)) (gI BK216.out) hb); replace BK235 := Aside0.mk (blk_below (g := gb235) (o := .cells #[.int .i64 t229, .string t230, .slice Ao69 t231.length co69] 26 (0, 0)) (gI BK235.out) hb); replace BK241 := Aside0.mk (blk_below (g := gb241) (o := .cells #[.int .i64 t236, .string t237, .slice Ao79 t238.length co79] 26 (0, 0)) (gI BK241.out) hb); replace BK247 := Aside0.mk (blk_below (g := gb247) (o := .cells #[.int .i64 t242, .string t243, .slice Ao89 t244.length co89] 26 (0, 0)) (gI BK247.out) hb); replace BK254 := bp BK254 hb #[.int .i64 t248, .string t249, .slice Ao99 t250.length co99]; replace HB := bs HB hb; (try clear hb); (try clear hb2); (try clear hk); (try clear hi)))
  replace HO233 := Aside0.mk (Kd.R_drew HO233.out); replace HO240 := Aside0.mk (Kd.R_drew HO240.out); replace HO246 := Aside0.mk (Kd.R_drew HO246.out); replace HO252 := Aside0.mk (Kd.R_drew HO252.out); replace BK215 := Aside0.mk (blk_drew BK215.out); replace BK216 := Aside0.mk (blk_drew BK216.out); replace BK235 := Aside0.mk (blk_drew BK235.out); replace BK241 := Aside0.mk (blk_drew BK241.out); replace BK247 := Aside0.mk (blk_drew BK247.out); replace BK254 := Aside0.mk (blk_drew BK254.out); replace HB := Aside0.mk (below_drew1 HB.out)
  refine start_ (n := 5) (S := fun w' => w'.cell? ⟨gb241, 0, none⟩ = some (.int .i64 t236) ∧ w'.cell? ⟨gb241, 1, none⟩ = some (.string t237) ∧ w'.cell? ⟨gb241, 2, none⟩ = some (.slice Ao79 t238.length co79) ∧ w'.cell? ⟨gb215, 0, none⟩ = some (.int .i64 a0_0) ∧ w'.cell? ⟨gb215, 1, none⟩ = some (.string a0_1) ∧ w'.cell? ⟨gb215, 2, none⟩ = some (.slice A0_2 l0_2.length c0_2)) (ds := []) #[false, false, false, false, false] (by kernel_rfl) rfl rfl ⟨bc0 BK241.out, bc1 BK241.out, bc2 BK241.out, bc0 BK215.out, bc1 BK215.out, bc2 BK215.out⟩ (fun hHeld => ?_)
  generalize w101.drew = w102 at HO233 HO240 HO246 HO252 BK215 BK216 BK235 BK241 BK247 BK254 HB hHeld ⊢
  refine take_ (i := 0) (N := some 54) (v := ?_) (a' := ?_) #[true, false, false, false, false] rfl rfl (by kernel_rfl) (fun _ _ _ h => h) (Or.inl ⟨by rfl, ?_⟩) hHeld ?_ ?_
  rotate_left
  ·
   rintro w' ⟨s0, s1, s2, s3, s4, s5⟩
   go_simp
   with_reducible rfl
  rotate_left
  ·
   simp only [Act.put, List.setIfInBounds_toArray, List.set_cons_zero, List.set_cons_succ, i64_w, i32_w]
   rfl
  refine take_ (i := 1) (N := some 55) (v := ?_) (a' := ?_) #[true, true, false, false, false] rfl rfl (by kernel_rfl) (fun _ _ _ h => h) (Or.inl ⟨by rfl, ?_⟩) hHeld ?_ ?_
  rotate_left
  ·
   rintro w' ⟨s0, s1, s2, s3, s4, s5⟩
   go_simp
   with_reducible rfl
  rotate_left
  ·
   simp only [Act.put, List.setIfInBounds_toArray, List.set_cons_zero, List.set_cons_succ, i64_w, i32_w]
   rfl
  refine one_ (i := 2) (N := some 56) #[true, true, true, false, false] rfl rfl (by kernel_rfl) (by decide) (fun K hK => ?_)
  refine gA Try.func8 #[.agg #[.int .i64 a0_0, .string a0_1, .slice A0_2 l0_2.length c0_2]] ?_
  with_reducible refine (laws_toPart.calls k a0_0 a0_1 _ _ l0_2 t256 t257 t258 _ ?side1 ?side2 A28.out).mono ?_
  (case side1 => exact ch HR0_2 HB)
  (case side2 => exact HC0_2.out)
  rintro e w103 ⟨v259, rfl, ho0, hb⟩
  refine ⟨_, rfl, ?_⟩
  have HO260 := Aside0.mk (Kd.R_lower (Kd.R_new' (Kd.R_new' (Kd.R_new' (Kd.R_new' ho0 (Kd.R_lt (rI HO233.out))) (Kd.R_lt (rI HO240.out))) (Kd.R_lt (rI HO246.out))) (Kd.R_lt (rI HO252.out))) (below_size (bI HB.out))); replace HO233 := Aside0.mk (Kd.R_elder' (rI HO233.out) (Kd.R_base ho0) hb); replace HO240 := Aside0.mk (Kd.R_elder' (rI HO240.out) (Kd.R_base ho0) hb); replace HO246 := Aside0.mk (Kd.R_elder' (rI HO246.out) (Kd.R_base ho0) hb); replace HO252 := Aside0.mk (Kd.R_elder' (rI HO252.out) (Kd.R_base ho0) hb); replace BK215 := bk BK215 hb; replace BK216 := bk BK216 hb; replace BK235 := bk BK235 hb; replace BK241 := bk BK241 hb; replace BK247 := bk BK247 hb; replace BK254 := bk BK254 hb; replace HB := bs HB hb
  (try clear hb)
  (try clear hb2)
  (try clear hk)
  (try clear hi)
  (try clear ho0)
  obtain ⟨Ao104, co104, eo104⟩ := Kd.R_slice HO260.out
  (first | subst eo104 | (injection eo104 with f1_ f2_ f3_; have f4_ := f1_.symm; have f5_ := f3_.symm; clear f1_ f2_ f3_; subst f4_; subst f5_))
  refine hK.out _ _ ⟨bc0 BK241.out, bc1 BK241.out, bc2 BK241.out, bc0 BK215.out, bc1 BK215.out, bc2 BK215.out⟩ (fun hHeld => ?_)
  clear hK K
  refine nA (some 56) ?_
  refine one_ (i := 3) (N := some 57) #[true, true, true, true, false] rfl rfl (by kernel_rfl) (by decide) (fun K hK => ?_)
  refine gA Try.func10 #[.agg #[.int .i64 t236, .string t237, .slice Ao79 t238.length co79], .agg #[.int .i64 t256, .string t257, .slice Ao104 t258.length co104]] ?_
  with_reducible refine (laws_eqPart.calls k t236 t237 _ _ t238 t256 t257 _ _ t258 true _ ?side1 ?side2 ?side3 ?side4 A29.out).mono ?_
  (case side1 => repeat (first | exact (Kd.R_reads' HO240.out).2.2 | (with_reducible refine Kd.C_alloc ?_ _) | (with_reducible refine Kd.C_drewN ?_ _) | (with_reducible refine Kd.C_drew ?_)))
  (case side2 => exact (Kd.R_reads' HO240.out).2.1)
  (case side3 => repeat (first | exact (Kd.R_reads' HO260.out).2.2 | (with_reducible refine Kd.C_alloc ?_ _) | (with_reducible refine Kd.C_drewN ?_ _) | (with_reducible refine Kd.C_drew ?_)))
  (case side4 => exact (Kd.R_reads' HO260.out).2.1)
  rintro e w105 ⟨rfl, hb⟩
  refine ⟨_, rfl, ?_⟩
  replace HO233 := rb HO233 hb; replace HO240 := rb HO240 hb; replace HO246 := rb HO246 hb; replace HO252 := rb HO252 hb; replace HO260 := rb HO260 hb; replace BK215 := bk BK215 hb; replace BK216 := bk BK216 hb; replace BK235 := bk BK235 hb; replace BK241 := bk BK241 hb; replace BK247 := bk BK247 hb; replace BK254 := bk BK254 hb; replace HB := bs HB hb
  (try clear hb)
  (try clear hb2)
  (try clear hk)
  (try clear hi)
  refine hK.out _ _ ⟨bc0 BK241.out, bc1 BK241.out, bc2 BK241.out, bc0 BK215.out, bc1 BK215.out, bc2 BK215.out⟩ (fun hHeld => ?_)
  clear hK K
  refine nA (some 57) ?_
  refine pure_ (i := 4) (N := some 58) (v := ?_) (a' := ?_) #[true, true, true, true, true] rfl rfl (by kernel_rfl) (fun _ _ _ h => h) (Or.inl ⟨by rfl, ?_⟩) ?_ ?_
  rotate_left
  ·
   intro w'
   go_simp
   with_reducible rfl
  rotate_left
  ·
   simp only [Act.put, List.setIfInBounds_toArray, List.set_cons_zero, List.set_cons_succ, i64_w, i32_w]
   rfl
  refine done_ (by kernel_rfl) ?_
  clear HO260
  have n_ := Aside0.mk (Kd.R_mono (ok' := (fun k_ => some k_ ≠ (.slice Ao79 t238.length co79 : Value).ownBlock ∧ some k_ ≠ (.slice Ao89 t244.length co89 : Value).ownBlock ∧ some k_ ≠ (.slice Ao99 t250.length co99 : Value).ownBlock)) HO233.out (fun k_ hk => ⟨hk.1.1.1, ⟨hk.1.1.2, hk.1.2⟩⟩))
  clear HO233; have HO233 := n_; clear n_
  have n_ := Aside0.mk (Kd.R_mono (ok' := (fun k_ => some k_ ≠ (.slice Ao69 t231.length co69 : Value).ownBlock ∧ some k_ ≠ (.slice Ao89 t244.length co89 : Value).ownBlock ∧ some k_ ≠ (.slice Ao99 t250.length co99 : Value).ownBlock)) HO240.out (fun k_ hk => ⟨hk.1.1.1, ⟨hk.1.1.2, hk.1.2⟩⟩))
  clear HO240; have HO240 := n_; clear n_
  have n_ := Aside0.mk (Kd.R_mono (ok' := (fun k_ => some k_ ≠ (.slice Ao69 t231.length co69 : Value).ownBlock ∧ some k_ ≠ (.slice Ao79 t238.length co79 : Value).ownBlock ∧ some k_ ≠ (.slice Ao99 t250.length co99 : Value).ownBlock)) HO246.out (fun k_ hk => ⟨hk.1.1.1.2, ⟨hk.1.1.2, hk.1.2⟩⟩))
  clear HO246; have HO246 := n_; clear n_
  have n_ := Aside0.mk (Kd.R_mono (ok' := (fun k_ => some k_ ≠ (.slice Ao69 t231.length co69 : Value).ownBlock ∧ some k_ ≠ (.slice Ao79 t238.length co79 : Value).ownBlock ∧ some k_ ≠ (.slice Ao89 t244.length co89 : Value).ownBlock)) HO252.out (fun k_ hk => ⟨hk.1.1.1.2, ⟨hk.1.1.2, hk.1.2⟩⟩))
  clear HO252; have HO252 := n_; clear n_
  try go_wp2
  replace HO233 := Aside0.mk (Kd.R_drew HO233.out); replace HO240 := Aside0.mk (Kd.R_drew HO240.out); replace HO246 := Aside0.mk (Kd.R_drew HO246.out); replace HO252 := Aside0.mk (Kd.R_drew HO252.out); replace BK215 := Aside0.mk (blk_drew BK215.out); replace BK216 := Aside0.mk (blk_drew BK216.out); replace BK235 := Aside0.mk (blk_drew BK235.out); replace BK241 := Aside0.mk (blk_drew BK241.out); replace BK247 := Aside0.mk (blk_drew BK247.out); replace BK254 := Aside0.mk (blk_drew BK254.out); replace HB := Aside0.mk (below_drew1 HB.out)
  refine start_ (n := 5) (S := fun w' => w'.cell? ⟨gb247, 0, none⟩ = some (.int .i64 t242) ∧ w'.cell? ⟨gb247, 1, none⟩ = some (.string t243) ∧ w'.cell? ⟨gb247, 2, none⟩ = some (.slice Ao89 t244.length co89) ∧ w'.cell? ⟨gb216, 0, none⟩ = some (.int .i64 a1_0) ∧ w'.cell? ⟨gb216, 1, none⟩ = some (.string a1_1) ∧ w'.cell? ⟨gb216, 2, none⟩ = some (.slice A1_2 l1_2.length c1_2)) (ds := []) #[false, false, false, false, false] (by kernel_rfl) rfl rfl ⟨bc0 BK247.out, bc1 BK247.out, bc2 BK247.out, bc0 BK216.out, bc1 BK216.out, bc2 BK216.out⟩ (fun hHeld => ?_)
  generalize w105.drew = w106 at HO233 HO240 HO246 HO252 BK215 BK216 BK235 BK241 BK247 BK254 HB hHeld ⊢
  refine take_ (i := 0) (N := some 59) (v := ?_) (a' := ?_) #[true, false, false, false, false] rfl rfl (by kernel_rfl) (fun _ _ _ h => h) (Or.inl ⟨by rfl, ?_⟩) hHeld ?_ ?_
  rotate_left
  ·
   rintro w' ⟨s0, s1, s2, s3, s4, s5⟩
   go_simp
   with_reducible rfl
  rotate_left
  ·
   simp only [Act.put, List.setIfInBounds_toArray, List.set_cons_zero, List.set_cons_succ, i64_w, i32_w]
   rfl
  refine take_ (i := 1) (N := some 60) (v := ?_) (a' := ?_) #[true, true, false, false, false] rfl rfl (by kernel_rfl) (fun _ _ _ h => h) (Or.inl ⟨by rfl, ?_⟩) hHeld ?_ ?_
  rotate_left
  ·
   rintro w' ⟨s0, s1, s2, s3, s4, s5⟩
   go_simp
   with_reducible rfl
  rotate_left
  ·
   simp only [Act.put, List.setIfInBounds_toArray, List.set_cons_zero, List.set_cons_succ, i64_w, i32_w]
   rfl
  refine one_ (i := 2) (N := some 61) #[true, true, true, false, false] rfl rfl (by kernel_rfl) (by decide) (fun K hK => ?_)
  refine gA Try.func8 #[.agg #[.int .i64 a1_0, .string a1_1, .slice A1_2 l1_2.length c1_2]] ?_
  with_reducible refine (laws_toPart.calls k a1_0 a1_1 _ _ l1_2 t262 t263 t264 _ ?side1 ?side2 A31.out).mono ?_
  (case side1 => exact ch HR1_2 HB)
  (case side2 => exact HC1_2.out)
  rintro e w107 ⟨v265, rfl, ho0, hb⟩
  refine ⟨_, rfl, ?_⟩
  have HO266 := Aside0.mk (Kd.R_lower (Kd.R_new' (Kd.R_new' (Kd.R_new' (Kd.R_new' ho0 (Kd.R_lt (rI HO233.out))) (Kd.R_lt (rI HO240.out))) (Kd.R_lt (rI HO246.out))) (Kd.R_lt (rI HO252.out))) (below_size (bI HB.out))); replace HO233 := Aside0.mk (Kd.R_elder' (rI HO233.out) (Kd.R_base ho0) hb); replace HO240 := Aside0.mk (Kd.R_elder' (rI HO240.out) (Kd.R_base ho0) hb); replace HO246 := Aside0.mk (Kd.R_elder' (rI HO246.out) (Kd.R_base ho0) hb); replace HO252 := Aside0.mk (Kd.R_elder' (rI HO252.out) (Kd.R_base ho0) hb); replace BK215 := bk BK215 hb; replace BK216 := bk BK216 hb; replace BK235 := bk BK235 hb; replace BK241 := bk BK241 hb; replace BK247 := bk BK247 hb; replace BK254 := bk BK254 hb; replace HB := bs HB hb
  (try clear hb)
  (try clear hb2)
  (try clear hk)
  (try clear hi)
  (try clear ho0)
  obtain ⟨Ao108, co108, eo108⟩ := Kd.R_slice HO266.out
  (first | subst eo108 | (injection eo108 with f1_ f2_ f3_; have f4_ := f1_.symm; have f5_ := f3_.symm; clear f1_ f2_ f3_; subst f4_; subst f5_))
  refine hK.out _ _ ⟨bc0 BK247.out, bc1 BK247.out, bc2 BK247.out, bc0 BK216.out, bc1 BK216.out, bc2 BK216.out⟩ (fun hHeld => ?_)
  clear hK K
  refine nA (some 61) ?_
  refine one_ (i := 3) (N := some 62) #[true, true, true, true, false] rfl rfl (by kernel_rfl) (by decide) (fun K hK => ?_)
  refine gA Try.func10 #[.agg #[.int .i64 t242, .string t243, .slice Ao89 t244.length co89], .agg #[.int .i64 t262, .string t263, .slice Ao108 t264.length co108]] ?_
  with_reducible refine (laws_eqPart.calls k t242 t243 _ _ t244 t262 t263 _ _ t264 true _ ?side1 ?side2 ?side3 ?side4 A32.out).mono ?_
  (case side1 => repeat (first | exact (Kd.R_reads' HO246.out).2.2 | (with_reducible refine Kd.C_alloc ?_ _) | (with_reducible refine Kd.C_drewN ?_ _) | (with_reducible refine Kd.C_drew ?_)))
  (case side2 => exact (Kd.R_reads' HO246.out).2.1)
  (case side3 => repeat (first | exact (Kd.R_reads' HO266.out).2.2 | (with_reducible refine Kd.C_alloc ?_ _) | (with_reducible refine Kd.C_drewN ?_ _) | (with_reducible refine Kd.C_drew ?_)))
  (case side4 => exact (Kd.R_reads' HO266.out).2.1)
  rintro e w109 ⟨rfl, hb⟩
  refine ⟨_, rfl, ?_⟩
  replace HO233 := rb HO233 hb; replace HO240 := rb HO240 hb; replace HO246 := rb HO246 hb; replace HO252 := rb HO252 hb; replace HO266 := rb HO266 hb; replace BK215 := bk BK215 hb; replace BK216 := bk BK216 hb; replace BK235 := bk BK235 hb; replace BK241 := bk BK241 hb; replace BK247 := bk BK247 hb; replace BK254 := bk BK254 hb; replace HB := bs HB hb
  (try clear hb)
  (try clear hb2)
  (try clear hk)
  (try clear hi)
  refine hK.out _ _ ⟨bc0 BK247.out, bc1 BK247.out, bc2 BK247.out, bc0 BK216.out, bc1 BK216.out, bc2 BK216.out⟩ (fun hHeld => ?_)
  clear hK K
  refine nA (some 62) ?_
  refine pure_ (i := 4) (N := some 63) (v := ?_) (a' := ?_) #[true, true, true, true, true] rfl rfl (by kernel_rfl) (fun _ _ _ h => h) (Or.inl ⟨by rfl, ?_⟩) ?_ ?_
  rotate_left
  ·
   intro w'
   go_simp
   with_reducible rfl
  rotate_left
  ·
   simp only [Act.put, List.setIfInBounds_toArray, List.set_cons_zero, List.set_cons_succ, i64_w, i32_w]
   rfl
  refine done_ (by kernel_rfl) ?_
  have hcz110_0 := bc0 BK241.out; have hcz110_1 := bc1 BK241.out; have hcz110_2 := bc2 BK241.out; have hfz110_0 := blk_frozen BK241.out 0; have hfz110_1 := blk_frozen BK241.out 1; have hfz110_2 := blk_frozen BK241.out 2; clear HO266
  have n_ := Aside0.mk (Kd.R_mono (ok' := (fun k_ => some k_ ≠ (.slice Ao79 t238.length co79 : Value).ownBlock ∧ some k_ ≠ (.slice Ao89 t244.length co89 : Value).ownBlock ∧ some k_ ≠ (.slice Ao99 t250.length co99 : Value).ownBlock)) HO233.out (fun k_ hk => ⟨hk.1.1, ⟨hk.1.2.1, hk.1.2.2⟩⟩))
  clear HO233; have HO233 := n_; clear n_
  have n_ := Aside0.mk (Kd.R_mono (ok' := (fun k_ => some k_ ≠ (.slice Ao69 t231.length co69 : Value).ownBlock ∧ some k_ ≠ (.slice Ao89 t244.length co89 : Value).ownBlock ∧ some k_ ≠ (.slice Ao99 t250.length co99 : Value).ownBlock)) HO240.out (fun k_ hk => ⟨hk.1.1, ⟨hk.1.2.1, hk.1.2.2⟩⟩))
  clear HO240; have HO240 := n_; clear n_
  have n_ := Aside0.mk (Kd.R_mono (ok' := (fun k_ => some k_ ≠ (.slice Ao69 t231.length co69 : Value).ownBlock ∧ some k_ ≠ (.slice Ao79 t238.length co79 : Value).ownBlock ∧ some k_ ≠ (.slice Ao99 t250.length co99 : Value).ownBlock)) HO246.out (fun k_ hk => ⟨hk.1.1, ⟨hk.1.2.1, hk.1.2.2⟩⟩))
  clear HO246; have HO246 := n_; clear n_
  have n_ := Aside0.mk (Kd.R_mono (ok' := (fun k_ => some k_ ≠ (.slice Ao69 t231.length co69 : Value).ownBlock ∧ some k_ ≠ (.slice Ao79 t238.length co79 : Value).ownBlock ∧ some k_ ≠ (.slice Ao89 t244.length co89 : Value).ownBlock)) HO252.out (fun k_ hk => ⟨hk.1.1, ⟨hk.1.2.1, hk.1.2.2⟩⟩))
  clear HO252; have HO252 := n_; clear n_
  try go_wp2_with (first | ((with_reducible refine gate_callee (f := 11) rfl ?_); refine gB (some 66) Try.func11 #[.agg #[.int .i64 t236, .string t237, .slice Ao79 t238.length co79], .int .i64 1] ?_; (with_reducible refine (laws_markPart.calls k t236 t237 (fun k_ => some k_ = (.slice Ao79 t238.length co79 : Value).ownBlock) (.slice Ao79 t238.length co79) t238 1 t268 t269 w _ ?side1 ?side2 A34.out).mono ?_); (case side1 => exact bI HB.out); (case side2 => exact Kd.R_tight rfl HO240.out); rintro e w111 ⟨rfl, hy0, hb, hkp⟩; refine ⟨_, rfl, ?_⟩; replace BK215 := Aside0.mk (blk_kept (kI BK215.out) hkp (fun hs_ => (fun e_ => (Kd.R_ne HO240.out BK215.out (by decide)) e_) hs_)); replace BK216 := Aside0.mk (blk_kept (kI BK216.out) hkp (fun hs_ => (fun e_ => (Kd.R_ne HO240.out BK216.out (by decide)) e_) hs_)); replace HO233 := Aside0.mk (Kd.R_mono (ok' := fun k_ => some k_ ≠ (.slice Ao79 t238.length co79 : Value).ownBlock ∧ some k_ ≠ (.slice Ao89 t244.length co89 : Value).ownBlock ∧ some k_ ≠ (.slice Ao99 t250.length co99 : Value).ownBlock) (Kd.R_keptB (HO233.out) hkp (fun k_ hk_ hs_ => (hk_.1) hs_)) (fun k_ hk_ => ⟨hk_.1.1, hk_.1.2.1, hk_.1.2.2⟩)); replace BK235 := Aside0.mk (blk_kept (kI BK235.out) hkp (fun hs_ => (fun e_ => (Kd.R_ne HO240.out BK235.out (by decide)) e_) hs_)); replace BK241 := Aside0.mk (blk_kept (kI BK241.out) hkp (fun hs_ => (fun e_ => (Kd.R_ne HO240.out BK241.out (by decide)) e_) hs_)); replace HO246 := Aside0.mk (Kd.R_mono (ok' := fun k_ => some k_ ≠ (.slice Ao69 t231.length co69 : Value).ownBlock ∧ some k_ ≠ (.slice Ao79 t238.length co79 : Value).ownBlock ∧ some k_ ≠ (.slice Ao99 t250.length co99 : Value).ownBlock) (Kd.R_keptB (HO246.out) hkp (fun k_ hk_ hs_ => (hk_.2.1) hs_)) (fun k_ hk_ => ⟨hk_.1.1, hk_.1.2.1, hk_.1.2.2⟩)); replace BK247 := Aside0.mk (blk_kept (kI BK247.out) hkp (fun hs_ => (fun e_ => (Kd.R_ne HO240.out BK247.out (by decide)) e_) hs_)); replace HO252 := Aside0.mk (Kd.R_mono (ok' := fun k_ => some k_ ≠ (.slice Ao69 t231.length co69 : Value).ownBlock ∧ some k_ ≠ (.slice Ao79 t238.length co79 : Value).ownBlock ∧ some k_ ≠ (.slice Ao89 t244.length co89 : Value).ownBlock) (Kd.R_keptB (HO252.out) hkp (fun k_ hk_ hs_ => (hk_.2.1) hs_)) (fun k_ hk_ => ⟨hk_.1.1, hk_.1.2.1, hk_.1.2.2⟩)); replace BK254 := Aside0.mk (blk_kept (kI BK254.out) hkp (fun hs_ => (fun e_ => (Kd.R_ne HO240.out BK254.out (by decide)) e_) hs_)); replace HO240 := Aside0.mk (Kd.R_reok rfl hy0 (fun k_ e_ => HO240.out.1 k_ e_)); replace HB := Aside0.mk (hb); (try clear hb); (try clear hkp); (try clear hy0); obtain ⟨hcz112_0, hcz112_1, hcz112_2, hfz112_0, hfz112_1, hfz112_2⟩ := cs3 BK247; clear HO240; have n_ := Aside0.mk (Kd.R_mono (ok' := (fun k_ => some k_ ≠ (.slice Ao89 t244.length co89 : Value).ownBlock ∧ some k_ ≠ (.slice Ao99 t250.length co99 : Value).ownBlock)) HO233.out (fun k_ hk => ⟨hk.2.1, hk.2.2⟩)); clear HO233; have HO233 := n_; clear n_; have n_ := Aside0.mk (Kd.R_mono (ok' := (fun k_ => some k_ ≠ (.slice Ao69 t231.length co69 : Value).ownBlock ∧ some k_ ≠ (.slice Ao99 t250.length co99 : Value).ownBlock)) HO246.out (fun k_ hk => ⟨hk.1, hk.2.2⟩)); clear HO246; have HO246 := n_; clear n_; have n_ := Aside0.mk (Kd.R_mono (ok' := (fun k_ => some k_ ≠ (.slice Ao69 t231.length co69 : Value).ownBlock ∧ some k_ ≠ (.slice Ao89 t244.length co89 : Value).ownBlock)) HO252.out (fun k_ hk => ⟨hk.1, hk.2.2⟩)); clear HO252; have HO252 := n_; clear n_) | ((with_reducible refine gate_callee (f := 11) rfl ?_); refine gB (some 69) Try.func11 #[.agg #[.int .i64 t242, .string t243, .slice Ao89 t244.length co89], .int .i64 t268] ?_; (with_reducible refine (laws_markPart.calls k t242 t243 (fun k_ => some k_ = (.slice Ao89 t244.length co89 : Value).ownBlock) (.slice Ao89 t244.length co89) t244 t268 t270 t271 w _ ?side1 ?side2 A35.out).mono ?_); (case side1 => exact bI HB.out); (case side2 => exact Kd.R_tight rfl HO246.out); rintro e w113 ⟨rfl, hy0, hb, hkp⟩; refine ⟨_, rfl, ?_⟩; replace BK215 := Aside0.mk (blk_kept (kI BK215.out) hkp (fun hs_ => (fun e_ => (Kd.R_ne HO246.out BK215.out (by decide)) e_) hs_)); replace BK216 := Aside0.mk (blk_kept (kI BK216.out) hkp (fun hs_ => (fun e_ => (Kd.R_ne HO246.out BK216.out (by decide)) e_) hs_)); replace HO233 := Aside0.mk (Kd.R_mono (ok' := fun k_ => some k_ ≠ (.slice Ao89 t244.length co89 : Value).ownBlock ∧ some k_ ≠ (.slice Ao99 t250.length co99 : Value).ownBlock) (Kd.R_keptB (HO233.out) hkp (fun k_ hk_ hs_ => (hk_.1) hs_)) (fun k_ hk_ => ⟨hk_.1.1, hk_.1.2⟩)); replace BK235 := Aside0.mk (blk_kept (kI BK235.out) hkp (fun hs_ => (fun e_ => (Kd.R_ne HO246.out BK235.out (by decide)) e_) hs_)); replace BK241 := Aside0.mk (blk_kept (kI BK241.out) hkp (fun hs_ => (fun e_ => (Kd.R_ne HO246.out BK241.out (by decide)) e_) hs_)); replace BK247 := Aside0.mk (blk_kept (kI BK247.out) hkp (fun hs_ => (fun e_ => (Kd.R_ne HO246.out BK247.out (by decide)) e_) hs_)); replace HO252 := Aside0.mk (Kd.R_mono (ok' := fun k_ => some k_ ≠ (.slice Ao69 t231.length co69 : Value).ownBlock ∧ some k_ ≠ (.slice Ao89 t244.length co89 : Value).ownBlock) (Kd.R_keptB (HO252.out) hkp (fun k_ hk_ hs_ => (hk_.2) hs_)) (fun k_ hk_ => ⟨hk_.1.1, hk_.1.2⟩)); replace BK254 := Aside0.mk (blk_kept (kI BK254.out) hkp (fun hs_ => (fun e_ => (Kd.R_ne HO246.out BK254.out (by decide)) e_) hs_)); replace HO246 := Aside0.mk (Kd.R_reok rfl hy0 (fun k_ e_ => HO246.out.1 k_ e_)); replace HB := Aside0.mk (hb); (try clear hb); (try clear hkp); (try clear hy0); obtain ⟨hcz114_0, hcz114_1, hcz114_2, hfz114_0, hfz114_1, hfz114_2⟩ := cs3 BK254; obtain ⟨hcz115_0, hcz115_1, hcz115_2, hfz115_0, hfz115_1, hfz115_2⟩ := cs3 BK235; clear HO246; have n_ := Aside0.mk (Kd.R_mono (ok' := (fun k_ => some k_ ≠ (.slice Ao99 t250.length co99 : Value).ownBlock)) HO233.out (fun k_ hk => hk.2)); clear HO233; have HO233 := n_; clear n_; have n_ := Aside0.mk (Kd.R_mono (ok' := (fun k_ => some k_ ≠ (.slice Ao69 t231.length co69 : Value).ownBlock)) HO252.out (fun k_ hk => hk.1)); clear HO252; have HO252 := n_; clear n_) | (go_at_call 10; (with_reducible refine (laws_eqPart.calls k t248 t249 _ _ t250 t229 t230 _ _ t231 true _ ?side1 ?side2 ?side3 ?side4 A37.out).mono ?_); (case side1 => repeat (first | exact (Kd.R_reads' HO252.out).2.2 | (with_reducible refine Kd.C_alloc ?_ _) | (with_reducible refine Kd.C_drewN ?_ _) | (with_reducible refine Kd.C_drew ?_))); (case side2 => exact (Kd.R_reads' HO252.out).2.1); (case side3 => repeat (first | exact (Kd.R_reads' HO233.out).2.2 | (with_reducible refine Kd.C_alloc ?_ _) | (with_reducible refine Kd.C_drewN ?_ _) | (with_reducible refine Kd.C_drew ?_))); (case side4 => exact (Kd.R_reads' HO233.out).2.1); rintro e w116 ⟨rfl, hb⟩; replace HO233 := rb HO233 hb; replace HO252 := rb HO252 hb; replace BK215 := bk BK215 hb; replace BK216 := bk BK216 hb; replace BK235 := bk BK235 hb; replace BK241 := bk BK241 hb; replace BK247 := bk BK247 hb; replace BK254 := bk BK254 hb; replace HB := bs HB hb; (try clear hb); (try clear hb2); (try clear hk); (try clear hi); obtain ⟨hcz117_0, hcz117_1, hcz117_2, hfz117_0, hfz117_1, hfz117_2⟩ := cs3 BK254) | ((with_reducible refine gate_callee (f := 11) rfl ?_); refine gB (some 85) Try.func11 #[.agg #[.int .i64 t248, .string t249, .slice Ao99 t250.length co99], .int .i64 1] ?_; (with_reducible refine (laws_markPart.calls k t248 t249 (fun k_ => some k_ = (.slice Ao99 t250.length co99 : Value).ownBlock) (.slice Ao99 t250.length co99) t250 1 t273 t274 w _ ?side1 ?side2 A39.out).mono ?_); (case side1 => exact bI HB.out); (case side2 => exact Kd.R_tight rfl HO252.out); rintro e w118 ⟨rfl, hy0, hb, hkp⟩; refine ⟨_, rfl, ?_⟩; replace BK215 := Aside0.mk (blk_kept (kI BK215.out) hkp (fun hs_ => (fun e_ => (Kd.R_ne HO252.out BK215.out (by decide)) e_) hs_)); replace BK216 := Aside0.mk (blk_kept (kI BK216.out) hkp (fun hs_ => (fun e_ => (Kd.R_ne HO252.out BK216.out (by decide)) e_) hs_)); replace HO233 := Aside0.mk (Kd.R_mono (ok' := fun k_ => some k_ ≠ (.slice Ao99 t250.length co99 : Value).ownBlock) (Kd.R_keptB (HO233.out) hkp (fun k_ hk_ hs_ => (hk_) hs_)) (fun k_ hk_ => hk_.1)); replace BK235 := Aside0.mk (blk_kept (kI BK235.out) hkp (fun hs_ => (fun e_ => (Kd.R_ne HO252.out BK235.out (by decide)) e_) hs_)); replace BK241 := Aside0.mk (blk_kept (kI BK241.out) hkp (fun hs_ => (fun e_ => (Kd.R_ne HO252.out BK241.out (by decide)) e_) hs_)); replace BK247 := Aside0.mk (blk_kept (kI BK247.out) hkp (fun hs_ => (fun e_ => (Kd.R_ne HO252.out BK247.out (by decide)) e_) hs_)); replace BK254 := Aside0.mk (blk_kept (kI BK254.out) hkp (fun hs_ => (fun e_ => (Kd.R_ne HO252.out BK254.out (by decide)) e_) hs_)); replace HO252 := Aside0.mk (Kd.R_reok rfl hy0 (fun k_ e_ => HO252.out.1 k_ e_)); replace HB := Aside0.mk (hb); (try clear hb); (try clear hkp); (try clear hy0); obtain ⟨hcz119_0, hcz119_1, hcz119_2, hfz119_0, hfz119_1, hfz119_2⟩ := cs3 BK254) | ((with_reducible refine gate_callee (f := 12) rfl ?_); refine goesL_ (some 88) rfl rfl Try.func12 (by kernel_rfl) rfl #[.agg #[.int .i64 t248, .string t249, .slice Ao99 t274.length co99], .int .i64 1] rfl (by (try simp only [List.map_toArray, List.map_cons, List.map_nil]); first | done | (rw [show t274.length = t250.length from (Kd.R_reads' HO252.out).1.symm] <;> rfl) | rfl | (simp only [List.length_drop, List.length_take]; rfl)) ?_; (with_reducible refine (laws_heldPart.calls k t248 t249 _ _ t274 1 t275 _ ?side1 ?side2 A40.out).mono ?_); (case side1 => repeat (first | exact (Kd.R_reads' HO252.out).2.2 | (with_reducible refine Kd.C_alloc ?_ _) | (with_reducible refine Kd.C_drewN ?_ _) | (with_reducible refine Kd.C_drew ?_))); (case side2 => rw [show t274.length = t250.length from (Kd.R_reads' HO252.out).1.symm]; exact (Kd.R_reads' HO252.out).2.1); rintro e w120 ⟨rfl, hb⟩; refine ⟨_, rfl, ?_⟩; replace HO233 := rb HO233 hb; replace HO252 := rb HO252 hb; replace BK215 := bk BK215 hb; replace BK216 := bk BK216 hb; replace BK235 := bk BK235 hb; replace BK241 := bk BK241 hb; replace BK247 := bk BK247 hb; replace BK254 := bk BK254 hb; replace HB := bs HB hb; (try clear hb); (try clear hb2); (try clear hk); (try clear hi)))
  replace HO233 := Aside0.mk (Kd.R_drew HO233.out); replace HO252 := Aside0.mk (Kd.R_drew HO252.out); replace BK215 := Aside0.mk (blk_drew BK215.out); replace BK216 := Aside0.mk (blk_drew BK216.out); replace BK235 := Aside0.mk (blk_drew BK235.out); replace BK241 := Aside0.mk (blk_drew BK241.out); replace BK247 := Aside0.mk (blk_drew BK247.out); replace BK254 := Aside0.mk (blk_drew BK254.out); replace HB := Aside0.mk (below_drew1 HB.out)
  refine start_ (n := 11) (S := fun w' => w'.cell? ⟨gb215, 0, none⟩ = some (.int .i64 a0_0) ∧ w'.cell? ⟨gb215, 1, none⟩ = some (.string a0_1) ∧ w'.cell? ⟨gb215, 2, none⟩ = some (.slice A0_2 l0_2.length c0_2) ∧ w'.cell? ⟨gb216, 0, none⟩ = some (.int .i64 a1_0) ∧ w'.cell? ⟨gb216, 1, none⟩ = some (.string a1_1) ∧ w'.cell? ⟨gb216, 2, none⟩ = some (.slice A1_2 l1_2.length c1_2)) (ds := []) #[false, false, false, false, false, false, false, false, false, false, false] (by kernel_rfl) rfl rfl ⟨bc0 BK215.out, bc1 BK215.out, bc2 BK215.out, bc0 BK216.out, bc1 BK216.out, bc2 BK216.out⟩ (fun hHeld => ?_); refine with_tabW laws_FnExactPartJoin.tab31 laws_FnExactPartJoin.bits31 (fun HT_ HW_ => ?_)
  generalize w120.drew = w121 at HO233 HO252 BK215 BK216 BK235 BK241 BK247 BK254 HB hHeld ⊢
  refine tA 0 (some 95) (bz 11 1) HT_ HW_ hHeld ?_
  refine tA 2 (some 97) (bz 11 5) HT_ HW_ hHeld ?_
  refine join_ (σ := Value × Value × Value × Nat) 2 #[true, true, true, true, true, true, true, true, true, false, false] (fun s_ => [(96, .agg #[.int .i64 t276, .string t277, s_.1]), (98, .agg #[.int .i64 t281, .string t282, s_.2.1]), (99, .tuple #[.agg #[.int .i64 t286, .string t287, s_.2.2.1], .bool t291]), (15, .pointer (some ⟨s_.2.2.2, 0, none⟩)), (94, .tuple #[.agg #[.int .i64 t286, .string t287, s_.2.2.1], .bool t291]), (100, .agg #[.int .i64 t286, .string t287, s_.2.2.1]), (101, .bool t291)]) (fun s_ w' => (w'.cell? ⟨gb215, 0, none⟩ = some (.int .i64 a0_0) ∧ w'.cell? ⟨gb215, 1, none⟩ = some (.string a0_1) ∧ w'.cell? ⟨gb215, 2, none⟩ = some (.slice A0_2 l0_2.length c0_2) ∧ w'.cell? ⟨gb216, 0, none⟩ = some (.int .i64 a1_0) ∧ w'.cell? ⟨gb216, 1, none⟩ = some (.string a1_1) ∧ w'.cell? ⟨gb216, 2, none⟩ = some (.slice A1_2 l1_2.length c1_2)) ∧ (Kd.R (Kd.int .i64) 3 w' w.heap.size (fun k_ => some k_ ≠ (.slice Ao99 t250.length co99 : Value).ownBlock ∧ some k_ ≠ (s_.1 : Value).ownBlock ∧ some k_ ≠ (s_.2.1 : Value).ownBlock ∧ some k_ ≠ (s_.2.2.1 : Value).ownBlock) (.slice Ao69 t231.length co69) t231) ∧ (Kd.R (Kd.int .i64) 3 w' w.heap.size (fun k_ => some k_ ≠ (.slice Ao69 t231.length co69 : Value).ownBlock ∧ some k_ ≠ (s_.1 : Value).ownBlock ∧ some k_ ≠ (s_.2.1 : Value).ownBlock ∧ some k_ ≠ (s_.2.2.1 : Value).ownBlock) (.slice Ao99 t250.length co99) t274) ∧ (Kd.R (Kd.int .i64) 3 w' w.heap.size (fun k_ => some k_ ≠ (.slice Ao69 t231.length co69 : Value).ownBlock ∧ some k_ ≠ (.slice Ao99 t250.length co99 : Value).ownBlock ∧ some k_ ≠ (s_.2.1 : Value).ownBlock ∧ some k_ ≠ (s_.2.2.1 : Value).ownBlock) s_.1 t278) ∧ (Kd.R (Kd.int .i64) 3 w' w.heap.size (fun k_ => some k_ ≠ (.slice Ao69 t231.length co69 : Value).ownBlock ∧ some k_ ≠ (.slice Ao99 t250.length co99 : Value).ownBlock ∧ some k_ ≠ (s_.1 : Value).ownBlock ∧ some k_ ≠ (s_.2.2.1 : Value).ownBlock) s_.2.1 t283) ∧ (Kd.R (Kd.int .i64) 3 w' w.heap.size (fun k_ => some k_ ≠ (.slice Ao69 t231.length co69 : Value).ownBlock ∧ some k_ ≠ (.slice Ao99 t250.length co99 : Value).ownBlock ∧ some k_ ≠ (s_.1 : Value).ownBlock ∧ some k_ ≠ (s_.2.1 : Value).ownBlock) s_.2.2.1 t288) ∧ (w'.heap[gb215]? = some (.cells #[.int .i64 a0_0, .string a0_1, .slice A0_2 l0_2.length c0_2] 24 (0, 0))) ∧ (w'.heap[gb216]? = some (.cells #[.int .i64 a1_0, .string a1_1, .slice A1_2 l1_2.length c1_2] 24 (0, 0))) ∧ (w'.heap[gb235]? = some (.cells #[.int .i64 t229, .string t230, .slice Ao69 t231.length co69] 26 (0, 0))) ∧ (w'.heap[gb241]? = some (.cells #[.int .i64 t236, .string t237, .slice Ao79 t238.length co79] 26 (0, 0))) ∧ (w'.heap[gb247]? = some (.cells #[.int .i64 t242, .string t243, .slice Ao89 t244.length co89] 26 (0, 0))) ∧ (w'.heap[gb254]? = some (.cells #[.int .i64 t248, .string t249, .slice Ao99 t250.length co99] 26 (0, 0))) ∧ (w'.heap[s_.2.2.2]? = some (.cells #[.int .i64 0, .string (⟨#[]⟩ : ByteArray), .slice none 0 0] 26 (0, 0))) ∧ (w.heap.size ≤ s_.2.2.2) ∧ (w.heap.size ≤ s_.2.2.2) ∧ (gb215 ≠ s_.2.2.2) ∧ (s_.2.2.2 ≠ gb215) ∧ (gb216 ≠ s_.2.2.2) ∧ (s_.2.2.2 ≠ gb216) ∧ (gb235 ≠ s_.2.2.2) ∧ (s_.2.2.2 ≠ gb235) ∧ (gb241 ≠ s_.2.2.2) ∧ (s_.2.2.2 ≠ gb241) ∧ (gb247 ≠ s_.2.2.2) ∧ (s_.2.2.2 ≠ gb247) ∧ (gb254 ≠ s_.2.2.2) ∧ (s_.2.2.2 ≠ gb254) ∧ (Below w.heap.size w w')) ?_ ?_
  rotate_left
  ·
   intro hCont
   refine two_ (i := 1) (j := 8) (Ni := some 96) (Nj := some 15) #[true, true, true, false, false, false, false, false, false, false, false] #[true, false, true, false, false, false, false, false, true, false, false] rfl rfl rfl rfl (two_of HT_.out (by kernel_rfl)) (by decide) (by decide) (fun K hK => ?_) (fun K hK => ?_)
   ·
    skip
    refine gA Try.func8 #[.agg #[.int .i64 a0_0, .string a0_1, .slice A0_2 l0_2.length c0_2]] ?_
    with_reducible refine (laws_toPart.calls k a0_0 a0_1 _ _ l0_2 t276 t277 t278 _ ?side1 ?side2 A43.out).mono ?_
    (case side1 => exact ch HR0_2 HB)
    (case side2 => exact HC0_2.out)
    rintro e w122 ⟨v279, rfl, ho0, hb⟩
    refine ⟨_, rfl, ?_⟩
    have HO280 := Aside0.mk (Kd.R_lower (Kd.R_new' (Kd.R_new' ho0 (Kd.R_lt (rI HO233.out))) (Kd.R_lt (rI HO252.out))) (below_size (bI HB.out))); replace HO233 := Aside0.mk (Kd.R_elder' (rI HO233.out) (Kd.R_base ho0) hb); replace HO252 := Aside0.mk (Kd.R_elder' (rI HO252.out) (Kd.R_base ho0) hb); replace BK215 := bk BK215 hb; replace BK216 := bk BK216 hb; replace BK235 := bk BK235 hb; replace BK241 := bk BK241 hb; replace BK247 := bk BK247 hb; replace BK254 := bk BK254 hb; replace HB := bs HB hb
    (try clear hb)
    (try clear hb2)
    (try clear hk)
    (try clear hi)
    (try clear ho0)
    refine hK.out _ _ ⟨bc0 BK215.out, bc1 BK215.out, bc2 BK215.out, bc0 BK216.out, bc1 BK216.out, bc2 BK216.out⟩ (fun hHeld => ?_)
    clear hK K
    refine nA (some 96) ?_
    refine two_ (i := 3) (j := 8) (Ni := some 98) (Nj := some 15) #[true, true, true, true, false, false, false, false, false, false, false] #[true, true, true, false, false, false, false, false, true, false, false] rfl rfl rfl rfl (two_of HT_.out (by kernel_rfl)) (by decide) (by decide) (fun K hK => ?_) (fun K hK => ?_)
    ·
     skip
     refine gA Try.func8 #[.agg #[.int .i64 a1_0, .string a1_1, .slice A1_2 l1_2.length c1_2]] ?_
     with_reducible refine (laws_toPart.calls k a1_0 a1_1 _ _ l1_2 t281 t282 t283 _ ?side1 ?side2 A44.out).mono ?_
     (case side1 => exact ch HR1_2 HB)
     (case side2 => exact HC1_2.out)
     rintro e w123 ⟨v284, rfl, ho0, hb⟩
     refine ⟨_, rfl, ?_⟩
     have HO285 := Aside0.mk (Kd.R_lower (Kd.R_new' (Kd.R_new' (Kd.R_new' ho0 (Kd.R_lt (rI HO233.out))) (Kd.R_lt (rI HO252.out))) (Kd.R_lt (rI HO280.out))) (below_size (bI HB.out))); replace HO233 := Aside0.mk (Kd.R_elder' (rI HO233.out) (Kd.R_base ho0) hb); replace HO252 := Aside0.mk (Kd.R_elder' (rI HO252.out) (Kd.R_base ho0) hb); replace HO280 := Aside0.mk (Kd.R_elder' (rI HO280.out) (Kd.R_base ho0) hb); replace BK215 := bk BK215 hb; replace BK216 := bk BK216 hb; replace BK235 := bk BK235 hb; replace BK241 := bk BK241 hb; replace BK247 := bk BK247 hb; replace BK254 := bk BK254 hb; replace HB := bs HB hb
     (try clear hb)
     (try clear hb2)
     (try clear hk)
     (try clear hi)
     (try clear ho0)
     obtain ⟨Ao124, co124, eo124⟩ := Kd.R_slice HO280.out
     (first | subst eo124 | (injection eo124 with f1_ f2_ f3_; have f4_ := f1_.symm; have f5_ := f3_.symm; clear f1_ f2_ f3_; subst f4_; subst f5_))
     obtain ⟨Ao125, co125, eo125⟩ := Kd.R_slice HO285.out
     (first | subst eo125 | (injection eo125 with f1_ f2_ f3_; have f4_ := f1_.symm; have f5_ := f3_.symm; clear f1_ f2_ f3_; subst f4_; subst f5_))
     refine hK.out _ _ ⟨bc0 BK215.out, bc1 BK215.out, bc2 BK215.out, bc0 BK216.out, bc1 BK216.out, bc2 BK216.out⟩ (fun hHeld => ?_)
     clear hK K
     refine nA (some 98) ?_
     refine two_ (i := 4) (j := 8) (Ni := some 99) (Nj := some 15) #[true, true, true, true, true, false, false, false, false, false, false] #[true, true, true, true, false, false, false, false, true, false, false] rfl rfl rfl rfl (two_of HT_.out (by kernel_rfl)) (by decide) (by decide) (fun K hK => ?_) (fun K hK => ?_)
     ·
      skip
      refine gA Try.func9 #[.agg #[.int .i64 t276, .string t277, .slice Ao124 t278.length co124], .agg #[.int .i64 t281, .string t282, .slice Ao125 t283.length co125]] ?_
      with_reducible refine (impl_PartJoin.calls k t276 t277 _ _ t278 t281 t282 _ _ t283 t286 t287 t288 t291 _ ?side1 ?side2 ?side3 ?side4 A45.out).mono ?_
      (case side1 => repeat (first | exact (Kd.R_reads' HO280.out).2.2 | (with_reducible refine Kd.C_alloc ?_ _) | (with_reducible refine Kd.C_drewN ?_ _) | (with_reducible refine Kd.C_drew ?_)))
      (case side2 => exact (Kd.R_reads' HO280.out).2.1)
      (case side3 => repeat (first | exact (Kd.R_reads' HO285.out).2.2 | (with_reducible refine Kd.C_alloc ?_ _) | (with_reducible refine Kd.C_drewN ?_ _) | (with_reducible refine Kd.C_drew ?_)))
      (case side4 => exact (Kd.R_reads' HO285.out).2.1)
      rintro e w126 ⟨v289, rfl, ho0, hb⟩
      refine ⟨_, rfl, ?_⟩
      have HO290 := Aside0.mk (Kd.R_lower (Kd.R_new' (Kd.R_new' (Kd.R_new' (Kd.R_new' ho0 (Kd.R_lt (rI HO233.out))) (Kd.R_lt (rI HO252.out))) (Kd.R_lt (rI HO280.out))) (Kd.R_lt (rI HO285.out))) (below_size (bI HB.out))); replace HO233 := Aside0.mk (Kd.R_elder' (rI HO233.out) (Kd.R_base ho0) hb); replace HO252 := Aside0.mk (Kd.R_elder' (rI HO252.out) (Kd.R_base ho0) hb); replace HO280 := Aside0.mk (Kd.R_elder' (rI HO280.out) (Kd.R_base ho0) hb); replace HO285 := Aside0.mk (Kd.R_elder' (rI HO285.out) (Kd.R_base ho0) hb); replace BK215 := bk BK215 hb; replace BK216 := bk BK216 hb; replace BK235 := bk BK235 hb; replace BK241 := bk BK241 hb; replace BK247 := bk BK247 hb; replace BK254 := bk BK254 hb; replace HB := bs HB hb
      (try clear hb)
      (try clear hb2)
      (try clear hk)
      (try clear hi)
      (try clear ho0)
      refine hK.out _ _ ⟨bc0 BK215.out, bc1 BK215.out, bc2 BK215.out, bc0 BK216.out, bc1 BK216.out, bc2 BK216.out⟩ (fun hHeld => ?_)
      clear hK K
      refine nA (some 99) ?_
      refine pA 5 (some 94) (bz 11 63) HT_ ?_
      refine pA 6 (some 100) (bz 11 127) HT_ ?_
      refine pA 7 (some 101) (bz 11 255) HT_ ?_
      refine oA 8 (some 15) (bz 11 511) HT_ (fun K hK => ?_)
      refine box_step ?hg (N := 15) ?hd (cs := #[.int .i64 0, .string (⟨#[]⟩ : ByteArray), .slice none 0 0]) (t := 26) ?hr ?_; (case hd => rfl); (case hg => rfl); (case hr => first | (go_simp; done) | (go_simp; rfl))
      intro gb292 hg w127 hbox hb
      replace HO233 := rb HO233 hb; replace HO252 := rb HO252 hb; replace HO280 := rb HO280 hb; replace HO285 := rb HO285 hb; replace HO290 := rb HO290 hb; have BK292 := Aside0.mk (hbox); have GW292 := bg hg HB; have GJ292 := gi GW292; have GE292 := bg hg HB; have GI292 := gi GE292; replace HB := bs HB hb; have NB215_292 := b1 BK215 hg; have NI215_292 := ni NB215_292; have NB292_215 := b2 BK215 hg; have NI292_215 := ni NB292_215; replace BK215 := bk BK215 hb; have NB216_292 := b1 BK216 hg; have NI216_292 := ni NB216_292; have NB292_216 := b2 BK216 hg; have NI292_216 := ni NB292_216; replace BK216 := bk BK216 hb; have NB235_292 := b1 BK235 hg; have NI235_292 := ni NB235_292; have NB292_235 := b2 BK235 hg; have NI292_235 := ni NB292_235; replace BK235 := bk BK235 hb; have NB241_292 := b1 BK241 hg; have NI241_292 := ni NB241_292; have NB292_241 := b2 BK241 hg; have NI292_241 := ni NB292_241; replace BK241 := bk BK241 hb; have NB247_292 := b1 BK247 hg; have NI247_292 := ni NB247_292; have NB292_247 := b2 BK247 hg; have NI292_247 := ni NB292_247; replace BK247 := bk BK247 hb; have NB254_292 := b1 BK254 hg; have NI254_292 := ni NB254_292; have NB292_254 := b2 BK254 hg; have NI292_254 := ni NB292_254; replace BK254 := bk BK254 hb; clear hb hbox hg
      refine hK.out _ _ ⟨bc0 BK215.out, bc1 BK215.out, bc2 BK215.out, bc0 BK216.out, bc1 BK216.out, bc2 BK216.out⟩ (fun hHeld => ?_)
      clear hK K
      refine nA (some 15) ?_
      exact norm_ y0_4 (hCont (.slice Ao124 t278.length co124, .slice Ao125 t283.length co125, v289, gb292) _ ⟨hHeld, (rI (Kd.R_mono HO233.out (fun _ hk => ⟨hk.1.1.1, ⟨hk.1.1.2, ⟨hk.1.2, hk.2⟩⟩⟩))), (rI (Kd.R_mono HO252.out (fun _ hk => ⟨hk.1.1.1, ⟨hk.1.1.2, ⟨hk.1.2, hk.2⟩⟩⟩))), (rI (Kd.R_mono HO280.out (fun _ hk => ⟨hk.1.1.1.2, ⟨hk.1.1.2, ⟨hk.1.2, hk.2⟩⟩⟩))), (rI (Kd.R_mono HO285.out (fun _ hk => ⟨hk.1.1.1.2, ⟨hk.1.1.2, ⟨hk.1.2, hk.2⟩⟩⟩))), (rI (Kd.R_mono HO290.out (fun _ hk => ⟨hk.1.1.1.2, ⟨hk.1.1.2, ⟨hk.1.2, hk.2⟩⟩⟩))), (kI BK215.out), (kI BK216.out), (kI BK235.out), (kI BK241.out), (kI BK247.out), (kI BK254.out), (kI BK292.out), GW292.out, GE292.out, NB215_292.out, NB292_215.out, NB216_292.out, NB292_216.out, NB235_292.out, NB292_235.out, NB241_292.out, NB292_241.out, NB247_292.out, NB292_247.out, NB254_292.out, NB292_254.out, (bI HB.out)⟩)
     skip
     refine box_step ?hg (N := 15) ?hd (cs := #[.int .i64 0, .string (⟨#[]⟩ : ByteArray), .slice none 0 0]) (t := 26) ?hr ?_; (case hd => rfl); (case hg => rfl); (case hr => first | (go_simp; done) | (go_simp; rfl))
     intro gb292 hg w124 hbox hb
     replace HO233 := rb HO233 hb; replace HO252 := rb HO252 hb; replace HO280 := rb HO280 hb; replace HO285 := rb HO285 hb; have BK292 := Aside0.mk (hbox); have GW292 := bg hg HB; have GJ292 := gi GW292; have GE292 := bg hg HB; have GI292 := gi GE292; replace HB := bs HB hb; have NB215_292 := b1 BK215 hg; have NI215_292 := ni NB215_292; have NB292_215 := b2 BK215 hg; have NI292_215 := ni NB292_215; replace BK215 := bk BK215 hb; have NB216_292 := b1 BK216 hg; have NI216_292 := ni NB216_292; have NB292_216 := b2 BK216 hg; have NI292_216 := ni NB292_216; replace BK216 := bk BK216 hb; have NB235_292 := b1 BK235 hg; have NI235_292 := ni NB235_292; have NB292_235 := b2 BK235 hg; have NI292_235 := ni NB292_235; replace BK235 := bk BK235 hb; have NB241_292 := b1 BK241 hg; have NI241_292 := ni NB241_292; have NB292_241 := b2 BK241 hg; have NI292_241 := ni NB292_241; replace BK241 := bk BK241 hb; have NB247_292 := b1 BK247 hg; have NI247_292 := ni NB247_292; have NB292_247 := b2 BK247 hg; have NI292_247 := ni NB292_247; replace BK247 := bk BK247 hb; have NB254_292 := b1 BK254 hg; have NI254_292 := ni NB254_292; have NB292_254 := b2 BK254 hg; have NI292_254 := ni NB292_254; replace BK254 := bk BK254 hb; clear hb hbox hg; obtain ⟨Ao125, co125, eo125⟩ := Kd.R_slice HO280.out
     (first | subst eo125 | (injection eo125 with f1_ f2_ f3_; have f4_ := f1_.symm; have f5_ := f3_.symm; clear f1_ f2_ f3_; subst f4_; subst f5_))
     obtain ⟨Ao126, co126, eo126⟩ := Kd.R_slice HO285.out
     (first | subst eo126 | (injection eo126 with f1_ f2_ f3_; have f4_ := f1_.symm; have f5_ := f3_.symm; clear f1_ f2_ f3_; subst f4_; subst f5_))
     refine hK.out _ _ ⟨bc0 BK215.out, bc1 BK215.out, bc2 BK215.out, bc0 BK216.out, bc1 BK216.out, bc2 BK216.out⟩ (fun hHeld => ?_)
     clear hK K
     refine nA (some 15) ?_
     refine oA 4 (some 99) (bz 11 287) HT_ (fun K hK => ?_)
     refine gA Try.func9 #[.agg #[.int .i64 t276, .string t277, .slice Ao125 t278.length co125], .agg #[.int .i64 t281, .string t282, .slice Ao126 t283.length co126]] ?_
     with_reducible refine (impl_PartJoin.calls k t276 t277 _ _ t278 t281 t282 _ _ t283 t286 t287 t288 t291 _ ?side1 ?side2 ?side3 ?side4 A45.out).mono ?_
     (case side1 => repeat (first | exact (Kd.R_reads' HO280.out).2.2 | (with_reducible refine Kd.C_alloc ?_ _) | (with_reducible refine Kd.C_drewN ?_ _) | (with_reducible refine Kd.C_drew ?_)))
     (case side2 => exact (Kd.R_reads' HO280.out).2.1)
     (case side3 => repeat (first | exact (Kd.R_reads' HO285.out).2.2 | (with_reducible refine Kd.C_alloc ?_ _) | (with_reducible refine Kd.C_drewN ?_ _) | (with_reducible refine Kd.C_drew ?_)))
     (case side4 => exact (Kd.R_reads' HO285.out).2.1)
     rintro e w127 ⟨v289, rfl, ho0, hb⟩
     refine ⟨_, rfl, ?_⟩
     have HO290 := Aside0.mk (Kd.R_lower (Kd.R_new' (Kd.R_new' (Kd.R_new' (Kd.R_new' ho0 (Kd.R_lt (rI HO233.out))) (Kd.R_lt (rI HO252.out))) (Kd.R_lt (rI HO280.out))) (Kd.R_lt (rI HO285.out))) (below_size (bI HB.out))); replace HO233 := Aside0.mk (Kd.R_elder' (rI HO233.out) (Kd.R_base ho0) hb); replace HO252 := Aside0.mk (Kd.R_elder' (rI HO252.out) (Kd.R_base ho0) hb); replace HO280 := Aside0.mk (Kd.R_elder' (rI HO280.out) (Kd.R_base ho0) hb); replace HO285 := Aside0.mk (Kd.R_elder' (rI HO285.out) (Kd.R_base ho0) hb); replace BK215 := bk BK215 hb; replace BK216 := bk BK216 hb; replace BK235 := bk BK235 hb; replace BK241 := bk BK241 hb; replace BK247 := bk BK247 hb; replace BK254 := bk BK254 hb; replace BK292 := bk BK292 hb; replace HB := bs HB hb
     (try clear hb)
     (try clear hb2)
     (try clear hk)
     (try clear hi)
     (try clear ho0)
     refine hK.out _ _ ⟨bc0 BK215.out, bc1 BK215.out, bc2 BK215.out, bc0 BK216.out, bc1 BK216.out, bc2 BK216.out⟩ (fun hHeld => ?_)
     clear hK K
     refine nA (some 99) ?_
     refine pA 5 (some 94) (bz 11 319) HT_ ?_
     refine pA 6 (some 100) (bz 11 383) HT_ ?_
     refine pA 7 (some 101) (bz 11 511) HT_ ?_
     exact norm_ y0_4 (hCont (.slice Ao125 t278.length co125, .slice Ao126 t283.length co126, v289, gb292) _ ⟨hHeld, (rI (Kd.R_mono HO233.out (fun _ hk => ⟨hk.1.1.1, ⟨hk.1.1.2, ⟨hk.1.2, hk.2⟩⟩⟩))), (rI (Kd.R_mono HO252.out (fun _ hk => ⟨hk.1.1.1, ⟨hk.1.1.2, ⟨hk.1.2, hk.2⟩⟩⟩))), (rI (Kd.R_mono HO280.out (fun _ hk => ⟨hk.1.1.1.2, ⟨hk.1.1.2, ⟨hk.1.2, hk.2⟩⟩⟩))), (rI (Kd.R_mono HO285.out (fun _ hk => ⟨hk.1.1.1.2, ⟨hk.1.1.2, ⟨hk.1.2, hk.2⟩⟩⟩))), (rI (Kd.R_mono HO290.out (fun _ hk => ⟨hk.1.1.1.2, ⟨hk.1.1.2, ⟨hk.1.2, hk.2⟩⟩⟩))), (kI BK215.out), (kI BK216.out), (kI BK235.out), (kI BK241.out), (kI BK247.out), (kI BK254.out), (kI BK292.out), GW292.out, GE292.out, NB215_292.out, NB292_215.out, NB216_292.out, NB292_216.out, NB235_292.out, NB292_235.out, NB241_292.out, NB292_241.out, NB247_292.out, NB292_247.out, NB254_292.out, NB292_254.out, (bI HB.out)⟩)
    skip
    refine box_step ?hg (N := 15) ?hd (cs := #[.int .i64 0, .string (⟨#[]⟩ : ByteArray), .slice none 0 0]) (t := 26) ?hr ?_; (case hd => rfl); (case hg => rfl); (case hr => first | (go_simp; done) | (go_simp; rfl))
    intro gb292 hg w123 hbox hb
    replace HO233 := rb HO233 hb; replace HO252 := rb HO252 hb; replace HO280 := rb HO280 hb; have BK292 := Aside0.mk (hbox); have GW292 := bg hg HB; have GJ292 := gi GW292; have GE292 := bg hg HB; have GI292 := gi GE292; replace HB := bs HB hb; have NB215_292 := b1 BK215 hg; have NI215_292 := ni NB215_292; have NB292_215 := b2 BK215 hg; have NI292_215 := ni NB292_215; replace BK215 := bk BK215 hb; have NB216_292 := b1 BK216 hg; have NI216_292 := ni NB216_292; have NB292_216 := b2 BK216 hg; have NI292_216 := ni NB292_216; replace BK216 := bk BK216 hb; have NB235_292 := b1 BK235 hg; have NI235_292 := ni NB235_292; have NB292_235 := b2 BK235 hg; have NI292_235 := ni NB292_235; replace BK235 := bk BK235 hb; have NB241_292 := b1 BK241 hg; have NI241_292 := ni NB241_292; have NB292_241 := b2 BK241 hg; have NI292_241 := ni NB292_241; replace BK241 := bk BK241 hb; have NB247_292 := b1 BK247 hg; have NI247_292 := ni NB247_292; have NB292_247 := b2 BK247 hg; have NI292_247 := ni NB292_247; replace BK247 := bk BK247 hb; have NB254_292 := b1 BK254 hg; have NI254_292 := ni NB254_292; have NB292_254 := b2 BK254 hg; have NI292_254 := ni NB292_254; replace BK254 := bk BK254 hb; clear hb hbox hg
    refine hK.out _ _ ⟨bc0 BK215.out, bc1 BK215.out, bc2 BK215.out, bc0 BK216.out, bc1 BK216.out, bc2 BK216.out⟩ (fun hHeld => ?_)
    clear hK K
    refine nA (some 15) ?_
    refine oA 3 (some 98) (bz 11 271) HT_ (fun K hK => ?_)
    refine gA Try.func8 #[.agg #[.int .i64 a1_0, .string a1_1, .slice A1_2 l1_2.length c1_2]] ?_
    with_reducible refine (laws_toPart.calls k a1_0 a1_1 _ _ l1_2 t281 t282 t283 _ ?side1 ?side2 A44.out).mono ?_
    (case side1 => exact ch HR1_2 HB)
    (case side2 => exact HC1_2.out)
    rintro e w124 ⟨v284, rfl, ho0, hb⟩
    refine ⟨_, rfl, ?_⟩
    have HO285 := Aside0.mk (Kd.R_lower (Kd.R_new' (Kd.R_new' (Kd.R_new' ho0 (Kd.R_lt (rI HO233.out))) (Kd.R_lt (rI HO252.out))) (Kd.R_lt (rI HO280.out))) (below_size (bI HB.out))); replace HO233 := Aside0.mk (Kd.R_elder' (rI HO233.out) (Kd.R_base ho0) hb); replace HO252 := Aside0.mk (Kd.R_elder' (rI HO252.out) (Kd.R_base ho0) hb); replace HO280 := Aside0.mk (Kd.R_elder' (rI HO280.out) (Kd.R_base ho0) hb); replace BK215 := bk BK215 hb; replace BK216 := bk BK216 hb; replace BK235 := bk BK235 hb; replace BK241 := bk BK241 hb; replace BK247 := bk BK247 hb; replace BK254 := bk BK254 hb; replace BK292 := bk BK292 hb; replace HB := bs HB hb
    (try clear hb)
    (try clear hb2)
    (try clear hk)
    (try clear hi)
    (try clear ho0)
    obtain ⟨Ao125, co125, eo125⟩ := Kd.R_slice HO280.out
    (first | subst eo125 | (injection eo125 with f1_ f2_ f3_; have f4_ := f1_.symm; have f5_ := f3_.symm; clear f1_ f2_ f3_; subst f4_; subst f5_))
    obtain ⟨Ao126, co126, eo126⟩ := Kd.R_slice HO285.out
    (first | subst eo126 | (injection eo126 with f1_ f2_ f3_; have f4_ := f1_.symm; have f5_ := f3_.symm; clear f1_ f2_ f3_; subst f4_; subst f5_))
    refine hK.out _ _ ⟨bc0 BK215.out, bc1 BK215.out, bc2 BK215.out, bc0 BK216.out, bc1 BK216.out, bc2 BK216.out⟩ (fun hHeld => ?_)
    clear hK K
    refine nA (some 98) ?_
    refine oA 4 (some 99) (bz 11 287) HT_ (fun K hK => ?_)
    refine gA Try.func9 #[.agg #[.int .i64 t276, .string t277, .slice Ao125 t278.length co125], .agg #[.int .i64 t281, .string t282, .slice Ao126 t283.length co126]] ?_
    with_reducible refine (impl_PartJoin.calls k t276 t277 _ _ t278 t281 t282 _ _ t283 t286 t287 t288 t291 _ ?side1 ?side2 ?side3 ?side4 A45.out).mono ?_
    (case side1 => repeat (first | exact (Kd.R_reads' HO280.out).2.2 | (with_reducible refine Kd.C_alloc ?_ _) | (with_reducible refine Kd.C_drewN ?_ _) | (with_reducible refine Kd.C_drew ?_)))
    (case side2 => exact (Kd.R_reads' HO280.out).2.1)
    (case side3 => repeat (first | exact (Kd.R_reads' HO285.out).2.2 | (with_reducible refine Kd.C_alloc ?_ _) | (with_reducible refine Kd.C_drewN ?_ _) | (with_reducible refine Kd.C_drew ?_)))
    (case side4 => exact (Kd.R_reads' HO285.out).2.1)
    rintro e w127 ⟨v289, rfl, ho0, hb⟩
    refine ⟨_, rfl, ?_⟩
    have HO290 := Aside0.mk (Kd.R_lower (Kd.R_new' (Kd.R_new' (Kd.R_new' (Kd.R_new' ho0 (Kd.R_lt (rI HO233.out))) (Kd.R_lt (rI HO252.out))) (Kd.R_lt (rI HO280.out))) (Kd.R_lt (rI HO285.out))) (below_size (bI HB.out))); replace HO233 := Aside0.mk (Kd.R_elder' (rI HO233.out) (Kd.R_base ho0) hb); replace HO252 := Aside0.mk (Kd.R_elder' (rI HO252.out) (Kd.R_base ho0) hb); replace HO280 := Aside0.mk (Kd.R_elder' (rI HO280.out) (Kd.R_base ho0) hb); replace HO285 := Aside0.mk (Kd.R_elder' (rI HO285.out) (Kd.R_base ho0) hb); replace BK215 := bk BK215 hb; replace BK216 := bk BK216 hb; replace BK235 := bk BK235 hb; replace BK241 := bk BK241 hb; replace BK247 := bk BK247 hb; replace BK254 := bk BK254 hb; replace BK292 := bk BK292 hb; replace HB := bs HB hb
    (try clear hb)
    (try clear hb2)
    (try clear hk)
    (try clear hi)
    (try clear ho0)
    refine hK.out _ _ ⟨bc0 BK215.out, bc1 BK215.out, bc2 BK215.out, bc0 BK216.out, bc1 BK216.out, bc2 BK216.out⟩ (fun hHeld => ?_)
    clear hK K
    refine nA (some 99) ?_
    refine pA 5 (some 94) (bz 11 319) HT_ ?_
    refine pA 6 (some 100) (bz 11 383) HT_ ?_
    refine pA 7 (some 101) (bz 11 511) HT_ ?_
    exact norm_ y0_4 (hCont (.slice Ao125 t278.length co125, .slice Ao126 t283.length co126, v289, gb292) _ ⟨hHeld, (rI (Kd.R_mono HO233.out (fun _ hk => ⟨hk.1.1.1, ⟨hk.1.1.2, ⟨hk.1.2, hk.2⟩⟩⟩))), (rI (Kd.R_mono HO252.out (fun _ hk => ⟨hk.1.1.1, ⟨hk.1.1.2, ⟨hk.1.2, hk.2⟩⟩⟩))), (rI (Kd.R_mono HO280.out (fun _ hk => ⟨hk.1.1.1.2, ⟨hk.1.1.2, ⟨hk.1.2, hk.2⟩⟩⟩))), (rI (Kd.R_mono HO285.out (fun _ hk => ⟨hk.1.1.1.2, ⟨hk.1.1.2, ⟨hk.1.2, hk.2⟩⟩⟩))), (rI (Kd.R_mono HO290.out (fun _ hk => ⟨hk.1.1.1.2, ⟨hk.1.1.2, ⟨hk.1.2, hk.2⟩⟩⟩))), (kI BK215.out), (kI BK216.out), (kI BK235.out), (kI BK241.out), (kI BK247.out), (kI BK254.out), (kI BK292.out), GW292.out, GE292.out, NB215_292.out, NB292_215.out, NB216_292.out, NB292_216.out, NB235_292.out, NB292_235.out, NB241_292.out, NB292_241.out, NB247_292.out, NB292_247.out, NB254_292.out, NB292_254.out, (bI HB.out)⟩)
   skip
   refine box_step ?hg (N := 15) ?hd (cs := #[.int .i64 0, .string (⟨#[]⟩ : ByteArray), .slice none 0 0]) (t := 26) ?hr ?_; (case hd => rfl); (case hg => rfl); (case hr => first | (go_simp; done) | (go_simp; rfl))
   intro gb292 hg w122 hbox hb
   replace HO233 := rb HO233 hb; replace HO252 := rb HO252 hb; have BK292 := Aside0.mk (hbox); have GW292 := bg hg HB; have GJ292 := gi GW292; have GE292 := bg hg HB; have GI292 := gi GE292; replace HB := bs HB hb; have NB215_292 := b1 BK215 hg; have NI215_292 := ni NB215_292; have NB292_215 := b2 BK215 hg; have NI292_215 := ni NB292_215; replace BK215 := bk BK215 hb; have NB216_292 := b1 BK216 hg; have NI216_292 := ni NB216_292; have NB292_216 := b2 BK216 hg; have NI292_216 := ni NB292_216; replace BK216 := bk BK216 hb; have NB235_292 := b1 BK235 hg; have NI235_292 := ni NB235_292; have NB292_235 := b2 BK235 hg; have NI292_235 := ni NB292_235; replace BK235 := bk BK235 hb; have NB241_292 := b1 BK241 hg; have NI241_292 := ni NB241_292; have NB292_241 := b2 BK241 hg; have NI292_241 := ni NB292_241; replace BK241 := bk BK241 hb; have NB247_292 := b1 BK247 hg; have NI247_292 := ni NB247_292; have NB292_247 := b2 BK247 hg; have NI292_247 := ni NB292_247; replace BK247 := bk BK247 hb; have NB254_292 := b1 BK254 hg; have NI254_292 := ni NB254_292; have NB292_254 := b2 BK254 hg; have NI292_254 := ni NB292_254; replace BK254 := bk BK254 hb; clear hb hbox hg
   refine hK.out _ _ ⟨bc0 BK215.out, bc1 BK215.out, bc2 BK215.out, bc0 BK216.out, bc1 BK216.out, bc2 BK216.out⟩ (fun hHeld => ?_)
   clear hK K
   refine nA (some 15) ?_
   refine oA 1 (some 96) (bz 11 263) HT_ (fun K hK => ?_)
   refine gA Try.func8 #[.agg #[.int .i64 a0_0, .string a0_1, .slice A0_2 l0_2.length c0_2]] ?_
   with_reducible refine (laws_toPart.calls k a0_0 a0_1 _ _ l0_2 t276 t277 t278 _ ?side1 ?side2 A43.out).mono ?_
   (case side1 => exact ch HR0_2 HB)
   (case side2 => exact HC0_2.out)
   rintro e w123 ⟨v279, rfl, ho0, hb⟩
   refine ⟨_, rfl, ?_⟩
   have HO280 := Aside0.mk (Kd.R_lower (Kd.R_new' (Kd.R_new' ho0 (Kd.R_lt (rI HO233.out))) (Kd.R_lt (rI HO252.out))) (below_size (bI HB.out))); replace HO233 := Aside0.mk (Kd.R_elder' (rI HO233.out) (Kd.R_base ho0) hb); replace HO252 := Aside0.mk (Kd.R_elder' (rI HO252.out) (Kd.R_base ho0) hb); replace BK215 := bk BK215 hb; replace BK216 := bk BK216 hb; replace BK235 := bk BK235 hb; replace BK241 := bk BK241 hb; replace BK247 := bk BK247 hb; replace BK254 := bk BK254 hb; replace BK292 := bk BK292 hb; replace HB := bs HB hb
   (try clear hb)
   (try clear hb2)
   (try clear hk)
   (try clear hi)
   (try clear ho0)
   refine hK.out _ _ ⟨bc0 BK215.out, bc1 BK215.out, bc2 BK215.out, bc0 BK216.out, bc1 BK216.out, bc2 BK216.out⟩ (fun hHeld => ?_)
   clear hK K
   refine nA (some 96) ?_
   refine oA 3 (some 98) (bz 11 271) HT_ (fun K hK => ?_)
   refine gA Try.func8 #[.agg #[.int .i64 a1_0, .string a1_1, .slice A1_2 l1_2.length c1_2]] ?_
   with_reducible refine (laws_toPart.calls k a1_0 a1_1 _ _ l1_2 t281 t282 t283 _ ?side1 ?side2 A44.out).mono ?_
   (case side1 => exact ch HR1_2 HB)
   (case side2 => exact HC1_2.out)
   rintro e w124 ⟨v284, rfl, ho0, hb⟩
   refine ⟨_, rfl, ?_⟩
   have HO285 := Aside0.mk (Kd.R_lower (Kd.R_new' (Kd.R_new' (Kd.R_new' ho0 (Kd.R_lt (rI HO233.out))) (Kd.R_lt (rI HO252.out))) (Kd.R_lt (rI HO280.out))) (below_size (bI HB.out))); replace HO233 := Aside0.mk (Kd.R_elder' (rI HO233.out) (Kd.R_base ho0) hb); replace HO252 := Aside0.mk (Kd.R_elder' (rI HO252.out) (Kd.R_base ho0) hb); replace HO280 := Aside0.mk (Kd.R_elder' (rI HO280.out) (Kd.R_base ho0) hb); replace BK215 := bk BK215 hb; replace BK216 := bk BK216 hb; replace BK235 := bk BK235 hb; replace BK241 := bk BK241 hb; replace BK247 := bk BK247 hb; replace BK254 := bk BK254 hb; replace BK292 := bk BK292 hb; replace HB := bs HB hb
   (try clear hb)
   (try clear hb2)
   (try clear hk)
   (try clear hi)
   (try clear ho0)
   obtain ⟨Ao125, co125, eo125⟩ := Kd.R_slice HO280.out
   (first | subst eo125 | (injection eo125 with f1_ f2_ f3_; have f4_ := f1_.symm; have f5_ := f3_.symm; clear f1_ f2_ f3_; subst f4_; subst f5_))
   obtain ⟨Ao126, co126, eo126⟩ := Kd.R_slice HO285.out
   (first | subst eo126 | (injection eo126 with f1_ f2_ f3_; have f4_ := f1_.symm; have f5_ := f3_.symm; clear f1_ f2_ f3_; subst f4_; subst f5_))
   refine hK.out _ _ ⟨bc0 BK215.out, bc1 BK215.out, bc2 BK215.out, bc0 BK216.out, bc1 BK216.out, bc2 BK216.out⟩ (fun hHeld => ?_)
   clear hK K
   refine nA (some 98) ?_
   refine oA 4 (some 99) (bz 11 287) HT_ (fun K hK => ?_)
   refine gA Try.func9 #[.agg #[.int .i64 t276, .string t277, .slice Ao125 t278.length co125], .agg #[.int .i64 t281, .string t282, .slice Ao126 t283.length co126]] ?_
   with_reducible refine (impl_PartJoin.calls k t276 t277 _ _ t278 t281 t282 _ _ t283 t286 t287 t288 t291 _ ?side1 ?side2 ?side3 ?side4 A45.out).mono ?_
   (case side1 => repeat (first | exact (Kd.R_reads' HO280.out).2.2 | (with_reducible refine Kd.C_alloc ?_ _) | (with_reducible refine Kd.C_drewN ?_ _) | (with_reducible refine Kd.C_drew ?_)))
   (case side2 => exact (Kd.R_reads' HO280.out).2.1)
   (case side3 => repeat (first | exact (Kd.R_reads' HO285.out).2.2 | (with_reducible refine Kd.C_alloc ?_ _) | (with_reducible refine Kd.C_drewN ?_ _) | (with_reducible refine Kd.C_drew ?_)))
   (case side4 => exact (Kd.R_reads' HO285.out).2.1)
   rintro e w127 ⟨v289, rfl, ho0, hb⟩
   refine ⟨_, rfl, ?_⟩
   have HO290 := Aside0.mk (Kd.R_lower (Kd.R_new' (Kd.R_new' (Kd.R_new' (Kd.R_new' ho0 (Kd.R_lt (rI HO233.out))) (Kd.R_lt (rI HO252.out))) (Kd.R_lt (rI HO280.out))) (Kd.R_lt (rI HO285.out))) (below_size (bI HB.out))); replace HO233 := Aside0.mk (Kd.R_elder' (rI HO233.out) (Kd.R_base ho0) hb); replace HO252 := Aside0.mk (Kd.R_elder' (rI HO252.out) (Kd.R_base ho0) hb); replace HO280 := Aside0.mk (Kd.R_elder' (rI HO280.out) (Kd.R_base ho0) hb); replace HO285 := Aside0.mk (Kd.R_elder' (rI HO285.out) (Kd.R_base ho0) hb); replace BK215 := bk BK215 hb; replace BK216 := bk BK216 hb; replace BK235 := bk BK235 hb; replace BK241 := bk BK241 hb; replace BK247 := bk BK247 hb; replace BK254 := bk BK254 hb; replace BK292 := bk BK292 hb; replace HB := bs HB hb
   (try clear hb)
   (try clear hb2)
   (try clear hk)
   (try clear hi)
   (try clear ho0)
   refine hK.out _ _ ⟨bc0 BK215.out, bc1 BK215.out, bc2 BK215.out, bc0 BK216.out, bc1 BK216.out, bc2 BK216.out⟩ (fun hHeld => ?_)
   clear hK K
   refine nA (some 99) ?_
   refine pA 5 (some 94) (bz 11 319) HT_ ?_
   refine pA 6 (some 100) (bz 11 383) HT_ ?_
   refine pA 7 (some 101) (bz 11 511) HT_ ?_
   exact norm_ y0_4 (hCont (.slice Ao125 t278.length co125, .slice Ao126 t283.length co126, v289, gb292) _ ⟨hHeld, (rI (Kd.R_mono HO233.out (fun _ hk => ⟨hk.1.1.1, ⟨hk.1.1.2, ⟨hk.1.2, hk.2⟩⟩⟩))), (rI (Kd.R_mono HO252.out (fun _ hk => ⟨hk.1.1.1, ⟨hk.1.1.2, ⟨hk.1.2, hk.2⟩⟩⟩))), (rI (Kd.R_mono HO280.out (fun _ hk => ⟨hk.1.1.1.2, ⟨hk.1.1.2, ⟨hk.1.2, hk.2⟩⟩⟩))), (rI (Kd.R_mono HO285.out (fun _ hk => ⟨hk.1.1.1.2, ⟨hk.1.1.2, ⟨hk.1.2, hk.2⟩⟩⟩))), (rI (Kd.R_mono HO290.out (fun _ hk => ⟨hk.1.1.1.2, ⟨hk.1.1.2, ⟨hk.1.2, hk.2⟩⟩⟩))), (kI BK215.out), (kI BK216.out), (kI BK235.out), (kI BK241.out), (kI BK247.out), (kI BK254.out), (kI BK292.out), GW292.out, GE292.out, NB215_292.out, NB292_215.out, NB216_292.out, NB292_216.out, NB235_292.out, NB292_235.out, NB241_292.out, NB292_241.out, NB247_292.out, NB292_247.out, NB254_292.out, NB292_254.out, (bI HB.out)⟩)
  rintro ⟨v279, v284, v289, gb292⟩ w128 ⟨hS_, h0_, h1_, h2_, h3_, h4_, h5_, h6_, h7_, h8_, h9_, h10_, h11_, h12_, h13_, h14_, h15_, h16_, h17_, h18_, h19_, h20_, h21_, h22_, h23_, h24_, h25_, h26_⟩
  try dsimp only at h0_ h1_ h2_ h3_ h4_ h5_ h6_ h7_ h8_ h9_ h10_ h11_ h12_ h13_ h14_ h15_ h16_ h17_ h18_ h19_ h20_ h21_ h22_ h23_ h24_ h25_ h26_
  have n0_ := Aside0.mk h0_; have n1_ := Aside0.mk h1_; have n2_ := Aside0.mk h2_; have n3_ := Aside0.mk h3_; have n4_ := Aside0.mk h4_; have n5_ := Aside0.mk h5_; have n6_ := Aside0.mk h6_; have n7_ := Aside0.mk h7_; have n8_ := Aside0.mk h8_; have n9_ := Aside0.mk h9_; have n10_ := Aside0.mk h10_; have n11_ := Aside0.mk h11_; have n12_ := Aside0.mk h12_; have n13_ := Aside0.mk h13_; have n14_ := Aside0.mk h14_; have n15_ := Aside0.mk h15_; have n16_ := Aside0.mk h16_; have n17_ := Aside0.mk h17_; have n18_ := Aside0.mk h18_; have n19_ := Aside0.mk h19_; have n20_ := Aside0.mk h20_; have n21_ := Aside0.mk h21_; have n22_ := Aside0.mk h22_; have n23_ := Aside0.mk h23_; have n24_ := Aside0.mk h24_; have n25_ := Aside0.mk h25_; have n26_ := Aside0.mk h26_; clear HO233; clear HO252; clear BK215; clear BK216; clear BK235; clear BK241; clear BK247; clear BK254; clear HB; clear h0_ h1_ h2_ h3_ h4_ h5_ h6_ h7_ h8_ h9_ h10_ h11_ h12_ h13_ h14_ h15_ h16_ h17_ h18_ h19_ h20_ h21_ h22_ h23_ h24_ h25_ h26_; have HO233 := n0_; have HO252 := n1_; have HO280 := n2_; have HO285 := n3_; have HO290 := n4_; have BK215 := n5_; have BK216 := n6_; have BK235 := n7_; have BK241 := n8_; have BK247 := n9_; have BK254 := n10_; have BK292 := n11_; have GW292 := n12_; have GJ292 := gi GW292; have GE292 := n13_; have GI292 := gi GE292; have NB215_292 := n14_; have NI215_292 := ni NB215_292; have NB292_215 := n15_; have NI292_215 := ni NB292_215; have NB216_292 := n16_; have NI216_292 := ni NB216_292; have NB292_216 := n17_
  have NI292_216 := ni NB292_216; have NB235_292 := n18_; have NI235_292 := ni NB235_292; have NB292_235 := n19_; have NI292_235 := ni NB292_235; have NB241_292 := n20_; have NI241_292 := ni NB241_292; have NB292_241 := n21_; have NI292_241 := ni NB292_241; have NB247_292 := n22_; have NI247_292 := ni NB247_292; have NB292_247 := n23_; have NI292_247 := ni NB292_247; have NB254_292 := n24_; have NI254_292 := ni NB254_292; have NB292_254 := n25_; have NI292_254 := ni NB292_254; have HB := n26_; clear n0_ n1_ n2_ n3_ n4_ n5_ n6_ n7_ n8_ n9_ n10_ n11_ n12_ n13_ n14_ n15_ n16_ n17_ n18_ n19_ n20_ n21_ n22_ n23_ n24_ n25_ n26_; have hHeld : w128.cell? ⟨gb215, 0, none⟩ = some (.int .i64 a0_0) ∧ w128.cell? ⟨gb215, 1, none⟩ = some (.string a0_1) ∧ w128.cell? ⟨gb215, 2, none⟩ = some (.slice A0_2 l0_2.length c0_2) ∧ w128.cell? ⟨gb216, 0, none⟩ = some (.int .i64 a1_0) ∧ w128.cell? ⟨gb216, 1, none⟩ = some (.string a1_1) ∧ w128.cell? ⟨gb216, 2, none⟩ = some (.slice A1_2 l1_2.length c1_2) := hS_; obtain ⟨Ao131, co131, eo131⟩ := Kd.R_slice HO290.out
  (first | subst eo131 | (injection eo131 with f1_ f2_ f3_; have f4_ := f1_.symm; have f5_ := f3_.symm; clear f1_ f2_ f3_; subst f4_; subst f5_))
  refine norm_ (a' := ?_) ?_ ?_
  rotate_left
  ·
   simp only [putAll, Act.put, List.setIfInBounds_toArray, List.set_cons_zero, List.set_cons_succ]
   rfl
  refine oA 9 none (bz 11 1023) HT_ (fun K hK => ?_)
  have hs129 : w128.cell? ⟨gb292, 0, none⟩ = some (.int .i64 0) := bc0 BK292.out; have hfs129 := blk_frozen BK292.out 0; have hns129_0 := NB215_292.out; have hns129_1 := NB216_292.out; have hns129_2 := NB235_292.out; have hns129_3 := NB241_292.out; have hns129_4 := NB247_292.out; have hns129_5 := NB254_292.out; have hms129_0 := NB292_215.out; have hms129_1 := NB292_216.out; have hms129_2 := NB292_235.out; have hms129_3 := NB292_241.out; have hms129_4 := NB292_247.out; have hms129_5 := NB292_254.out; have hs130 : w128.cell? ⟨gb292, 1, none⟩ = some (.string (⟨#[]⟩ : ByteArray)) := bc1 BK292.out; have hfs130 := blk_frozen BK292.out 1; have hns130_0 := NB215_292.out; have hns130_1 := NB216_292.out; have hns130_2 := NB235_292.out; have hns130_3 := NB241_292.out; have hns130_4 := NB247_292.out; have hns130_5 := NB254_292.out; have hms130_0 := NB292_215.out; have hms130_1 := NB292_216.out; have hms130_2 := NB292_235.out; have hms130_3 := NB292_241.out; have hms130_4 := NB292_247.out; have hms130_5 := NB292_254.out; have hs132 : w128.cell? ⟨gb292, 2, none⟩ = some (.slice none 0 0) := bc2 BK292.out; have hfs132 := blk_frozen BK292.out 2; have hns132_0 := NB215_292.out; have hns132_1 := NB216_292.out; have hns132_2 := NB235_292.out; have hns132_3 := NB241_292.out; have hns132_4 := NB247_292.out; have hns132_5 := NB254_292.out; have hms132_0 := NB292_215.out; have hms132_1 := NB292_216.out; have hms132_2 := NB292_235.out; have hms132_3 := NB292_241.out; have hms132_4 := NB292_247.out; have hms132_5 := NB292_254.out
  refine skip_ (w1 := ?_) (by rfl) rfl ?_ ?_
  rotate_left
  ·
   go_simp
   rfl
  refine hK.out _ _ ⟨((cell_far (p := ⟨gb292, _, none⟩) NB215_292.out _).trans (((cell_far (p := ⟨gb292, _, none⟩) NB215_292.out _).trans (((cell_far (p := ⟨gb292, _, none⟩) NB215_292.out _).trans (hHeld.1)))))), ((cell_far (p := ⟨gb292, _, none⟩) NB215_292.out _).trans (((cell_far (p := ⟨gb292, _, none⟩) NB215_292.out _).trans (((cell_far (p := ⟨gb292, _, none⟩) NB215_292.out _).trans (hHeld.2.1)))))), ((cell_far (p := ⟨gb292, _, none⟩) NB215_292.out _).trans (((cell_far (p := ⟨gb292, _, none⟩) NB215_292.out _).trans (((cell_far (p := ⟨gb292, _, none⟩) NB215_292.out _).trans (hHeld.2.2.1)))))), ((cell_far (p := ⟨gb292, _, none⟩) NB216_292.out _).trans (((cell_far (p := ⟨gb292, _, none⟩) NB216_292.out _).trans (((cell_far (p := ⟨gb292, _, none⟩) NB216_292.out _).trans (hHeld.2.2.2.1)))))), ((cell_far (p := ⟨gb292, _, none⟩) NB216_292.out _).trans (((cell_far (p := ⟨gb292, _, none⟩) NB216_292.out _).trans (((cell_far (p := ⟨gb292, _, none⟩) NB216_292.out _).trans (hHeld.2.2.2.2.1)))))), ((cell_far (p := ⟨gb292, _, none⟩) NB216_292.out _).trans (((cell_far (p := ⟨gb292, _, none⟩) NB216_292.out _).trans (((cell_far (p := ⟨gb292, _, none⟩) NB216_292.out _).trans (hHeld.2.2.2.2.2))))))⟩ (fun hHeld => ?_)
  clear hK K
  refine pA 10 (some 16) (bz 11 2047) HT_ ?_
  refine done_ (done_of HT_.out (by kernel_rfl)) ?_
  have hnb133 := NB292_215.out; have hnc133 := NB215_292.out; have hnb134 := NB292_216.out; have hnc134 := NB216_292.out; have hnb135 := NB292_235.out; have hnc135 := NB235_292.out; have hnb136 := NB292_241.out; have hnc136 := NB241_292.out; have hnb137 := NB292_247.out; have hnc137 := NB247_292.out; have hnb138 := NB292_254.out; have hnc138 := NB254_292.out; have hcz139_0 := bc0 BK292.out; have hcz139_1 := bc1 BK292.out; have hcz139_2 := bc2 BK292.out; have hfz139_0 := blk_frozen BK292.out 0; have hfz139_1 := blk_frozen BK292.out 1; have hfz139_2 := blk_frozen BK292.out 2; have hcz140_0 := bc0 BK235.out; have hcz140_1 := bc1 BK235.out; have hcz140_2 := bc2 BK235.out; have hfz140_0 := blk_frozen BK235.out 0; have hfz140_1 := blk_frozen BK235.out 1; have hfz140_2 := blk_frozen BK235.out 2
  try go_wp2_with (first | ((with_reducible refine gate_callee (f := 10) rfl ?_); refine gB (some 104) Try.func10 #[.agg #[.int .i64 t286, .string t287, .slice Ao131 t288.length co131], .agg #[.int .i64 t229, .string t230, .slice Ao69 t231.length co69]] ?_; (with_reducible refine (laws_eqPart.calls k t286 t287 _ _ t288 t229 t230 _ _ t231 true _ ?side1 ?side2 ?side3 ?side4 A46.out).mono ?_); (case side1 => refine (Kd.R_reads' (e := 3) (base := w.heap.size) (ok := fun k_ => (some k_ ≠ (.slice Ao69 t231.length co69 : Value).ownBlock ∧ (some k_ ≠ (.slice Ao99 t250.length co99 : Value).ownBlock ∧ (some k_ ≠ (v279 : Value).ownBlock ∧ some k_ ≠ (v284 : Value).ownBlock)))) (n := t288.length) (c := co131) ?_).2.2; exact (rI (Kd.R_mono (Kd.R_far (p := ⟨gb292, 2, none⟩) (Kd.R_far (p := ⟨gb292, 1, none⟩) (Kd.R_far (p := ⟨gb292, 0, none⟩) (Kd.R_types HO290.out BK292.out (by decide)) (fun _ hk => hk.2) (.int .i64 t286)) (fun _ hk => hk.2) (.string t287)) (fun _ hk => hk.2) (.slice Ao131 t288.length co131)) (fun _ h_ => h_.1)))); (case side2 => exact (Kd.R_reads' HO290.out).2.1); (case side3 => refine (Kd.R_reads' (e := 3) (base := w.heap.size) (ok := fun k_ => (some k_ ≠ (.slice Ao99 t250.length co99 : Value).ownBlock ∧ (some k_ ≠ (v279 : Value).ownBlock ∧ (some k_ ≠ (v284 : Value).ownBlock ∧ some k_ ≠ (.slice Ao131 t288.length co131 : Value).ownBlock)))) (n := t231.length) (c := co69) ?_).2.2; exact (rI (Kd.R_mono (Kd.R_far (p := ⟨gb292, 2, none⟩) (Kd.R_far (p := ⟨gb292, 1, none⟩) (Kd.R_far (p := ⟨gb292, 0, none⟩) (Kd.R_types HO233.out BK292.out (by decide)) (fun _ hk => hk.2) (.int .i64 t286)) (fun _ hk => hk.2) (.string t287)) (fun _ hk => hk.2) (.slice Ao131 t288.length co131)) (fun _ h_ => h_.1)))); (case side4 => exact (Kd.R_reads' HO233.out).2.1); rintro e w141 ⟨rfl, hb⟩; refine ⟨_, rfl, ?_⟩; replace HO233 := Aside0.mk (Kd.R_below (rI (Kd.R_mono (Kd.R_far (p := ⟨gb292, 2, none⟩) (Kd.R_far (p := ⟨gb292, 1, none⟩) (Kd.R_far (p := ⟨gb292, 0, none⟩) (Kd.R_types HO233.out BK292.out (by decide)) (fun _ hk => hk.2) (.int .i64 t286)) (fun _ hk => hk.2) (.string t287)) (fun _ hk => hk.2) (.slice Ao131 t288.length co131)) (fun _ h_ => h_.1))) hb); replace HO252 := Aside0.mk (Kd.R_below (rI (Kd.R_mono (Kd.R_far (p := ⟨gb292, 2, none⟩) (Kd.R_far (p := ⟨gb292, 1, none⟩) (Kd.R_far (p := ⟨gb292, 0, none⟩) (Kd.R_types HO252.out BK292.out (by decide)) (fun _ hk => hk.2) (.int .i64 t286)) (fun _ hk => hk.2) (.string t287)) (fun _ hk => hk.2) (.slice Ao131 t288.length co131)) (fun _ h_ => h_.1))) hb); replace HO280 := Aside0.mk (Kd.R_below (rI (Kd.R_mono (Kd.R_far (p := ⟨gb292, 2, none⟩) (Kd.R_far (p := ⟨gb292, 1, none⟩) (Kd.R_far (p := ⟨gb292, 0, none⟩) (Kd.R_types HO280.out BK292.out (by decide)) (fun _ hk => hk.2) (.int .i64 t286)) (fun _ hk => hk.2) (.string t287)) (fun _ hk => hk.2) (.slice Ao131 t288.length co131)) (fun _ h_ => h_.1))) hb); replace HO285 := Aside0.mk (Kd.R_below (rI (Kd.R_mono (Kd.R_far (p := ⟨gb292, 2, none⟩) (Kd.R_far (p := ⟨gb292, 1, none⟩) (Kd.R_far (p := ⟨gb292, 0, none⟩) (Kd.R_types HO285.out BK292.out (by decide)) (fun _ hk => hk.2) (.int .i64 t286)) (fun _ hk => hk.2) (.string t287)) (fun _ hk => hk.2) (.slice Ao131 t288.length co131)) (fun _ h_ => h_.1))) hb); replace HO290 := Aside0.mk (Kd.R_below (rI (Kd.R_mono (Kd.R_far (p := ⟨gb292, 2, none⟩) (Kd.R_far (p := ⟨gb292, 1, none⟩) (Kd.R_far (p := ⟨gb292, 0, none⟩) (Kd.R_types HO290.out BK292.out (by decide)) (fun _ hk => hk.2) (.int .i64 t286)) (fun _ hk => hk.2) (.string t287)) (fun _ hk => hk.2) (.slice Ao131 t288.length co131)) (fun _ h_ => h_.1))) hb); replace BK215 := Aside0.mk (blk_below (g := gb215) (o := .cells #[.int .i64 a0_0, .string a0_1, .slice A0_2 l0_2.length c0_2] 24 (0, 0)) (gI BK215.out) hb); replace BK216 := Aside0.mk (blk_below (g := gb216) (o := .cells #[.int .i64 a1_0, .string a1_1, .slice A1_2 l1_2.length c1_2] 24 (0, 0)) (gI BK216.out) hb); replace BK235 := Aside0.mk (blk_below (g := gb235) (o := .cells #[.int .i64 t229, .string t230, .slice Ao69 t231.length co69] 26 (0, 0)) (gI BK235.out) hb); replace BK241 := Aside0.mk (blk_below (g := gb241) (o := .cells #[.int .i64 t236, .string t237, .slice Ao79 t238.length co79] 26 (0, 0)) (gI BK241.out) hb); replace BK247 := Aside0.mk (blk_below (g := gb247) (o := .cells #[.int .i64 t242, .string t243, .slice Ao89 t244.length co89] 26 (0, 0)) (gI BK247.out) hb); replace BK254 := Aside0.mk (blk_below (g := gb254) (o := .cells #[.int .i64 t248, .string t249, .slice Ao99 t250.length co99] 26 (0, 0)) (gI BK254.out) hb); replace BK292 := bp BK292 hb #[.int .i64 t286, .string t287, .slice Ao131 t288.length co131]; replace HB := bs HB hb; (try clear hb); (try clear hb2); (try clear hk); (try clear hi); obtain ⟨hcz142_0, hcz142_1, hcz142_2, hfz142_0, hfz142_1, hfz142_2⟩ := cs3 BK254; clear HO233; clear HO280; clear HO285; clear HO290; have n_ := Aside0.mk (Kd.R_mono (ok' := (fun _ => True)) HO252.out (fun k_ hk => trivial)); clear HO252; have HO252 := n_; clear n_) | ((with_reducible refine gate_callee (f := 12) rfl ?_); refine goesL_ (some 113) rfl rfl Try.func12 (by kernel_rfl) rfl #[.agg #[.int .i64 t248, .string t249, .slice Ao99 t274.length co99], .int .i64 1] rfl (by (try simp only [List.map_toArray, List.map_cons, List.map_nil]); first | done | (rw [show t274.length = t250.length from (Kd.R_reads' HO252.out).1.symm] <;> rfl) | rfl | (simp only [List.length_drop, List.length_take]; rfl)) ?_; (with_reducible refine (laws_heldPart.calls k t248 t249 _ _ t274 1 t294 _ ?side1 ?side2 A49.out).mono ?_); (case side1 => repeat (first | exact (Kd.R_reads' HO252.out).2.2 | (with_reducible refine Kd.C_alloc ?_ _) | (with_reducible refine Kd.C_drewN ?_ _) | (with_reducible refine Kd.C_drew ?_))); (case side2 => rw [show t274.length = t250.length from (Kd.R_reads' HO252.out).1.symm]; exact (Kd.R_reads' HO252.out).2.1); rintro e w143 ⟨rfl, hb⟩; refine ⟨_, rfl, ?_⟩; replace HO252 := rb HO252 hb; replace BK215 := bk BK215 hb; replace BK216 := bk BK216 hb; replace BK235 := bk BK235 hb; replace BK241 := bk BK241 hb; replace BK247 := bk BK247 hb; replace BK254 := bk BK254 hb; replace BK292 := bk BK292 hb; replace HB := bs HB hb; (try clear hb); (try clear hb2); (try clear hk); (try clear hi)))
  go_ret
  exact ⟨y0_5, bI HB.out⟩
 replace c26 := Bool.eq_false_iff.mpr c26; subst c26
 rw [if_neg (show ¬ (false = true) by decide)] at H
 exact absurd (hrt.out.symm.trans (Option.some.inj H).symm) (by decide)

end Go.Proofs.Ytemjmefacifdeaa.PFnExactPartJoin
