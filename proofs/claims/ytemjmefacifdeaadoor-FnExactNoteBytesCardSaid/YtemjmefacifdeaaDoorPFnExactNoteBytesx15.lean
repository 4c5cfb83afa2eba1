-- By a program of this session, out of the translation (the print of the kit, with turns of its own). Lean checks it.
import Derived.Test.YtemjmefacifdeaaDoorPFnExactNoteBytesx0
import Derived.Test.YtemjmefacifdeaaDoorPFnExactNoteBytesx1
import Derived.Test.YtemjmefacifdeaaDoorPFnExactNoteBytesx6
import Derived.Test.YtemjmefacifdeaaDoorPFnExactNoteBytesx7
import Derived.Test.YtemjmefacifdeaaDoorPFnExactNoteBytesx13
import Derived.Test.YtemjmefacifdeaaDoorPFnExactNoteBytesx14
namespace Go.Proofs.YtemjmefacifdeaaDoor.PFnExactNoteBytes
open Go.RowKit Go.Proofs.YtemjmefacifdeaaDoorW.PrintWords Go.Proofs.YtemjmefacifdeaaDoorW.PrintLast Go.Proofs.YtemjmefacifdeaaDoorW.PrintMore
attribute [local go_sem] max2_int min2_int max_two min_two max_three min_three max_four min_four   -- for this text's walks alone
set_option linter.unusedVariables false
set_option linter.unusedSimpArgs false

/-! ### laws_FnExactNoteBytes: function 3 -/
def laws_FnExactNoteBytes.f (k : Nat) (a0_0 : Int) (a0_1 : Int) (a1_0 : Int) (a1_1 : Int) (a1_2 : Int) (a1_3 : ByteArray) (l1_4 : List Int) (a1_5 : ByteArray) : Option (Bool) := (laws_szSafe.f a1_0 a1_1 a1_2 a1_3 l1_4 a1_5 1048576).bind fun t527 => (if t527 < 0 then (some true) else ((laws_toConf.f a0_0 a0_1).bind fun bt528 => ((laws_toSafe.f k a1_0 a1_1 a1_2 a1_3 l1_4 a1_5).bind fun bt530 => ((spec_NoteBytes.f k bt528.1 bt528.2 bt530.1 bt530.2.1 bt530.2.2.1 bt530.2.2.2.1 bt530.2.2.2.2.1 bt530.2.2.2.2.2).bind fun t538 => ((laws_toSafe.f k a1_0 a1_1 a1_2 a1_3 l1_4 a1_5).bind fun bt541 => ((laws_toConf.f a0_0 a0_1).bind fun bt550 => ((impl_NoteBytes.f k bt550.1 bt550.2 bt541.1 bt541.2.1 bt541.2.2.1 bt541.2.2.2.1 bt541.2.2.2.2.1 bt541.2.2.2.2.2).bind fun t552 => ((laws_eqByteS.f k t552 t538).bind fun t555 => (if t555 = true then ((laws_toSafe.f k a1_0 a1_1 a1_2 a1_3 l1_4 a1_5).bind fun bt556 => ((laws_eqSafe.f k bt541.1 bt541.2.1 bt541.2.2.1 bt541.2.2.2.1 bt541.2.2.2.2.1 bt541.2.2.2.2.2 bt556.1 bt556.2.1 bt556.2.2.1 bt556.2.2.2.1 bt556.2.2.2.2.1 bt556.2.2.2.2.2).bind fun t564 => (if t564 = true then ((laws_markSafe.f k bt541.1 bt541.2.1 bt541.2.2.1 bt541.2.2.2.1 bt541.2.2.2.2.1 bt541.2.2.2.2.2 1).bind fun bt565 => (if bt565.1 < 0 then (some false) else ((laws_eqByteS.f k t552 t538).bind fun t567 => (if t567 = true then ((laws_markByteS.f k t552 1).bind fun bt568 => ((laws_heldByteS.f k bt568.2 1).bind fun t570 => (if t570 < 0 then (some false) else (if t570 = bt568.1 then ((laws_toConf.f a0_0 a0_1).bind fun bt571 => ((laws_toSafe.f k a1_0 a1_1 a1_2 a1_3 l1_4 a1_5).bind fun bt573 => ((impl_NoteBytes.f k bt571.1 bt571.2 bt573.1 bt573.2.1 bt573.2.2.1 bt573.2.2.2.1 bt573.2.2.2.2.1 bt573.2.2.2.2.2).bind fun t581 => ((laws_eqByteS.f k t581 t538).bind fun t584 => (if t584 = true then ((laws_heldByteS.f k bt568.2 1).bind fun t585 => (if t585 < 0 then (some false) else (if t585 = bt568.1 then (some true) else (some false)))) else (some false)))))) else (some false))))) else (some false))))) else (some false)))) else (some false))))))))))
theorem laws_FnExactNoteBytes.mono : ∀ a0 a1 a2 a3 a4 a5 a6 a7 k, LeO (laws_FnExactNoteBytes.f k a0 a1 a2 a3 a4 a5 a6 a7) (laws_FnExactNoteBytes.f (k + 1) a0 a1 a2 a3 a4 a5 a6 a7) := by
 intro a0 a1 a2 a3 a4 a5 a6 a7 k
 unfold laws_FnExactNoteBytes.f
 repeat' first | (with_reducible exact impl_NoteBytes.mono _ _ _ _ _ _ _ _ _) | (with_reducible exact laws_eqByteS.mono _ _ _) | (with_reducible exact laws_eqSafe.mono _ _ _ _ _ _ _ _ _ _ _ _ _) | (with_reducible exact laws_heldByteS.mono _ _ _) | (with_reducible exact laws_markByteS.mono _ _ _) | (with_reducible exact laws_markSafe.mono _ _ _ _ _ _ _ _) | (with_reducible exact laws_toSafe.mono _ _ _ _ _ _ _) | (with_reducible exact spec_NoteBytes.mono _ _ _ _ _ _ _ _ _) | (with_reducible exact LeO.refl _) | (with_reducible exact LeO.none _) | (with_reducible refine LeO.ite ?_ ?_) | (with_reducible refine LeO.bind ?_ (fun _ => ?_))
set_option maxHeartbeats 8000000 in
set_option maxRecDepth 100000 in
theorem laws_FnExactNoteBytes.calls (k : Nat) (a0_0 : Int) (a0_1 : Int) (a1_0 : Int) (a1_1 : Int) (a1_2 : Int) (a1_3 : ByteArray) (A1_4 : Option Addr) (c1_4 : Nat) (l1_4 : List Int) (a1_5 : ByteArray) (r : Bool) (hrt : Aside0 (r = true)) (w : World) (hr1_4 : Kd.C (Kd.int .i64) w A1_4 l1_4.length l1_4) (hc1_4 : l1_4.length ≤ c1_4) (h : laws_FnExactNoteBytes.f k a0_0 a0_1 a1_0 a1_1 a1_2 a1_3 l1_4 a1_5 = some r) (hG : Glob w := by exact gG HG HB) :
  Calls Tryd.prog 3 #[.agg #[.int .i64 a0_0, .int .i64 a0_1], .agg #[.int .i64 a1_0, .int .i64 a1_1, .int .i64 a1_2, .string a1_3, .slice A1_4 l1_4.length c1_4, .string a1_5]] w fun e w' => e = .returned (.bool r) ∧ Below w.heap.size w w' := by
 have HG := Aside0.mk hG; clear hG; have hu23 := Tryd.underlying23; have hu28 := Tryd.underlying28; have hu36 := Tryd.underlying36; have HR1_4 := Aside0.mk hr1_4; have HC1_4 := Aside0.mk hc1_4; clear hr1_4 hc1_4; have HB := Aside0.mk (Below.refl w.heap.size w)
 have H : ((laws_szSafe.f a1_0 a1_1 a1_2 a1_3 l1_4 a1_5 1048576).bind fun t527 => (if t527 < 0 then (some true) else ((laws_toConf.f a0_0 a0_1).bind fun bt528 => ((laws_toSafe.f k a1_0 a1_1 a1_2 a1_3 l1_4 a1_5).bind fun bt530 => ((spec_NoteBytes.f k bt528.1 bt528.2 bt530.1 bt530.2.1 bt530.2.2.1 bt530.2.2.2.1 bt530.2.2.2.2.1 bt530.2.2.2.2.2).bind fun t538 => ((laws_toSafe.f k a1_0 a1_1 a1_2 a1_3 l1_4 a1_5).bind fun bt541 => ((laws_toConf.f a0_0 a0_1).bind fun bt550 => ((impl_NoteBytes.f k bt550.1 bt550.2 bt541.1 bt541.2.1 bt541.2.2.1 bt541.2.2.2.1 bt541.2.2.2.2.1 bt541.2.2.2.2.2).bind fun t552 => ((laws_eqByteS.f k t552 t538).bind fun t555 => (if t555 = true then ((laws_toSafe.f k a1_0 a1_1 a1_2 a1_3 l1_4 a1_5).bind fun bt556 => ((laws_eqSafe.f k bt541.1 bt541.2.1 bt541.2.2.1 bt541.2.2.2.1 bt541.2.2.2.2.1 bt541.2.2.2.2.2 bt556.1 bt556.2.1 bt556.2.2.1 bt556.2.2.2.1 bt556.2.2.2.2.1 bt556.2.2.2.2.2).bind fun t564 => (if t564 = true then ((laws_markSafe.f k bt541.1 bt541.2.1 bt541.2.2.1 bt541.2.2.2.1 bt541.2.2.2.2.1 bt541.2.2.2.2.2 1).bind fun bt565 => (if bt565.1 < 0 then (some false) else ((laws_eqByteS.f k t552 t538).bind fun t567 => (if t567 = true then ((laws_markByteS.f k t552 1).bind fun bt568 => ((laws_heldByteS.f k bt568.2 1).bind fun t570 => (if t570 < 0 then (some false) else (if t570 = bt568.1 then ((laws_toConf.f a0_0 a0_1).bind fun bt571 => ((laws_toSafe.f k a1_0 a1_1 a1_2 a1_3 l1_4 a1_5).bind fun bt573 => ((impl_NoteBytes.f k bt571.1 bt571.2 bt573.1 bt573.2.1 bt573.2.2.1 bt573.2.2.2.1 bt573.2.2.2.2.1 bt573.2.2.2.2.2).bind fun t581 => ((laws_eqByteS.f k t581 t538).bind fun t584 => (if t584 = true then ((laws_heldByteS.f k bt568.2 1).bind fun t585 => (if t585 < 0 then (some false) else (if t585 = bt568.1 then (some true) else (some false)))) else (some false)))))) else (some false))))) else (some false))))) else (some false)))) else (some false))))))))))) = some r := h
 clear h; obtain ⟨t527, A30, H⟩ := Option.bind_eq_some_iff.mp H
 try dsimp only at H
 have A3 := Aside0.mk A30; clear A30
 by_cases c4 : t527 < 0
 ·
  rw [if_pos c4] at H
  have c4b0 : decide (t527 < 0) = true := decide_eq_true c4; clear c4; obtain rfl := Option.some.inj H
  go_enter Tryd.func3, Tryd.ntmps3
  go_wp2_with (first | ((with_reducible refine gd 2 ?_); refine bA 2 #[.int .i64 a0_0, .int .i64 a0_1] 23 ?_; intro gb525 hg w5 hbox hb; have BK525 := Aside0.mk (hbox); have GW525 := bg hg HB; have GJ525 := gi GW525; have GE525 := GW525; replace HB := bs HB hb; clear hb hbox hg) | ((with_reducible refine gd 3 ?_); refine bA 3 #[.int .i64 a1_0, .int .i64 a1_1, .int .i64 a1_2, .string a1_3, .slice A1_4 l1_4.length c1_4, .string a1_5] 28 ?_; intro gb526 hg w6 hbox hb; have BK526 := Aside0.mk (hbox); have GW526 := bg hg HB; have GJ526 := gi GW526; have GE526 := GW526; replace HB := bs HB hb; have NB525_526 := b1 BK525 hg; have NI525_526 := ni NB525_526; have NB526_525 := b2 BK525 hg; have NI526_525 := ni NB526_525; replace BK525 := bk BK525 hb; clear hb hbox hg; have hnb7 := NB526_525.out; have hnc7 := NB525_526.out; have hcz8_0 := bc0 BK526.out; have hcz8_1 := bc1 BK526.out; have hcz8_2 := bc2 BK526.out; have hcz8_3 := bc3 BK526.out; have hcz8_4 := bc4 BK526.out; have hcz8_5 := bc5 BK526.out; have hfz8_0 := blk_frozen BK526.out 0; have hfz8_1 := blk_frozen BK526.out 1; have hfz8_2 := blk_frozen BK526.out 2; have hfz8_3 := blk_frozen BK526.out 3; have hfz8_4 := blk_frozen BK526.out 4; have hfz8_5 := blk_frozen BK526.out 5) | ((with_reducible refine gate_callee (f := 4) rfl ?_); refine gB (some 15) Tryd.func4 #[.agg #[.int .i64 a1_0, .int .i64 a1_1, .int .i64 a1_2, .string a1_3, .slice A1_4 l1_4.length c1_4, .string a1_5], .int .i64 1048576] ?_; (with_reducible refine (laws_szSafe.calls a1_0 a1_1 a1_2 a1_3 _ _ l1_4 a1_5 1048576 t527 _ ?side1 ?side2 A3.out).mono ?_); (case side1 => exact ch HR1_4 HB); (case side2 => exact HC1_4.out); rintro e w9 ⟨rfl, hb⟩; refine ⟨_, rfl, ?_⟩; replace BK525 := bk BK525 hb; replace BK526 := bk BK526 hb; replace HB := bs HB hb; (try clear hb); (try clear hb2); (try clear hk); (try clear hi)))
  go_ret
  exact ⟨y0_7, bI HB.out⟩
 rw [if_neg c4] at H
 have c4b0 : decide (t527 < 0) = false := decide_eq_false c4; clear c4; obtain ⟨⟨t528, t529⟩, A100, H⟩ := Option.bind_eq_some_iff.mp H
 try dsimp only at H
 have A10 := Aside0.mk A100; clear A100; obtain ⟨⟨t530, t531, t532, t533, t534, t537⟩, A110, H⟩ := Option.bind_eq_some_iff.mp H
 try dsimp only at H
 have A11 := Aside0.mk A110; clear A110; obtain ⟨t538, A120, H⟩ := Option.bind_eq_some_iff.mp H
 try dsimp only at H
 have A12 := Aside0.mk A120; clear A120; obtain ⟨⟨t541, t542, t543, t544, t545, t548⟩, A130, H⟩ := Option.bind_eq_some_iff.mp H
 try dsimp only at H
 have A13 := Aside0.mk A130; clear A130; obtain ⟨⟨t550, t551⟩, A140, H⟩ := Option.bind_eq_some_iff.mp H
 try dsimp only at H
 have A14 := Aside0.mk A140; clear A140; obtain ⟨t552, A150, H⟩ := Option.bind_eq_some_iff.mp H
 try dsimp only at H
 have A15 := Aside0.mk A150; clear A150; obtain ⟨t555, A160, H⟩ := Option.bind_eq_some_iff.mp H
 try dsimp only at H
 have A16 := Aside0.mk A160; clear A160
 by_cases c17 : t555 = true
 ·
  subst c17
  rw [if_pos rfl] at H
  obtain ⟨⟨t556, t557, t558, t559, t560, t563⟩, A180, H⟩ := Option.bind_eq_some_iff.mp H
  try dsimp only at H
  have A18 := Aside0.mk A180; clear A180; obtain ⟨t564, A190, H⟩ := Option.bind_eq_some_iff.mp H
  try dsimp only at H
  have A19 := Aside0.mk A190; clear A190
  by_cases c20 : t564 = true
  rotate_left
  ·
   replace c20 := Bool.eq_false_iff.mpr c20; subst c20
   rw [if_neg (show ¬ (false = true) by decide)] at H
   exact absurd (hrt.out.symm.trans (Option.some.inj H).symm) (by decide)
  subst c20
  rw [if_pos rfl] at H
  obtain ⟨⟨t565, t566⟩, A210, H⟩ := Option.bind_eq_some_iff.mp H
  try dsimp only at H
  have A21 := Aside0.mk A210; clear A210
  by_cases c22 : t565 < 0
  ·
   rw [if_pos c22] at H
   have c22b0 : decide (t565 < 0) = true := decide_eq_true c22; clear c22
   exact absurd (hrt.out.symm.trans (Option.some.inj H).symm) (by decide)
  rw [if_neg c22] at H
  have c22b0 : decide (t565 < 0) = false := decide_eq_false c22; clear c22; obtain ⟨t567, A230, H⟩ := Option.bind_eq_some_iff.mp H
  try dsimp only at H
  have A23 := Aside0.mk A230; clear A230
  by_cases c24 : t567 = true
  rotate_left
  ·
   replace c24 := Bool.eq_false_iff.mpr c24; subst c24
   rw [if_neg (show ¬ (false = true) by decide)] at H
   exact absurd (hrt.out.symm.trans (Option.some.inj H).symm) (by decide)
  subst c24
  rw [if_pos rfl] at H
  obtain ⟨⟨t568, t569⟩, A250, H⟩ := Option.bind_eq_some_iff.mp H
  try dsimp only at H
  have A25 := Aside0.mk A250; clear A250; obtain ⟨t570, A260, H⟩ := Option.bind_eq_some_iff.mp H
  try dsimp only at H
  have A26 := Aside0.mk A260; clear A260
  by_cases c27 : t570 < 0
  ·
   rw [if_pos c27] at H
   have c27b0 : decide (t570 < 0) = true := decide_eq_true c27; clear c27
   exact absurd (hrt.out.symm.trans (Option.some.inj H).symm) (by decide)
  rw [if_neg c27] at H
  have c27b0 : decide (t570 < 0) = false := decide_eq_false c27; clear c27
  by_cases c28 : t570 = t568
  rotate_left
  ·
   rw [if_neg c28] at H
   have c28b0 : (t570 == t568) = false := beq_eq_false_iff_ne.mpr c28; have c28b1 : (t570 != t568) = true := bne_iff_ne.mpr c28
   exact absurd (hrt.out.symm.trans (Option.some.inj H).symm) (by decide)
  rw [if_pos c28] at H
  have c28b0 : (t570 == t568) = true := beq_iff_eq.mpr c28; have c28b1 : (t570 != t568) = false := bne_eq_false_iff_eq.mpr c28; clear c28; obtain ⟨⟨t571, t572⟩, A290, H⟩ := Option.bind_eq_some_iff.mp H
  try dsimp only at H
  have A29 := Aside0.mk A290; clear A290; obtain ⟨⟨t573, t574, t575, t576, t577, t580⟩, A300, H⟩ := Option.bind_eq_some_iff.mp H
  try dsimp only at H
  have A30 := Aside0.mk A300; clear A300; obtain ⟨t581, A310, H⟩ := Option.bind_eq_some_iff.mp H
  try dsimp only at H
  have A31 := Aside0.mk A310; clear A310; obtain ⟨t584, A320, H⟩ := Option.bind_eq_some_iff.mp H
  try dsimp only at H
  have A32 := Aside0.mk A320; clear A320
  by_cases c33 : t584 = true
  rotate_left
  ·
   replace c33 := Bool.eq_false_iff.mpr c33; subst c33
   rw [if_neg (show ¬ (false = true) by decide)] at H
   exact absurd (hrt.out.symm.trans (Option.some.inj H).symm) (by decide)
  subst c33
  rw [if_pos rfl] at H
  obtain ⟨t585, A340, H⟩ := Option.bind_eq_some_iff.mp H
  try dsimp only at H
  have A34 := Aside0.mk A340; clear A340
  by_cases c35 : t585 < 0
  ·
   rw [if_pos c35] at H
   have c35b0 : decide (t585 < 0) = true := decide_eq_true c35; clear c35
   exact absurd (hrt.out.symm.trans (Option.some.inj H).symm) (by decide)
  rw [if_neg c35] at H
  have c35b0 : decide (t585 < 0) = false := decide_eq_false c35; clear c35
  by_cases c36 : t585 = t568
  rotate_left
  ·
   rw [if_neg c36] at H
   have c36b0 : (t585 == t568) = false := beq_eq_false_iff_ne.mpr c36; have c36b1 : (t585 != t568) = true := bne_iff_ne.mpr c36
   exact absurd (hrt.out.symm.trans (Option.some.inj H).symm) (by decide)
  rw [if_pos c36] at H
  have c36b0 : (t585 == t568) = true := beq_iff_eq.mpr c36; have c36b1 : (t585 != t568) = false := bne_eq_false_iff_eq.mpr c36; clear c36; obtain rfl := Option.some.inj H
  go_enter Tryd.func3, Tryd.ntmps3
  try go_wp2_with (first | ((with_reducible refine gd 2 ?_); refine bA 2 #[.int .i64 a0_0, .int .i64 a0_1] 23 ?_; intro gb525 hg w37 hbox hb; have BK525 := Aside0.mk (hbox); have GW525 := bg hg HB; have GJ525 := gi GW525; have GE525 := GW525; replace HB := bs HB hb; clear hb hbox hg) | ((with_reducible refine gd 3 ?_); refine bA 3 #[.int .i64 a1_0, .int .i64 a1_1, .int .i64 a1_2, .string a1_3, .slice A1_4 l1_4.length c1_4, .string a1_5] 28 ?_; intro gb526 hg w38 hbox hb; have BK526 := Aside0.mk (hbox); have GW526 := bg hg HB; have GJ526 := gi GW526; have GE526 := GW526; replace HB := bs HB hb; have NB525_526 := b1 BK525 hg; have NI525_526 := ni NB525_526; have NB526_525 := b2 BK525 hg; have NI526_525 := ni NB526_525; replace BK525 := bk BK525 hb; clear hb hbox hg; have hnb39 := NB526_525.out; have hnc39 := NB525_526.out; have hcz40_0 := bc0 BK526.out; have hcz40_1 := bc1 BK526.out; have hcz40_2 := bc2 BK526.out; have hcz40_3 := bc3 BK526.out; have hcz40_4 := bc4 BK526.out; have hcz40_5 := bc5 BK526.out; have hfz40_0 := blk_frozen BK526.out 0; have hfz40_1 := blk_frozen BK526.out 1; have hfz40_2 := blk_frozen BK526.out 2; have hfz40_3 := blk_frozen BK526.out 3; have hfz40_4 := blk_frozen BK526.out 4; have hfz40_5 := blk_frozen BK526.out 5) | ((with_reducible refine gate_callee (f := 4) rfl ?_); refine gB (some 15) Tryd.func4 #[.agg #[.int .i64 a1_0, .int .i64 a1_1, .int .i64 a1_2, .string a1_3, .slice A1_4 l1_4.length c1_4, .string a1_5], .int .i64 1048576] ?_; (with_reducible refine (laws_szSafe.calls a1_0 a1_1 a1_2 a1_3 _ _ l1_4 a1_5 1048576 t527 _ ?side1 ?side2 A3.out).mono ?_); (case side1 => exact ch HR1_4 HB); (case side2 => exact HC1_4.out); rintro e w41 ⟨rfl, hb⟩; refine ⟨_, rfl, ?_⟩; replace BK525 := bk BK525 hb; replace BK526 := bk BK526 hb; replace HB := bs HB hb; (try clear hb); (try clear hb2); (try clear hk); (try clear hi)))
  replace BK525 := Aside0.mk (blk_drew BK525.out); replace BK526 := Aside0.mk (blk_drew BK526.out); replace HB := Aside0.mk (below_drew1 HB.out)
  refine start_ (n := 6) (S := fun w' => w'.cell? ⟨gb525, 0, none⟩ = some (.int .i64 a0_0) ∧ w'.cell? ⟨gb525, 1, none⟩ = some (.int .i64 a0_1) ∧ w'.cell? ⟨gb526, 0, none⟩ = some (.int .i64 a1_0) ∧ w'.cell? ⟨gb526, 1, none⟩ = some (.int .i64 a1_1) ∧ w'.cell? ⟨gb526, 2, none⟩ = some (.int .i64 a1_2) ∧ w'.cell? ⟨gb526, 3, none⟩ = some (.string a1_3) ∧ w'.cell? ⟨gb526, 4, none⟩ = some (.slice A1_4 l1_4.length c1_4) ∧ w'.cell? ⟨gb526, 5, none⟩ = some (.string a1_5)) (ds := []) #[false, false, false, false, false, false] (by kernel_rfl) rfl rfl ⟨bc0 BK525.out, bc1 BK525.out, bc0 BK526.out, bc1 BK526.out, bc2 BK526.out, bc3 BK526.out, bc4 BK526.out, bc5 BK526.out⟩ (fun hHeld => ?_)
  generalize w41.drew = w42 at BK525 BK526 HB hHeld ⊢
  refine take_ (i := 0) (N := some 18) (v := ?_) (a' := ?_) #[true, false, false, false, false, false] rfl rfl (by kernel_rfl) (fun _ _ _ h => h) (Or.inl ⟨by rfl, ?_⟩) hHeld ?_ ?_
  rotate_left
  ·
   rintro w' ⟨s0, s1, s2, s3, s4, s5, s6, s7⟩
   go_simp
   with_reducible rfl
  rotate_left
  ·
   simp only [Act.put, List.setIfInBounds_toArray, List.set_cons_zero, List.set_cons_succ, i64_w, i32_w]
   rfl
  refine take_ (i := 2) (N := some 20) (v := ?_) (a' := ?_) #[true, false, true, false, false, false] rfl rfl (by kernel_rfl) (fun _ _ _ h => h) (Or.inl ⟨by rfl, ?_⟩) hHeld ?_ ?_
  rotate_left
  ·
   rintro w' ⟨s0, s1, s2, s3, s4, s5, s6, s7⟩
   go_simp
   with_reducible rfl
  rotate_left
  ·
   simp only [Act.put, List.setIfInBounds_toArray, List.set_cons_zero, List.set_cons_succ, i64_w, i32_w]
   rfl
  refine one_ (i := 1) (N := some 19) #[true, true, true, false, false, false] rfl rfl (by kernel_rfl) (by decide) (fun K hK => ?_)
  refine gA Tryd.func6 #[.agg #[.int .i64 a0_0, .int .i64 a0_1]] ?_
  with_reducible refine (laws_toConf.calls a0_0 a0_1 t528 t529 _ A10.out).mono ?_
  rintro e w43 ⟨rfl, hb⟩
  refine ⟨_, rfl, ?_⟩
  replace BK525 := bk BK525 hb; replace BK526 := bk BK526 hb; replace HB := bs HB hb
  (try clear hb)
  (try clear hb2)
  (try clear hk)
  (try clear hi)
  refine hK.out _ _ ⟨bc0 BK525.out, bc1 BK525.out, bc0 BK526.out, bc1 BK526.out, bc2 BK526.out, bc3 BK526.out, bc4 BK526.out, bc5 BK526.out⟩ (fun hHeld => ?_)
  clear hK K
  refine nA (some 19) ?_
  refine one_ (i := 3) (N := some 21) #[true, true, true, true, false, false] rfl rfl (by kernel_rfl) (by decide) (fun K hK => ?_)
  refine gA Tryd.func7 #[.agg #[.int .i64 a1_0, .int .i64 a1_1, .int .i64 a1_2, .string a1_3, .slice A1_4 l1_4.length c1_4, .string a1_5]] ?_
  with_reducible refine (laws_toSafe.calls k a1_0 a1_1 a1_2 a1_3 _ _ l1_4 a1_5 t530 t531 t532 t533 t534 t537 _ ?side1 ?side2 A11.out).mono ?_
  (case side1 => exact ch HR1_4 HB)
  (case side2 => exact HC1_4.out)
  rintro e w44 ⟨v535, rfl, ho0, hb⟩
  refine ⟨_, rfl, ?_⟩
  have HO536 := Aside0.mk (Kd.R_lower ho0 (below_size (bI HB.out))); replace BK525 := bk BK525 hb; replace BK526 := bk BK526 hb; replace HB := bs HB hb
  (try clear hb)
  (try clear hb2)
  (try clear hk)
  (try clear hi)
  (try clear ho0)
  obtain ⟨Ao45, co45, eo45⟩ := Kd.R_slice HO536.out
  (first | subst eo45 | (injection eo45 with f1_ f2_ f3_; have f4_ := f1_.symm; have f5_ := f3_.symm; clear f1_ f2_ f3_; subst f4_; subst f5_))
  refine hK.out _ _ ⟨bc0 BK525.out, bc1 BK525.out, bc0 BK526.out, bc1 BK526.out, bc2 BK526.out, bc3 BK526.out, bc4 BK526.out, bc5 BK526.out⟩ (fun hHeld => ?_)
  clear hK K
  refine nA (some 21) ?_
  refine one_ (i := 4) (N := some 22) #[true, true, true, true, true, false] rfl rfl (by kernel_rfl) (by decide) (fun K hK => ?_)
  refine gA Tryd.func5 #[.agg #[.int .i64 t528, .int .i64 t529], .agg #[.int .i64 t530, .int .i64 t531, .int .i64 t532, .string t533, .slice Ao45 t534.length co45, .string t537]] ?_
  with_reducible refine (spec_NoteBytes.calls k t528 t529 t530 t531 t532 t533 _ _ t534 t537 t538 _ ?side1 ?side2 A12.out).mono ?_
  (case side1 => repeat (first | exact (Kd.R_reads' HO536.out).2.2 | (with_reducible refine Kd.C_alloc ?_ _) | (with_reducible refine Kd.C_drewN ?_ _) | (with_reducible refine Kd.C_drew ?_)))
  (case side2 => exact (Kd.R_reads' HO536.out).2.1)
  rintro e w46 ⟨v539, rfl, ho0, hb⟩
  refine ⟨_, rfl, ?_⟩
  replace HO536 := rb HO536 hb; have HO540 := Aside0.mk (Kd.R_lower ho0 (below_size (bI HB.out))); replace BK525 := bk BK525 hb; replace BK526 := bk BK526 hb; replace HB := bs HB hb
  (try clear hb)
  (try clear hb2)
  (try clear hk)
  (try clear hi)
  (try clear ho0)
  refine hK.out _ _ ⟨bc0 BK525.out, bc1 BK525.out, bc0 BK526.out, bc1 BK526.out, bc2 BK526.out, bc3 BK526.out, bc4 BK526.out, bc5 BK526.out⟩ (fun hHeld => ?_)
  clear hK K
  refine nA (some 22) ?_
  refine pure_ (i := 5) (N := some 6) (v := ?_) (a' := ?_) #[true, true, true, true, true, true] rfl rfl (by kernel_rfl) (fun _ _ _ h => h) (Or.inl ⟨by rfl, ?_⟩) ?_ ?_
  rotate_left
  ·
   intro w'
   go_simp
   with_reducible rfl
  rotate_left
  ·
   simp only [Act.put, List.setIfInBounds_toArray, List.set_cons_zero, List.set_cons_succ, i64_w, i32_w]
   rfl
  refine done_ (by kernel_rfl) ?_
  have hcz47_0 := bc0 BK526.out; have hcz47_1 := bc1 BK526.out; have hcz47_2 := bc2 BK526.out; have hcz47_3 := bc3 BK526.out; have hcz47_4 := bc4 BK526.out; have hcz47_5 := bc5 BK526.out; have hfz47_0 := blk_frozen BK526.out 0; have hfz47_1 := blk_frozen BK526.out 1; have hfz47_2 := blk_frozen BK526.out 2; have hfz47_3 := blk_frozen BK526.out 3; have hfz47_4 := blk_frozen BK526.out 4; have hfz47_5 := blk_frozen BK526.out 5; clear HO536
  try go_wp2_with (first | ((with_reducible refine gate_callee (f := 7) rfl ?_); refine gB (some 24) Tryd.func7 #[.agg #[.int .i64 a1_0, .int .i64 a1_1, .int .i64 a1_2, .string a1_3, .slice A1_4 l1_4.length c1_4, .string a1_5]] ?_; (with_reducible refine (laws_toSafe.calls k a1_0 a1_1 a1_2 a1_3 _ _ l1_4 a1_5 t541 t542 t543 t544 t545 t548 _ ?side1 ?side2 A13.out).mono ?_); (case side1 => exact ch HR1_4 HB); (case side2 => exact HC1_4.out); rintro e w48 ⟨v546, rfl, ho0, hb⟩; refine ⟨_, rfl, ?_⟩; replace HO540 := rb HO540 hb; have HO547 := Aside0.mk (Kd.R_lower ho0 (below_size (bI HB.out))); replace BK525 := bk BK525 hb; replace BK526 := bk BK526 hb; replace HB := bs HB hb; (try clear hb); (try clear ho0)) | ((with_reducible refine gd 7 ?_); refine bA 7 #[.int .i64 0, .int .i64 0, .int .i64 0, .string (⟨#[]⟩ : ByteArray), .slice none 0 0, .string (⟨#[]⟩ : ByteArray)] 36 ?_; intro gb549 hg w49 hbox hb; replace HO540 := rb HO540 hb; replace HO547 := rb HO547 hb; have BK549 := Aside0.mk (hbox); have GW549 := bg hg HB; have GJ549 := gi GW549; have GE549 := GW549; replace HB := bs HB hb; have NB525_549 := b1 BK525 hg; have NI525_549 := ni NB525_549; have NB549_525 := b2 BK525 hg; have NI549_525 := ni NB549_525; replace BK525 := bk BK525 hb; have NB526_549 := b1 BK526 hg; have NI526_549 := ni NB526_549; have NB549_526 := b2 BK526 hg; have NI549_526 := ni NB549_526; replace BK526 := bk BK526 hb; clear hb hbox hg; have hnb50 := NB549_525.out; have hnc50 := NB525_549.out; have hnb51 := NB549_526.out; have hnc51 := NB526_549.out; have hcz52_0 := bc0 BK549.out; have hcz52_1 := bc1 BK549.out; have hcz52_2 := bc2 BK549.out; have hcz52_3 := bc3 BK549.out; have hcz52_4 := bc4 BK549.out; have hcz52_5 := bc5 BK549.out; have hfz52_0 := blk_frozen BK549.out 0; have hfz52_1 := blk_frozen BK549.out 1; have hfz52_2 := blk_frozen BK549.out 2; have hfz52_3 := blk_frozen BK549.out 3; have hfz52_4 := blk_frozen BK549.out 4; have hfz52_5 := blk_frozen BK549.out 5; obtain ⟨Ao53, co53, eo53⟩ := Kd.R_slice HO547.out; subst eo53))
  have n0_ : Aside0 (Kd.R (Kd.int .u8) 5 ((((((w49.setCell ⟨gb549, 0, none⟩ (.int .i64 t541)).setCell ⟨gb549, 1, none⟩ (.int .i64 t542)).setCell ⟨gb549, 2, none⟩ (.int .i64 t543)).setCell ⟨gb549, 3, none⟩ (.string t544)).setCell ⟨gb549, 4, none⟩ (.slice Ao53 t545.length co53)).setCell ⟨gb549, 5, none⟩ (.string t548)) w.heap.size (fun _ => True) v539 t538) := ⟨by (with_reducible repeat (first | apply Kd.R_alloc | apply Kd.R_drewN | apply Kd.R_drew)); exact Kd.R_mono (Kd.R_far (p := ⟨gb549, 5, none⟩) (Kd.R_far (p := ⟨gb549, 4, none⟩) (Kd.R_far (p := ⟨gb549, 3, none⟩) (Kd.R_far (p := ⟨gb549, 2, none⟩) (Kd.R_far (p := ⟨gb549, 1, none⟩) (Kd.R_far (p := ⟨gb549, 0, none⟩) (Kd.R_types HO540.out BK549.out (by decide)) (fun _ hk => hk.2) (.int .i64 t541)) (fun _ hk => hk.2) (.int .i64 t542)) (fun _ hk => hk.2) (.int .i64 t543)) (fun _ hk => hk.2) (.string t544)) (fun _ hk => hk.2) (.slice Ao53 t545.length co53)) (fun _ hk => hk.2) (.string t548)) (fun _ hk => trivial)⟩
  have n1_ : Aside0 (Kd.R (Kd.int .i64) 3 ((((((w49.setCell ⟨gb549, 0, none⟩ (.int .i64 t541)).setCell ⟨gb549, 1, none⟩ (.int .i64 t542)).setCell ⟨gb549, 2, none⟩ (.int .i64 t543)).setCell ⟨gb549, 3, none⟩ (.string t544)).setCell ⟨gb549, 4, none⟩ (.slice Ao53 t545.length co53)).setCell ⟨gb549, 5, none⟩ (.string t548)) w.heap.size (fun _ => True) (.slice Ao53 t545.length co53) t545) := ⟨by (with_reducible repeat (first | apply Kd.R_alloc | apply Kd.R_drewN | apply Kd.R_drew)); exact Kd.R_mono (Kd.R_far (p := ⟨gb549, 5, none⟩) (Kd.R_far (p := ⟨gb549, 4, none⟩) (Kd.R_far (p := ⟨gb549, 3, none⟩) (Kd.R_far (p := ⟨gb549, 2, none⟩) (Kd.R_far (p := ⟨gb549, 1, none⟩) (Kd.R_far (p := ⟨gb549, 0, none⟩) (Kd.R_types HO547.out BK549.out (by decide)) (fun _ hk => hk.2) (.int .i64 t541)) (fun _ hk => hk.2) (.int .i64 t542)) (fun _ hk => hk.2) (.int .i64 t543)) (fun _ hk => hk.2) (.string t544)) (fun _ hk => hk.2) (.slice Ao53 t545.length co53)) (fun _ hk => hk.2) (.string t548)) (fun _ hk => trivial)⟩
  have n2_ : Aside0 (((((((w49.setCell ⟨gb549, 0, none⟩ (.int .i64 t541)).setCell ⟨gb549, 1, none⟩ (.int .i64 t542)).setCell ⟨gb549, 2, none⟩ (.int .i64 t543)).setCell ⟨gb549, 3, none⟩ (.string t544)).setCell ⟨gb549, 4, none⟩ (.slice Ao53 t545.length co53)).setCell ⟨gb549, 5, none⟩ (.string t548)).heap[gb525]? = some (.cells #[.int .i64 a0_0, .int .i64 a0_1] 23 (0, 0))) := ⟨gI BK525.out⟩; have n3_ : Aside0 (((((((w49.setCell ⟨gb549, 0, none⟩ (.int .i64 t541)).setCell ⟨gb549, 1, none⟩ (.int .i64 t542)).setCell ⟨gb549, 2, none⟩ (.int .i64 t543)).setCell ⟨gb549, 3, none⟩ (.string t544)).setCell ⟨gb549, 4, none⟩ (.slice Ao53 t545.length co53)).setCell ⟨gb549, 5, none⟩ (.string t548)).heap[gb526]? = some (.cells #[.int .i64 a1_0, .int .i64 a1_1, .int .i64 a1_2, .string a1_3, .slice A1_4 l1_4.length c1_4, .string a1_5] 28 (0, 0))) := ⟨gI BK526.out⟩; have n4_ : Aside0 (((((((w49.setCell ⟨gb549, 0, none⟩ (.int .i64 t541)).setCell ⟨gb549, 1, none⟩ (.int .i64 t542)).setCell ⟨gb549, 2, none⟩ (.int .i64 t543)).setCell ⟨gb549, 3, none⟩ (.string t544)).setCell ⟨gb549, 4, none⟩ (.slice Ao53 t545.length co53)).setCell ⟨gb549, 5, none⟩ (.string t548)).heap[gb549]? = some (.cells #[.int .i64 t541, .int .i64 t542, .int .i64 t543, .string t544, .slice Ao53 t545.length co53, .string t548] 36 (0, 0))) := ⟨pI BK549⟩; have n5_ : Aside0 (Below w.heap.size w ((((((w49.setCell ⟨gb549, 0, none⟩ (.int .i64 t541)).setCell ⟨gb549, 1, none⟩ (.int .i64 t542)).setCell ⟨gb549, 2, none⟩ (.int .i64 t543)).setCell ⟨gb549, 3, none⟩ (.string t544)).setCell ⟨gb549, 4, none⟩ (.slice Ao53 t545.length co53)).setCell ⟨gb549, 5, none⟩ (.string t548))) := ⟨bI HB.out⟩
  (try clear HO540)
  (try clear HO547)
  (try clear BK525)
  (try clear BK526)
  (try clear BK549)
  (try clear HB)
  generalize ((((((w49.setCell ⟨gb549, 0, none⟩ (.int .i64 t541)).setCell ⟨gb549, 1, none⟩ (.int .i64 t542)).setCell ⟨gb549, 2, none⟩ (.int .i64 t543)).setCell ⟨gb549, 3, none⟩ (.string t544)).setCell ⟨gb549, 4, none⟩ (.slice Ao53 t545.length co53)).setCell ⟨gb549, 5, none⟩ (.string t548)) = w54 at n0_ n1_ n2_ n3_ n4_ n5_ ⊢
  have HO540 := n0_; have HO547 := n1_; have BK525 := n2_; have BK526 := n3_; have BK549 := n4_; have HB := n5_; clear n0_ n1_ n2_ n3_ n4_ n5_; replace HO540 := Aside0.mk (Kd.R_drew HO540.out); replace HO547 := Aside0.mk (Kd.R_drew HO547.out); replace BK525 := Aside0.mk (blk_drew BK525.out); replace BK526 := Aside0.mk (blk_drew BK526.out); replace BK549 := Aside0.mk (blk_drew BK549.out); replace HB := Aside0.mk (below_drew1 HB.out)
  refine start_ (n := 5) (S := fun w' => w'.cell? ⟨gb525, 0, none⟩ = some (.int .i64 a0_0) ∧ w'.cell? ⟨gb525, 1, none⟩ = some (.int .i64 a0_1) ∧ w'.cell? ⟨gb549, 0, none⟩ = some (.int .i64 t541) ∧ w'.cell? ⟨gb549, 1, none⟩ = some (.int .i64 t542) ∧ w'.cell? ⟨gb549, 2, none⟩ = some (.int .i64 t543) ∧ w'.cell? ⟨gb549, 3, none⟩ = some (.string t544) ∧ w'.cell? ⟨gb549, 4, none⟩ = some (.slice Ao53 t545.length co53) ∧ w'.cell? ⟨gb549, 5, none⟩ = some (.string t548)) (ds := []) #[false, false, false, false, false] (by kernel_rfl) rfl rfl ⟨bc0 BK525.out, bc1 BK525.out, bc0 BK549.out, bc1 BK549.out, bc2 BK549.out, bc3 BK549.out, bc4 BK549.out, bc5 BK549.out⟩ (fun hHeld => ?_)
  generalize w54.drew = w55 at HO540 HO547 BK525 BK526 BK549 HB hHeld ⊢
  refine take_ (i := 0) (N := some 25) (v := ?_) (a' := ?_) #[true, false, false, false, false] rfl rfl (by kernel_rfl) (fun _ _ _ h => h) (Or.inl ⟨by rfl, ?_⟩) hHeld ?_ ?_
  rotate_left
  ·
   rintro w' ⟨s0, s1, s2, s3, s4, s5, s6, s7⟩
   go_simp
   with_reducible rfl
  rotate_left
  ·
   simp only [Act.put, List.setIfInBounds_toArray, List.set_cons_zero, List.set_cons_succ, i64_w, i32_w]
   rfl
  refine take_ (i := 2) (N := some 27) (v := ?_) (a' := ?_) #[true, false, true, false, false] rfl rfl (by kernel_rfl) (fun _ _ _ h => h) (Or.inl ⟨by rfl, ?_⟩) hHeld ?_ ?_
  rotate_left
  ·
   rintro w' ⟨s0, s1, s2, s3, s4, s5, s6, s7⟩
   go_simp
   with_reducible rfl
  rotate_left
  ·
   simp only [Act.put, List.setIfInBounds_toArray, List.set_cons_zero, List.set_cons_succ, i64_w, i32_w]
   rfl
  refine one_ (i := 1) (N := some 26) #[true, true, true, false, false] rfl rfl (by kernel_rfl) (by decide) (fun K hK => ?_)
  refine gA Tryd.func6 #[.agg #[.int .i64 a0_0, .int .i64 a0_1]] ?_
  with_reducible refine (laws_toConf.calls a0_0 a0_1 t550 t551 _ A14.out).mono ?_
  rintro e w56 ⟨rfl, hb⟩
  refine ⟨_, rfl, ?_⟩
  replace HO540 := rb HO540 hb; replace HO547 := rb HO547 hb; replace BK525 := bk BK525 hb; replace BK526 := bk BK526 hb; replace BK549 := bk BK549 hb; replace HB := bs HB hb
  (try clear hb)
  (try clear hb2)
  (try clear hk)
  (try clear hi)
  refine hK.out _ _ ⟨bc0 BK525.out, bc1 BK525.out, bc0 BK549.out, bc1 BK549.out, bc2 BK549.out, bc3 BK549.out, bc4 BK549.out, bc5 BK549.out⟩ (fun hHeld => ?_)
  clear hK K
  refine nA (some 26) ?_
  refine one_ (i := 3) (N := some 28) #[true, true, true, true, false] rfl rfl (by kernel_rfl) (by decide) (fun K hK => ?_)
  refine gA Tryd.func8 #[.agg #[.int .i64 t550, .int .i64 t551], .agg #[.int .i64 t541, .int .i64 t542, .int .i64 t543, .string t544, .slice Ao53 t545.length co53, .string t548]] ?_
  with_reducible refine (impl_NoteBytes.calls k t550 t551 t541 t542 t543 t544 _ _ t545 t548 t552 _ ?side1 ?side2 A15.out).mono ?_
  (case side1 => repeat (first | exact (Kd.R_reads' HO547.out).2.2 | (with_reducible refine Kd.C_alloc ?_ _) | (with_reducible refine Kd.C_drewN ?_ _) | (with_reducible refine Kd.C_drew ?_)))
  (case side2 => exact (Kd.R_reads' HO547.out).2.1)
  rintro e w57 ⟨v553, rfl, ho0, hb⟩
  refine ⟨_, rfl, ?_⟩
  replace HO547 := rb HO547 hb; have HO554 := Aside0.mk (Kd.R_lower (Kd.R_new' ho0 (Kd.R_lt (rI HO540.out))) (below_size (bI HB.out))); replace HO540 := Aside0.mk (Kd.R_elder' (rI HO540.out) (Kd.R_base ho0) hb); replace BK525 := bk BK525 hb; replace BK526 := bk BK526 hb; replace BK549 := bk BK549 hb; replace HB := bs HB hb
  (try clear hb)
  (try clear hb2)
  (try clear hk)
  (try clear hi)
  (try clear ho0)
  refine hK.out _ _ ⟨bc0 BK525.out, bc1 BK525.out, bc0 BK549.out, bc1 BK549.out, bc2 BK549.out, bc3 BK549.out, bc4 BK549.out, bc5 BK549.out⟩ (fun hHeld => ?_)
  clear hK K
  refine nA (some 28) ?_
  refine pure_ (i := 4) (N := some 8) (v := ?_) (a' := ?_) #[true, true, true, true, true] rfl rfl (by kernel_rfl) (fun _ _ _ h => h) (Or.inl ⟨by rfl, ?_⟩) ?_ ?_
  rotate_left
  ·
   intro w'
   go_simp
   with_reducible rfl
  rotate_left
  ·
   simp only [Act.put, List.setIfInBounds_toArray, List.set_cons_zero, List.set_cons_succ, i64_w, i32_w]
   rfl
  refine done_ (by kernel_rfl) ?_
  obtain ⟨Ao58, co58, eo58⟩ := Kd.R_slice HO554.out; subst eo58; obtain ⟨Ao59, co59, eo59⟩ := Kd.R_slice HO540.out; subst eo59
  try go_wp2_with (first | ((with_reducible refine gate_callee (f := 9) rfl ?_); refine gB (some 31) Tryd.func9 #[.slice Ao58 t552.length co58, .slice Ao59 t538.length co59] ?_; (with_reducible refine (laws_eqByteS.calls k _ _ t552 _ _ t538 true _ ?side1 ?side2 ?side3 ?side4 A16.out).mono ?_); (case side1 => repeat (first | exact (Kd.R_reads' HO554.out).2.2 | (with_reducible refine Kd.C_alloc ?_ _) | (with_reducible refine Kd.C_drewN ?_ _) | (with_reducible refine Kd.C_drew ?_))); (case side2 => exact (Kd.R_reads' HO554.out).2.1); (case side3 => repeat (first | exact (Kd.R_reads' HO540.out).2.2 | (with_reducible refine Kd.C_alloc ?_ _) | (with_reducible refine Kd.C_drewN ?_ _) | (with_reducible refine Kd.C_drew ?_))); (case side4 => exact (Kd.R_reads' HO540.out).2.1); rintro e w' ⟨rfl, ⟨nd, rfl⟩⟩; refine ⟨_, rfl, ?_⟩))
  (try (rw [drewN_self w57]; generalize hq_ : World.drewN w57 _ = w57; have n0_ : Aside0 (Kd.R (Kd.int .u8) 5 w57 w.heap.size (fun k_ => some k_ ≠ (.slice Ao58 t552.length co58 : Value).ownBlock) (.slice Ao59 t538.length co59) t538) := ⟨by rw [← hq_]; exact (rI (Kd.R_mono HO540.out (fun _ hk => hk.2)))⟩; have n1_ : Aside0 (Kd.R (Kd.int .i64) 3 w57 w.heap.size (fun _ => True) (.slice Ao53 t545.length co53) t545) := ⟨by rw [← hq_]; exact (rI HO547.out)⟩; have n2_ : Aside0 (Kd.R (Kd.int .u8) 5 w57 w.heap.size (fun k_ => some k_ ≠ (.slice Ao59 t538.length co59 : Value).ownBlock) (.slice Ao58 t552.length co58) t552) := ⟨by rw [← hq_]; exact (rI (Kd.R_mono HO554.out (fun _ hk => hk.2)))⟩; have n3_ : Aside0 (w57.heap[gb525]? = some (.cells #[.int .i64 a0_0, .int .i64 a0_1] 23 (0, 0))) := ⟨by rw [← hq_]; exact (kI BK525.out)⟩; have n4_ : Aside0 (w57.heap[gb526]? = some (.cells #[.int .i64 a1_0, .int .i64 a1_1, .int .i64 a1_2, .string a1_3, .slice A1_4 l1_4.length c1_4, .string a1_5] 28 (0, 0))) := ⟨by rw [← hq_]; exact (kI BK526.out)⟩; have n5_ : Aside0 (w57.heap[gb549]? = some (.cells #[.int .i64 t541, .int .i64 t542, .int .i64 t543, .string t544, .slice Ao53 t545.length co53, .string t548] 36 (0, 0))) := ⟨by rw [← hq_]; exact (kI BK549.out)⟩; have n6_ : Aside0 (Below w.heap.size w w57) := ⟨y0_13⟩; clear HO540 HO547 HO554 BK525 BK526 BK549 HB hq_; have HO540 := n0_; have HO547 := n1_; have HO554 := n2_; have BK525 := n3_; have BK526 := n4_; have BK549 := n5_; have HB := n6_; clear n0_ n1_ n2_ n3_ n4_ n5_ n6_))
  replace HO540 := Aside0.mk (Kd.R_drew HO540.out); replace HO547 := Aside0.mk (Kd.R_drew HO547.out); replace HO554 := Aside0.mk (Kd.R_drew HO554.out); replace BK525 := Aside0.mk (blk_drew BK525.out); replace BK526 := Aside0.mk (blk_drew BK526.out); replace BK549 := Aside0.mk (blk_drew BK549.out); replace HB := Aside0.mk (below_drew1 HB.out)
  refine start_ (n := 5) (S := fun w' => w'.cell? ⟨gb549, 0, none⟩ = some (.int .i64 t541) ∧ w'.cell? ⟨gb549, 1, none⟩ = some (.int .i64 t542) ∧ w'.cell? ⟨gb549, 2, none⟩ = some (.int .i64 t543) ∧ w'.cell? ⟨gb549, 3, none⟩ = some (.string t544) ∧ w'.cell? ⟨gb549, 4, none⟩ = some (.slice Ao53 t545.length co53) ∧ w'.cell? ⟨gb549, 5, none⟩ = some (.string t548) ∧ w'.cell? ⟨gb526, 0, none⟩ = some (.int .i64 a1_0) ∧ w'.cell? ⟨gb526, 1, none⟩ = some (.int .i64 a1_1) ∧ w'.cell? ⟨gb526, 2, none⟩ = some (.int .i64 a1_2) ∧ w'.cell? ⟨gb526, 3, none⟩ = some (.string a1_3) ∧ w'.cell? ⟨gb526, 4, none⟩ = some (.slice A1_4 l1_4.length c1_4) ∧ w'.cell? ⟨gb526, 5, none⟩ = some (.string a1_5)) (ds := []) #[false, false, false, false, false] (by kernel_rfl) rfl rfl ⟨bc0 BK549.out, bc1 BK549.out, bc2 BK549.out, bc3 BK549.out, bc4 BK549.out, bc5 BK549.out, bc0 BK526.out, bc1 BK526.out, bc2 BK526.out, bc3 BK526.out, bc4 BK526.out, bc5 BK526.out⟩ (fun hHeld => ?_)
  generalize w57.drew = w60 at HO540 HO547 HO554 BK525 BK526 BK549 HB hHeld ⊢
  refine take_ (i := 0) (N := some 33) (v := ?_) (a' := ?_) #[true, false, false, false, false] rfl rfl (by kernel_rfl) (fun _ _ _ h => h) (Or.inl ⟨by rfl, ?_⟩) hHeld ?_ ?_
  rotate_left
  ·
   rintro w' ⟨s0, s1, s2, s3, s4, s5, s6, s7, s8, s9, s10, s11⟩
   go_simp
   with_reducible rfl
  rotate_left
  ·
   simp only [Act.put, List.setIfInBounds_toArray, List.set_cons_zero, List.set_cons_succ, i64_w, i32_w]
   rfl
  refine take_ (i := 1) (N := some 34) (v := ?_) (a' := ?_) #[true, true, false, false, false] rfl rfl (by kernel_rfl) (fun _ _ _ h => h) (Or.inl ⟨by rfl, ?_⟩) hHeld ?_ ?_
  rotate_left
  ·
   rintro w' ⟨s0, s1, s2, s3, s4, s5, s6, s7, s8, s9, s10, s11⟩
   go_simp
   with_reducible rfl
  rotate_left
  ·
   simp only [Act.put, List.setIfInBounds_toArray, List.set_cons_zero, List.set_cons_succ, i64_w, i32_w]
   rfl
  refine one_ (i := 2) (N := some 35) #[true, true, true, false, false] rfl rfl (by kernel_rfl) (by decide) (fun K hK => ?_)
  refine gA Tryd.func7 #[.agg #[.int .i64 a1_0, .int .i64 a1_1, .int .i64 a1_2, .string a1_3, .slice A1_4 l1_4.length c1_4, .string a1_5]] ?_
  with_reducible refine (laws_toSafe.calls k a1_0 a1_1 a1_2 a1_3 _ _ l1_4 a1_5 t556 t557 t558 t559 t560 t563 _ ?side1 ?side2 A18.out).mono ?_
  (case side1 => exact ch HR1_4 HB)
  (case side2 => exact HC1_4.out)
  rintro e w61 ⟨v561, rfl, ho0, hb⟩
  refine ⟨_, rfl, ?_⟩
  replace HO540 := rb HO540 hb; replace HO554 := rb HO554 hb; have HO562 := Aside0.mk (Kd.R_lower (Kd.R_new' ho0 (Kd.R_lt (rI HO547.out))) (below_size (bI HB.out))); replace HO547 := Aside0.mk (Kd.R_elder' (rI HO547.out) (Kd.R_base ho0) hb); replace BK525 := bk BK525 hb; replace BK526 := bk BK526 hb; replace BK549 := bk BK549 hb; replace HB := bs HB hb
  (try clear hb)
  (try clear hb2)
  (try clear hk)
  (try clear hi)
  (try clear ho0)
  obtain ⟨Ao62, co62, eo62⟩ := Kd.R_slice HO562.out
  (first | subst eo62 | (injection eo62 with f1_ f2_ f3_; have f4_ := f1_.symm; have f5_ := f3_.symm; clear f1_ f2_ f3_; subst f4_; subst f5_))
  refine hK.out _ _ ⟨bc0 BK549.out, bc1 BK549.out, bc2 BK549.out, bc3 BK549.out, bc4 BK549.out, bc5 BK549.out, bc0 BK526.out, bc1 BK526.out, bc2 BK526.out, bc3 BK526.out, bc4 BK526.out, bc5 BK526.out⟩ (fun hHeld => ?_)
  clear hK K
  refine nA (some 35) ?_
  refine one_ (i := 3) (N := some 36) #[true, true, true, true, false] rfl rfl (by kernel_rfl) (by decide) (fun K hK => ?_)
  refine gA Tryd.func10 #[.agg #[.int .i64 t541, .int .i64 t542, .int .i64 t543, .string t544, .slice Ao53 t545.length co53, .string t548], .agg #[.int .i64 t556, .int .i64 t557, .int .i64 t558, .string t559, .slice Ao62 t560.length co62, .string t563]] ?_
  with_reducible refine (laws_eqSafe.calls k t541 t542 t543 t544 _ _ t545 t548 t556 t557 t558 t559 _ _ t560 t563 true _ ?side1 ?side2 ?side3 ?side4 A19.out).mono ?_
  (case side1 => repeat (first | exact (Kd.R_reads' HO547.out).2.2 | (with_reducible refine Kd.C_alloc ?_ _) | (with_reducible refine Kd.C_drewN ?_ _) | (with_reducible refine Kd.C_drew ?_)))
  (case side2 => exact (Kd.R_reads' HO547.out).2.1)
  (case side3 => repeat (first | exact (Kd.R_reads' HO562.out).2.2 | (with_reducible refine Kd.C_alloc ?_ _) | (with_reducible refine Kd.C_drewN ?_ _) | (with_reducible refine Kd.C_drew ?_)))
  (case side4 => exact (Kd.R_reads' HO562.out).2.1)
  rintro e w63 ⟨rfl, hb⟩
  refine ⟨_, rfl, ?_⟩
  replace HO540 := rb HO540 hb; replace HO547 := rb HO547 hb; replace HO554 := rb HO554 hb; replace HO562 := rb HO562 hb; replace BK525 := bk BK525 hb; replace BK526 := bk BK526 hb; replace BK549 := bk BK549 hb; replace HB := bs HB hb
  (try clear hb)
  (try clear hb2)
  (try clear hk)
  (try clear hi)
  refine hK.out _ _ ⟨bc0 BK549.out, bc1 BK549.out, bc2 BK549.out, bc3 BK549.out, bc4 BK549.out, bc5 BK549.out, bc0 BK526.out, bc1 BK526.out, bc2 BK526.out, bc3 BK526.out, bc4 BK526.out, bc5 BK526.out⟩ (fun hHeld => ?_)
  clear hK K
  refine nA (some 36) ?_
  refine pure_ (i := 4) (N := some 37) (v := ?_) (a' := ?_) #[true, true, true, true, true] rfl rfl (by kernel_rfl) (fun _ _ _ h => h) (Or.inl ⟨by rfl, ?_⟩) ?_ ?_
  rotate_left
  ·
   intro w'
   go_simp
   with_reducible rfl
  rotate_left
  ·
   simp only [Act.put, List.setIfInBounds_toArray, List.set_cons_zero, List.set_cons_succ, i64_w, i32_w]
   rfl
  refine done_ (by kernel_rfl) ?_
  have hcz64_0 := bc0 BK549.out; have hcz64_1 := bc1 BK549.out; have hcz64_2 := bc2 BK549.out; have hcz64_3 := bc3 BK549.out; have hcz64_4 := bc4 BK549.out; have hcz64_5 := bc5 BK549.out; have hfz64_0 := blk_frozen BK549.out 0; have hfz64_1 := blk_frozen BK549.out 1; have hfz64_2 := blk_frozen BK549.out 2; have hfz64_3 := blk_frozen BK549.out 3; have hfz64_4 := blk_frozen BK549.out 4; have hfz64_5 := blk_frozen BK549.out 5; clear HO562
  have n_ := Aside0.mk (Kd.R_mono (ok' := (fun k_ => some k_ ≠ (.slice Ao58 t552.length co58 : Value).ownBlock)) HO540.out (fun k_ hk => by first | exact hk.2 | exact trivial | exact hk))
  clear HO540; have HO540 := n_; clear n_
  have n_ := Aside0.mk (Kd.R_mono (ok' := (fun _ => True)) HO547.out (fun k_ hk => trivial))
  clear HO547; have HO547 := n_; clear n_
  have n_ := Aside0.mk (Kd.R_mono (ok' := (fun k_ => some k_ ≠ (.slice Ao59 t538.length co59 : Value).ownBlock)) HO554.out (fun k_ hk => by first | exact hk.2 | exact trivial | exact hk))
  clear HO554; have HO554 := n_; clear n_
  try go_wp2_with (first | ((with_reducible refine gate_callee (f := 11) rfl ?_); refine gB (some 40) Tryd.func11 #[.agg #[.int .i64 t541, .int .i64 t542, .int .i64 t543, .string t544, .slice Ao53 t545.length co53, .string t548], .int .i64 1] ?_; (with_reducible refine (laws_markSafe.calls k t541 t542 t543 t544 (fun k_ => some k_ = (.slice Ao53 t545.length co53 : Value).ownBlock) (.slice Ao53 t545.length co53) t545 t548 1 t565 t566 w _ ?side1 ?side2 A21.out).mono ?_); (case side1 => exact bI HB.out); (case side2 => exact Kd.R_tight rfl HO547.out); rintro e w65 ⟨rfl, hy0, hb, hkp⟩; refine ⟨_, rfl, ?_⟩; replace BK525 := Aside0.mk (blk_kept (kI BK525.out) hkp (fun hs_ => (fun e_ => (Kd.R_ne HO547.out BK525.out (by decide)) e_) hs_)); replace BK526 := Aside0.mk (blk_kept (kI BK526.out) hkp (fun hs_ => (fun e_ => (Kd.R_ne HO547.out BK526.out (by decide)) e_) hs_)); replace HO540 := Aside0.mk (Kd.R_mono (ok' := fun k_ => some k_ ≠ (.slice Ao58 t552.length co58 : Value).ownBlock) (Kd.R_keptB ((Kd.R_apart' HO540.out (Kd.R_typed HO547.out) (by decide))) hkp (fun k_ hk_ hs_ => (hk_.2) hs_)) (fun k_ hk_ => hk_.1.1)); replace BK549 := Aside0.mk (blk_kept (kI BK549.out) hkp (fun hs_ => (fun e_ => (Kd.R_ne HO547.out BK549.out (by decide)) e_) hs_)); replace HO554 := Aside0.mk (Kd.R_mono (ok' := fun k_ => some k_ ≠ (.slice Ao59 t538.length co59 : Value).ownBlock) (Kd.R_keptB ((Kd.R_apart' HO554.out (Kd.R_typed HO547.out) (by decide))) hkp (fun k_ hk_ hs_ => (hk_.2) hs_)) (fun k_ hk_ => hk_.1.1)); replace HO547 := Aside0.mk (Kd.R_reok rfl hy0 (fun k_ e_ => HO547.out.1 k_ e_)); replace HB := Aside0.mk (hb); (try clear hb); (try clear hkp); (try clear hy0); clear HO547) | (go_at_call 9; (with_reducible refine (laws_eqByteS.calls k _ _ t552 _ _ t538 true _ ?side1 ?side2 ?side3 ?side4 A23.out).mono ?_); (case side1 => repeat (first | exact (Kd.R_reads' HO554.out).2.2 | (with_reducible refine Kd.C_alloc ?_ _) | (with_reducible refine Kd.C_drewN ?_ _) | (with_reducible refine Kd.C_drew ?_))); (case side2 => exact (Kd.R_reads' HO554.out).2.1); (case side3 => repeat (first | exact (Kd.R_reads' HO540.out).2.2 | (with_reducible refine Kd.C_alloc ?_ _) | (with_reducible refine Kd.C_drewN ?_ _) | (with_reducible refine Kd.C_drew ?_))); (case side4 => exact (Kd.R_reads' HO540.out).2.1); rintro e w' ⟨rfl, ⟨nd, rfl⟩⟩) | ((with_reducible refine gate_callee (f := 12) rfl ?_); refine gB (some 51) Tryd.func12 #[.slice Ao58 t552.length co58, .int .i64 1] ?_; (with_reducible refine (laws_markByteS.calls k (fun k_ => some k_ = (.slice Ao58 t552.length co58 : Value).ownBlock) (.slice Ao58 t552.length co58) t552 1 t568 t569 w _ ?side1 ?side2 A25.out).mono ?_); (case side1 => exact bI HB.out); (case side2 => exact Kd.R_tight rfl HO554.out); rintro e w66 ⟨rfl, hy0, hb, hkp⟩; refine ⟨_, rfl, ?_⟩; replace BK525 := Aside0.mk (blk_kept (kI BK525.out) hkp (fun hs_ => (fun e_ => (Kd.R_ne HO554.out BK525.out (by decide)) e_) hs_)); replace BK526 := Aside0.mk (blk_kept (kI BK526.out) hkp (fun hs_ => (fun e_ => (Kd.R_ne HO554.out BK526.out (by decide)) e_) hs_)); replace HO540 := Aside0.mk (Kd.R_mono (ok' := fun k_ => some k_ ≠ (.slice Ao58 t552.length co58 : Value).ownBlock) (Kd.R_keptB (HO540.out) hkp (fun k_ hk_ hs_ => (hk_) hs_)) (fun k_ hk_ => hk_.1)); replace BK549 := Aside0.mk (blk_kept (kI BK549.out) hkp (fun hs_ => (fun e_ => (Kd.R_ne HO554.out BK549.out (by decide)) e_) hs_)); replace HO554 := Aside0.mk (Kd.R_reok rfl hy0 (fun k_ e_ => HO554.out.1 k_ e_)); replace HB := Aside0.mk (hb); (try clear hb); (try clear hkp); (try clear hy0)) | ((with_reducible refine gate_callee (f := 13) rfl ?_); refine goesL_ (some 54) rfl rfl Tryd.func13 (by kernel_rfl) rfl #[.slice Ao58 t569.length co58, .int .i64 1] rfl (by (try simp only [List.map_toArray, List.map_cons, List.map_nil]); first | done | (rw [show t569.length = t552.length from (Kd.R_reads' HO554.out).1.symm] <;> rfl) | rfl | (simp only [List.length_drop, List.length_take]; rfl)) ?_; (with_reducible refine (laws_heldByteS.calls k _ _ t569 1 t570 _ ?side1 ?side2 A26.out).mono ?_); (case side1 => repeat (first | exact (Kd.R_reads' HO554.out).2.2 | (with_reducible refine Kd.C_alloc ?_ _) | (with_reducible refine Kd.C_drewN ?_ _) | (with_reducible refine Kd.C_drew ?_))); (case side2 => rw [show t569.length = t552.length from (Kd.R_reads' HO554.out).1.symm]; exact (Kd.R_reads' HO554.out).2.1); rintro e w' ⟨rfl, ⟨nd, rfl⟩⟩; refine ⟨_, rfl, ?_⟩))
  (try (rw [drewN_self w66]; generalize hq_ : World.drewN w66 _ = w66; have n0_ : Aside0 (Kd.R (Kd.int .u8) 5 w66 w.heap.size (fun k_ => some k_ ≠ (.slice Ao58 t552.length co58 : Value).ownBlock) (.slice Ao59 t538.length co59) t538) := ⟨by rw [← hq_]; exact (rI HO540.out)⟩; have n1_ : Aside0 (Kd.R (Kd.int .u8) 5 w66 w.heap.size (fun k_ => some k_ ≠ (.slice Ao59 t538.length co59 : Value).ownBlock) (.slice Ao58 t552.length co58) t569) := ⟨by rw [← hq_]; exact (rI HO554.out)⟩; have n2_ : Aside0 (w66.heap[gb525]? = some (.cells #[.int .i64 a0_0, .int .i64 a0_1] 23 (0, 0))) := ⟨by rw [← hq_]; exact (kI BK525.out)⟩; have n3_ : Aside0 (w66.heap[gb526]? = some (.cells #[.int .i64 a1_0, .int .i64 a1_1, .int .i64 a1_2, .string a1_3, .slice A1_4 l1_4.length c1_4, .string a1_5] 28 (0, 0))) := ⟨by rw [← hq_]; exact (kI BK526.out)⟩; have n4_ : Aside0 (w66.heap[gb549]? = some (.cells #[.int .i64 t541, .int .i64 t542, .int .i64 t543, .string t544, .slice Ao53 t545.length co53, .string t548] 36 (0, 0))) := ⟨by rw [← hq_]; exact (kI BK549.out)⟩; have n5_ : Aside0 (Below w.heap.size w w66) := ⟨y0_13⟩; clear HO540 HO554 BK525 BK526 BK549 HB hq_; have HO540 := n0_; have HO554 := n1_; have BK525 := n2_; have BK526 := n3_; have BK549 := n4_; have HB := n5_; clear n0_ n1_ n2_ n3_ n4_ n5_))
  replace HO540 := Aside0.mk (Kd.R_drew HO540.out); replace HO554 := Aside0.mk (Kd.R_drew HO554.out); replace BK525 := Aside0.mk (blk_drew BK525.out); replace BK526 := Aside0.mk (blk_drew BK526.out); replace BK549 := Aside0.mk (blk_drew BK549.out); replace HB := Aside0.mk (below_drew1 HB.out)
  refine start_ (n := 6) (S := fun w' => w'.cell? ⟨gb525, 0, none⟩ = some (.int .i64 a0_0) ∧ w'.cell? ⟨gb525, 1, none⟩ = some (.int .i64 a0_1) ∧ w'.cell? ⟨gb526, 0, none⟩ = some (.int .i64 a1_0) ∧ w'.cell? ⟨gb526, 1, none⟩ = some (.int .i64 a1_1) ∧ w'.cell? ⟨gb526, 2, none⟩ = some (.int .i64 a1_2) ∧ w'.cell? ⟨gb526, 3, none⟩ = some (.string a1_3) ∧ w'.cell? ⟨gb526, 4, none⟩ = some (.slice A1_4 l1_4.length c1_4) ∧ w'.cell? ⟨gb526, 5, none⟩ = some (.string a1_5)) (ds := []) #[false, false, false, false, false, false] (by kernel_rfl) rfl rfl ⟨bc0 BK525.out, bc1 BK525.out, bc0 BK526.out, bc1 BK526.out, bc2 BK526.out, bc3 BK526.out, bc4 BK526.out, bc5 BK526.out⟩ (fun hHeld => ?_)
  generalize w66.drew = w67 at HO540 HO554 BK525 BK526 BK549 HB hHeld ⊢
  refine take_ (i := 0) (N := some 60) (v := ?_) (a' := ?_) #[true, false, false, false, false, false] rfl rfl (by kernel_rfl) (fun _ _ _ h => h) (Or.inl ⟨by rfl, ?_⟩) hHeld ?_ ?_
  rotate_left
  ·
   rintro w' ⟨s0, s1, s2, s3, s4, s5, s6, s7⟩
   go_simp
   with_reducible rfl
  rotate_left
  ·
   simp only [Act.put, List.setIfInBounds_toArray, List.set_cons_zero, List.set_cons_succ, i64_w, i32_w]
   rfl
  refine take_ (i := 2) (N := some 62) (v := ?_) (a' := ?_) #[true, false, true, false, false, false] rfl rfl (by kernel_rfl) (fun _ _ _ h => h) (Or.inl ⟨by rfl, ?_⟩) hHeld ?_ ?_
  rotate_left
  ·
   rintro w' ⟨s0, s1, s2, s3, s4, s5, s6, s7⟩
   go_simp
   with_reducible rfl
  rotate_left
  ·
   simp only [Act.put, List.setIfInBounds_toArray, List.set_cons_zero, List.set_cons_succ, i64_w, i32_w]
   rfl
  refine one_ (i := 1) (N := some 61) #[true, true, true, false, false, false] rfl rfl (by kernel_rfl) (by decide) (fun K hK => ?_)
  refine gA Tryd.func6 #[.agg #[.int .i64 a0_0, .int .i64 a0_1]] ?_
  with_reducible refine (laws_toConf.calls a0_0 a0_1 t571 t572 _ A29.out).mono ?_
  rintro e w68 ⟨rfl, hb⟩
  refine ⟨_, rfl, ?_⟩
  replace HO540 := rb HO540 hb; replace HO554 := rb HO554 hb; replace BK525 := bk BK525 hb; replace BK526 := bk BK526 hb; replace BK549 := bk BK549 hb; replace HB := bs HB hb
  (try clear hb)
  (try clear hb2)
  (try clear hk)
  (try clear hi)
  refine hK.out _ _ ⟨bc0 BK525.out, bc1 BK525.out, bc0 BK526.out, bc1 BK526.out, bc2 BK526.out, bc3 BK526.out, bc4 BK526.out, bc5 BK526.out⟩ (fun hHeld => ?_)
  clear hK K
  refine nA (some 61) ?_
  refine one_ (i := 3) (N := some 63) #[true, true, true, true, false, false] rfl rfl (by kernel_rfl) (by decide) (fun K hK => ?_)
  refine gA Tryd.func7 #[.agg #[.int .i64 a1_0, .int .i64 a1_1, .int .i64 a1_2, .string a1_3, .slice A1_4 l1_4.length c1_4, .string a1_5]] ?_
  with_reducible refine (laws_toSafe.calls k a1_0 a1_1 a1_2 a1_3 _ _ l1_4 a1_5 t573 t574 t575 t576 t577 t580 _ ?side1 ?side2 A30.out).mono ?_
  (case side1 => exact ch HR1_4 HB)
  (case side2 => exact HC1_4.out)
  rintro e w69 ⟨v578, rfl, ho0, hb⟩
  refine ⟨_, rfl, ?_⟩
  replace HO540 := rb HO540 hb; replace HO554 := rb HO554 hb; have HO579 := Aside0.mk (Kd.R_lower ho0 (below_size (bI HB.out))); replace BK525 := bk BK525 hb; replace BK526 := bk BK526 hb; replace BK549 := bk BK549 hb; replace HB := bs HB hb
  (try clear hb)
  (try clear hb2)
  (try clear hk)
  (try clear hi)
  (try clear ho0)
  obtain ⟨Ao70, co70, eo70⟩ := Kd.R_slice HO579.out
  (first | subst eo70 | (injection eo70 with f1_ f2_ f3_; have f4_ := f1_.symm; have f5_ := f3_.symm; clear f1_ f2_ f3_; subst f4_; subst f5_))
  refine hK.out _ _ ⟨bc0 BK525.out, bc1 BK525.out, bc0 BK526.out, bc1 BK526.out, bc2 BK526.out, bc3 BK526.out, bc4 BK526.out, bc5 BK526.out⟩ (fun hHeld => ?_)
  clear hK K
  refine nA (some 63) ?_
  refine one_ (i := 4) (N := some 64) #[true, true, true, true, true, false] rfl rfl (by kernel_rfl) (by decide) (fun K hK => ?_)
  refine gA Tryd.func8 #[.agg #[.int .i64 t571, .int .i64 t572], .agg #[.int .i64 t573, .int .i64 t574, .int .i64 t575, .string t576, .slice Ao70 t577.length co70, .string t580]] ?_
  with_reducible refine (impl_NoteBytes.calls k t571 t572 t573 t574 t575 t576 _ _ t577 t580 t581 _ ?side1 ?side2 A31.out).mono ?_
  (case side1 => repeat (first | exact (Kd.R_reads' HO579.out).2.2 | (with_reducible refine Kd.C_alloc ?_ _) | (with_reducible refine Kd.C_drewN ?_ _) | (with_reducible refine Kd.C_drew ?_)))
  (case side2 => exact (Kd.R_reads' HO579.out).2.1)
  rintro e w71 ⟨v582, rfl, ho0, hb⟩
  refine ⟨_, rfl, ?_⟩
  replace HO579 := rb HO579 hb; have HO583 := Aside0.mk (Kd.R_lower (Kd.R_new' (Kd.R_new' ho0 (Kd.R_lt (rI HO540.out))) (Kd.R_lt (rI HO554.out))) (below_size (bI HB.out))); replace HO540 := Aside0.mk (Kd.R_elder' (rI HO540.out) (Kd.R_base ho0) hb); replace HO554 := Aside0.mk (Kd.R_elder' (rI HO554.out) (Kd.R_base ho0) hb); replace BK525 := bk BK525 hb; replace BK526 := bk BK526 hb; replace BK549 := bk BK549 hb; replace HB := bs HB hb
  (try clear hb)
  (try clear hb2)
  (try clear hk)
  (try clear hi)
  (try clear ho0)
  refine hK.out _ _ ⟨bc0 BK525.out, bc1 BK525.out, bc0 BK526.out, bc1 BK526.out, bc2 BK526.out, bc3 BK526.out, bc4 BK526.out, bc5 BK526.out⟩ (fun hHeld => ?_)
  clear hK K
  refine nA (some 64) ?_
  refine pure_ (i := 5) (N := some 12) (v := ?_) (a' := ?_) #[true, true, true, true, true, true] rfl rfl (by kernel_rfl) (fun _ _ _ h => h) (Or.inl ⟨by rfl, ?_⟩) ?_ ?_
  rotate_left
  ·
   intro w'
   go_simp
   with_reducible rfl
  rotate_left
  ·
   simp only [Act.put, List.setIfInBounds_toArray, List.set_cons_zero, List.set_cons_succ, i64_w, i32_w]
   rfl
  refine done_ (by kernel_rfl) ?_
  clear HO579
  have n_ := Aside0.mk (Kd.R_mono (ok' := (fun k_ => some k_ ≠ (.slice Ao59 t538.length co59 : Value).ownBlock ∧ some k_ ≠ (.slice Ao58 t552.length co58 : Value).ownBlock)) HO583.out (fun k_ hk => ⟨hk.1.2, hk.2⟩))
  clear HO583; have HO583 := n_; clear n_; obtain ⟨Ao72, co72, eo72⟩ := Kd.R_slice HO583.out; subst eo72
  try go_wp2_with (first | ((with_reducible refine gate_callee (f := 9) rfl ?_); refine gB (some 67) Tryd.func9 #[.slice Ao72 t581.length co72, .slice Ao59 t538.length co59] ?_; (with_reducible refine (laws_eqByteS.calls k _ _ t581 _ _ t538 true _ ?side1 ?side2 ?side3 ?side4 A32.out).mono ?_); (case side1 => repeat (first | exact (Kd.R_reads' HO583.out).2.2 | (with_reducible refine Kd.C_alloc ?_ _) | (with_reducible refine Kd.C_drewN ?_ _) | (with_reducible refine Kd.C_drew ?_))); (case side2 => exact (Kd.R_reads' HO583.out).2.1); (case side3 => repeat (first | exact (Kd.R_reads' HO540.out).2.2 | (with_reducible refine Kd.C_alloc ?_ _) | (with_reducible refine Kd.C_drewN ?_ _) | (with_reducible refine Kd.C_drew ?_))); (case side4 => exact (Kd.R_reads' HO540.out).2.1); rintro e w' ⟨rfl, ⟨nd, rfl⟩⟩; refine ⟨_, rfl, ?_⟩; clear HO540; clear HO583; have n_ := Aside0.mk (Kd.R_mono (ok' := (fun _ => True)) HO554.out (fun k_ hk => trivial)); clear HO554; have HO554 := n_; clear n_) | ((with_reducible refine gate_callee (f := 13) rfl ?_); refine goesL_ (some 71) rfl rfl Tryd.func13 (by kernel_rfl) rfl #[.slice Ao58 t569.length co58, .int .i64 1] rfl (by (try simp only [List.map_toArray, List.map_cons, List.map_nil]); first | done | (rw [show t569.length = t552.length from (Kd.R_reads' HO554.out).1.symm] <;> rfl) | rfl | (simp only [List.length_drop, List.length_take]; rfl)) ?_; (with_reducible refine (laws_heldByteS.calls k _ _ t569 1 t585 _ ?side1 ?side2 A34.out).mono ?_); (case side1 => repeat (first | exact (Kd.R_reads' HO554.out).2.2 | (with_reducible refine Kd.C_alloc ?_ _) | (with_reducible refine Kd.C_drewN ?_ _) | (with_reducible refine Kd.C_drew ?_))); (case side2 => rw [show t569.length = t552.length from (Kd.R_reads' HO554.out).1.symm]; exact (Kd.R_reads' HO554.out).2.1); rintro e w' ⟨rfl, ⟨nd, rfl⟩⟩; refine ⟨_, rfl, ?_⟩))
  go_ret
  exact ⟨y0_7, bI HB.out⟩
 replace c17 := Bool.eq_false_iff.mpr c17; subst c17
 rw [if_neg (show ¬ (false = true) by decide)] at H
 exact absurd (hrt.out.symm.trans (Option.some.inj H).symm) (by decide)

end Go.Proofs.YtemjmefacifdeaaDoor.PFnExactNoteBytes
